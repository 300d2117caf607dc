/- YtkdlklpffdlglaaOAlone10: part 12 of the proof (the texts behind it, in order). -/
import Derived.Test.YtkdlklpffdlglaaR11
set_option maxHeartbeats 4000000
set_option maxRecDepth 100000
set_option linter.all false
namespace Go
theorem zxp {p : Prop} (h : p := by
  intro cl cs' h1 _;refine zq4b (J:=(λ(_:Unit)=>J0 Try.prog Fin n)) (s:=()) (jU0 hFin n) (jC0 hFin n) zqp Try.func38 rfl zyk (R:=λv w'=>v=.int .i64 (heldV op.c)/\Beyond w w') (λv w' τ d h=>⟨h.1,h.2.trans (Beyond.re _ _ _)⟩) (λτ d=>?_) ?_
  . refine Calls.mono (zq5s op.c (-1) 2147483647 (re w τ d)) ?_;rintro e w' ⟨rfl,rfl⟩;exact⟨_,rfl,rfl,Beyond.re _ _ _⟩
  . rintro v w' ⟨rfl,hb⟩;exact h1 () _ w' ⟨_,rfl,h.read hb hlen (i:=4) zyd zyd rfl⟩) : p := h
theorem zx19 {p : Prop} (h : p := by intro w4 HM4;obtain⟨u_,hu_⟩:∃c,cqL (cqF (cqR (cqF (cqR (cqF (cqR ccB))))))=c:=⟨_,rfl⟩;have eu_:=hu_;rw[hu_];simp only[ccB,ccT,headC,tailN,cqL,cqR,cqB,cqO,cqT,cqF,Try.f14,al_od]at eu_;subst eu_;clear hu_;go_wp2;exact⟨rfl,rfl,HM4.out⟩) : p := h
theorem zx1a {p : Prop} (h : p := by intro w4 HM4;obtain⟨u_,hu_⟩:∃c,cqL (cqF (cqR (cqF (cqR ccB))))=c:=⟨_,rfl⟩;have eu_:=hu_;rw[hu_];simp only[ccB,ccT,headC,tailN,cqL,cqR,cqB,cqO,cqT,cqF,Try.f14,al_od]at eu_;subst eu_;clear hu_;go_wp2;exact⟨rfl,rfl,HM4.out⟩) : p := h
theorem zx1e {p : Prop} (h : p := by intro w4 HM4;obtain⟨u_,hu_⟩:∃c,cqL (cqF (cqR ccB))=c:=⟨_,rfl⟩;have eu_:=hu_;rw[hu_];simp only[ccB,ccT,headC,tailN,cqL,cqR,cqB,cqO,cqT,cqF,Try.f14,al_od]at eu_;subst eu_;clear hu_;go_wp2;exact⟨rfl,rfl,HM4.out⟩) : p := h
theorem zx1f {p : Prop} (h : p := by intro w4 HM4;obtain⟨u_,hu_⟩:∃c,cqL (ccB)=c:=⟨_,rfl⟩;have eu_:=hu_;rw[hu_];simp only[ccB,ccT,headC,tailN,cqL,cqR,cqB,cqO,cqT,cqF,Try.f14,al_od]at eu_;subst eu_;clear hu_;go_wp2;exact⟨rfl,rfl,HM4.out⟩) : p := h
theorem zx1g {p : Prop} (h : p := by simp only[execOp,Act.eval,al_gd,e39,e40,e43,e44,al_od,List.map_toArray,List.map_cons,List.map_nil];simp[go_sem,execOp,Act.eval,resolve,Deferred.ofValue,invoke,callFunc,Try.func27,Try.f27,e39,e40,e43,e44]) : p := h
theorem zx1i {p : Prop} (h : p := by simp only[execOp,Act.eval,al_gd,e52,e53,e56,al_od,List.map_toArray,List.map_cons,List.map_nil];simp[go_sem,execOp,Act.eval,resolve,Deferred.ofValue,invoke,callFunc,Try.func27,Try.f27,e52,e53,e56]) : p := h
theorem zx1q {p : Prop} (h : p := by simp only[execOp,Act.eval,al_gd,e42,al_od,List.map_toArray,List.map_cons,List.map_nil];simp[go_sem,execOp,Act.eval,resolve,Deferred.ofValue,invoke,callFunc,Try.func38,Try.f38,e42]) : p := h
theorem zx1r {p : Prop} (h : p := by simp only[execOp,Act.eval,al_gd,e55,al_od,List.map_toArray,List.map_cons,List.map_nil];simp[go_sem,execOp,Act.eval,resolve,Deferred.ofValue,invoke,callFunc,Try.func38,Try.f38,e55]) : p := h
theorem zx36 {p : Prop} (h : p := by first|rfl |(congr 1;unfold wrap64;omega)) : p := h
end Go
set_option maxHeartbeats 8000000
namespace Go.Proofs
open Go Go.Conc Go.RowKit Go.Car
open Go.ConcN (upd upd_ne upd_same)
def heldV(c:Int):Int:=if c< -1 then -1 else if c>2147483647 then 2147483647 else c
structure DM(W:World)(ob kb H:Nat)(op:OpX)(g g':Nums)(c c':Nat)(x:Int)(N mk st:Nat)(spec:List Value)(L:Nat->Bool)(vals:List Value)(w:World):Prop where
 m:CM W ob kb H op (if L mk=true then g' else g) (if L mk=true then c' else c) false (if L st=true then x else 0) w
 v:∀i,i<N->i≠st->L i=true->vals[i]?=spec[i]?
section
variable {W:World} {ob kb H:Nat} {op:OpX} {g g':Nums} {c c':Nat} {x:Int} {N mk st:Nat} {spec:List Value} {L:Nat->Bool} {vals:List Value} {w w':World}
theorem DM.vset (h:DM W ob kb H op g g' c c' x N mk st spec L vals w)(hlen:vals.length=N){i:Nat}{v:Value}(hv:spec[i]?=some v):∀j,j<N->j≠st->upd L i true j=true->(vals.set i v)[j]?=spec[j]?:=λj hj js hl=>by
 by_cases e:j=i
 . subst e;rw[hv];simp[hlen,hj]
 . rw[upd_ne _ _ e]at hl;rw[List.getElem?_set_ne (λx=>e x.symm)];exact h.v j hj js hl
theorem DM.read (h:DM W ob kb H op g g' c c' x N mk st spec L vals w)(hb:Beyond w w')(hlen:vals.length=N){i:Nat}{v:Value}(hm:i≠mk)(hs:i≠st)(hv:spec[i]?=some v):DM W ob kb H op g g' c c' x N mk st spec (upd L i true) (vals.set i v) w':=by
 refine⟨?_,h.vset hlen hv⟩;rw[upd_ne _ _ (Ne.symm hm),upd_ne _ _ (Ne.symm hs)];exact h.m.more hb.1 hb.2
theorem DM.make (h:DM W ob kb H op g g' c c' x N mk st spec L vals w)(k:OAft ob kb g' c' w w')(hlen:vals.length=N){v:Value}(hms:mk≠st)(hv:spec[mk]?=some v):DM W ob kb H op g g' c c' x N mk st spec (upd L mk true) (vals.set mk v) w':=by
 refine⟨?_,h.vset hlen hv⟩;rw[upd_same,upd_ne _ _ (Ne.symm hms)];exact h.m.aft k
theorem DM.store (h:DM W ob kb H op g g' c c' x N mk st spec L vals w)(hms:mk≠st):DM W ob kb H op g g' c c' x N mk st spec (upd L st true) vals (w.setCell ⟨H+3,1,none⟩ (.int .i64 x)):=by
 refine⟨?_,λj hj js hl=>?_⟩
 . rw[upd_ne _ _ hms,upd_same];exact h.m.put7 (i:=1) rfl
 . rw[upd_ne _ _ js]at hl;exact h.v j hj js hl
theorem DM.re (h:DM W ob kb H op g g' c c' x N mk st spec L vals w)(τ:Nat->Question->Nat)(d:Nat):DM W ob kb H op g g' c c' x N mk st spec L vals (Go.Car.re w τ d):=⟨h.m.re τ d,h.v⟩
def ccOwn(ob H:Nat)(op:OpX):Nat->Option Obj:=λb=>if b=H then some (.cells #[.pointer (some ⟨ob,0,none⟩)] 35)else if b=H+1 then some (.cells op.cells.toArray 34)else none
theorem CM.own {ok:Bool}{v:Int}(h:CM W ob kb H op g c ok v w):∀b o,ccOwn ob H op b=some o->w.heap[b]?=some o/\b≠ob/\b≠kb:=λb o hb=>by
 have lo:=h.lo;have lk:=h.lk;unfold ccOwn at hb;split at hb
 . rename_i e;cases hb;subst e;exact⟨h.b3,by omega,by omega⟩
 . split at hb
   . rename_i e;cases hb;subst e;exact⟨h.b5,by omega,by omega⟩
   . cases hb
end
abbrev DI12(W:World)(ob kb H:Nat)(op:OpX)(g:Nums)(c:Nat)(ct:Bool)(x:Int×Int):=DM W ob kb H op g ((makeL 0 (mkP 0 op) (triesN (heldV op.c)):Proc (Nums×Unit) (Int×Int)).run (g,())).1.1 c (c+cfOf ct*((makeL 0 (mkP 0 op) (triesN (heldV op.c)):Proc (Nums×Unit) (Int×Int)).run (g,())).2.2) x.1 13 6 11 [.pointer (some ⟨ob,0,none⟩),svOf kb ct,.pointer (some ⟨H+1,3,none⟩),.int .i64 op.c,.int .i64 (heldV op.c),.func (.func 45) #[] #[.pointer (some ⟨H,0,none⟩),.pointer (some ⟨H+1,0,none⟩)],.tuple #[.int .i64 x.1,.int .i64 x.2],.tuple #[.int .i64 x.1,.int .i64 x.2],.int .i64 x.1,.int .i64 x.2,.pointer (some ⟨H+3,1,none⟩),undef,.int .i64 x.2]
noncomputable def cr12:Array Oper:=match cqT (cqR (cqF (cqR (cqF (cqR ccB)))))with
 |.region _ o _=>o
 |_=>#[]
theorem cr12_0:cqT (cqR (cqF (cqR (cqF (cqR ccB)))))=.region 12 cr12 true:=by kernel_rfl
theorem cc_d12{Fin:Machine->Trace->Prop}(hFin:Back Try.prog Fin){n:Nat}{W:World}{ob kb H:Nat}{op:OpX}{g:Nums}{c:Nat}{ct:Bool}{j4 j9 j10 j11 j12 j13 j14 j15 j16 j17 j18 j19 j20 j21 j22 j23 j24 j25 j26 j27 j28 j29 j30 j31 j32 j33 j34 j35 j36 j37 j38 j39 j40 j41 j42 j43 j44 j45 j46 j47 j48 j49 j50 j51 j52 j53 j54 j55 j56 j57 j58 j59 j60 j61 j62 j63 j64 j65 j66 j67 j68 j69 j70 j71 j72 j73 j74:Value}{x:Int×Int}(HT:RowKit.Hid (((makeL 0 (mkP 0 op) (triesN (heldV op.c)):Proc (Nums×Unit) (Int×Int)).run (g,())).2.1=some x)):
 ∀(s:Unit)(L:Nat->Bool)(vals:List Value)(T:Array Value)(w:World)(i:Nat)(o:Oper),vals.length=cr12.size->DI12 W ob kb H op g c ct x L vals w->L i=false->cr12[i]?=some o->(∀e∈o.after,Region.binds .any e=true->L e.on=true)->
  (∀j t,dstOf cr12 j=some t->L j=true->T[t]?=vals[j]?)->(∀t,noD cr12 t=true->T[t]?=(#[.pointer (some ⟨ob,0,none⟩),svOf kb ct,op.val,.pointer (some ⟨H,0,none⟩),j4,.pointer (some ⟨H+1,0,none⟩),.pointer (some ⟨H+2,0,none⟩),.pointer (some ⟨H+3,0,none⟩),.int .i64 0,j9,j10,j11,j12,j13,j14,j15,j16,j17,j18,j19,j20,j21,j22,j23,j24,j25,j26,j27,j28,j29,j30,j31,j32,j33,j34,j35,j36,j37,j38,j39,j40,j41,j42,j43,j44,j45,j46,j47,j48,j49,j50,j51,j52,j53,j54,j55,j56,j57,j58,j59,j60,j61,j62,j63,j64,j65,j66,j67,j68,j69,j70,j71,j72,j73,j74]:Array Value)[t]?)->
  DrawX Try.prog (λ(_:Unit)=>J0 Try.prog Fin n) s T o w (λs' v w'=>DI12 W ob kb H op g c ct x (upd L i true) (vals.set i v) w') (λw'=>DI12 W ob kb H op g c ct x (upd L i true) vals w'):=by
 intro s L vals T w i o hlen h hLi ho hdep hT hT0;have hi:i<13:=(Array.getElem?_eq_some_iff.1 ho).1;replace hlen:vals.length=13:=hlen;obtain⟨u3,hu3⟩:∃c,cr12=c:=⟨_,rfl⟩;have eu3:=hu3;simp only[cr12,ccB,ccT,headC,tailN,cqL,cqR,cqB,cqO,cqT,cqF,Try.f14,al_od]at eu3;rw[hu3,<-eu3]at ho;clear eu3 hu3;obtain rfl |rfl |rfl |rfl |rfl |rfl |rfl |rfl |rfl |rfl |rfl |rfl |rfl:i=0\/i=1\/i=2\/i=3\/i=4\/i=5\/i=6\/i=7\/i=8\/i=9\/i=10\/i=11\/i=12:=by omega
 ·
  simp only[al_gl,al_g0,al_g1,al_oi]at ho;subst ho;have e3:T[3]?=some (.pointer (some ⟨H,0,none⟩)):=(hT0 3 zyk).trans rfl;have c3:w.cell? ⟨H,0,none⟩=some (.pointer (some ⟨ob,0,none⟩)):=(zq0 h.m.b3).trans rfl;refine .inl ⟨rfl,.inl ⟨39,.pointer (some ⟨ob,0,none⟩),w,rfl,?_,h.read (Beyond.refl w) hlen (i:=0) zyd zyd rfl⟩⟩;simp only[execOp,Act.eval,al_gd,e3,al_od];go_simp
 ·
  simp only[al_gl,al_g0,al_g1,al_oi]at ho;subst ho;have e1:T[1]?=some (svOf kb ct):=(hT0 1 zyk).trans rfl;refine .inl ⟨rfl,.inl ⟨40,svOf kb ct,w,rfl,?_,h.read (Beyond.refl w) hlen (i:=1) zyd zyd rfl⟩⟩;simp only[execOp,Act.eval,al_gd,e1,al_od];go_simp
 ·
  simp only[al_gl,al_g0,al_g1,al_oi]at ho;subst ho;have e5:T[5]?=some (.pointer (some ⟨H+1,0,none⟩)):=(hT0 5 zyk).trans rfl;refine .inl ⟨rfl,.inl ⟨41,.pointer (some ⟨H+1,3,none⟩),w,rfl,?_,h.read (Beyond.refl w) hlen (i:=2) zyd zyd rfl⟩⟩;simp only[execOp,Act.eval,al_gd,e5,al_od];go_simp
 ·
  simp only[al_gl,al_g0,al_g1,al_oi]at ho;subst ho;have e41:T[41]?=some (.pointer (some ⟨H+1,3,none⟩)):=(hT 2 41 rfl (hdep ⟨2,.data⟩ zx2n rfl)).trans (h.v 2 zyd zyd (hdep ⟨2,.data⟩ zx2n rfl));have c5:w.cell? ⟨H+1,3,none⟩=some (.int .i64 op.c):=(zq0 h.m.b5).trans rfl;refine .inl ⟨rfl,.inl ⟨42,.int .i64 op.c,w,rfl,?_,h.read (Beyond.refl w) hlen (i:=3) zyd zyd rfl⟩⟩;simp only[execOp,Act.eval,al_gd,e41,al_od];go_simp
 ·
  simp only[al_gl,al_g0,al_g1,al_oi]at ho;subst ho;have e42:T[42]?=some (.int .i64 op.c):=(hT 3 42 rfl (hdep ⟨3,.data⟩ zx2n rfl)).trans (h.v 3 zyd zyd (hdep ⟨3,.data⟩ zx2n rfl));refine .inr ⟨43,38,#[.int .i64 op.c,.int .i64 (-1),.int .i64 2147483647],rfl,λw=>?_,λw=>?_,?_⟩
  . exact zx1q
  . exact zx1q
  . exact zxp
 ·
  simp only[al_gl,al_g0,al_g1,al_oi]at ho;subst ho;have e3:T[3]?=some (.pointer (some ⟨H,0,none⟩)):=(hT0 3 zyk).trans rfl;have e5:T[5]?=some (.pointer (some ⟨H+1,0,none⟩)):=(hT0 5 zyk).trans rfl;refine .inl ⟨rfl,.inl ⟨44,.func (.func 45) #[] #[.pointer (some ⟨H,0,none⟩),.pointer (some ⟨H+1,0,none⟩)],w,rfl,?_,h.read (Beyond.refl w) hlen (i:=5) zyd zyd rfl⟩⟩;simp only[execOp,Act.eval,al_gd,e3,e5,al_od];go_simp
 ·
  simp only[al_gl,al_g0,al_g1,al_oi]at ho;subst ho;have e39:T[39]?=some (.pointer (some ⟨ob,0,none⟩)):=(hT 0 39 rfl (hdep ⟨0,.data⟩ zx2n rfl)).trans (h.v 0 zyd zyd (hdep ⟨0,.data⟩ zx2n rfl));have e40:T[40]?=some (svOf kb ct):=(hT 1 40 rfl (hdep ⟨1,.data⟩ zx2n rfl)).trans (h.v 1 zyd zyd (hdep ⟨1,.data⟩ zx2n rfl));have e43:T[43]?=some (.int .i64 (heldV op.c)):=(hT 4 43 rfl (hdep ⟨4,.data⟩ zx2n rfl)).trans (h.v 4 zyd zyd (hdep ⟨4,.data⟩ zx2n rfl));have e44:T[44]?=some (.func (.func 45) #[] #[.pointer (some ⟨H,0,none⟩),.pointer (some ⟨H+1,0,none⟩)]):=(hT 5 44 rfl (hdep ⟨5,.data⟩ zx2n rfl)).trans (h.v 5 zyd zyd (hdep ⟨5,.data⟩ zx2n rfl));have hLs:L 6=false:=hLi;have hm:=h.m;rw[if_neg (by rw[hLs];decide),if_neg (by rw[hLs];decide)]at hm;refine .inr ⟨45,27,#[.pointer (some ⟨ob,0,none⟩),svOf kb ct,.int .i64 (heldV op.c),.func (.func 45) #[] #[.pointer (some ⟨H,0,none⟩),.pointer (some ⟨H+1,0,none⟩)]],rfl,λw=>?_,λw=>?_,?_⟩
  . exact zx1g
  . exact zx1g
  . refine CallsJ.mono (zq5o hFin ct hm.rep hm.cnt hm.ne (p:=(makeL 0 (mkP 0 op) (triesN (heldV op.c)))) (val:=errV) (B:=ccOwn ob H op) hm.own (λZ I hd hs=>zq5i (Z.sys I) hd.base (c:=0) Nat.zero_lt_one Try.func45 rfl rfl (first:=#[]) (caps:=#[.pointer (some ⟨H,0,none⟩),.pointer (some ⟨H+1,0,none⟩)]) (B:=ccOwn ob H op) (zqdl Z hs (c:=0) Nat.zero_lt_one rfl (by unfold ccOwn;rw[if_pos rfl];rfl) (by unfold ccOwn;rw[if_neg zyo,if_pos rfl])) (λK hK=>by rw[mkP,Proc.bind_bind];exact(Z.sys I).sil_tick _) (heldV op.c)) HT.out) ?_;rintro _ e w' ⟨rfl,hA⟩;exact⟨_,rfl,h.make hA hlen zyd rfl⟩
 ·
  simp only[al_gl,al_g0,al_g1,al_oi]at ho;subst ho;have e45:T[45]?=some (.tuple #[.int .i64 x.1,.int .i64 x.2]):=(hT 6 45 rfl (hdep ⟨6,.data⟩ zx2n rfl)).trans (h.v 6 zyd zyd (hdep ⟨6,.data⟩ zx2n rfl));refine .inl ⟨rfl,.inl ⟨38,.tuple #[.int .i64 x.1,.int .i64 x.2],w,rfl,?_,h.read (Beyond.refl w) hlen (i:=7) zyd zyd rfl⟩⟩;simp only[execOp,Act.eval,al_gd,e45,al_od];go_simp
 ·
  simp only[al_gl,al_g0,al_g1,al_oi]at ho;subst ho;have e38:T[38]?=some (.tuple #[.int .i64 x.1,.int .i64 x.2]):=(hT 7 38 rfl (hdep ⟨7,.data⟩ zx2n rfl)).trans (h.v 7 zyd zyd (hdep ⟨7,.data⟩ zx2n rfl));refine .inl ⟨rfl,.inl ⟨46,.int .i64 x.1,w,rfl,?_,h.read (Beyond.refl w) hlen (i:=8) zyd zyd rfl⟩⟩;simp only[execOp,Act.eval,al_gd,e38,al_od];go_simp
 ·
  simp only[al_gl,al_g0,al_g1,al_oi]at ho;subst ho;have e38:T[38]?=some (.tuple #[.int .i64 x.1,.int .i64 x.2]):=(hT 7 38 rfl (hdep ⟨7,.data⟩ zx2n rfl)).trans (h.v 7 zyd zyd (hdep ⟨7,.data⟩ zx2n rfl));refine .inl ⟨rfl,.inl ⟨47,.int .i64 x.2,w,rfl,?_,h.read (Beyond.refl w) hlen (i:=9) zyd zyd rfl⟩⟩;simp only[execOp,Act.eval,al_gd,e38,al_od];go_simp
 ·
  simp only[al_gl,al_g0,al_g1,al_oi]at ho;subst ho;have e7:T[7]?=some (.pointer (some ⟨H+3,0,none⟩)):=(hT0 7 zyk).trans rfl;refine .inl ⟨rfl,.inl ⟨48,.pointer (some ⟨H+3,1,none⟩),w,rfl,?_,h.read (Beyond.refl w) hlen (i:=10) zyd zyd rfl⟩⟩;simp only[execOp,Act.eval,al_gd,e7,al_od];go_simp
 ·
  simp only[al_gl,al_g0,al_g1,al_oi]at ho;subst ho;have e48:T[48]?=some (.pointer (some ⟨H+3,1,none⟩)):=(hT 10 48 rfl (hdep ⟨10,.data⟩ zx2n rfl)).trans (h.v 10 zyd zyd (hdep ⟨10,.data⟩ zx2n rfl));have e46:T[46]?=some (.int .i64 x.1):=(hT 8 46 rfl (hdep ⟨8,.data⟩ zx2n rfl)).trans (h.v 8 zyd zyd (hdep ⟨8,.data⟩ zx2n rfl));have c7:w.cell? ⟨H+3,1,none⟩=some (.int .i64 (if L 11=true then x.1 else 0)):=(zq0 h.m.b7).trans rfl;have z7:w.frozen? ⟨H+3,1,none⟩=false:=zq3 h.m.b7;refine .inl ⟨rfl,.inr ⟨rfl,w.setCell ⟨H+3,1,none⟩ (.int .i64 x.1),?_,h.store zyd⟩⟩;generalize (if L 11=true then x.1 else 0)=q at c7;simp only[execOp,Act.eval,al_gd,e48,e46,al_od];go_simp
 ·
  simp only[al_gl,al_g0,al_g1,al_oi]at ho;subst ho;have e47:T[47]?=some (.int .i64 x.2):=(hT 9 47 rfl (hdep ⟨9,.data⟩ zx2n rfl)).trans (h.v 9 zyd zyd (hdep ⟨9,.data⟩ zx2n rfl));refine .inl ⟨rfl,.inl ⟨8,.int .i64 x.2,w,rfl,?_,h.read (Beyond.refl w) hlen (i:=12) zyd zyd rfl⟩⟩;simp only[execOp,Act.eval,al_gd,e47,al_od];go_simp
theorem cc_r12{Fin:Machine->Trace->Prop}(hFin:Back Try.prog Fin){n:Nat}{W:World}{ob kb H:Nat}{op:OpX}{g:Nums}{c:Nat}{w:World}{ct:Bool}{Q:Unit->Exit->Act->World->Prop}{j4 j9 j10 j11 j12 j13 j14 j15 j16 j17 j18 j19 j20 j21 j22 j23 j24 j25 j26 j27 j28 j29 j30 j31 j32 j33 j34 j35 j36 j37 j38 j39 j40 j41 j42 j43 j44 j45 j46 j47 j48 j49 j50 j51 j52 j53 j54 j55 j56 j57 j58 j59 j60 j61 j62 j63 j64 j65 j66 j67 j68 j69 j70 j71 j72 j73 j74:Value}{x:Int×Int}(h:CM W ob kb H op g c false 0 w)(hT:((makeL 0 (mkP 0 op) (triesN (heldV op.c)):Proc (Nums×Unit) (Int×Int)).run (g,())).2.1=some x)
 (hN:∀T w',T.size=75->T[6]?=some (.pointer (some ⟨H+2,0,none⟩))->T[7]?=some (.pointer (some ⟨H+3,0,none⟩))->T[8]?=some (.int .i64 x.2)->CM W ob kb H op ((makeL 0 (mkP 0 op) (triesN (heldV op.c)):Proc (Nums×Unit) (Int×Int)).run (g,())).1.1 (c+cfOf ct*((makeL 0 (mkP 0 op) (triesN (heldV op.c)):Proc (Nums×Unit) (Int×Int)).run (g,())).2.2) false x.1 w'->Q () .normal ⟨T,[]⟩ w'):wpJ (λ(_:Unit)=>J0 Try.prog Fin n) (cqT (cqR (cqF (cqR (cqF (cqR ccB)))))) Q () ⟨#[.pointer (some ⟨ob,0,none⟩),svOf kb ct,op.val,.pointer (some ⟨H,0,none⟩),j4,.pointer (some ⟨H+1,0,none⟩),.pointer (some ⟨H+2,0,none⟩),.pointer (some ⟨H+3,0,none⟩),.int .i64 0,j9,j10,j11,j12,j13,j14,j15,j16,j17,j18,j19,j20,j21,j22,j23,j24,j25,j26,j27,j28,j29,j30,j31,j32,j33,j34,j35,j36,j37,j38,j39,j40,j41,j42,j43,j44,j45,j46,j47,j48,j49,j50,j51,j52,j53,j54,j55,j56,j57,j58,j59,j60,j61,j62,j63,j64,j65,j66,j67,j68,j69,j70,j71,j72,j73,j74],[]⟩ w:=by
 rw[cr12_0];have HT:=Lib.hid hT;clear hT;intro b k cs hb hQ;refine zq68 (s:=()) (jU0 hFin n) hb zyk zyk zyk (λ_ L v w=>DI12 W ob kb H op g c ct x L v w) (λs L v w τ d h=>h.re τ d) (List.replicate 13 undef) zyk ⟨h,λi _ _ hl=>by cases hl⟩ (cc_d12 hFin HT) ?_;rintro s L vals w2 hall hlen hP;replace hlen:vals.length=13:=hlen;have hm:=hP.m;rw[hall 6 zyd,hall 11 zyd,if_pos rfl,if_pos rfl,if_pos rfl]at hm;refine(jU0 hFin n).ctl (s:=()) (λw=>stepG_region_end) ?_;refine hQ () .normal _ _ (hN _ _ ?_ ?_ ?_ ?_ hm)
 . rw[zq3l];rfl
 . exact(zq1p vals 0 _ 6 λj _ _=>zq3g zyk j).trans rfl
 . exact(zq1p vals 0 _ 7 λj _ _=>zq3g zyk j).trans rfl
 . have h8:=hP.v 12 zyd zyd (hall 12 zyd);exact zq23 vals 0 _ 12 (.int .i64 x.2) 8 (h8.trans rfl) zyk (show 8<75 by decide) λm a b e=>by omega
abbrev DI14(W:World)(ob kb H:Nat)(op:OpX)(g:Nums)(c:Nat)(ct:Bool)(x:Int×Int):=DM W ob kb H op g ((makeL 0 (Proc.ret (5,false)) (triesN (heldV op.c)):Proc (Nums×Unit) (Int×Int)).run (g,())).1.1 c (c+cfOf ct*((makeL 0 (Proc.ret (5,false)) (triesN (heldV op.c)):Proc (Nums×Unit) (Int×Int)).run (g,())).2.2) x.1 12 5 10 [.pointer (some ⟨ob,0,none⟩),svOf kb ct,.pointer (some ⟨H+1,3,none⟩),.int .i64 op.c,.int .i64 (heldV op.c),.tuple #[.int .i64 x.1,.int .i64 x.2],.tuple #[.int .i64 x.1,.int .i64 x.2],.int .i64 x.1,.int .i64 x.2,.pointer (some ⟨H+3,1,none⟩),undef,.int .i64 x.2]
noncomputable def cr14:Array Oper:=match cqT (cqR (cqF (cqR (cqF (cqR (cqF (cqR ccB)))))))with
 |.region _ o _=>o
 |_=>#[]
theorem cr14_0:cqT (cqR (cqF (cqR (cqF (cqR (cqF (cqR ccB)))))))=.region 14 cr14 true:=by kernel_rfl
theorem cc_d14{Fin:Machine->Trace->Prop}(hFin:Back Try.prog Fin){n:Nat}{W:World}{ob kb H:Nat}{op:OpX}{g:Nums}{c:Nat}{ct:Bool}{j4 j9 j10 j11 j12 j13 j14 j15 j16 j17 j18 j19 j20 j21 j22 j23 j24 j25 j26 j27 j28 j29 j30 j31 j32 j33 j34 j35 j36 j37 j38 j39 j40 j41 j42 j43 j44 j45 j46 j47 j48 j49 j50 j51 j52 j53 j54 j55 j56 j57 j58 j59 j60 j61 j62 j63 j64 j65 j66 j67 j68 j69 j70 j71 j72 j73 j74:Value}{x:Int×Int}(HT:RowKit.Hid (((makeL 0 (Proc.ret (5,false)) (triesN (heldV op.c)):Proc (Nums×Unit) (Int×Int)).run (g,())).2.1=some x)):
 ∀(s:Unit)(L:Nat->Bool)(vals:List Value)(T:Array Value)(w:World)(i:Nat)(o:Oper),vals.length=cr14.size->DI14 W ob kb H op g c ct x L vals w->L i=false->cr14[i]?=some o->(∀e∈o.after,Region.binds .any e=true->L e.on=true)->
  (∀j t,dstOf cr14 j=some t->L j=true->T[t]?=vals[j]?)->(∀t,noD cr14 t=true->T[t]?=(#[.pointer (some ⟨ob,0,none⟩),svOf kb ct,op.val,.pointer (some ⟨H,0,none⟩),j4,.pointer (some ⟨H+1,0,none⟩),.pointer (some ⟨H+2,0,none⟩),.pointer (some ⟨H+3,0,none⟩),.int .i64 0,j9,j10,j11,j12,j13,j14,j15,j16,j17,j18,j19,j20,j21,j22,j23,j24,j25,j26,j27,j28,j29,j30,j31,j32,j33,j34,j35,j36,j37,j38,j39,j40,j41,j42,j43,j44,j45,j46,j47,j48,j49,j50,j51,j52,j53,j54,j55,j56,j57,j58,j59,j60,j61,j62,j63,j64,j65,j66,j67,j68,j69,j70,j71,j72,j73,j74]:Array Value)[t]?)->
  DrawX Try.prog (λ(_:Unit)=>J0 Try.prog Fin n) s T o w (λs' v w'=>DI14 W ob kb H op g c ct x (upd L i true) (vals.set i v) w') (λw'=>DI14 W ob kb H op g c ct x (upd L i true) vals w'):=by
 intro s L vals T w i o hlen h hLi ho hdep hT hT0;have hi:i<12:=(Array.getElem?_eq_some_iff.1 ho).1;replace hlen:vals.length=12:=hlen;obtain⟨u3,hu3⟩:∃c,cr14=c:=⟨_,rfl⟩;have eu3:=hu3;simp only[cr14,ccB,ccT,headC,tailN,cqL,cqR,cqB,cqO,cqT,cqF,Try.f14,al_od]at eu3;rw[hu3,<-eu3]at ho;clear eu3 hu3;obtain rfl |rfl |rfl |rfl |rfl |rfl |rfl |rfl |rfl |rfl |rfl |rfl:i=0\/i=1\/i=2\/i=3\/i=4\/i=5\/i=6\/i=7\/i=8\/i=9\/i=10\/i=11:=by omega
 ·
  simp only[al_gl,al_g0,al_g1,al_oi]at ho;subst ho;have e3:T[3]?=some (.pointer (some ⟨H,0,none⟩)):=(hT0 3 zyk).trans rfl;have c3:w.cell? ⟨H,0,none⟩=some (.pointer (some ⟨ob,0,none⟩)):=(zq0 h.m.b3).trans rfl;refine .inl ⟨rfl,.inl ⟨52,.pointer (some ⟨ob,0,none⟩),w,rfl,?_,h.read (Beyond.refl w) hlen (i:=0) zyd zyd rfl⟩⟩;simp only[execOp,Act.eval,al_gd,e3,al_od];go_simp
 ·
  simp only[al_gl,al_g0,al_g1,al_oi]at ho;subst ho;have e1:T[1]?=some (svOf kb ct):=(hT0 1 zyk).trans rfl;refine .inl ⟨rfl,.inl ⟨53,svOf kb ct,w,rfl,?_,h.read (Beyond.refl w) hlen (i:=1) zyd zyd rfl⟩⟩;simp only[execOp,Act.eval,al_gd,e1,al_od];go_simp
 ·
  simp only[al_gl,al_g0,al_g1,al_oi]at ho;subst ho;have e5:T[5]?=some (.pointer (some ⟨H+1,0,none⟩)):=(hT0 5 zyk).trans rfl;refine .inl ⟨rfl,.inl ⟨54,.pointer (some ⟨H+1,3,none⟩),w,rfl,?_,h.read (Beyond.refl w) hlen (i:=2) zyd zyd rfl⟩⟩;simp only[execOp,Act.eval,al_gd,e5,al_od];go_simp
 ·
  simp only[al_gl,al_g0,al_g1,al_oi]at ho;subst ho;have e54:T[54]?=some (.pointer (some ⟨H+1,3,none⟩)):=(hT 2 54 rfl (hdep ⟨2,.data⟩ zx2n rfl)).trans (h.v 2 zyd zyd (hdep ⟨2,.data⟩ zx2n rfl));have c5:w.cell? ⟨H+1,3,none⟩=some (.int .i64 op.c):=(zq0 h.m.b5).trans rfl;refine .inl ⟨rfl,.inl ⟨55,.int .i64 op.c,w,rfl,?_,h.read (Beyond.refl w) hlen (i:=3) zyd zyd rfl⟩⟩;simp only[execOp,Act.eval,al_gd,e54,al_od];go_simp
 ·
  simp only[al_gl,al_g0,al_g1,al_oi]at ho;subst ho;have e55:T[55]?=some (.int .i64 op.c):=(hT 3 55 rfl (hdep ⟨3,.data⟩ zx2n rfl)).trans (h.v 3 zyd zyd (hdep ⟨3,.data⟩ zx2n rfl));refine .inr ⟨56,38,#[.int .i64 op.c,.int .i64 (-1),.int .i64 2147483647],rfl,λw=>?_,λw=>?_,?_⟩
  . exact zx1r
  . exact zx1r
  . exact zxp
 ·
  simp only[al_gl,al_g0,al_g1,al_oi]at ho;subst ho;have e52:T[52]?=some (.pointer (some ⟨ob,0,none⟩)):=(hT 0 52 rfl (hdep ⟨0,.data⟩ zx2n rfl)).trans (h.v 0 zyd zyd (hdep ⟨0,.data⟩ zx2n rfl));have e53:T[53]?=some (svOf kb ct):=(hT 1 53 rfl (hdep ⟨1,.data⟩ zx2n rfl)).trans (h.v 1 zyd zyd (hdep ⟨1,.data⟩ zx2n rfl));have e56:T[56]?=some (.int .i64 (heldV op.c)):=(hT 4 56 rfl (hdep ⟨4,.data⟩ zx2n rfl)).trans (h.v 4 zyd zyd (hdep ⟨4,.data⟩ zx2n rfl));have hLs:L 5=false:=hLi;have hm:=h.m;rw[if_neg (by rw[hLs];decide),if_neg (by rw[hLs];decide)]at hm;refine .inr ⟨57,27,#[.pointer (some ⟨ob,0,none⟩),svOf kb ct,.int .i64 (heldV op.c),.func (.func 46) #[] #[]],rfl,λw=>?_,λw=>?_,?_⟩
  . exact zx1i
  . exact zx1i
  . refine CallsJ.mono (zq5o hFin ct hm.rep hm.cnt hm.ne (p:=(makeL 0 (Proc.ret (5,false)) (triesN (heldV op.c)))) (val:=errV) (B:=ccOwn ob H op) hm.own (λZ I hd hs=>zq5i (Z.sys I) hd.base (c:=0) Nat.zero_lt_one Try.func46 rfl rfl (first:=#[]) (caps:=#[]) (B:=ccOwn ob H op) (zqdn (Z.sys I) _ _) (λK hK=>hK _) (heldV op.c)) HT.out) ?_;rintro _ e w' ⟨rfl,hA⟩;exact⟨_,rfl,h.make hA hlen zyd rfl⟩
 ·
  simp only[al_gl,al_g0,al_g1,al_oi]at ho;subst ho;have e57:T[57]?=some (.tuple #[.int .i64 x.1,.int .i64 x.2]):=(hT 5 57 rfl (hdep ⟨5,.data⟩ zx2n rfl)).trans (h.v 5 zyd zyd (hdep ⟨5,.data⟩ zx2n rfl));refine .inl ⟨rfl,.inl ⟨51,.tuple #[.int .i64 x.1,.int .i64 x.2],w,rfl,?_,h.read (Beyond.refl w) hlen (i:=6) zyd zyd rfl⟩⟩;simp only[execOp,Act.eval,al_gd,e57,al_od];go_simp
 ·
  simp only[al_gl,al_g0,al_g1,al_oi]at ho;subst ho;have e51:T[51]?=some (.tuple #[.int .i64 x.1,.int .i64 x.2]):=(hT 6 51 rfl (hdep ⟨6,.data⟩ zx2n rfl)).trans (h.v 6 zyd zyd (hdep ⟨6,.data⟩ zx2n rfl));refine .inl ⟨rfl,.inl ⟨58,.int .i64 x.1,w,rfl,?_,h.read (Beyond.refl w) hlen (i:=7) zyd zyd rfl⟩⟩;simp only[execOp,Act.eval,al_gd,e51,al_od];go_simp
 ·
  simp only[al_gl,al_g0,al_g1,al_oi]at ho;subst ho;have e51:T[51]?=some (.tuple #[.int .i64 x.1,.int .i64 x.2]):=(hT 6 51 rfl (hdep ⟨6,.data⟩ zx2n rfl)).trans (h.v 6 zyd zyd (hdep ⟨6,.data⟩ zx2n rfl));refine .inl ⟨rfl,.inl ⟨59,.int .i64 x.2,w,rfl,?_,h.read (Beyond.refl w) hlen (i:=8) zyd zyd rfl⟩⟩;simp only[execOp,Act.eval,al_gd,e51,al_od];go_simp
 ·
  simp only[al_gl,al_g0,al_g1,al_oi]at ho;subst ho;have e7:T[7]?=some (.pointer (some ⟨H+3,0,none⟩)):=(hT0 7 zyk).trans rfl;refine .inl ⟨rfl,.inl ⟨60,.pointer (some ⟨H+3,1,none⟩),w,rfl,?_,h.read (Beyond.refl w) hlen (i:=9) zyd zyd rfl⟩⟩;simp only[execOp,Act.eval,al_gd,e7,al_od];go_simp
 ·
  simp only[al_gl,al_g0,al_g1,al_oi]at ho;subst ho;have e60:T[60]?=some (.pointer (some ⟨H+3,1,none⟩)):=(hT 9 60 rfl (hdep ⟨9,.data⟩ zx2n rfl)).trans (h.v 9 zyd zyd (hdep ⟨9,.data⟩ zx2n rfl));have e58:T[58]?=some (.int .i64 x.1):=(hT 7 58 rfl (hdep ⟨7,.data⟩ zx2n rfl)).trans (h.v 7 zyd zyd (hdep ⟨7,.data⟩ zx2n rfl));have c7:w.cell? ⟨H+3,1,none⟩=some (.int .i64 (if L 10=true then x.1 else 0)):=(zq0 h.m.b7).trans rfl;have z7:w.frozen? ⟨H+3,1,none⟩=false:=zq3 h.m.b7;refine .inl ⟨rfl,.inr ⟨rfl,w.setCell ⟨H+3,1,none⟩ (.int .i64 x.1),?_,h.store zyd⟩⟩;generalize (if L 10=true then x.1 else 0)=q at c7;simp only[execOp,Act.eval,al_gd,e60,e58,al_od];go_simp
 ·
  simp only[al_gl,al_g0,al_g1,al_oi]at ho;subst ho;have e59:T[59]?=some (.int .i64 x.2):=(hT 8 59 rfl (hdep ⟨8,.data⟩ zx2n rfl)).trans (h.v 8 zyd zyd (hdep ⟨8,.data⟩ zx2n rfl));refine .inl ⟨rfl,.inl ⟨8,.int .i64 x.2,w,rfl,?_,h.read (Beyond.refl w) hlen (i:=11) zyd zyd rfl⟩⟩;simp only[execOp,Act.eval,al_gd,e59,al_od];go_simp
theorem cc_r14{Fin:Machine->Trace->Prop}(hFin:Back Try.prog Fin){n:Nat}{W:World}{ob kb H:Nat}{op:OpX}{g:Nums}{c:Nat}{w:World}{ct:Bool}{Q:Unit->Exit->Act->World->Prop}{j4 j9 j10 j11 j12 j13 j14 j15 j16 j17 j18 j19 j20 j21 j22 j23 j24 j25 j26 j27 j28 j29 j30 j31 j32 j33 j34 j35 j36 j37 j38 j39 j40 j41 j42 j43 j44 j45 j46 j47 j48 j49 j50 j51 j52 j53 j54 j55 j56 j57 j58 j59 j60 j61 j62 j63 j64 j65 j66 j67 j68 j69 j70 j71 j72 j73 j74:Value}{x:Int×Int}(h:CM W ob kb H op g c false 0 w)(hT:((makeL 0 (Proc.ret (5,false)) (triesN (heldV op.c)):Proc (Nums×Unit) (Int×Int)).run (g,())).2.1=some x)
 (hN:∀T w',T.size=75->T[6]?=some (.pointer (some ⟨H+2,0,none⟩))->T[7]?=some (.pointer (some ⟨H+3,0,none⟩))->T[8]?=some (.int .i64 x.2)->CM W ob kb H op ((makeL 0 (Proc.ret (5,false)) (triesN (heldV op.c)):Proc (Nums×Unit) (Int×Int)).run (g,())).1.1 (c+cfOf ct*((makeL 0 (Proc.ret (5,false)) (triesN (heldV op.c)):Proc (Nums×Unit) (Int×Int)).run (g,())).2.2) false x.1 w'->Q () .normal ⟨T,[]⟩ w'):wpJ (λ(_:Unit)=>J0 Try.prog Fin n) (cqT (cqR (cqF (cqR (cqF (cqR (cqF (cqR ccB)))))))) Q () ⟨#[.pointer (some ⟨ob,0,none⟩),svOf kb ct,op.val,.pointer (some ⟨H,0,none⟩),j4,.pointer (some ⟨H+1,0,none⟩),.pointer (some ⟨H+2,0,none⟩),.pointer (some ⟨H+3,0,none⟩),.int .i64 0,j9,j10,j11,j12,j13,j14,j15,j16,j17,j18,j19,j20,j21,j22,j23,j24,j25,j26,j27,j28,j29,j30,j31,j32,j33,j34,j35,j36,j37,j38,j39,j40,j41,j42,j43,j44,j45,j46,j47,j48,j49,j50,j51,j52,j53,j54,j55,j56,j57,j58,j59,j60,j61,j62,j63,j64,j65,j66,j67,j68,j69,j70,j71,j72,j73,j74],[]⟩ w:=by
 rw[cr14_0];have HT:=Lib.hid hT;clear hT;intro b k cs hb hQ;refine zq68 (s:=()) (jU0 hFin n) hb zyk zyk zyk (λ_ L v w=>DI14 W ob kb H op g c ct x L v w) (λs L v w τ d h=>h.re τ d) (List.replicate 12 undef) zyk ⟨h,λi _ _ hl=>by cases hl⟩ (cc_d14 hFin HT) ?_;rintro s L vals w2 hall hlen hP;replace hlen:vals.length=12:=hlen;have hm:=hP.m;rw[hall 5 zyd,hall 10 zyd,if_pos rfl,if_pos rfl,if_pos rfl]at hm;refine(jU0 hFin n).ctl (s:=()) (λw=>stepG_region_end) ?_;refine hQ () .normal _ _ (hN _ _ ?_ ?_ ?_ ?_ hm)
 . rw[zq3l];rfl
 . exact(zq1p vals 0 _ 6 λj _ _=>zq3g zyk j).trans rfl
 . exact(zq1p vals 0 _ 7 λj _ _=>zq3g zyk j).trans rfl
 . have h8:=hP.v 11 zyd zyd (hall 11 zyd);exact zq23 vals 0 _ 11 (.int .i64 x.2) 8 (h8.trans rfl) zyk (show 8<75 by decide) λm a b e=>by omega
end Go.Proofs
set_option maxHeartbeats 8000000
namespace Go.Proofs
open Go Go.Conc Go.RowKit Go.Car
theorem lit75{T:Array Value}(h:T.size=75):∃x:Nat->Value,T=#[x 0,x 1,x 2,x 3,x 4,x 5,x 6,x 7,x 8,x 9,x 10,x 11,x 12,x 13,x 14,x 15,x 16,x 17,x 18,x 19,x 20,x 21,x 22,x 23,x 24,x 25,x 26,x 27,x 28,x 29,x 30,x 31,x 32,x 33,x 34,x 35,x 36,x 37,x 38,x 39,x 40,x 41,x 42,x 43,x 44,x 45,x 46,x 47,x 48,x 49,x 50,x 51,x 52,x 53,x 54,x 55,x 56,x 57,x 58,x 59,x 60,x 61,x 62,x 63,x 64,x 65,x 66,x 67,x 68,x 69,x 70,x 71,x 72,x 73,x 74]/\∀i,i<75->T[i]?=some (x i):=by
 refine⟨λi=>T.getD i undef,?_,λi hi=>by show T[i]?=some (T.getD i undef);rw[al_gd];simp[h,hi]⟩;apply Array.ext_getElem?;intro i
 by_cases hi:i<75
 . have e:T[i]?=some (T.getD i undef):=by rw[al_gd];simp[h,hi]
   rw[e];have:∀x:Nat->Value,∀i,i<75->(#[x 0,x 1,x 2,x 3,x 4,x 5,x 6,x 7,x 8,x 9,x 10,x 11,x 12,x 13,x 14,x 15,x 16,x 17,x 18,x 19,x 20,x 21,x 22,x 23,x 24,x 25,x 26,x 27,x 28,x 29,x 30,x 31,x 32,x 33,x 34,x 35,x 36,x 37,x 38,x 39,x 40,x 41,x 42,x 43,x 44,x 45,x 46,x 47,x 48,x 49,x 50,x 51,x 52,x 53,x 54,x 55,x 56,x 57,x 58,x 59,x 60,x 61,x 62,x 63,x 64,x 65,x 66,x 67,x 68,x 69,x 70,x 71,x 72,x 73,x 74]:Array Value)[i]?=some (x i):=λx i hi=>by
    have e2:(#[x 0,x 1,x 2,x 3,x 4,x 5,x 6,x 7,x 8,x 9,x 10,x 11,x 12,x 13,x 14,x 15,x 16,x 17,x 18,x 19,x 20,x 21,x 22,x 23,x 24,x 25,x 26,x 27,x 28,x 29,x 30,x 31,x 32,x 33,x 34,x 35,x 36,x 37,x 38,x 39,x 40,x 41,x 42,x 43,x 44,x 45,x 46,x 47,x 48,x 49,x 50,x 51,x 52,x 53,x 54,x 55,x 56,x 57,x 58,x 59,x 60,x 61,x 62,x 63,x 64,x 65,x 66,x 67,x 68,x 69,x 70,x 71,x 72,x 73,x 74]:Array Value)=((List.range 75).map x).toArray:=rfl;rw[e2];simp[hi]
   exact(this (λi=>T.getD i undef) i hi).symm
 . rw[Array.getElem?_eq_none zyo,Array.getElem?_eq_none zx44]
def oG(op:OpX)(g:Nums):Nums:=((onceP 0 op:Proc (Nums×Unit) Ans).run (g,())).1.1
def oA(op:OpX)(g:Nums):Ans:=((onceP 0 op:Proc (Nums×Unit) Ans).run (g,())).2.1.getD Ans.none
def oN(op:OpX)(g:Nums):Nat:=((onceP 0 op:Proc (Nums×Unit) Ans).run (g,())).2.2
theorem Tree.run_deepO {σ α:Type}:∀(t:Tree σ α)(s:σ),(∀k,t.Deep k)->∃a,(t.run s).2.1=some a:=by
 intro t
 induction t with
 |ret a=>intro s _;exact⟨a,rfl⟩
 |out=>intro s h;exact(h 1).elim
 |step u k ih=>intro s h;exact ih s (u s) λn=>h (n+1) s
theorem zq5v{α β:Type}(p:Proc (Nums×Unit) α)(f:α->β){s:Nums×Unit}{x:α}(h:(p.run s).2.1=some x):(p.bind λx=>Proc.ret (f x)).run s=((p.run s).1,some (f x),(p.run s).2.2):=by
 rw[Proc.run_bind];rcases hr:p.run s with⟨s',o,n⟩
 rw[hr]at h;simp only at h;subst h;show(s',some (f x),0+n)=_;rw[Nat.zero_add]
def Res{α:Type}(p:Proc (Nums×Unit) α)(φ:α->Prop):Prop:=∀s a,(p.run s).2.1=some a->φ a
theorem Res.ret {α:Type}{φ:α->Prop}{a:α}(h:φ a):Res (Proc.ret a) φ:=λs b hb=>by cases hb;exact h
theorem Res.bind {α β:Type}{p:Proc (Nums×Unit) α}{K:α->Proc (Nums×Unit) β}{φ:β->Prop}(h:∀a,Res (K a) φ):Res (p.bind K) φ:=λs b hb=>by
 rw[Proc.run_bind]at hb;rcases hr:p.run s with⟨s',o,n⟩
 rw[hr]at hb;cases o with
 |none=>cases hb
 |some a=>exact h a s' b hb
theorem zq6q{mk:Proc (Nums×Unit) (Int×Bool)}(c:Nat):∀n,Res (makeL c mk n) (λx=>x.2≠0->x.1=0)
 |0=>Res.ret λ_=>rfl
 |n+1=>by
  unfold makeL;refine Res.bind λx=>?_;split
  . exact Res.ret λh=>absurd rfl h
  . refine Res.bind λb=>?_;split
    . refine Res.bind λ_=>Res.bind λv=>?_;split
      . exact Res.bind λ_=>Res.ret λh=>absurd rfl h
      . exact Res.bind λ_=>Res.ret λ_=>rfl
    . exact zq6q c n
theorem zq8y(c:Nat)(a b:Int):∀n,(makeL c (Proc.ret (a,false)) n:Proc (Nums×Unit) (Int×Int))=makeL c (Proc.ret (b,false)) n
 |0=>rfl
 |n+1=>by
  unfold makeL;rw[zq8y c a b n];rfl
theorem zqck(c:Int):triesN (zq1a c)=triesN (heldV c):=by
 unfold triesN zq1a heldV;split<;>(try split)<;>omega
section
variable {op:OpX} {g:Nums}
theorem oRun_1(hk:op.k=1){x:Int×Bool}(h:((getP 0:Proc (Nums×Unit) (Int×Bool)).run (g,())).2.1=some x):oG op g=((getP 0:Proc (Nums×Unit) (Int×Bool)).run (g,())).1.1/\oA op g=⟨x.2,x.1,[]⟩/\oN op g=((getP 0:Proc (Nums×Unit) (Int×Bool)).run (g,())).2.2:=by
 have e:(onceP 0 op:Proc (Nums×Unit) Ans)=(getP 0).bind λx=>Proc.ret ⟨x.2,x.1,[]⟩:=by unfold onceP;rw[if_pos hk]
 unfold oG oA oN;rw[e,zq5v _ (λx:Int×Bool=>(⟨x.2,x.1,[]⟩:Ans)) h];exact⟨rfl,rfl,rfl⟩
theorem oRun_2(hk:op.k=2){x:Int×Bool}(h:((setP 0 op.b:Proc (Nums×Unit) (Int×Bool)).run (g,())).2.1=some x):oG op g=((setP 0 op.b:Proc (Nums×Unit) (Int×Bool)).run (g,())).1.1/\oA op g=⟨x.2,x.1,[]⟩/\oN op g=((setP 0 op.b:Proc (Nums×Unit) (Int×Bool)).run (g,())).2.2:=by
 have e:(onceP 0 op:Proc (Nums×Unit) Ans)=(setP 0 op.b).bind λx=>Proc.ret ⟨x.2,x.1,[]⟩:=by unfold onceP;rw[if_neg zyo,if_pos hk]
 unfold oG oA oN;rw[e,zq5v _ (λx:Int×Bool=>(⟨x.2,x.1,[]⟩:Ans)) h];exact⟨rfl,rfl,rfl⟩
theorem oRun_3(hk:op.k=3){x:Int×Int}(h:((makeL 0 (mkP 0 op) (triesN (heldV op.c)):Proc (Nums×Unit) (Int×Int)).run (g,())).2.1=some x):oG op g=((makeL 0 (mkP 0 op) (triesN (heldV op.c)):Proc (Nums×Unit) (Int×Int)).run (g,())).1.1/\oA op g=madeA x.1 x.2/\oN op g=((makeL 0 (mkP 0 op) (triesN (heldV op.c)):Proc (Nums×Unit) (Int×Int)).run (g,())).2.2:=by
 have e:(onceP 0 op:Proc (Nums×Unit) Ans)=(makeL 0 (mkP 0 op) (triesN (heldV op.c))).bind λx=>Proc.ret (madeA x.1 x.2):=by unfold onceP;rw[if_neg zyo,if_neg zyo,if_pos hk,zqck]
 unfold oG oA oN;rw[e,zq5v _ (λx:Int×Int=>madeA x.1 x.2) h];exact⟨rfl,rfl,rfl⟩
theorem oRun_4(hk:op.k=4){x:Int×Int}(h:((makeL 0 (Proc.ret (5,false)) (triesN (heldV op.c)):Proc (Nums×Unit) (Int×Int)).run (g,())).2.1=some x):oG op g=((makeL 0 (Proc.ret (5,false)) (triesN (heldV op.c)):Proc (Nums×Unit) (Int×Int)).run (g,())).1.1/\oA op g=madeA x.1 x.2/\oN op g=((makeL 0 (Proc.ret (5,false)) (triesN (heldV op.c)):Proc (Nums×Unit) (Int×Int)).run (g,())).2.2:=by
 have e:(onceP 0 op:Proc (Nums×Unit) Ans)=(makeL 0 (Proc.ret (5,false)) (triesN (heldV op.c))).bind λx=>Proc.ret (madeA x.1 x.2):=by unfold onceP;rw[if_neg zyo,if_neg zyo,if_neg zyo,if_pos hk,zqck,zq8y 0 0 5]
 unfold oG oA oN;rw[e,zq5v _ (λx:Int×Int=>madeA x.1 x.2) h];exact⟨rfl,rfl,rfl⟩
end
theorem zq27{Fin:Machine->Trace->Prop}(hFin:Back Try.prog Fin){n:Nat}{W:World}{ob kb H:Nat}{op:OpX}{g:Nums}{c:Nat}{w:World}{x:Code}{T T':Array Value}{Q:Unit->Exit->Act->World->Prop}(hc:zqn Try.prog aM x=true)(hM:RowKit.Hid (CM W ob kb H op g c false 0 w))(h:∀w',RowKit.Hid (CM W ob kb H op g c false 0 w')->Code.wp Try.prog x (ends (λa w''=>a.tmps=T'/\CM W ob kb H op g c false 0 w'') (λ_ _=>False)) ⟨T,[]⟩ w')
 (hQ:∀w',RowKit.Hid (CM W ob kb H op g c false 0 w')->Q () .normal ⟨T',[]⟩ w'):wpJ (λ(_:Unit)=>J0 Try.prog Fin n) x Q () ⟨T,[]⟩ w:=by
 refine zq18 (jU0 hFin n) (jC0 hFin n) zqp hc (λa w'=>a.tmps=T'/\CM W ob kb H op g c false 0 w') (λ_ _=>False) (λa w τ d h=>⟨h.1,h.2.re τ d⟩) (λ_ _ _ _ h=>h) (λτ d=>h _ (Lib.hid (hM.out.re τ d))) ?_ (λ_ _ h=>h.elim);rintro t w' ⟨e,hm⟩;simp only at e;subst e;exact hQ w' (Lib.hid hm)
theorem zq82{Fin:Machine->Trace->Prop}(hFin:Back Try.prog Fin){n ob kb c:Nat}{g:Nums}{W:World}(ct:Bool)(op:OpX)(hrep:NumRep (oneT ob) g W)(hk:W.heap[kb]?=some (.cells #[.int .i64 (wrap64 (c:Int))] 46))(hne:kb≠ob):
 CallsJ Try.prog (λ(_:Unit)=>J0 Try.prog Fin n) 14 #[.pointer (some ⟨ob,0,none⟩),svOf kb ct,op.val] (λ(_:Unit)e w'=>CPost ob kb (oG op g) (c+cfOf ct*oN op g) (oA op g) W e w') () W:=by
 refine zqdb (c:=Try.f14.body.getD .skip) (jU0 hFin n) Try.func14 zyk ?_;have ea:zqe Try.f14 #[.pointer (some ⟨ob,0,none⟩),svOf kb ct,op.val]=⟨#[.pointer (some ⟨ob,0,none⟩),svOf kb ct,op.val,undef,undef,undef,undef,undef,undef,undef,undef,undef,undef,undef,undef,undef,undef,undef,undef,undef,undef,undef,undef,undef,undef,undef,undef,undef,undef,undef,undef,undef,undef,undef,undef,undef,undef,undef,undef,undef,undef,undef,undef,undef,undef,undef,undef,undef,undef,undef,undef,undef,undef,undef,undef,undef,undef,undef,undef,undef,undef,undef,undef,undef,undef,undef,undef,undef,undef,undef,undef,undef,undef,undef,undef],[]⟩:=by kernel_rfl
 rw[ea,cc0];clear ea;obtain⟨H,hH⟩:∃H,W.heap.size=H:=⟨_,rfl⟩;have lo:ob<H:=hH▸(zqg (oneT ob)).lt _ _ _ hrep ⟨0,Nat.zero_lt_one,rfl⟩;have lk:kb<H:=hH▸zq7 hk;have HI:=Lib.hid (And.intro hrep (And.intro hk (And.intro hne (And.intro hH (And.intro lo lk)))));clear hrep hk hne hH lo lk;refine zqw (jU0 hFin n) ?_;refine zq18 (jU0 hFin n) (jC0 hFin n) zqp zyk (λa w'=>a.tmps=#[.pointer (some ⟨ob,0,none⟩),svOf kb ct,op.val,.pointer (some ⟨H,0,none⟩),undef,.pointer (some ⟨H+1,0,none⟩),.pointer (some ⟨H+2,0,none⟩),undef,undef,undef,undef,undef,undef,undef,undef,undef,undef,undef,undef,undef,undef,undef,undef,undef,undef,undef,undef,undef,undef,undef,undef,undef,undef,undef,undef,undef,undef,undef,undef,undef,undef,undef,undef,undef,undef,undef,undef,undef,undef,undef,undef,undef,undef,undef,undef,undef,undef,undef,undef,undef,undef,undef,undef,undef,undef,undef,undef,undef,undef,undef,undef,undef,undef,undef,undef]/\∃τ d,w'=re (((W.alloc (.cells #[.pointer (some ⟨ob,0,none⟩)] 35)).alloc (.cells op.cells.toArray 34)).alloc (.cells #[.bool false,.int .i64 0,.slice none 0 0] 49)) τ d) (λ_ _=>False) (λa w τ d h=>⟨h.1,by obtain⟨τ',d',e⟩:=h.2;exact⟨τ,d,by rw[e,re_re]⟩⟩) (λ_ _ _ _ h=>h) (λτ d=>?_) ?_ (λ_ _ h=>h.elim)
 . have hz:=HI.out.2.2.2.1;clear HI;obtain⟨u_,hu_⟩:∃c,headC (ccT 0)=c:=⟨_,rfl⟩;have eu_:=hu_;rw[hu_];simp only[ccT,headC,tailN,cqL,cqR,cqB,cqO,cqT,cqF,Try.f14,al_od]at eu_;subst eu_;clear hu_;unfold OpX.val;go_wp2;exact⟨rfl,rfl,τ,d,rfl⟩
 rintro t w' ⟨e,τ,d,rfl⟩;simp only at e;subst e;show wpJ _ _ _ () _ _;refine wpJ_re (jU0 hFin n) ?_ τ d;refine zqw (jU0 hFin n) ?_;have hx3:(((W.alloc (.cells #[.pointer (some ⟨ob,0,none⟩)] 35)).alloc (.cells op.cells.toArray 34)).alloc (.cells #[.bool false,.int .i64 0,.slice none 0 0] 49)).heap.size=H+3:=by simp only[zq4,HI.out.2.2.2.1]
 have n3:(((W.alloc (.cells #[.pointer (some ⟨ob,0,none⟩)] 35)).alloc (.cells op.cells.toArray 34)).alloc (.cells #[.bool false,.int .i64 0,.slice none 0 0] 49)).heap[H]?=some (.cells #[.pointer (some ⟨ob,0,none⟩)] 35):=zq9 (zq9 (by rw[<-HI.out.2.2.2.1];exact zqo _ _));have n5:(((W.alloc (.cells #[.pointer (some ⟨ob,0,none⟩)] 35)).alloc (.cells op.cells.toArray 34)).alloc (.cells #[.bool false,.int .i64 0,.slice none 0 0] 49)).heap[H+1]?=some (.cells op.cells.toArray 34):=zq9 (by rw[zq6,if_pos (by rw[zq4,HI.out.2.2.2.1])]);have n6:(((W.alloc (.cells #[.pointer (some ⟨ob,0,none⟩)] 35)).alloc (.cells op.cells.toArray 34)).alloc (.cells #[.bool false,.int .i64 0,.slice none 0 0] 49)).heap[H+2]?=some (.cells #[.bool false,.int .i64 0,.slice none 0 0] 49):=by rw[zq6,if_pos (by simp only[zq4,HI.out.2.2.2.1])]
 have b3':Beyond W (((W.alloc (.cells #[.pointer (some ⟨ob,0,none⟩)] 35)).alloc (.cells op.cells.toArray 34)).alloc (.cells #[.bool false,.int .i64 0,.slice none 0 0] 49)):=((Beyond.alloc _ _).trans (Beyond.alloc _ _)).trans (Beyond.alloc _ _);generalize (((W.alloc (.cells #[.pointer (some ⟨ob,0,none⟩)] 35)).alloc (.cells op.cells.toArray 34)).alloc (.cells #[.bool false,.int .i64 0,.slice none 0 0] 49))=w at hx3 n3 n5 n6 b3' |-;have HX:=Lib.hid (And.intro hx3 (And.intro n3 (And.intro n5 (And.intro n6 b3'))));clear hx3 n3 n5 n6 b3';refine zq18 (jU0 hFin n) (jC0 hFin n) zqp zyk (λa w'=>a.tmps=#[.pointer (some ⟨ob,0,none⟩),svOf kb ct,op.val,.pointer (some ⟨H,0,none⟩),undef,.pointer (some ⟨H+1,0,none⟩),.pointer (some ⟨H+2,0,none⟩),.pointer (some ⟨H+3,0,none⟩),undef,undef,undef,undef,undef,undef,undef,undef,undef,undef,undef,undef,undef,undef,undef,undef,undef,undef,undef,undef,undef,undef,undef,undef,undef,undef,undef,undef,undef,undef,undef,undef,undef,undef,undef,undef,undef,undef,undef,undef,undef,undef,undef,undef,undef,undef,undef,undef,undef,undef,undef,undef,undef,undef,undef,undef,undef,undef,undef,undef,undef,undef,undef,undef,undef,undef,undef]/\∃τ d,w'=re (w.alloc (.cells #[.bool false,.int .i64 0,.slice none 0 0] 49)) τ d) (λ_ _=>False) (λa w τ d h=>⟨h.1,by obtain⟨τ',d',e⟩:=h.2;exact⟨τ,d,by rw[e,re_re]⟩⟩) (λ_ _ _ _ h=>h) (λτ d=>?_) ?_ (λ_ _ h=>h.elim)
 . have hz:=HX.out.1;clear HX;obtain⟨u_,hu_⟩:∃c,headC (ccT 1)=c:=⟨_,rfl⟩;have eu_:=hu_;rw[hu_];simp only[ccT,headC,tailN,cqL,cqR,cqB,cqO,cqT,cqF,Try.f14,al_od]at eu_;subst eu_;clear hu_;go_wp2;exact⟨rfl,rfl,τ,d,rfl⟩
 rintro t w' ⟨e,τ,d,rfl⟩;simp only at e;subst e;show wpJ _ _ _ () _ _;refine wpJ_re (jU0 hFin n) ?_ τ d;have hM:CM W ob kb H op g c false 0 (w.alloc (.cells #[.bool false,.int .i64 0,.slice none 0 0] 49)):=by
  obtain⟨i1,i2,i3,i4,i5,i6⟩:=HI.out;obtain⟨x1,x2,x3,x4,x5⟩:=HX.out;have b:=x5.trans (Beyond.alloc w (.cells #[.bool false,.int .i64 0,.slice none 0 0] 49));refine⟨(zqg (oneT ob)).frame _ _ _ i1 λq hq=>b.2 q ((zqg (oneT ob)).lt _ _ _ i1 hq),b.heap i2,zq9 x2,zq9 x3,zq9 x4,by rw[zq6,if_pos x1.symm],i4,i5,i6,i3,by rw[zq4,x1];exact Nat.le_refl _,λq hq _ _=>b.2 q zyo⟩
 generalize (w.alloc (.cells #[.bool false,.int .i64 0,.slice none 0 0] 49))=w0 at hM |-;clear HX HI;have HM:=Lib.hid hM;clear hM;generalize w0=w at HM |-;refine zqw (jU0 hFin n) ?_;apply zq27 hFin zyk HM
 . intro w4 HM4;obtain⟨u_,hu_⟩:∃c,headC (ccT 2)=c:=⟨_,rfl⟩;have eu_:=hu_;rw[hu_];simp only[ccT,headC,tailN,cqL,cqR,cqB,cqO,cqT,cqF,Try.f14,al_od]at eu_;subst eu_;clear hu_;go_wp2;exact⟨rfl,rfl,HM4.out⟩
 clear HM;intro w HM;show wpJ _ _ _ () _ _;refine zqw (jU0 hFin n) ?_;rw[cc3];refine zqw (jU0 hFin n) ?_;apply zq27 hFin zyk HM
 . intro w4 HM4;have c5:w4.cell? ⟨H+1,0,none⟩=some (.int .i64 op.k):=(zq0 HM4.out.b5).trans rfl;obtain⟨u_,hu_⟩:∃c,cqL (headC (ccT 3))=c:=⟨_,rfl⟩;have eu_:=hu_;rw[hu_];simp only[ccT,headC,tailN,cqL,cqR,cqB,cqO,cqT,cqF,Try.f14,al_od]at eu_;subst eu_;clear hu_;go_wp2;exact⟨rfl,rfl,HM4.out⟩
 clear HM;intro w HM;show wpJ _ _ _ () _ _;refine zq7i (jU0 hFin n) ?_
 by_cases hk1:op.k=1
 . have d1:(op.k==1)=true:=by simp[hk1]
   have HK1:=Lib.hid hk1;clear hk1;show wpJ _ (ccB) _ () _ _;rw[show ccB=.seq (cqL (ccB)) (.cond (.tmp 12) (cqT (cqR (ccB))) (cqF (cqR (ccB))))by kernel_rfl];refine zqw (jU0 hFin n) ?_;apply zq27 hFin zyk HM
   . exact zx1f
   clear HM d1;intro w HM;show wpJ _ _ _ () _ _;refine zq2m (t:=true) (jU0 hFin n) rfl ?_;rw[if_pos rfl];obtain⟨x,hx⟩:=Tree.run_deepO ((getP 0:Proc (Nums×Unit) (Int×Bool)) (g,())).2 ((getP 0:Proc (Nums×Unit) (Int×Bool)) (g,())).1 (λk=>zq5c k 0 (g,()));obtain⟨h1,h2,h3⟩:=oRun_1 HK1.out hx;refine cc_k1 hFin HM.out hx λt w' h=>?_;rw[<-h1,<-h2,<-h3]at h;exact⟨rfl,_,h.1,rfl,h.2⟩
 . have d1:(op.k==1)=false:=by simp[hk1]
   have HK1:=Lib.hid hk1;clear hk1;show wpJ _ (ccB) _ () _ _;rw[show ccB=.seq (cqL (ccB)) (.cond (.tmp 12) (cqT (cqR (ccB))) (cqF (cqR (ccB))))by kernel_rfl];refine zqw (jU0 hFin n) ?_;apply zq27 hFin zyk HM
   . exact zx1f
   clear HM d1;intro w HM;show wpJ _ _ _ () _ _;refine zq2m (t:=false) (jU0 hFin n) rfl ?_;rw[if_neg zyd]
   by_cases hk2:op.k=2
   . have d2:(op.k==2)=true:=by simp[hk2]
     have HK2:=Lib.hid hk2;clear hk2;show wpJ _ (cqF (cqR ccB)) _ () _ _;rw[show cqF (cqR ccB)=.seq (cqL (cqF (cqR ccB))) (.cond (.tmp 23) (cqT (cqR (cqF (cqR ccB)))) (cqF (cqR (cqF (cqR ccB)))))by kernel_rfl];refine zqw (jU0 hFin n) ?_;apply zq27 hFin zyk HM
     . exact zx1e
     clear HM d2;intro w HM;show wpJ _ _ _ () _ _;refine zq2m (t:=true) (jU0 hFin n) rfl ?_;rw[if_pos rfl];obtain⟨x,hx⟩:=Tree.run_deepO ((setP 0 op.b:Proc (Nums×Unit) (Int×Bool)) (g,())).2 ((setP 0 op.b:Proc (Nums×Unit) (Int×Bool)) (g,())).1 (λk=>zqa7 k 0 op.b (g,()));obtain⟨h1,h2,h3⟩:=oRun_2 HK2.out hx;refine cc_k2 hFin HM.out hx λt w' h=>?_;rw[<-h1,<-h2,<-h3]at h;exact⟨rfl,_,h.1,rfl,h.2⟩
   . have d2:(op.k==2)=false:=by simp[hk2]
     have HK2:=Lib.hid hk2;clear hk2;show wpJ _ (cqF (cqR ccB)) _ () _ _;rw[show cqF (cqR ccB)=.seq (cqL (cqF (cqR ccB))) (.cond (.tmp 23) (cqT (cqR (cqF (cqR ccB)))) (cqF (cqR (cqF (cqR ccB)))))by kernel_rfl];refine zqw (jU0 hFin n) ?_;apply zq27 hFin zyk HM
     . exact zx1e
     clear HM d2;intro w HM;show wpJ _ _ _ () _ _;refine zq2m (t:=false) (jU0 hFin n) rfl ?_;rw[if_neg zyd]
     by_cases hk3:op.k=3
     . have d3:(op.k==3)=true:=by simp[hk3]
       have HK3:=Lib.hid hk3;clear hk3;show wpJ _ (cqF (cqR (cqF (cqR ccB)))) _ () _ _;rw[show cqF (cqR (cqF (cqR ccB)))=.seq (cqL (cqF (cqR (cqF (cqR ccB))))) (.cond (.tmp 36) (cqT (cqR (cqF (cqR (cqF (cqR ccB)))))) (cqF (cqR (cqF (cqR (cqF (cqR ccB)))))))by kernel_rfl];refine zqw (jU0 hFin n) ?_;apply zq27 hFin zyk HM
       . exact zx1a
       clear HM d3;intro w HM;show wpJ _ _ _ () _ _;refine zq2m (t:=true) (jU0 hFin n) rfl ?_;rw[if_pos rfl];obtain⟨x,hx⟩:=Tree.run_deepO ((makeL 0 (mkP 0 op) (triesN (heldV op.c)):Proc (Nums×Unit) (Int×Int)) (g,())).2 ((makeL 0 (mkP 0 op) (triesN (heldV op.c)):Proc (Nums×Unit) (Int×Int)) (g,())).1 (λk=>zq4n k 0 (tickN_deep.bind λ_=>zq2c _) _ (g,()));obtain⟨h1,h2,h3⟩:=oRun_3 HK3.out hx;have hz:=zq6q (mk:=(mkP 0 op)) 0 (triesN (heldV op.c)) (g,()) x hx;refine cc_r12 hFin HM.out hx λT w' hs t6 t7 t8 hM=>?_;rw[<-h1,<-h3]at hM;obtain⟨q,hq,hq2⟩:=lit75 hs;rw[hq2 6 zyd]at t6;rw[hq2 7 zyd]at t7;rw[hq2 8 zyd]at t8;rw[hq,Option.some.inj t6,Option.some.inj t7,Option.some.inj t8,h2];show wpJ _ _ _ () _ _;exact zq81 hFin hM hz
     . have d3:(op.k==3)=false:=by simp[hk3]
       have HK3:=Lib.hid hk3;clear hk3;show wpJ _ (cqF (cqR (cqF (cqR ccB)))) _ () _ _;rw[show cqF (cqR (cqF (cqR ccB)))=.seq (cqL (cqF (cqR (cqF (cqR ccB))))) (.cond (.tmp 36) (cqT (cqR (cqF (cqR (cqF (cqR ccB)))))) (cqF (cqR (cqF (cqR (cqF (cqR ccB)))))))by kernel_rfl];refine zqw (jU0 hFin n) ?_;apply zq27 hFin zyk HM
       . exact zx1a
       clear HM d3;intro w HM;show wpJ _ _ _ () _ _;refine zq2m (t:=false) (jU0 hFin n) rfl ?_;rw[if_neg zyd]
       by_cases hk4:op.k=4
       . have d4:(op.k==4)=true:=by simp[hk4]
         have HK4:=Lib.hid hk4;clear hk4;show wpJ _ (cqF (cqR (cqF (cqR (cqF (cqR ccB)))))) _ () _ _;rw[show cqF (cqR (cqF (cqR (cqF (cqR ccB)))))=.seq (cqL (cqF (cqR (cqF (cqR (cqF (cqR ccB))))))) (.cond (.tmp 49) (cqT (cqR (cqF (cqR (cqF (cqR (cqF (cqR ccB)))))))) (cqF (cqR (cqF (cqR (cqF (cqR (cqF (cqR ccB)))))))))by kernel_rfl];refine zqw (jU0 hFin n) ?_;apply zq27 hFin zyk HM
         . exact zx19
         clear HM d4;intro w HM;show wpJ _ _ _ () _ _;refine zq2m (t:=true) (jU0 hFin n) rfl ?_;rw[if_pos rfl];obtain⟨x,hx⟩:=Tree.run_deepO ((makeL 0 (Proc.ret (5,false)) (triesN (heldV op.c)):Proc (Nums×Unit) (Int×Int)) (g,())).2 ((makeL 0 (Proc.ret (5,false)) (triesN (heldV op.c)):Proc (Nums×Unit) (Int×Int)) (g,())).1 (λk=>zq4n k 0 (Proc.Deep.ret _) _ (g,()));obtain⟨h1,h2,h3⟩:=oRun_4 HK4.out hx;have hz:=zq6q (mk:=(Proc.ret (5,false))) 0 (triesN (heldV op.c)) (g,()) x hx;refine cc_r14 hFin HM.out hx λT w' hs t6 t7 t8 hM=>?_;rw[<-h1,<-h3]at hM;obtain⟨q,hq,hq2⟩:=lit75 hs;rw[hq2 6 zyd]at t6;rw[hq2 7 zyd]at t7;rw[hq2 8 zyd]at t8;rw[hq,Option.some.inj t6,Option.some.inj t7,Option.some.inj t8,h2];show wpJ _ _ _ () _ _;exact zq81 hFin hM hz
       . have d4:(op.k==4)=false:=by simp[hk4]
         have HK4:=Lib.hid hk4;clear hk4;show wpJ _ (cqF (cqR (cqF (cqR (cqF (cqR ccB)))))) _ () _ _;rw[show cqF (cqR (cqF (cqR (cqF (cqR ccB)))))=.seq (cqL (cqF (cqR (cqF (cqR (cqF (cqR ccB))))))) (.cond (.tmp 49) (cqT (cqR (cqF (cqR (cqF (cqR (cqF (cqR ccB)))))))) (cqF (cqR (cqF (cqR (cqF (cqR (cqF (cqR ccB)))))))))by kernel_rfl];refine zqw (jU0 hFin n) ?_;apply zq27 hFin zyk HM
         . exact zx19
         clear HM d4;intro w HM;show wpJ _ _ _ () _ _;refine zq2m (t:=false) (jU0 hFin n) rfl ?_;rw[if_neg zyd];have e5:(onceP 0 op:Proc (Nums×Unit) Ans).run (g,())=((g,()),some Ans.none,0):=by unfold onceP;rw[if_neg HK1.out,if_neg HK2.out,if_neg HK3.out,if_neg HK4.out];rfl
         have hA5:oA op g=Ans.none:=by unfold oA;rw[e5];rfl
         have hG5:oG op g=g:=by unfold oG;rw[e5]
         have hN5:oN op g=0:=by unfold oN;rw[e5]
         rw[hA5,hG5,hN5,Nat.mul_zero,Nat.add_zero];clear e5 hA5 hG5 hN5;obtain⟨u_,hu_⟩:∃c,cqF (cqR (cqF (cqR (cqF (cqR (cqF (cqR ccB)))))))=c:=⟨_,rfl⟩;have eu_:=hu_;rw[hu_];simp only[ccB,ccT,headC,tailN,cqL,cqR,cqB,cqO,cqT,cqF,Try.f14,al_od]at eu_;subst eu_;clear hu_;refine zq18 (jU0 hFin n) (jC0 hFin n) zqp zyk (λ_ _=>False) (λa w'=>CRet ob kb g c Ans.none W a w') (λ_ _ _ _ h=>h) (λ_ _ τ d h=>h.re τ d) (λτ d=>?_) (λ_ _ h=>h.elim) (λt w h=>⟨rfl,_,h.1,rfl,h.2⟩);have hM:=HM.out.re τ d;generalize re w τ d=w4 at hM |-;have a0:w4.cell? ⟨H+3,0,none⟩=some (.bool false):=(zq0 hM.b7).trans rfl;have a1:w4.cell? ⟨H+3,1,none⟩=some (.int .i64 0):=(zq0 hM.b7).trans rfl;have a2:w4.cell? ⟨H+3,2,none⟩=some (.slice none 0 0):=(zq0 hM.b7).trans rfl;have z0:w4.frozen? ⟨H+3,0,none⟩=false:=zq3 hM.b7;have z1:w4.frozen? ⟨H+3,1,none⟩=false:=zq3 hM.b7;have y0:w4.cell? ⟨H+2,0,none⟩=some (.bool false):=(zq0 hM.b6).trans rfl;have y1:w4.cell? ⟨H+2,1,none⟩=some (.int .i64 0):=(zq0 hM.b6).trans rfl;have y2:w4.cell? ⟨H+2,2,none⟩=some (.slice none 0 0):=(zq0 hM.b6).trans rfl;have x0:w4.frozen? ⟨H+2,0,none⟩=false:=zq3 hM.b6;have x1:w4.frozen? ⟨H+2,1,none⟩=false:=zq3 hM.b6;have x2:w4.frozen? ⟨H+2,2,none⟩=false:=zq3 hM.b6;have HM4:=Lib.hid hM;clear hM z0 z1 HM;go_wp2;exact⟨rfl,λτ d=>zq4d HM4.out rfl τ d,HM4.out.fin _ _ _⟩
structure PlayedR{S1:Type}(N:Nat)(w:World)(r:TSt (S1×(Nat->List Ans)))(st:List Int)(ab:Nat)(ov sv:Value)(am:AnsM)(w':World):Prop where
 size:w.heap.size<=w'.heap.size
 old:∀b,b<w.heap.size->w'.heap[b]?=w.heap[b]?
 ans:zq3s tT ab N am w'
 ast:am.st=r.s.2
 abl:w.heap.size<=ab
 ansn:∀i b,i<N->am.X i b≠none->w.heap.size<=b
 orow:w'.ownsRow w.heap.size 3 1 ov r.ord.length (r.ord.map λ(i:Nat)=>.int .i64 i)
 srow:w'.ownsRow w.heap.size 2 1 sv st.length (st.map (Value.int .i64))
 rowf:∀x,ov.ownBlock=some x->x≠ab/\∀i,i<N->am.X i x=none
 srowf:∀x,sv.ownBlock=some x->x≠ab/\(∀i,i<N->am.X i x=none)/\ov.ownBlock≠some x
theorem PlayedR.re {S1:Type}{N:Nat}{w w':World}{r:TSt (S1×(Nat->List Ans))}{st:List Int}{ab:Nat}{ov sv:Value}{am:AnsM}(h:PlayedR N w r st ab ov sv am w')(τ:Nat->Question->Nat)(d:Nat):PlayedR N w r st ab ov sv am (Go.Car.re w' τ d):=
 ⟨h.size,h.old,⟨h.ans.hd,h.ans.row,h.ans.blk,h.ans.nab,h.ans.sep⟩,h.ast,h.abl,h.ansn,h.orow,h.srow,h.rowf,h.srowf⟩
theorem zqga{M1 S1:Type}{C:Core M1 S1}{N H:Nat}{l₀ l':M1}{w wb w2 w':World}{r:TSt (S1×(Nat->List Ans))}{ab:Nat}{v sv:Value}{am:AnsM}{st:List Int}(h:OpsRes C N l₀ wb r ab v l' am w2)(hw:w.heap.size=H)(hwb:H+1<=wb.heap.size)(hob:∀b,b<H->wb.heap[b]?=w.heap[b]?)
 (hl:∀b,C.foot l₀ b->H+1<=b) (hsz:w2.heap.size<=w'.heap.size) (hold:∀x,x<w2.heap.size->x≠H->w'.heap[x]?=w2.heap[x]?) (hs:w'.ownsRow w2.heap.size 2 1 sv st.length (st.map (Value.int .i64))):PlayedR N w r st ab v sv am w':=by
 have h1:=h.size;have h2:=h.abl;have han:∀i b,i<N->am.X i b≠none->H+1<=b:=λi b hi hb=>(h.ansn i b hi hb).elim (hl b) (λx=>by omega);refine⟨by omega,λb hb=>(hold b zyo zyo).trans ((h.old b zyo λx=>by have:=hl b x;omega).trans (hob b zyo)),⟨(hold ab (zq7 h.ans.hd) zyo).trans h.ans.hd,h.ans.row,λi b o hi hb=>(hold b (zq7 (h.ans.blk i b o hi hb)) (by have:=han i b hi zx41;omega)).trans (h.ans.blk i b o hi hb),h.ans.nab,h.ans.sep⟩,h.ast,by omega,λi b hi hb=>by have:=han i b hi hb;omega,?_,zq3k hs zyo,λx hx=>(h.rowf x hx).2,λx hx=>?_⟩
 . refine zq3k (zqs h.row λg hg=>hold g (own_lt h.row hg).2.2 ?_) zyo;have:=(own_lt h.row hg).2.1;omega
 . have h3:=(own_lt hs hx).2.1;refine⟨?_,λi hi=>?_,λe=>?_⟩
   . have:=zq7 h.ans.hd;omega
   . cases ho:am.X i x with
     |none=>rfl
     |some o=>have:=zq7 (h.ans.blk i x o hi ho);omega
   . have:=(own_lt h.row e).2.2;omega
structure NumsI(w0:World)(l:List Int)(v:Value)(w:World):Prop where
 be:Beyond w0 w
 row:w.ownsRow w0.heap.size 2 1 v l.length (l.map (Value.int .i64))
theorem zq96{w0 w:World}{l:List Int}{v:Value}(h:NumsI w0 l v w)(hl:l.length<=1048576)(a b c:Int):
 ∃p C w2,(Builtin.append_ #[27,27] 27 #[v,.slice (some ⟨w.heap.size,0,none⟩) 3 3]).run Try.prog (w.alloc (.cells #[.int .i64 a,.int .i64 b,.int .i64 c] 2))=.ok (.slice p (l.length+3) C) w2/\NumsI w0 (l++[a,b,c]) (.slice p (l.length+3) C) w2:=by
 obtain⟨ti,hti,hz,hz1,hz2⟩:∃ti,Try.prog.info? 2=some ti/\ti.zero=some (.int .i64 0)/\ti.size=1/\ti.bytes=8:=⟨_,rfl,rfl,rfl,rfl⟩;have hr:(w.alloc (.cells #[.int .i64 a,.int .i64 b,.int .i64 c] 2)).ownsRow w0.heap.size 2 1 v l.length (l.map (Value.int .i64)):=zq1k h.row _;have hs:=zq4 w (.cells #[.int .i64 a,.int .i64 b,.int .i64 c] 2);have hb0:=h.be.1;obtain⟨v',w',hrun,ho,hw,hat,hkeep,_⟩:=app_wr (P:=Try.prog) (w.alloc (.cells #[.int .i64 a,.int .i64 b,.int .i64 c] 2)) 27 27 2 ti (.int .i64 0) 1 8 zyk hti hz hz1 hz2 rfl zyd hr zyo (some ⟨w.heap.size,0,none⟩) 3 3 [.int .i64 a,.int .i64 b,.int .i64 c] rfl (λ_=>⟨_,rfl,λj u hj=>zq4o (T:=2) rfl j u (by simpa using hj)⟩) (by simp[Value.oneCell']) zx3t zyo;obtain⟨p,C,rfl,-,-⟩:=zq2d ho;refine⟨p,C,w',hrun,⟨by have:=hw.size;omega,λx hx=>?_⟩,by rw[List.length_append,List.map_append];exact ho⟩;exact(hw.old x zyo λhv=>by have:=(own_lt h.row hv).2.1;omega).trans (((Beyond.alloc w _).2 x zyo).trans (h.be.2 x hx))
def numL(g:Nums)(n:Nat):List Int:=(List.range n).flatMap λc=>[g c 0,g c 1,g c 2]
theorem zq6r(g:Nums)(n:Nat):numL g (n+1)=numL g n++[g n 0,g n 1,g n 2]:=by
 unfold numL;rw[List.range_succ,List.flatMap_append];simp
theorem zq2a(g:Nums):∀n,(numL g n).length=3*n
 |0=>rfl
 |n+1=>by rw[zq6r,List.length_append,zq2a g n];simp;omega
theorem zqh5{w:World}{T:NumT}{g:Nums}(hR:NumRep T g w)(hlen:∀c,c<T.N->T.len c=3)(hN:T.N<=64){pb Cp:Nat}{ps:Array Value}(hp:w.heap[pb]?=some (.cells ps 35))(hps:∀c,c<T.N->ps[c]?=some (.pointer (some ⟨T.ob c,0,none⟩))):
 Calls Try.prog 36 #[.slice (some ⟨pb,0,none⟩) T.N Cp] w λe w'=>∃v,e=.returned v/\NumsI w (numL g T.N) v w':=by
 obtain⟨N,hNN⟩:∃N,T.N=N:=⟨_,rfl⟩;have HR:=Lib.hid (And.intro hR (And.intro hlen (And.intro hN (And.intro hp (And.intro hps hNN)))));rw[hNN];clear hR hlen hN hp hps hNN
 go_enter Try.func36,Try.ntmps36
 go_wp2_with (fail)
 go_loopg [3,11] N (λk s3 s11 wr=>∃(j:Nat)(p:Option Addr)(C:Nat),k=N - j/\j<=N/\s11=.int .i64 j/\s3=.slice p (3*j) C/\NumsI w (numL g j) (.slice p (3*j) C) wr)
 case atStart=>exact⟨0,none,0,rfl,Nat.zero_le _,rfl,rfl,Beyond.refl _,World.ownsRow_nil _ _ _ _⟩
 case round=>
  obtain⟨j,p,C,hk,hj,rfl,rfl,hI⟩:=hrel;have HI:=Lib.hid hI
  by_cases hlt:j<N
  . have hlt':(j:Int)<(N:Int):=by omega
    have hj0:(0:Int)<=j:=by omega
    have hj64:(j:Int)<64:=by have:=HR.out.2.2.1;have:=HR.out.2.2.2.2.2;omega
    have hjT:j<T.N:=by have:=HR.out.2.2.2.2.2;omega
    have cp:wr.cell? ⟨pb,j,none⟩=some (.pointer (some ⟨T.ob j,0,none⟩)):=hI.be.cell ((zq0 HR.out.2.2.2.1).trans (HR.out.2.2.2.2.1 j hjT));have hl3:=HR.out.2.1 j hjT;have HC:=Lib.hid (zq5q (hI.be.cell (HR.out.1.cell hjT (j:=0) zyo)) (hI.be.cell (HR.out.1.cell hjT (j:=1) zyo)) (hI.be.cell (HR.out.1.cell hjT (j:=2) zyo)));clear hl3 hI
    go_wp2_with (fail)
    refine Calls.mono HC.out ?_;rintro e w' ⟨rfl,n,rfl⟩;have hI2:NumsI w (numL g j) (.slice p (3*j) C) (wr.drewN n):=⟨HI.out.be.trans ⟨Nat.le_refl _,λ_ _=>rfl⟩,zqs HI.out.row λ_ _=>rfl⟩;clear cp;generalize wr.drewN n=w5 at hI2 |-;obtain⟨p2,C2,w2,r,hI3⟩:=zq96 (w0:=w) (w:=w5) (l:=numL g j) hI2 (by rw[zq2a];have:=HR.out.2.2.1;omega) (g j 0) (g j 1) (g j 2);rw[zq2a]at r hI3;rw[<-zq6r]at hI3;have H3:=Lib.hid hI3;clear hI2 hI3
    go_wp2_with (at_builtin;go_loud (refine zq45 rfl (.tmp 21) (.tmp 25) 27 rfl r ?_))
    go_roundg (N - (j+1))
    case measure=>omega
    case rel=>exact⟨j+1,p2,C2,rfl,by omega,zx36,by rw[show 3*(j+1)=3*j+3 by omega],by rw[show 3*(j+1)=3*j+3 by omega];exact H3.out⟩
  . obtain rfl:N=j:=by omega
    clear hk hj hlt;go_wp2;go_ret;exact⟨_,rfl,HI.out⟩
def onceN(cells:Int):Nat:=(min (max cells 1) 64).toNat
theorem zq6t(c:Int):0<onceN c/\onceN c<=64:=by unfold onceN;omega
def zq30(ob:Nat->Nat)(j:Nat):List Value:=(List.range j).map λc=>.pointer (some ⟨ob c,0,none⟩)
structure zq49(w0:World)(vb j:Nat)(ob:Nat->Nat)(v:Value)(w:World):Prop where
 be:Beyond w0 w
 vbk:w.heap[vb]?=some (.cells #[v] 108)
 row:w.ownsRow w0.heap.size 35 1 v j (zq30 ob j)
 blk:∀c,c<j->w.heap[ob c]?=some (.cells #[.int .i64 0,.int .i64 0,.int .i64 0] 43)
 lo:∀c,c<j->w0.heap.size<=ob c
 inj:∀c d,c<j->d<j->ob c=ob d->c=d
 vlo:w0.heap.size<=vb
theorem zqfd{w0 wr W w2:World}{vb j q g cap C:Nat}{p:Option Addr}{ob:Nat->Nat}(h:zq49 w0 vb j ob (.slice p j C) wr)(hq:wr.heap.size=q)
 (hW:W.heap=((wr.alloc (.cells #[.int .i64 0,.int .i64 0,.int .i64 0] 43)).alloc (.cells #[.pointer (some ⟨q,0,none⟩)] 35)).heap)
 (hrow:w2.ownsRow w0.heap.size 35 1 (.slice (some ⟨g,0,none⟩) (j+1) cap) (j+1) (zq30 ob j++[.pointer (some ⟨q,0,none⟩)])) (hgr:W.grownBy w2 (Value.slice p j C).ownBlock):
 zq49 w0 vb (j+1) (upd' ob j q) (.slice (some ⟨g,0,none⟩) (j+1) cap) (w2.setCell ⟨vb,0,none⟩ (.slice (some ⟨g,0,none⟩) (j+1) cap)):=by
 have a0:∀b o,wr.heap[b]?=some o->W.heap[b]?=some o:=λb o hb=>by rw[hW];exact zq9 (zq9 hb)
 have aq:W.heap[q]?=some (.cells #[.int .i64 0,.int .i64 0,.int .i64 0] 43):=by rw[hW,<-hq];exact zq9 (zqo _ _)
 have hsz:W.heap.size=q+2:=by rw[hW,zq4,zq4,hq]
 have keep:∀b o,W.heap[b]?=some o->(Value.slice p j C).ownBlock≠some b->w2.heap[b]?=some o:=λb o hb hn=>(hgr.block b (zq7 hb) (λe=>hn e.symm)).trans hb;have set1:∀b o,w2.heap[b]?=some o->b≠vb->(w2.setCell ⟨vb,0,none⟩ (.slice (some ⟨g,0,none⟩) (j+1) cap)).heap[b]?=some o:=λb o hb hn=>(zq8 _ _ _ _ hn).trans hb;have hv2:w2.heap[vb]?=some (.cells #[.slice p j C] 108):=keep _ _ (a0 _ _ h.vbk) (zqt h.row h.vbk zyd);have hb0:=h.be.1;refine⟨⟨?_,λb hb=>?_⟩,?_,?_,λc hc=>?_,λc hc=>?_,λc d hc hd e=>?_,h.vlo⟩
 . rw[zqf];have:=hgr.size;omega
 . rw[zq8 _ _ _ _ (show b≠vb by have:=h.vlo;omega)];refine(hgr.block b zyo (λe=>?_)).trans ?_
   . have:=(own_lt h.row e.symm).2.1;omega
   . rw[hW,zq6,if_neg zx3h,zq6,if_neg zyo];exact h.be.2 b hb
 . exact zqa _ _ _ _ hv2
 . have e:zq30 (upd' ob j q) (j+1)=zq30 ob j++[.pointer (some ⟨q,0,none⟩)]:=by
    unfold zq30;rw[List.range_succ,List.map_append];congr 1
    . refine List.map_congr_left λc hc=>?_;rw[zqd _ _ (by have:=List.mem_range.1 hc;omega)]
    . simp
   rw[e];exact zqs hrow λg' hg'=>zq8 _ _ _ _ λe2=>zqt hrow hv2 zyd (by rw[hg',show g'=vb from e2])
 . by_cases e:c=j
   . subst e;rw[upd'_same];refine set1 _ _ (keep _ _ aq λe=>?_) λe=>?_
     . have:=(own_lt h.row e).2.2;omega
     . have:=zq7 h.vbk;omega
   . rw[zqd _ _ e];have hb:=h.blk c zyo;exact set1 _ _ (keep _ _ (a0 _ _ hb) (zqt h.row hb zyd)) λe2=>by rw[e2]at hb;exact absurd (zq3e hb h.vbk) zyd
 . by_cases e:c=j
   . subst e;rw[upd'_same];omega
   . rw[zqd _ _ e];exact h.lo c zyo
 . by_cases e1:c=j
   . by_cases e2:d=j
     . omega
     . subst e1;rw[upd'_same,zqd _ _ e2]at e;have:=zq7 (h.blk d zyo);omega
   . by_cases e2:d=j
     . subst e2;rw[upd'_same,zqd _ _ e1]at e;have:=zq7 (h.blk c zyo);omega
     . rw[zqd _ _ e1,zqd _ _ e2]at e;exact h.inj c d zyo zyo e
structure NewOnces(w:World)(T:NumT)(vb pb Cp:Nat)(ps:Array Value)(w':World):Prop where
 be:Beyond w w'
 rep:NumRep T (λ_ _=>0) w'
 len:∀c,c<T.N->T.len c=3
 lo:∀c,c<T.N->w.heap.size<=T.ob c
 vlo:w.heap.size<=vb
 plo:w.heap.size<=pb
 vbk:w'.heap[vb]?=some (.cells #[.slice (some ⟨pb,0,none⟩) T.N Cp] 108)
 pbk:w'.heap[pb]?=some (.cells ps 35)
 ps':∀c,c<T.N->ps[c]?=some (.pointer (some ⟨T.ob c,0,none⟩))
 sep:∀c,c<T.N->vb≠T.ob c/\pb≠T.ob c
theorem NewOnces.re {w w':World}{T:NumT}{vb pb Cp:Nat}{ps:Array Value}(h:NewOnces w T vb pb Cp ps w')(τ:Nat->Question->Nat)(d:Nat):NewOnces w T vb pb Cp ps (Go.Car.re w' τ d):=⟨h.be,⟨h.rep.blk,h.rep.inj⟩,h.len,h.lo,h.vlo,h.plo,h.vbk,h.pbk,h.ps',h.sep⟩
theorem NewOnces.of_re {w w':World}{T:NumT}{vb pb Cp:Nat}{ps:Array Value}{τ:Nat->Question->Nat}{d:Nat}(h:NewOnces (Go.Car.re w τ d) T vb pb Cp ps w'):NewOnces w T vb pb Cp ps w':=⟨h.be,h.rep,h.len,h.lo,h.vlo,h.plo,h.vbk,h.pbk,h.ps',h.sep⟩
theorem zqfg{w w':World}{vb j:Nat}{ob:Nat->Nat}{v:Value}(h:zq49 w vb j ob v w')(hj:0<j):∃pb Cp ps,v=.slice (some ⟨pb,0,none⟩) j Cp/\NewOnces w ⟨j,ob,λ_=>3,λ_=>43⟩ vb pb Cp ps w':=by
 rcases h.row.2 with⟨_,h0⟩|⟨g,cap,cur,rfl,hb,hg,h1,h2,h3,h4⟩
 . omega
 refine⟨g,cap,cur,rfl,h.be,⟨λc hc=>?_,h.inj⟩,λ_ _=>rfl,h.lo,h.vlo,hb,h.vbk,hg,λc hc=>?_,λc hc=>⟨?_,?_⟩⟩
 . exact h.blk c hc
 . have hc':c<j:=hc;have:(cur.toList.take (j*1))[c]?=some (Value.pointer (some ⟨ob c,0,none⟩)):=by
    rw[h4];unfold zq30;simp[hc']
   rw[List.getElem?_take,if_pos zyo]at this;simpa using this
 . exact zq14 h.vbk (h.blk c hc) zyd
 . exact zq14 hg (h.blk c hc) zyd
theorem zqdq(cells:Int)(w:World):Calls Try.prog 34 #[.int .i64 cells] w λe w'=>∃T vb pb Cp ps,T.N=onceN cells/\NewOnces w T vb pb Cp ps w'/\e=.returned (.tuple #[.slice (some ⟨pb,0,none⟩) T.N Cp,.func (.func 63) #[] #[.pointer (some ⟨vb,0,none⟩)]]):=by
 obtain⟨H,hH⟩:∃H,w.heap.size=H:=⟨_,rfl⟩;obtain⟨N,hNN⟩:∃N,onceN cells=N:=⟨_,rfl⟩;have hN:0<N/\N<=64:=hNN▸zq6t cells;rw[hNN];obtain⟨m,hM⟩:∃m:Int,(if cells<1 then 1 else cells)=m:=⟨_,rfl⟩;have hNi:(if(64:Int)<m then 64 else m)=(N:Int):=by
  rw[<-hM];unfold onceN at hNN;split<;>split<;>omega
 have HH:=Lib.hid (And.intro hH hNN);have HN:=Lib.hid hN;have hI0:zq49 w H 0 (λ_=>0) (.slice none 0 0) (w.alloc (.cells #[.slice none 0 0] 108)):=
  ⟨Beyond.alloc _ _,by rw[<-hH];exact zqo _ _,World.ownsRow_nil _ _ _ _,λc hc=>absurd hc (Nat.not_lt_zero _),λc hc=>absurd hc (Nat.not_lt_zero _),λc d hc=>absurd hc (Nat.not_lt_zero _),by omega⟩
 have HI0:=Lib.hid hI0;clear hNN hN hI0
 go_enter Try.func34,Try.ntmps34
 go_wp2_with (fail)
 clear hM hNi hH
 go_loopg [8] N (λk s8 wr=>∃(j:Nat)(p:Option Addr)(C:Nat)(ob:Nat->Nat),k=N - j/\j<=N/\s8=.int .i64 j/\zq49 w H j ob (.slice p j C) wr)
 case atStart=>exact⟨0,none,0,_,rfl,Nat.zero_le _,rfl,HI0.out⟩
 case round=>
  obtain⟨j,p,C,ob,hk,hj,rfl,hI⟩:=hrel;have HI:=Lib.hid hI
  by_cases hlt:j<N
  . have hlt':(j:Int)<(N:Int):=by omega
    have hj0:(0:Int)<=j:=by omega
    have hj64:(j:Int)<64:=by have:=HN.out;omega
    have c4:=(zq0 (off:=0) hI.vbk).trans rfl;have f4:=zq3 (off:=0) hI.vbk;have c4a:∀o1:Obj,(wr.alloc o1).cell? ⟨H,0,none⟩=some (.slice p j C):=λo1=>(zq0 (zq9 (o:=o1) hI.vbk)).trans rfl;have c4b:∀o1 o2:Obj,((wr.alloc o1).alloc o2).cell? ⟨H,0,none⟩=some (.slice p j C):=λo1 o2=>(zq0 (zq9 (o:=o2) (zq9 (o:=o1) hI.vbk))).trans rfl;obtain⟨q,hq⟩:∃q,wr.heap.size=q:=⟨_,rfl⟩;have HQ:=Lib.hid hq;have hsz0:w.heap.size<=wr.heap.size:=hI.be.1;have HRW:∀o1 o2:Obj,((wr.alloc o1).alloc o2).ownsRow w.heap.size 35 1 (.slice p j C) j (zq30 ob j):=λo1 o2=>zq1k (zq1k hI.row _) _;have HRX:=Lib.hid (And.intro HRW hsz0);have ON:=Lib.hid zq6u;have hvk:∀(o1 o2:Obj)w2,(((wr.alloc o1).alloc o2).drew).grownBy w2 (Value.slice p j C).ownBlock->w2.heap[H]?=some (.cells #[.slice p j C] 108):=λo1 o2 w2 hg=>by
     have h1:=zq9 (o:=o2) (zq9 (o:=o1) hI.vbk);exact(hg.block H (zq7 h1) (λe=>zqt hI.row hI.vbk zyd e.symm)).trans h1
    have HVK:=Lib.hid hvk;clear hI HRW hsz0 hvk
    go_wp2_with (fail)
    have HKJ:=Lib.hid (And.intro hk hj64);clear hlt' hj0 hj64 hk hj;obtain⟨ti,hti,hz,hz1,hz2⟩:∃ti,Try.prog.info? 35=some ti/\ti.zero=some (.pointer none)/\ti.size=1/\ti.bytes=8:=⟨_,rfl,rfl,rfl,rfl⟩;have HT:=Lib.hid (And.intro hti (And.intro hz (And.intro hz1 hz2)));clear hti hz hz1 hz2;have hund:Try.prog.underlying 108=some (.slice 35):=by kernel_rfl
    have HU:=Lib.hid hund;clear hund;have hnw:∀o1:Obj,∀jj u,[Value.pointer (some ⟨q,0,none⟩)][jj]?=some u->((wr.alloc o1).alloc (.cells #[.pointer (some ⟨q,0,none⟩)] 35)).drew.cell? ((⟨q+1,0,none⟩:Addr).add jj)=some u:=λo1 jj u hj=>zq3h (w:=wr.alloc o1) (T:=35) (B:=q+1) (by rw[zq4,HQ.out]) jj u hj;have HNW:=Lib.hid hnw;clear hnw
    go_region_law (first
     |(go_simp;go_at_call 13;refine Calls.mono (ON.out _) ?_;rintro e w' ⟨rfl,rfl⟩)
     |(refine step_append_lies _ rfl (.tmp 10) (.tmp 12) 108 rfl w.heap.size 35 ti (.pointer none) 1 8 HU.out HT.out.1 HT.out.2.1 HT.out.2.2.1 HT.out.2.2.2 rfl Nat.one_pos (.slice p j C) j (zq30 ob j) rfl (HRX.out.1 _ _) ⟨q+1,0,none⟩ 1 1 [.pointer (some ⟨q,0,none⟩)] rfl rfl (HNW.out _) ?_ Nat.one_pos ?_ ?_ ?_ (q+2) ?_ ?_
       . intro u hu;rw[List.mem_singleton.1 hu];rfl
       . have:=HN.out;simp only[maxLen];omega
       . have:=HN.out;omega
       . have:=HRX.out.2;have:=HQ.out;show _<=((wr.alloc _).alloc _).heap.size;rw[zq4,zq4];omega
       . show((wr.alloc _).alloc _).heap.size=_;rw[zq4,zq4,HQ.out]
       intro g cap w2 k1 k2 k3 k4;have HK:=Lib.hid (And.intro k1 k2);have cS:=(zq0 (off:=0) (HVK.out _ _ _ k2)).trans rfl;have fS:=zq3 (off:=0) (HVK.out _ _ _ k2);clear k1 k2 k3 k4))
    all_goals(
     go_wp2_with (fail)
     go_roundg (N - (j+1))
     case measure=>have:=HKJ.out.1;omega
     case rel=>have hj64:=HKJ.out.2;exact⟨j+1,_,_,upd' ob j q,rfl,by omega,zx36,zqfd HI.out HQ.out zx2p HK.out.1 HK.out.2⟩)
  . obtain rfl:N=j:=by omega
    clear hk hj hlt;obtain⟨pb,Cp,ps,e,hnew⟩:=zqfg hI (by have:=HN.out;omega);have c4:=(zq0 (off:=0) hI.vbk).trans rfl;rw[e]at c4;have HW:=Lib.hid (And.intro hnew e);clear hI hnew e;go_wp2;refine bodyPost_ret (v:=.tuple #[.slice (some ⟨pb,0,none⟩) N Cp,.func (.func 63) #[] #[.pointer (some ⟨H,0,none⟩)]]) ?_ rfl ⟨_,_,_,_,_,rfl,HW.out.1,rfl⟩;simp only[results,Try.f34];simp[go_sem]
noncomputable def oplT(n:Nat):Code:=tailN n (Try.f11.body.getD .skip)
theorem opl0:Try.f11.body.getD .skip=.seq (headC (oplT 0)) (.seq (headC (oplT 1)) (.seq (headC (oplT 2)) (oplT 3))):=by kernel_rfl
def onceT(NC:Nat)(ops:Nat->List OpX)(N:Nat)(mo:Int)(sched:List Int):TSt (Nums×(Nat->List Ans)):=playT (λi=>opsP i (doerP NC) (ops i)) N (min mo.toNat 1048576) sched (λ_ _=>0,λ_=>[])
theorem zqff{Fin:Machine->Trace->Prop}(hFin:Back Try.prog Fin){n:Nat}(hn:0<n){RP:Nat->Option Obj}{w:World}{np Cn N Cs:Nat}{pp scp:Option Addr}{sp:Nat->Option Addr}{L Cp:Nat->Nat}{ops:Nat->List OpX}{sched:List Int}{mo cells:Int}
 (hRP:∀b o,RP b=some o->w.heap[b]?=some o) (ho:OpsAt w RP pp np N sp L Cp ops) (hsl:sched.length<=4611686018427387904)
 (hs:sched≠[]->∃sb off,scp=some ⟨sb,off,none⟩/\∀j x,sched[j]?=some x->w.cell? ⟨sb,off+j,none⟩=some (.int .i64 x))
 {c:Frame} {cs:List Frame}
 (hmain:∀ab ov sv am w',PlayedR N w (onceT (onceN cells) ops N mo sched) (numL (onceT (onceN cells) ops N mo sched).s.1 (onceN cells)) ab ov sv am w'->
  J0 Try.prog Fin (n+N) (G (c.finish (.agg #[.slice (some ⟨ab,0,none⟩) N N,ov,sv,.bool (decide (0<leftN (onceT (onceN cells) ops N mo sched).ov N))])) cs) w'):
 J0 Try.prog Fin n (G (Frame.enter Try.prog 11 #[.int .i64 cells,.slice pp np Cn,.slice scp sched.length Cs,.int .i64 mo] .normal) (c::cs)) w:=by
 have hJ:=j0_JS hFin;have hC:=zq1d hFin;have e:Frame.enter Try.prog 11 #[.int .i64 cells,.slice pp np Cn,.slice scp sched.length Cs,.int .i64 mo] .normal=(bN 11).at (zqe Try.f11 #[.int .i64 cells,.slice pp np Cn,.slice scp sched.length Cs,.int .i64 mo]) [.code ((Try.f11.body).getD .skip)]:=by kernel_rfl
 have ea:zqe Try.f11 #[.int .i64 cells,.slice pp np Cn,.slice scp sched.length Cs,.int .i64 mo]=⟨#[.int .i64 cells,.slice pp np Cn,.slice scp sched.length Cs,.int .i64 mo,undef,undef,undef,undef,undef,undef,undef,undef,undef,undef,undef,undef,undef,undef,undef,undef,undef,undef,undef,undef,undef,undef],[]⟩:=by kernel_rfl
 rw[e,ea,opl0];clear e ea;have hm:=Lib.hid hmain;clear hmain;obtain⟨H,hH⟩:∃H,w.heap.size=H:=⟨_,rfl⟩;refine hJ.ctl (s:=n) (λw=>stepG_seq) ?_;refine zq4c hJ hC zqp zyk (λt w'=>t=#[.int .i64 cells,.slice pp np Cn,.slice scp sched.length Cs,.int .i64 mo,undef,undef,undef,undef,.pointer (some ⟨H,0,none⟩),undef,undef,undef,undef,undef,undef,undef,undef,undef,undef,undef,undef,undef,undef,undef,undef,undef]/\∃τ d,w'=re (w.alloc (.cells #[.slice none 0 0,.slice none 0 0,.slice none 0 0,.bool false] 29)) τ d) (λt w' τ d h=>⟨h.1,by obtain⟨τ',d',rfl⟩:=h.2;exact⟨τ,d,by rw[re_re]⟩⟩) zyd (λτ d=>?_) ?_
 . obtain⟨u0,hu0⟩:∃c,headC (oplT 0)=c:=⟨_,rfl⟩;have eu0:=hu0;rw[hu0];simp only[oplT,headC,tailN,Try.f11,al_od]at eu0;subst eu0;clear hu0;clear hs ho hRP;go_wp2;exact⟨rfl,rfl,τ,d,rfl⟩
 rintro t w' ⟨rfl,τ,d,rfl⟩;refine hJ.re' n _ _ τ d ?_;have hwa:(w.alloc (.cells #[.slice none 0 0,.slice none 0 0,.slice none 0 0,.bool false] 29)).heap.size=H+1:=by rw[zq4,hH]
 have hob:∀b,b<H->(w.alloc (.cells #[.slice none 0 0,.slice none 0 0,.slice none 0 0,.bool false] 29)).heap[b]?=w.heap[b]?:=λb hb=>by rw[zq6,if_neg zyo]
 have hzb:(w.alloc (.cells #[.slice none 0 0,.slice none 0 0,.slice none 0 0,.bool false] 29)).heap[H]?=some (.cells #[.slice none 0 0,.slice none 0 0,.slice none 0 0,.bool false] 29):=hH▸zqo w _;obtain⟨wa,hwae⟩:∃wa,w.alloc (.cells #[.slice none 0 0,.slice none 0 0,.slice none 0 0,.bool false] 29)=wa:=⟨_,rfl⟩;rw[hwae]at hwa hob hzb |-;clear hwae;refine hJ.ctl (s:=n) (λw=>stepG_seq) ?_;refine zq4c hJ hC zqp zyk (λt w'=>∃TN vb pb Cp ps,t=#[.int .i64 cells,.slice pp np Cn,.slice scp sched.length Cs,.int .i64 mo,undef,undef,undef,undef,.pointer (some ⟨H,0,none⟩),.slice (some ⟨pb,0,none⟩) (onceN cells) Cp,.func (.func 63) #[] #[.pointer (some ⟨vb,0,none⟩)],undef,.tuple #[.slice (some ⟨pb,0,none⟩) (onceN cells) Cp,.func (.func 63) #[] #[.pointer (some ⟨vb,0,none⟩)]],.int .i64 cells,.tuple #[.slice (some ⟨pb,0,none⟩) (onceN cells) Cp,.func (.func 63) #[] #[.pointer (some ⟨vb,0,none⟩)]],.slice (some ⟨pb,0,none⟩) (onceN cells) Cp,.func (.func 63) #[] #[.pointer (some ⟨vb,0,none⟩)],undef,undef,undef,undef,undef,undef,undef,undef,undef]/\TN.N=onceN cells/\NewOnces wa TN vb pb Cp ps w') (λt w' τ d h=>by obtain⟨TN,vb,pb,Cp,ps,h1,h2,h3⟩:=h;exact⟨TN,vb,pb,Cp,ps,h1,h2,h3.re τ d⟩) zyd (λτ d=>?_) ?_
 . obtain⟨u0,hu0⟩:∃c,headC (oplT 1)=c:=⟨_,rfl⟩;have eu0:=hu0;rw[hu0];simp only[oplT,headC,tailN,Try.f11,al_od]at eu0;subst eu0;clear hu0;have HM:=Lib.hid (zqdq cells (re wa τ d));clear hs ho hRP hob hzb hH hwa hsl
   go_wp2_with (fail)
   refine Calls.mono HM.out ?_;rintro e w' ⟨TN,vb,pb,Cp,ps,hN,hR,rfl⟩;rw[hN];have HR:RowKit.Hid (TN.N=onceN cells/\NewOnces wa TN vb pb Cp ps w'):=Lib.hid ⟨hN,hR.of_re⟩;clear hR hN;go_wp2;exact⟨rfl,_,_,_,_,_,rfl,HR.out⟩
 rintro t wb ⟨TN,vb,pb,Cq,ps,rfl,hTN,hR⟩;have hNN:=zq6t cells;have hwb:H+1<=wb.heap.size:=by have:=hR.be.1;omega
 have hobb:∀b,b<H->wb.heap[b]?=w.heap[b]?:=λb hb=>(hR.be.2 b zyo).trans (hob b hb);have hzb2:wb.heap[H]?=some (.cells #[.slice none 0 0,.slice none 0 0,.slice none 0 0,.bool false] 29):=(hR.be.2 H zyo).trans hzb;have hlo:=hR.lo;have hvl:=hR.vlo;have hpl:=hR.plo;rw[hwa]at hlo hvl hpl;clear hzb hob hwa;have hlt:∀b o,RP b=some o->b<H:=λb o h=>by rw[<-hH];exact zq7 (hRP b o h)
 have hnf:∀b,(zqg TN).foot (λ_ _=>0) b->H+1<=b:=λb⟨x,hx,hb⟩=>by have:=hlo x hx;omega
 obtain⟨RQ,hRQ⟩:∃RQ:Nat->Option Obj,RQ=λb=>if b=vb then some (.cells #[.slice (some ⟨pb,0,none⟩) TN.N Cq] 108)else if b=pb then some (.cells ps 35)else RP b:=⟨_,rfl⟩
 have hpv:pb≠vb:=zq14 hR.pbk hR.vbk zyd;have hqv:RQ vb=some (.cells #[.slice (some ⟨pb,0,none⟩) TN.N Cq] 108):=by rw[hRQ];simp
 have hqp:RQ pb=some (.cells ps 35):=by rw[hRQ];simp[hpv]
 have hqr:∀b o,RP b=some o->RQ b=some o:=λb o h=>by
  have:=hlt b o h;rw[hRQ];simp only;rw[if_neg zyo,if_neg zyo];exact h
 have hqw:∀b o,RQ b=some o->(b=vb\/b=pb\/b<H)/\wb.heap[b]?=some o:=λb o h=>by
  rw[hRQ]at h;simp only at h;split at h
  . rename_i e;cases h;subst e;exact⟨.inl rfl,hR.vbk⟩
  . split at h
    . rename_i e;cases h;subst e;exact⟨.inr (.inl rfl),hR.pbk⟩
    . exact⟨.inr (.inr (hlt b o h)),(hobb b (hlt b o h)).trans (hRP b o h)⟩
 have hB:BRep (zqg TN) RQ ⟨λ_ _=>0,λ_ _=>none⟩ wb:=by
  refine⟨hR.rep,λi b o h=>zx3j,λb o h=>(hqw b o h).2,λi b h=>absurd rfl h,λi j b _ h=>absurd rfl h,λb h hf=>?_,λi b _=>rfl⟩;cases ho:RQ b with
  |none=>exact h ho
  |some o=>
   obtain⟨x,hx,hb⟩:=hf;have h1:=hR.sep x hx;have h2:=hlo x hx;rcases(hqw b o ho).1 with e|e|e
   . exact h1.1 (by rw[<-e];exact hb)
   . exact h1.2 (by rw[<-e];exact hb)
   . omega
 have hOp:OpsAt wb RQ pp np N sp L Cp ops:=by
  refine⟨ho.eq,ho.le,λh0=>?_,ho.row,ho.len,λi hi k op hk=>?_⟩
  . obtain⟨tb,to',e,h1⟩:=ho.at' h0;exact⟨tb,to',e,λi hi=>(zqy (hobb tb (by rw[<-hH];exact cell_lt (h1 i hi)))).trans (h1 i hi)⟩
  . obtain⟨g,off,cur,e,fr,h1,h2,h3⟩:=ho.op i hi k op hk;exact⟨g,off,cur,e,fr,h1,hqr _ _ h2,h3⟩
 have hsc:sched≠[]->∃sb off,scp=some ⟨sb,off,none⟩/\¬(zqg TN).foot (λ_ _=>0) sb/\∀j x,sched[j]?=some x->wb.cell? ⟨sb,off+j,none⟩=some (.int .i64 x):=λh0=>by
  obtain⟨sb,off,e,h2⟩:=hs h0;obtain⟨x,l,hsl⟩:=List.exists_cons_of_ne_nil h0;have hlt:sb<H:=by rw[<-hH];exact cell_lt (h2 0 x (by rw[hsl];rfl))
  exact⟨sb,off,e,λhf=>by have:=hnf sb hf;omega,λj x hj=>(zqy (hobb sb hlt)).trans (h2 j x hj)⟩
 have hpn:¬(zqg TN).foot (λ_ _=>0) pb:=λ⟨x,hx,hb⟩=>(hR.sep x hx).2 hb
 have hpw:=hR.pbk;have hps:=hR.ps';have hln:=hR.len;clear ho hs hRP hlt hR;refine hJ.ctl (s:=n) (λw=>stepG_seq) ?_;obtain⟨u0,hu0⟩:∃c,headC (oplT 2)=c:=⟨_,rfl⟩;have eu0:=hu0;rw[hu0];simp only[oplT,headC,tailN,Try.f11,al_od]at eu0;subst eu0;clear hu0;refine hJ.ctl (s:=n) (λw=>stepG_region) ?_;have HX:=Lib.hid (And.intro hB (And.intro hOp (And.intro hsc (And.intro hnf (And.intro hobb (And.intro hzb2 hwb))))));have HE:=Lib.hid (And.intro hTN (And.intro hH (And.intro hpw (And.intro hps (And.intro hln (And.intro hpn (And.intro hqv (And.intro hqp hNN))))))));clear hB hOp hsc hnf hobb hzb2 hwb hH hpw hps hln hpn hqv hqp hRQ hqr hqw hlo hvl hpl hTN hpv hNN;refine zq12 (s:=n) zyd hJ (zqu _) true (.inl rfl) 0 4 3 rfl rfl rfl zx2p ?_;intro τ d;simp only[List.drop_zero,List.take_succ_cons,List.take_zero];go_wp2;simp only[zqi];refine hJ.re' n _ _ τ d ?_;refine zq21 zyd hJ (s:=n) rfl rfl (f:=35) (args:=#[.slice pp np Cn,.func (.func 63) #[] #[.pointer (some ⟨vb,0,none⟩)],.slice scp sched.length Cs,.int .i64 mo]) (λτ d=>?_) (λτ d=>?_) ?_
 . simp[go_sem,execOp,Act.eval,resolve,Deferred.ofValue,invoke,callFunc,Try.func35,Try.f35]
 . intro e he;simp[go_sem,execOp,Act.eval,resolve,Deferred.ofValue,invoke,callFunc,Try.func35,Try.f35,Sem.runT_eq]at he
 obtain⟨hB,hOp,hsc,hnf,hobb,hzb2,hwb⟩:=HX.out;obtain⟨hTN,hH,hpw,hps,hln,hpn,hqv,hqp,hNN⟩:=HE.out;refine zqfo hFin hn zqp rowsM (fn:=Try.f63) (cc:=(Try.f63.body).getD .skip) Try.func63 rfl rfl hB hOp hsl hsc (dop:=λ_=>doerP TN.N) (λi op k=>zqdp _ _ _) (λro ab pr st cr rest EN i o op hro _=>zqds zyo hln ro (hro _ _ hqv) (hro _ _ hqp) hps pr st cr rest EN i o op) ?_;intro ab v l' am w2 hO;rw[Frame.finish_at]
 walk_nrm
 have hTe:playT (λi=>opsP i (doerP TN.N) (ops i)) N (min mo.toNat 1048576) sched ((zqg TN).st (λ_ _=>0),λ_=>[])=onceT (onceN cells) ops N mo sched:=by
  unfold onceT;rw[hTN];rfl
 rw[hTe]at hO |-;obtain⟨pv',cv',rfl,_⟩:=zq2d hO.row;have hl':(onceT (onceN cells) ops N mo sched).s.1=l':=hO.st.symm;have hze:w2.heap[H]?=some (.cells #[.slice none 0 0,.slice none 0 0,.slice none 0 0,.bool false] 29):=(hO.old H zyo (λh=>by have:=hnf H h;omega)).trans hzb2;have hpe:w2.heap[pb]?=some (.cells ps 35):=(hO.old pb (zq7 hpw) hpn).trans hpw;generalize (onceT (onceN cells) ops N mo sched).ord.length=nv' at hO |-;have HO:=Lib.hid hO;have HZ:=Lib.hid (And.intro hze (And.intro hl' hpe));obtain⟨stuck,hstuck⟩:∃x,decide (0<leftN (onceT (onceN cells) ops N mo sched).ov N)=x:=⟨_,rfl⟩;rw[hstuck];have HST:=Lib.hid hstuck;clear hstuck hO hze hl' hpe hTe hB hOp hsc hnf hobb hzb2 hwb hTN hH hpw hps hln hpn hqv hqp hNN;refine zq12 (s:=n+N) zyd hJ (zqu _) false (.inr rfl) 5 2 0 rfl rfl rfl zx2p ?_;intro τ d;simp only[List.drop_succ_cons,List.drop_zero,List.take_succ_cons,List.take_zero];have HO2:=Lib.hid (HO.out.re τ d);have HZ2:RowKit.Hid ((re w2 τ d).heap[H]?=some (.cells #[.slice none 0 0,.slice none 0 0,.slice none 0 0,.bool false] 29)/\(onceT (onceN cells) ops N mo sched).s.1=l'/\(re w2 τ d).heap[pb]?=some (.cells ps 35)):=Lib.hid HZ.out;clear HO HZ;generalize re w2 τ d=w3 at HO2 HZ2 |-;go_wp2;simp only[zqi];refine hJ.ctl (s:=n+N) (λw=>stepG_region_end) ?_;have hT:=zqo w3 (.cells #[.slice (some ⟨ab,0,none⟩) N N,.slice pv' nv' cv',.slice none 0 0,.bool stuck] 29);have hoT:∀b,b<w3.heap.size->(w3.alloc (.cells #[.slice (some ⟨ab,0,none⟩) N N,.slice pv' nv' cv',.slice none 0 0,.bool stuck] 29)).heap[b]?=w3.heap[b]?:=λb hb=>by rw[zq6,if_neg zyo]
 have hsT:(w3.alloc (.cells #[.slice (some ⟨ab,0,none⟩) N N,.slice pv' nv' cv',.slice none 0 0,.bool stuck] 29)).heap.size=w3.heap.size+1:=zq4 _ _;generalize (w3.alloc (.cells #[.slice (some ⟨ab,0,none⟩) N N,.slice pv' nv' cv',.slice none 0 0,.bool stuck] 29))=w4 at hT hoT hsT |-;obtain⟨T,hTT⟩:∃T,w3.heap.size=T:=⟨_,rfl⟩;rw[hTT]at hT hoT hsT |-;have HT:=Lib.hid (And.intro hT (And.intro hoT (And.intro hsT hTT)));clear hT hoT hsT hTT;refine zq6a hJ hC zqp zyk (λv w'=>∃sv am,v=.agg #[.slice (some ⟨ab,0,none⟩) N N,.slice pv' nv' cv',sv,.bool stuck]/\PlayedR N w (onceT (onceN cells) ops N mo sched) (numL (onceT (onceN cells) ops N mo sched).s.1 (onceN cells)) ab (.slice pv' nv' cv') sv am w') (λv w' τ d⟨sv,am,h1,h2⟩=>⟨sv,am,h1,h2.re τ d⟩) rfl Try.func11 (λτ d=>?_) ?_
 . obtain⟨u0,hu0⟩:∃c,oplT 3=c:=⟨_,rfl⟩;have eu0:=hu0;rw[hu0];simp only[oplT,headC,tailN,Try.f11,al_od]at eu0;subst eu0;clear hu0;obtain⟨hT,hoT,hsT,hTT⟩:=HT.out;have hT':(re w4 τ d).heap[T]?=some (.cells #[.slice (some ⟨ab,0,none⟩) N N,.slice pv' nv' cv',.slice none 0 0,.bool stuck] 29):=hT;have hoT':∀b,b<T->(re w4 τ d).heap[b]?=w3.heap[b]?:=hoT;have hsT':(re w4 τ d).heap.size=T+1:=hsT;have hHl:H<T:=by rw[<-hTT];exact zq7 HZ2.out.1
   have hpT:(re w4 τ d).heap[pb]?=some (.cells ps 35):=(hoT' pb (by rw[<-hTT];exact zq7 HZ2.out.2.2)).trans HZ2.out.2.2;have hall:=zqh5 (T:=TN) ((zqg TN).frame _ _ _ HO2.out.rep λb hb=>hoT' b (by rw[<-hTT];exact(zqg TN).lt _ _ _ HO2.out.rep hb)) HE.out.2.2.2.2.1 (by have:=HE.out.1;have:=HE.out.2.2.2.2.2.2.2.2;omega) (Cp:=Cq) hpT HE.out.2.2.2.1;rw[HE.out.1]at hall;generalize re w4 τ d=w5 at hT' hoT' hsT' hall |-;have HA:=Lib.hid hall;have HW:=Lib.hid (And.intro hT' (And.intro hoT' (And.intro hsT' (And.intro hTT hHl))));clear hT hoT hsT hTT hT' hoT' hsT' hpT hall HT hHl hm
   go_wp2_with (fail)
   refine Calls.mono HA.out ?_;rintro e w6 ⟨sv,rfl,hI⟩;obtain⟨sp',sc',rfl,-,-⟩:=zq2d hI.row;obtain⟨sl,hsl'⟩:∃x,(numL l' (onceN cells)).length=x:=⟨_,rfl⟩;rw[hsl']at hI |-;have hI2:=Lib.hid (And.intro hI hsl');clear hsl';have b1:w6.heap[T]?=some (.cells #[.slice (some ⟨ab,0,none⟩) N N,.slice pv' nv' cv',.slice none 0 0,.bool stuck] 29):=(hI.be.2 T (by have:=HW.out.2.2.1;omega)).trans HW.out.1;have b0:w6.heap[H]?=some (.cells #[.slice none 0 0,.slice none 0 0,.slice none 0 0,.bool false] 29):=(hI.be.2 H (by have:=HW.out.2.2.1;have:=HW.out.2.2.2.2;omega)).trans ((HW.out.2.1 H HW.out.2.2.2.2).trans HZ2.out.1);have hne:¬(T=H):=by have:=HW.out.2.2.2.2;omega
   have hne2:¬(H=T):=by omega
   clear hI;have c0:=(zq0 (off:=0) b1).trans rfl;have c1:=(zq0 (off:=1) b1).trans rfl;have c2:=(zq0 (off:=2) b1).trans rfl;have c3:=(zq0 (off:=3) b1).trans rfl;have y2:=zq3 (off:=2) b1;have r0:=(zq0 (off:=0) b0).trans rfl;have r1:=(zq0 (off:=1) b0).trans rfl;have r2:=(zq0 (off:=2) b0).trans rfl;have r3:=(zq0 (off:=3) b0).trans rfl;have z0:=zq3 (off:=0) b0;have z1:=zq3 (off:=1) b0;have z2:=zq3 (off:=2) b0;have z3:=zq3 (off:=3) b0;have B0:=Lib.hid b0;have B1:=Lib.hid b1;clear b0 b1;go_wp2;clear c0 c1 c2 c3 y2 r0 r1 r2 r3 z0 z1 z2 z3;have b0:(w6.setCell ⟨T,2,none⟩ (.slice sp' sl sc')).heap[H]?=some (.cells #[.slice none 0 0,.slice none 0 0,.slice none 0 0,.bool false] 29):=by rw[zq8 _ _ _ _ hne2];exact B0.out
   have b1':=zqa _ H 0 (.slice (some ⟨ab,0,none⟩) N N) b0;have b2':=zqa _ H 1 (.slice pv' nv' cv') b1';have b3':=zqa _ H 2 (.slice sp' sl sc') b2';have b4':=zqa _ H 3 (.bool stuck) b3';have hext:∀x,x≠T->x≠H->(((((w6.setCell ⟨T,2,none⟩ (.slice sp' sl sc')).setCell ⟨H,0,none⟩ (.slice (some ⟨ab,0,none⟩) N N)).setCell ⟨H,1,none⟩ (.slice pv' nv' cv')).setCell ⟨H,2,none⟩ (.slice sp' sl sc')).setCell ⟨H,3,none⟩ (.bool stuck)).heap[x]?=w6.heap[x]?:=λx hx1 hx=>by
    rw[zq8 _ _ _ _ hx,zq8 _ _ _ _ hx,zq8 _ _ _ _ hx,zq8 _ _ _ _ hx,zq8 _ _ _ _ hx1]
   have hsz8:(((((w6.setCell ⟨T,2,none⟩ (.slice sp' sl sc')).setCell ⟨H,0,none⟩ (.slice (some ⟨ab,0,none⟩) N N)).setCell ⟨H,1,none⟩ (.slice pv' nv' cv')).setCell ⟨H,2,none⟩ (.slice sp' sl sc')).setCell ⟨H,3,none⟩ (.bool stuck)).heap.size=w6.heap.size:=by simp only[zqf]
   generalize (((((w6.setCell ⟨T,2,none⟩ (.slice sp' sl sc')).setCell ⟨H,0,none⟩ (.slice (some ⟨ab,0,none⟩) N N)).setCell ⟨H,1,none⟩ (.slice pv' nv' cv')).setCell ⟨H,2,none⟩ (.slice sp' sl sc')).setCell ⟨H,3,none⟩ (.bool stuck))=w8 at b4' hext hsz8 |-;clear b1' b2' b3' b0;have k0:=(zq0 (off:=0) b4').trans rfl;have k1:=(zq0 (off:=1) b4').trans rfl;have k2:=(zq0 (off:=2) b4').trans rfl;have k3:=(zq0 (off:=3) b4').trans rfl;obtain⟨_,hoT,hsT,hTT,hHl⟩:=HW.out;obtain⟨hI,hsl2⟩:=hI2.out;have hwl:=HE.out.1;obtain⟨hB,hOp,hsc,hnf,hobb,hzb2,hwb⟩:=HX.out;have hrow:w8.ownsRow w3.heap.size 2 1 (.slice sp' sl sc') (numL (onceT (onceN cells) ops N mo sched).s.1 (onceN cells)).length ((numL (onceT (onceN cells) ops N mo sched).s.1 (onceN cells)).map (Value.int .i64)):=by
    rw[HZ2.out.2.1,hsl2];have hrI:=hI.row;rw[hsl2]at hrI;have q:w8.ownsRow w5.heap.size 2 1 (.slice sp' sl sc') sl ((numL l' (onceN cells)).map (Value.int .i64)):=zqs hrI λg hg=>by
     have h1:=(own_lt hrI hg).2.1;exact hext g zyo zyo
    exact zq3k q zyo
   have hfin:PlayedR N w (onceT (onceN cells) ops N mo sched) (numL (onceT (onceN cells) ops N mo sched).s.1 (onceN cells)) ab (.slice pv' nv' cv') (.slice sp' sl sc') am w8:=by
    refine zqga HO2.out HE.out.2.1 zyo hobb hnf (by have:=hI.be.1;omega) (λx hx hxH=>?_) hrow;rw[hext x zyo hxH,hI.be.2 x zyo];exact hoT x zyo
   refine⟨rfl,.agg #[.slice (some ⟨ab,0,none⟩) N N,.slice pv' nv' cv',.slice sp' sl sc',.bool stuck],?_,_,rfl,_,_,rfl,hfin⟩;simp only[results,Try.f11];simp[go_sem,k0,k1,k2,k3]
 . rintro v w' ⟨sv,am,rfl,h⟩;have h2:=hm.out _ _ sv am w' h;rw[HST.out]at h2;exact h2
end Go.Proofs
namespace Go.Car
open Go Go.Conc Go.RowKit
def OneT{S:Type}(p:Proc S Unit)(s0:S)(a:TSt S):Prop:=∃k,(a.t 0).run a.s=((p.run s0).1,some (),k)/\a.ord.length+k=(p.run s0).2.2/\a.ov 0=(a.t 0).isRet
section
variable {S:Type} {p:Proc S Unit} {s0:S}
theorem one_turn{a:TSt S}(h:OneT p s0 a)(hov:a.ov 0=false):OneT p s0 (turnT 0 (goT (a.t 0) a.s) a (a.ord++[0])):=by
 obtain⟨k,h1,h2,h3⟩:=h;cases ht:a.t 0 with
 |ret u=>rw[ht,hov]at h3;cases h3
 |out=>
  rw[ht]at h1;have e:(a.s,(none:Option Unit),0)=((p.run s0).1,some (),k):=h1;simp at e
 |step u K=>
  rw[ht]at h1;have e:(((K a.s).run (u a.s)).1,((K a.s).run (u a.s)).2.1,((K a.s).run (u a.s)).2.2+1)=((p.run s0).1,some (),k):=h1;simp only[Prod.mk.injEq]at e;obtain⟨e1,e2,e3⟩:=e;refine⟨((K a.s).run (u a.s)).2.2,?_,?_,?_⟩
  . show(upd' a.t 0 (K a.s) 0).run (u a.s)=_;rw[upd'_same];exact Prod.ext e1 (Prod.ext e2 rfl)
  . show(a.ord++[0]).length+_=_;rw[List.length_append];simp only[List.length_cons,List.length_nil];omega
  . show(if(K a.s).isRet then(λj=>if j=0 then true else a.ov j)else a.ov) 0=(upd' a.t 0 (K a.s) 0).isRet;rw[upd'_same];cases hr:(K a.s).isRet with
    |true=>rfl
    |false=>exact hov
theorem zqfi{most:Nat}(x:Int){a:TSt S}(h:OneT p s0 a):OneT p s0 (zq1x 1 most x a):=by
 unfold zq1x;split
 . exact h
 . rename_i hx;have h0:¬x<0:=λe=>hx (.inl e);have h1:¬(1:Int)<=x:=λe=>hx (.inr (.inl (by exact_mod_cast e)));obtain rfl:x=0:=by omega
   refine one_turn h ?_;cases hv:a.ov 0 with
   |false=>rfl
   |true=>exact absurd (.inr (.inr (.inl hv))) hx
theorem zq9e{most:Nat}:∀(l:List Int){a:TSt S},OneT p s0 a->OneT p s0 (zq1b 1 most l a):=by
 intro l
 induction l with
 |nil=>exact λh=>h
 |cons x l ih=>exact λh=>ih (zqfi x h)
theorem zqfh{most:Nat}:∀f{a:TSt S},OneT p s0 a->OneT p s0 (zq24 1 most f a):=by
 intro f
 induction f with
 |zero=>exact λh=>h
 |succ f ih=>
  intro a h;unfold zq24;split
  . exact ih (zq9e _ h)
  . exact h
theorem one_play{pr:Nat->Proc S Unit}{most:Nat}(l:List Int)(hT:((pr 0).run s0).2.1=some ()):OneT (pr 0) s0 (playT pr 1 most l s0):=by
 refine zqfh _ (zq9e _ ⟨((pr 0).run s0).2.2,?_,Nat.zero_add _,?_⟩)
 . show(upd' (λ_=>Tree.ret ()) 0 (pr 0 s0).2 0).run (pr 0 s0).1=_;rw[upd'_same];exact Prod.ext rfl (Prod.ext hT rfl)
 . show(if(pr 0 s0).2.isRet then(λj=>if j=0 then true else false)else λ_=>false) 0=(upd' (λ_=>Tree.ret ()) 0 (pr 0 s0).2 0).isRet;rw[upd'_same];cases hr:(pr 0 s0).2.isRet with
   |true=>rfl
   |false=>rfl
theorem one_end{a:TSt S}(h:OneT p s0 a)(hov:a.ov 0=true):a.s=(p.run s0).1/\a.ord.length=(p.run s0).2.2:=by
 obtain⟨k,h1,h2,h3⟩:=h;cases ht:a.t 0 with
 |ret u=>
  rw[ht]at h1;have e:(a.s,some u,0)=((p.run s0).1,some (),k):=h1;simp only[Prod.mk.injEq]at e;exact⟨e.1,by omega⟩
 |out=>
  rw[ht]at h1;have e:(a.s,(none:Option Unit),0)=((p.run s0).1,some (),k):=h1;simp at e
 |step u K=>rw[ht,hov]at h3;cases h3
end
end Go.Car
namespace Go.Proofs
open Go Go.Conc Go.RowKit Go.Car
section
variable {S2 α β:Type}
def IndO(p:Proc (Nums×S2) α)(q:Proc (Nums×Unit) α):Prop:=∀l s2,p.run (l,s2)=(((q.run (l,())).1.1,s2),(q.run (l,())).2)
theorem IndO.ret (a:α):IndO (S2:=S2) (Proc.ret a) (Proc.ret a):=λ_ _=>rfl
theorem IndO.onN (f:Nums->Nums×α):IndO (S2:=S2) (onN f) (onN f):=λ_ _=>rfl
theorem IndO.tick:IndO (S2:=S2) Proc.tick Proc.tick:=λ_ _=>rfl
theorem IndO.bind {p:Proc (Nums×S2) α}{q:Proc (Nums×Unit) α}{K:α->Proc (Nums×S2) β}{K':α->Proc (Nums×Unit) β}(h:IndO p q)(hk:∀a,IndO (K a) (K' a)):IndO (p.bind K) (q.bind K'):=by
 intro l s2;rw[Proc.run_bind,Proc.run_bind,h l s2];rcases hr:q.run (l,())with⟨⟨l',u⟩,o,n⟩
 cases o with
 |none=>rfl
 |some a=>
  show(((K a).run (l',s2)).1,((K a).run (l',s2)).2.1,((K a).run (l',s2)).2.2+n)=_;rw[hk a l' s2]
theorem IndO.acc (f:Nums->Nums×α):IndO (S2:=S2) (Proc.tick.bind λ_=>Go.Car.onN f) (Proc.tick.bind λ_=>Go.Car.onN f):=IndO.tick.bind λ_=>IndO.onN _
theorem IndO.getP (c:Nat):IndO (S2:=S2) (Go.Proofs.getP c) (Go.Proofs.getP c):=by
 unfold Go.Proofs.getP;refine(IndO.acc _).bind λx=>?_;split
 . exact(IndO.acc _).bind λ_=>IndO.ret _
 . exact IndO.ret _
theorem IndO.finP (c:Nat)(v:Int):IndO (S2:=S2) (Go.Proofs.finP c v) (Go.Proofs.finP c v):=(IndO.acc _).bind λ_=>IndO.acc _
theorem IndO.setP (c:Nat)(v:Int):IndO (S2:=S2) (Go.Proofs.setP c v) (Go.Proofs.setP c v):=by
 unfold Go.Proofs.setP;refine(IndO.acc _).bind λx=>?_;split
 . exact(IndO.finP _ _).bind λ_=>IndO.ret _
 . exact(IndO.getP _).bind λ_=>IndO.ret _
theorem IndO.makeL (c:Nat){mk:Proc (Nums×S2) (Int×Bool)}{mk':Proc (Nums×Unit) (Int×Bool)}(hm:IndO mk mk'):∀n,IndO (S2:=S2) (Go.Proofs.makeL c mk n) (Go.Proofs.makeL c mk' n)
 |0=>IndO.ret _
 |n+1=>by
  unfold Go.Proofs.makeL;refine(IndO.getP c).bind λx=>?_;split
  . exact IndO.ret _
  . refine(IndO.acc _).bind λb=>?_;split
    . refine(IndO.acc _).bind λ_=>hm.bind λv=>?_;split
      . exact(IndO.finP _ _).bind λ_=>IndO.ret _
      . exact(IndO.acc _).bind λ_=>IndO.ret _
    . exact IndO.makeL c hm n
theorem IndO.onceP (c:Nat)(op:OpX):IndO (S2:=S2) (Go.Proofs.onceP c op) (Go.Proofs.onceP c op):=by
 unfold Go.Proofs.onceP;split
 . exact(IndO.getP _).bind λ_=>IndO.ret _
 split
 . exact(IndO.setP _ _).bind λ_=>IndO.ret _
 split
 . exact(IndO.makeL _ (IndO.acc _) _).bind λ_=>IndO.ret _
 split
 . exact(IndO.makeL _ (IndO.ret _) _).bind λ_=>IndO.ret _
 . exact IndO.ret _
end
theorem zqf6(op:OpX)(g:Nums):((onceP 0 op:Proc (Nums×Unit) Ans).run (g,())).2.1=some (oA op g):=by
 obtain⟨a,h⟩:=Tree.run_deepO ((onceP 0 op:Proc (Nums×Unit) Ans) (g,())).2 _ (λk=>zq9c k 0 op (g,()));have h':((onceP 0 op:Proc (Nums×Unit) Ans).run (g,())).2.1=some a:=h;unfold oA;rw[h'];rfl
theorem oRun_all{S2:Type}(op:OpX)(g:Nums)(s2:S2):(onceP 0 op:Proc (Nums×S2) Ans).run (g,s2)=((oG op g,s2),some (oA op g),oN op g):=by
 rw[IndO.onceP 0 op g s2];exact Prod.ext rfl (Prod.ext (zqf6 op g) rfl)
def oseqG:List OpX->Nums->Nums
 |[],c=>c
 |op::l,c=>oseqG l (oG op c)
def oseqA:List OpX->Nums->List Ans
 |[],_=>[]
 |op::l,c=>oA op c::oseqA l (oG op c)
def oseqN:List OpX->Nums->Nat
 |[],_=>0
 |op::l,c=>oseqN l (oG op c)+oN op c
theorem zq9j:∀(l:List OpX)(c:Nums),(oseqA l c).length=l.length
 |[],_=>rfl
 |op::l,c=>by unfold oseqA;rw[List.length_cons,zq9j l];rfl
theorem zqdt{S2:Type}{op:OpX}(h:op.a=0):(doerP 1 op:Proc (Nums×S2) Ans)=onceP 0 op:=by
 unfold doerP;rw[if_neg zyo,h];rfl
theorem oops_run:∀(l:List OpX)(hl:∀op∈l,op.a=0)(c:Nums)(s2:Nat->List Ans),(opsP 0 (doerP 1) l).run (c,s2)=((oseqG l c,upd' s2 0 (s2 0++oseqA l c)),some (),oseqN l c):=by
 intro l
 induction l with
 |nil=>
  intro hl c s2;show((c,s2),some (),0)=((c,upd' s2 0 (s2 0++[])),some (),0);rw[List.append_nil,zq4x]
 |cons op l ih=>
  intro hl c s2;unfold opsP;rw[Proc.run_bind,zqdt (hl op zx2n),oRun_all];show((((pushP 0 (oA op c)).bind λ_=>opsP 0 (doerP 1) l).run (oG op c,s2)).1,(((pushP 0 (oA op c)).bind λ_=>opsP 0 (doerP 1) l).run (oG op c,s2)).2.1,(((pushP 0 (oA op c)).bind λ_=>opsP 0 (doerP 1) l).run (oG op c,s2)).2.2+oN op c)=_;have h1:((pushP 0 (oA op c)).bind λ_=>opsP 0 (doerP 1) l).run (oG op c,s2)=(opsP 0 (doerP 1) l).run (oG op c,upd' s2 0 (s2 0++[oA op c])):=rfl;rw[h1,ih (λo ho=>hl o (by simp[ho]))];simp only[upd'_same,zq7g,oseqG,oseqA,oseqN,List.append_assoc,List.singleton_append]
theorem zqf7{ops:List OpX}(h:∀op∈ops,op.a=0){l:List Int}{mo:Int}(hov:leftN (onceT 1 (λ_=>ops) 1 mo l).ov 1=0):
 (onceT 1 (λ_=>ops) 1 mo l).s.1=oseqG ops (λ_ _=>0)/\(onceT 1 (λ_=>ops) 1 mo l).s.2 0=oseqA ops (λ_ _=>0)/\(onceT 1 (λ_=>ops) 1 mo l).ord.length=oseqN ops (λ_ _=>0):=by
 have hr:=oops_run ops h (λ_ _=>0) (λ_=>[]);have h1:=one_play (pr:=λi=>opsP i (doerP 1) ops) (s0:=((λ_ _=>0:Nums),λ_=>([]:List Ans))) (most:=min mo.toNat 1048576) l (by show((opsP 0 (doerP 1) ops).run _).2.1=_;rw[hr]);have h2:(onceT 1 (λ_=>ops) 1 mo l).ov 0=true:=zq8s hov Nat.zero_lt_one;obtain⟨e1,e2⟩:=one_end h1 h2;have e1:(onceT 1 (λ_=>ops) 1 mo l).s=((opsP 0 (doerP 1) ops).run ((λ_ _=>0:Nums),λ_=>([]:List Ans))).1:=e1;have e2:(onceT 1 (λ_=>ops) 1 mo l).ord.length=((opsP 0 (doerP 1) ops).run ((λ_ _=>0:Nums),λ_=>([]:List Ans))).2.2:=e2;rw[hr]at e1 e2;refine⟨by rw[e1],by rw[e1];simp only[upd'_same,List.nil_append],e2⟩
theorem zq4i{w:World}{B:Nat}{T:TypeId}{v:Value}{l:List Int}(h:w.ownsRow B T 1 v l.length (l.map (Value.int .i64))):IntsAt w v l:=by
 rcases h.2 with⟨hv,h0⟩|⟨g,cap,cur,hv,hb,hh,h1,h2,h3,h4⟩
 . exact⟨none,0,by rw[hv,h0],λhne=>absurd (List.length_eq_zero_iff.1 h0) hne⟩
 . refine⟨_,cap,hv,λ_=>⟨g,0,rfl,λi hi=>?_⟩⟩;rw[zq0 hh,Nat.zero_add];have e:(l.map (Value.int .i64))[i]?=some (.int .i64 (l.getD i 0)):=by simp[hi]
   rw[<-h4,List.getElem?_take,if_pos zyo]at e;simpa using e
theorem zq8p{w:World}{B:Nat}{T:TypeId}{v:Value}{l:List Nat}(h:w.ownsRow B T 1 v l.length (l.map λ(i:Nat)=>.int .i64 i)):IntsAt w v (l.map λ(i:Nat)=>(i:Int)):=by
 refine zq4i (B:=B) (T:=T) ?_;rw[List.length_map,List.map_map];exact h
theorem zqgj{X:Nat->Option Obj}{T:TypeId}{v:Value}{l:List Int}{w:World}(h:RowB X T 1 v l.length (l.map (Value.int .i64)))(hX:∀b o,X b=some o->w.heap[b]?=some o):IntsAt w v l:=zq4i (h.own hX)
theorem ansL_get{tI:TypeId}{X:Nat->Option Obj}{l:List Ans}{cs:List Value}(h:AnsL tI X l cs):∀{i:Nat}{a:Ans},l[i]?=some a->∃Y sl,cs[i*3]?=some (.bool a.ok)/\cs[i*3+1]?=some (.int .i64 a.n)/\cs[i*3+2]?=some sl/\RowB Y tI 1 sl a.l.length (a.l.map (Value.int .i64))/\∀b o,Y b=some o->X b=some o:=by
 induction h with
 |nil=>intro i a hi;simp at hi
 |snoc h ha hd ih=>
  rename_i X Y l cs cs' a';intro i a hi;have hlen:=h.len;rcases Nat.lt_or_ge i l.length with hlt|hge
  . rw[List.getElem?_append_left hlt]at hi;obtain⟨Z,sl,h1,h2,h3,h4,h5⟩:=ih hi;refine⟨Z,sl,?_,?_,?_,h4,λb o hb=>?_⟩
    . rw[List.getElem?_append_left zyo];exact h1
    . rw[List.getElem?_append_left zyo];exact h2
    . rw[List.getElem?_append_left zyo];exact h3
    . have h6:=h5 b o hb;unfold orB;cases hY:Y b with
      |none=>simp[h6]
      |some y=>have:=hd b (by rw[hY];simp);rw[this]at h6;cases h6
  . have e:i=l.length:=by
     have:=(List.getElem?_eq_some_iff.1 hi).1;simp at this;omega
    subst e;simp at hi;subst hi;obtain⟨sl,rfl,hr⟩:=ha;refine⟨Y,sl,?_,?_,?_,hr,λb o hb=>by simp[orB,hb]⟩
    . rw[List.getElem?_append_right zyo,hlen];simp
    . rw[List.getElem?_append_right zyo,hlen];simp
    . rw[List.getElem?_append_right zyo,hlen];simp
theorem ansR_at{tA tI:TypeId}{X:Nat->Option Obj}{hv:Value}{l:List Ans}{w:World}(h:AnsR tA tI X hv l)(hX:∀b o,X b=some o->w.heap[b]?=some o):AnsAt w hv l:=by
 obtain⟨Xr,XL,cs,hr,hL,rfl,hd⟩:=h;rcases hr.2 with⟨hv,h0,_⟩|⟨g,cap,cur,rfl,rfl,h1,h2,h3,h4⟩
 . exact⟨none,0,by rw[hv,h0],λhne=>absurd (List.length_eq_zero_iff.1 h0) hne⟩
 . refine⟨_,cap,rfl,λ_=>⟨g,0,rfl,λi a hi=>?_⟩⟩;have hg:w.heap[g]?=some (.cells cur tA (0,0)):=hX g _ (by simp[orB]);obtain⟨Y,sl,e1,e2,e3,e4,e5⟩:=ansL_get hL hi;have hil:=(List.getElem?_eq_some_iff.1 hi).1;have get:∀{j:Nat}{v:Value},j<l.length*3->cs[j]?=some v->w.cell? ⟨g,0+j,none⟩=some v:=λ{j v}hj e=>by
    rw[zq0 hg,Nat.zero_add];rw[<-h4,List.getElem?_take,if_pos hj]at e;simpa using e
   refine⟨get zyo e1,?_,sl,?_,zqgj e4 λb o hb=>hX b o ?_⟩
   . exact get zyo e2
   . exact get zyo e3
   . have h6:=e5 b o hb
     by_cases hbg:b=g
     . subst hbg;have:=hd b zx2n;rw[this]at h6;cases h6
     . simp[orB,hbg,h6]
theorem zq7t{ab N:Nat}{m:AnsM}{w:World}(h:zq3s tT ab N m w){i:Nat}(hi:i<N):w.cell? ⟨ab,i,none⟩=some (m.hv i)/\AnsAt w (m.hv i) (m.st i):=by
 refine⟨(zq0 h.hd).trans ?_,ansR_at (h.row i hi) λb o hb=>h.blk i b o hi hb⟩;simp[hi]
end Go.Proofs
namespace Go.Proofs
open Go Go.Conc Go.RowKit Go.Car Go.ChangeShapes Go.WideShapes Go.Deep
theorem cell_in{w:World}{b o:Nat}{v:Value}(h:w.cell? ⟨b,o,none⟩=some v):∃cur e fr,w.heap[b]?=some (.cells cur e fr)/\cur[o]?=some v:=by
 unfold World.cell? at h;split at h
 . rename_i c e fr hh;exact⟨c,e,fr,hh,by simpa using h⟩
 . cases h
end Go.Proofs
namespace Go.Car
open Go Go.Conc Go.RowKit
section
variable {P:Program}
def LeftJ(P:Program)(fn:Func)(Post:Value->World->Prop)(_:Nat)(e:Exit)(a:Act)(w:World):Prop:=
 (e=.normal\/e=.ret)/\a.defers=[]/\∃v,(results fn a.tmps).run P w=.ok v w/\Post v w
theorem j0_body{Post:Value->World->Prop}(hPost:∀v w τ d,Post v w->Post v (re w τ d)){n:Nat}{f:FuncId}{fn:Func}{c:Code}{args:Array Value}{w:World}(hf:P.funcs[f]?=some fn)(hb:fn.body=some c)(hini:P.inits.idxOf? f=none)
 (h:wpJ (J0 P (FinOf P Post)) c (LeftJ P fn Post) n (zqe fn args) w):J0 P (FinOf P Post) n (G (Frame.enter P f args .normal) []) w:=by
 have hFin:=zq6b (P:=P) Post;have hJ:=j0_JS hFin
 let b:Frame:={(default:Frame)with fn:=f,kind:=.normal}
 have henter:Frame.enter P f args .normal=b.at (zqe fn args) [.code c]:=by
  simp[Frame.enter,Frame.at,hf,hb,b,zqe]
 rw[henter];refine h b [] [] (by simp[b]) ?_;rintro s' e ⟨t,ds⟩ w' ⟨he,hd,v,h1,h2⟩;simp only at hd;subst hd;have hleave:∀todo,J0 P (FinOf P Post) s' (G {b.at ⟨t,[]⟩ todo with mode:=.returning} []) w':=λtodo=>j0_end hPost rfl hini hf h1 h2;rcases he with rfl |rfl
 . exact hJ.ctl (λw=>stepG_end) (hleave [])
 . exact λtodo=>hleave todo
theorem zq80{Fin:Machine->Trace->Prop}{n:Nat}{f:FuncId}{args:Array Value}{Q:Ending->World->Prop}{w:World}(h:CallsJ P (λ(_:Unit)=>J0 P Fin n) f args (λ_ e w'=>Q e w') () w):CallsJ P (J0 P Fin) f args (λs' e w'=>s'=n/\Q e w') n w:=
 λc cs h1 h2=>h c cs (λ_ v w' q=>h1 n v w' ⟨rfl,q⟩) (λ_ ch w' q=>h2 n ch w' ⟨rfl,q⟩)
end
end Go.Car
