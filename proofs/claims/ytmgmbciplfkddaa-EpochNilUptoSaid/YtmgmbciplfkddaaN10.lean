/- YtmgmbciplfkddaaENil3: part 10 of the proof (the texts behind it, in order). -/
import Derived.Test.YtmgmbciplfkddaaN09
set_option maxHeartbeats 4000000
set_option maxRecDepth 100000
set_option linter.all false
namespace Go.Proofs
open Go Go.Conc Go.RowKit Go.Car
section
variable {Ml S β:Type} {C:Core Ml S} {ro:Nat->Option Obj} {i:Nat}
def NoMem(Y:YSys Try.prog aM C ro i β)(dv:Value)(k:Int):Prop:=∃N:Int,(k<0\/N<=k)/\∀B wc,Y.KnB B wc->Calls Try.prog 12 #[dv] wc λe w'=>e=.returned (.int .i64 N)/\w'=wc
theorem zq3b(Y:YSys Try.prog aM C ro i β){dv:Value}{k:Int}(h:NoMem Y dv k):PureY Y 47 #[dv,.int .i64 k] (.pointer none):=by
 obtain⟨N,hk,hm⟩:=h;exact PureY.of Try.func47 rfl (by kernel_rfl) λB wc hB=>Calls.mono (zq6s (hm B wc hB) hk) λe w' h=>by
  obtain⟨rfl,rfl⟩:=h;exact⟨Ext1.refl _,rfl⟩
theorem zq6j(Y:YSys Try.prog aM C ro i β){dv sv:Value}{k:Int}(h:NoMem Y dv k):SpecB Y 23 #[dv,sv,.int .i64 k] (Proc.ret ((0:Int),(1:Int))) errV:=by
 refine SpecB.of Try.func23 rfl ?_;intro K s B w hK hA;simp only[zqj,Try.ntmps23,List.size_toArray,List.length_cons,List.length_nil,Nat.reduceAdd,Nat.reduceSub,Array.replicate_succ,Array.replicate_zero,List.push_toArray,List.append_toArray,List.nil_append,List.cons_append];apply YSys.seq0 hA (by kernel_rfl)
 . intro wc hB;go_wp2;exact⟨rfl,Ext1.refl _,rfl⟩
 intro w hA;refine zqe Y.jc (zqr Y.jc ?_);apply YSys.callP 0 2 1 hA (zq3b Y h) rfl rfl rfl (by rfl) rfl rfl rfl
 . intro wc hB X hX;have HX:=Lib.hid hX;clear hX;go_wp2;exact HX.out _ (Ext1.refl _)
 . intro w;simp[go_sem,execOp,Act.eval,resolve,Deferred.ofValue,invoke,callFunc,Try.func47,Try.f47]
 . intro w;simp[go_sem,execOp,Act.eval,resolve,Deferred.ofValue,invoke,callFunc,Try.func47,Try.f47]
 intro w hA;apply YSys.ops0 3 1 hA rfl rfl (by kernel_rfl)
 . intro wc hB;go_wp2;exact⟨rfl,Ext1.refl _,rfl⟩
 intro w hA;show wpJ Y.J _ _ _ _ _;refine zqe Y.jc (zq1x Y.jc ?_);apply YSys.seq0 hA (by kernel_rfl)
 . intro wc hB;go_wp2;exact⟨rfl,Ext1.refl _,rfl⟩
 intro w hA;refine zqw Y.jc rfl ?_;rw[if_pos rfl];apply YSys.seq0 hA (by kernel_rfl)
 . intro wc hB;go_wp2;exact⟨rfl,Ext1.refl _,rfl⟩
 intro w hA;refine zq13 Y.jc ?_;simp only[thenJ,zq16,bodyC];exact⟨rfl,.inl ⟨_,resultsC_tmp2 rfl _,((0:Int),(1:Int)),rfl,hA⟩⟩
theorem zqcg(Y:YSys Try.prog aM C ro i β){dv sv:Value}{k:Int}(h:NoMem Y dv k):SpecB Y 27 #[dv,sv,.int .i64 k] (Proc.ret (1:Int)) (λx=>.int .i64 x):=by
 refine SpecB.of Try.func27 rfl ?_;intro K s B w hK hA;simp only[zqj,Try.ntmps27,List.size_toArray,List.length_cons,List.length_nil,Nat.reduceAdd,Nat.reduceSub,Array.replicate_succ,Array.replicate_zero,List.push_toArray,List.append_toArray,List.nil_append,List.cons_append];apply YSys.seq0 hA (by kernel_rfl)
 . intro wc hB;go_wp2;exact⟨rfl,Ext1.refl _,rfl⟩
 intro w hA;refine zqe Y.jc (zqr Y.jc ?_);apply YSys.callP 0 2 1 hA (zq3b Y h) rfl rfl rfl (by rfl) rfl rfl rfl
 . intro wc hB X hX;have HX:=Lib.hid hX;clear hX;go_wp2;exact HX.out _ (Ext1.refl _)
 . intro w;simp[go_sem,execOp,Act.eval,resolve,Deferred.ofValue,invoke,callFunc,Try.func47,Try.f47]
 . intro w;simp[go_sem,execOp,Act.eval,resolve,Deferred.ofValue,invoke,callFunc,Try.func47,Try.f47]
 intro w hA;apply YSys.ops0 3 1 hA rfl rfl (by kernel_rfl)
 . intro wc hB;go_wp2;exact⟨rfl,Ext1.refl _,rfl⟩
 intro w hA;show wpJ Y.J _ _ _ _ _;refine zqe Y.jc (zq1x Y.jc ?_);apply YSys.seq0 hA (by kernel_rfl)
 . intro wc hB;go_wp2;exact⟨rfl,Ext1.refl _,rfl⟩
 intro w hA;refine zqw Y.jc rfl ?_;rw[if_pos rfl];apply YSys.seq0 hA (by kernel_rfl)
 . intro wc hB;go_wp2;exact⟨rfl,Ext1.refl _,rfl⟩
 intro w hA;refine zq13 Y.jc ?_;simp only[thenJ,zq16,bodyC];exact⟨rfl,.inl ⟨_,resultsC_tmp rfl _,(1:Int),rfl,hA⟩⟩
theorem zqdi(Y:YSys Try.prog aM C ro i β){dv sv:Value}{k:Int}(h:NoMem Y dv k)(n:Int):SpecB Y 24 #[dv,sv,.int .i64 k,.int .i64 n] (Proc.ret ((0:Int),(1:Int))) errV:=by
 refine SpecB.of Try.func24 rfl ?_;intro K s B w hK hA;simp only[zqj,Try.ntmps24,List.size_toArray,List.length_cons,List.length_nil,Nat.reduceAdd,Nat.reduceSub,Array.replicate_succ,Array.replicate_zero,List.push_toArray,List.append_toArray,List.nil_append,List.cons_append];apply YSys.seq0 hA (by kernel_rfl)
 . intro wc hB;go_wp2;exact⟨rfl,Ext1.refl _,rfl⟩
 intro w hA;refine zqe Y.jc (zqr Y.jc ?_);apply YSys.callP 0 2 1 hA (zq3b Y h) rfl rfl rfl (by rfl) rfl rfl rfl
 . intro wc hB X hX;have HX:=Lib.hid hX;clear hX;go_wp2;exact HX.out _ (Ext1.refl _)
 . intro w;simp[go_sem,execOp,Act.eval,resolve,Deferred.ofValue,invoke,callFunc,Try.func47,Try.f47]
 . intro w;simp[go_sem,execOp,Act.eval,resolve,Deferred.ofValue,invoke,callFunc,Try.func47,Try.f47]
 intro w hA;apply YSys.ops0 3 1 hA rfl rfl (by kernel_rfl)
 . intro wc hB;go_wp2;exact⟨rfl,Ext1.refl _,rfl⟩
 intro w hA;show wpJ Y.J _ _ _ _ _;refine zqe Y.jc ?_;apply YSys.seq0 hA (by kernel_rfl)
 . intro wc hB;go_wp2;exact⟨rfl,Ext1.refl _,rfl⟩
 intro w hA;refine zqw Y.jc rfl ?_;rw[if_pos rfl];apply YSys.seq0 hA (by kernel_rfl)
 . intro wc hB;go_wp2;exact⟨rfl,Ext1.refl _,rfl⟩
 intro w hA;refine zq13 Y.jc ?_;simp only[thenJ,zq16,bodyC];exact⟨rfl,.inl ⟨_,resultsC_tmp2 rfl _,((0:Int),(1:Int)),rfl,hA⟩⟩
theorem adv_none(Y:YSys Try.prog aM C ro i β){dv sv:Value}{k:Int}(h:NoMem Y dv k):SpecB Y 25 #[dv,sv,.int .i64 k] (Proc.ret (false,(1:Int))) errB:=by
 refine SpecB.of Try.func25 rfl ?_;intro K s B w hK hA;simp only[zqj,Try.ntmps25,List.size_toArray,List.length_cons,List.length_nil,Nat.reduceAdd,Nat.reduceSub,Array.replicate_succ,Array.replicate_zero,List.push_toArray,List.append_toArray,List.nil_append,List.cons_append];apply YSys.seq0 hA (by kernel_rfl)
 . intro wc hB;go_wp2;exact⟨rfl,Ext1.refl _,rfl⟩
 intro w hA;refine zqe Y.jc ?_;refine zqe Y.jc (zqr Y.jc ?_);apply YSys.callP 0 2 1 hA (zq3b Y h) rfl rfl rfl (by rfl) rfl rfl rfl
 . intro wc hB X hX;have HX:=Lib.hid hX;clear hX;go_wp2;exact HX.out _ (Ext1.refl _)
 . intro w;simp[go_sem,execOp,Act.eval,resolve,Deferred.ofValue,invoke,callFunc,Try.func47,Try.f47]
 . intro w;simp[go_sem,execOp,Act.eval,resolve,Deferred.ofValue,invoke,callFunc,Try.func47,Try.f47]
 intro w hA;apply YSys.ops0 3 1 hA rfl rfl (by kernel_rfl)
 . intro wc hB;go_wp2;exact⟨rfl,Ext1.refl _,rfl⟩
 intro w hA;show wpJ Y.J _ _ _ _ _;refine zqw Y.jc rfl ?_;rw[if_pos rfl];apply YSys.seq0 hA (by kernel_rfl)
 . intro wc hB;go_wp2;exact⟨rfl,Ext1.refl _,rfl⟩
 intro w hA;refine zq13 Y.jc ?_;simp only[thenJ,zq16,bodyC];exact⟨rfl,.inl ⟨_,resultsC_tmp2 rfl _,(false,(1:Int)),rfl,hA⟩⟩
theorem zqaz(Y:YSys Try.prog aM C ro i β){dv sv:Value}{k:Int}(h:NoMem Y dv k):SpecB Y 26 #[dv,sv,.int .i64 k] (Proc.ret ()) (λ_=>.tuple #[.slice none 0 0,.int .i64 1]):=by
 refine SpecB.of Try.func26 rfl ?_;intro K s B w hK hA;simp only[zqj,Try.ntmps26,List.size_toArray,List.length_cons,List.length_nil,Nat.reduceAdd,Nat.reduceSub,Array.replicate_succ,Array.replicate_zero,List.push_toArray,List.append_toArray,List.nil_append,List.cons_append];apply YSys.seq0 hA (by kernel_rfl)
 . intro wc hB;go_wp2;exact⟨rfl,Ext1.refl _,rfl⟩
 intro w hA;refine zqe Y.jc (zqr Y.jc ?_);apply YSys.callP 0 2 1 hA (zq3b Y h) rfl rfl rfl (by rfl) rfl rfl rfl
 . intro wc hB X hX;have HX:=Lib.hid hX;clear hX;go_wp2;exact HX.out _ (Ext1.refl _)
 . intro w;simp[go_sem,execOp,Act.eval,resolve,Deferred.ofValue,invoke,callFunc,Try.func47,Try.f47]
 . intro w;simp[go_sem,execOp,Act.eval,resolve,Deferred.ofValue,invoke,callFunc,Try.func47,Try.f47]
 intro w hA;apply YSys.ops0 3 1 hA rfl rfl (by kernel_rfl)
 . intro wc hB;go_wp2;exact⟨rfl,Ext1.refl _,rfl⟩
 intro w hA;show wpJ Y.J _ _ _ _ _;refine zqe Y.jc ?_;apply YSys.seq0 hA (by kernel_rfl)
 . intro wc hB;go_wp2;exact⟨rfl,Ext1.refl _,rfl⟩
 intro w hA;refine zqw Y.jc rfl ?_;rw[if_pos rfl];apply YSys.seq0 hA (by kernel_rfl)
 . intro wc hB;go_wp2;exact⟨rfl,Ext1.refl _,rfl⟩
 intro w hA;refine zq13 Y.jc ?_;simp only[thenJ,zq16,bodyC];exact⟨rfl,.inl ⟨_,resultsC_tmp2 rfl _,(),rfl,hA⟩⟩
end
set_option maxHeartbeats 16000000
def opE{S2:Type}(N k:Nat)(op:OpX):Proc (EpS×S2) Ans:=
 if op.k=1 then(zq2w k).bind λx=>Proc.ret ⟨x.2==0,x.1,[]⟩
 else if op.k=2 then(zq30 k).bind λx=>Proc.ret ⟨x==0,0,[]⟩
 else if op.k=3 then(zq33 k op.a).bind λx=>Proc.ret ⟨x.2==0,x.1,[]⟩
 else if op.k=4 then(advP N).bind λx=>Proc.ret ⟨x.2==0,if x.1=true then 1 else 0,[]⟩
 else if op.k=5 then(collP k).bind λl=>Proc.ret ⟨true,0,l⟩
 else Proc.ret Ans.none
def condT:Code->Code
 |.cond _ a _=>a
 |c=>c
def condE:Code->Code
 |.cond _ _ b=>b
 |c=>c
def zqv:Code->Code
 |.block _ c=>c
 |c=>c
def sndC:Code->Code
 |.seq _ b=>b
 |c=>c
noncomputable def doCh:Nat->Code
 |0=>zqv (sndC (headC (tailN 1 (Try.f33.body.getD .skip))))
 |j+1=>condE (sndC (doCh j))
noncomputable def doC(j:Nat):Code:=condT (sndC (doCh j))
def doF(db k:Nat)(sv:Value)(op:OpX)(b7 b8:Nat)(v:Nat->Value):Array Value:=#[.pointer (some ⟨db,0,none⟩),sv,.int .i64 k,op.val,v 4,v 5,v 6,.pointer (some ⟨b7,0,none⟩),.pointer (some ⟨b8,0,none⟩),v 9,v 10,v 11,v 12,v 13,v 14,v 15,v 16,v 17,v 18,.int .i64 op.k,v 20,v 21,v 22,v 23,v 24,v 25,v 26,v 27,v 28,v 29,v 30,v 31,v 32,v 33,v 34,v 35,v 36,v 37,v 38,v 39,v 40,v 41,v 42,v 43,v 44,v 45,v 46,v 47,v 48,v 49,v 50,v 51,v 52,v 53,v 54,v 55,v 56,v 57,v 58,v 59,v 60,v 61,v 62,v 63,v 64,v 65,v 66,v 67,v 68,v 69,v 70,v 71,v 72,v 73,v 74,v 75,v 76,v 77,v 78,v 79,v 80,v 81,v 82,v 83,v 84]
structure DoB(B Bq:Nat->Option Obj)(op:OpX)(b7 b8:Nat):Prop where
 h7:Bq b7=some (.cells op.cells.toArray 44)
 h8:Bq b8=some (.cells #[.bool false,.int .i64 0,.slice none 0 0] 48)
 hle:∀x y,B x=some y->Bq x=some y
 hn:B b8=none
def toldA(n e:Int):Ans:=if e=0 then⟨true,n,[]⟩else Ans.none
def toldV(n e:Int):Value:=.agg #[.bool (toldA n e).ok,.int .i64 (toldA n e).n,.slice none 0 0]
theorem zq3t(n e:Int){ti:TypeId}:AnsV ti (toldA n e) (toldV n e) (λ_=>none):=by
 unfold toldV toldA;split<;>exact AnsV.plain _ _ _
theorem zqj1(n e:Int)(w:World):Calls Try.prog 45 #[.int .i64 n,.int .i64 e] w λx w'=>x=.returned (toldV n e)/\Ext1 w w':=by
 by_cases h:e=0
 . subst h
   go_enter Try.func45,Try.ntmps45
   go_wp2;refine bodyPost_ret (v:=toldV n 0) (results_cell_row rfl _ _ w.heap.size 48 _ _ _ rfl (zq10 _ _) rfl rfl rfl) rfl ⟨rfl,Ext1.alloc _ _⟩
 . have hv:toldV n e=.agg #[.bool false,.int .i64 0,.slice none 0 0]:=by unfold toldV toldA;rw[if_neg h];rfl
   go_enter Try.func45,Try.ntmps45
   go_wp2;refine bodyPost_ret (v:=toldV n e) (by rw[hv];exact results_cell_row rfl _ _ w.heap.size 48 _ _ _ rfl (zq10 _ _) rfl rfl rfl) rfl ⟨rfl,Ext1.alloc _ _⟩
theorem zq35{Ml S β:Type}{C:Core Ml S}{ro:Nat->Option Obj}{i:Nat}(Y:YSys Try.prog aM C ro i β)(n e:Int):PureY Y 45 #[.int .i64 n,.int .i64 e] (toldV n e):=
 PureY.of Try.func45 rfl (by kernel_rfl) λB wc hB=>Calls.mono (zqj1 n e wc) λx w' h=>by
  obtain⟨rfl,h⟩:=h;exact⟨h,rfl⟩
abbrev stprV(stb:Nat):Value:=.iface 40 (.pointer (some ⟨stb,0,none⟩))
def actC(who:Int)(op:OpX):Array Value:=#[.int .i64 who,.int .i64 op.k,.int .i64 op.a,.int .i64 op.b,.int .i64 op.c]
def actV(who:Int)(op:OpX):Value:=.agg (actC who op)
def collER(x:List Int×Int)(v:Value)(X:Nat->Option Obj):Prop:=∃dv,v=.tuple #[dv,.int .i64 x.2]/\RowB X 2 1 dv x.1.length (x.1.map (Value.int .i64))/\x.1.length<=mostT
structure CallP(S:Type)where
 e:Proc S (Int×Int)
 l:Proc S Int
 r:Proc S (Int×Int)
 a:Proc S (Bool×Int)
 c:Proc S (List Int×Int)
structure CallF{Ml S β:Type}{C:Core Ml S}{ro:Nat->Option Obj}{i:Nat}(Y:YSys Try.prog aM C ro i β)(dv sv:Value)(who:Int)(op:OpX)(p:CallP S):Prop where
 enter:SpecY Y 23 #[dv,sv,.int .i64 who] p.e errV
 leave:SpecY Y 27 #[dv,sv,.int .i64 who] p.l (λx=>.int .i64 x)
 retire:SpecY Y 24 #[dv,sv,.int .i64 who,.int .i64 op.a] p.r errV
 adv:SpecY Y 25 #[dv,sv,.int .i64 who] p.a errB
 coll:SpecR Y 26 #[dv,sv,.int .i64 who] p.c collER
def callE{S:Type}(p:CallP S)(op:OpX):Proc S Ans:=
 if op.k=1 then p.e.bind λx=>Proc.ret (toldA x.1 x.2)
 else if op.k=2 then p.l.bind λx=>Proc.ret (toldA 0 x)
 else if op.k=3 then p.r.bind λx=>Proc.ret (toldA x.1 x.2)
 else if op.k=4 then p.a.bind λx=>Proc.ret (toldA (if x.1=true then 1 else 0) x.2)
 else if op.k=5 then p.c.bind λx=>Proc.ret ⟨(toldA 0 x.2).ok,0,x.1⟩
 else Proc.ret Ans.none
noncomputable def caCh:Nat->Code
 |0=>zqv (sndC (headC (tailN 1 (Try.f16.body.getD .skip))))
 |j+1=>condE (sndC (caCh j))
noncomputable def caC(j:Nat):Code:=condT (sndC (caCh j))
def caF(dv:Value)(stb:Nat)(who:Int)(op:OpX)(b5 b6:Nat)(v:Nat->Value):Array Value:=#[dv,.pointer (some ⟨stb,0,none⟩),(actV who op),v 3,v 4,.pointer (some ⟨b5,0,none⟩),.pointer (some ⟨b6,0,none⟩),v 7,v 8,v 9,v 10,v 11,v 12,v 13,v 14,v 15,.int .i64 op.k,v 17,v 18,v 19,v 20,v 21,v 22,v 23,v 24,v 25,v 26,v 27,v 28,v 29,v 30,v 31,v 32,v 33,v 34,v 35,v 36,v 37,v 38,v 39,v 40,v 41,v 42,v 43,v 44,v 45,v 46,v 47,v 48,v 49,v 50,v 51,v 52,v 53,v 54,v 55,v 56,v 57,v 58,v 59,v 60,v 61,v 62,v 63,v 64,v 65,v 66,v 67,v 68,v 69,v 70,v 71,v 72,v 73,v 74,v 75,v 76,v 77,v 78,v 79,v 80,v 81,v 82,v 83,v 84,v 85,v 86,v 87,v 88,v 89,v 90,v 91,v 92,v 93,v 94]
structure CaB(B Bq:Nat->Option Obj)(who:Int)(op:OpX)(b5 b6:Nat):Prop where
 h5:Bq b5=some (.cells (actC who op) 46)
 h6:Bq b6=some (.cells #[.bool false,.int .i64 0,.slice none 0 0] 48)
 hle:∀x y,B x=some y->Bq x=some y
 hn:B b6=none
section
variable {Ml S β:Type} {C:Core Ml S} {ro:Nat->Option Obj} {i:Nat}
theorem eca_c1(Y:YSys Try.prog aM C ro i β){dv:Value}{stb:Nat}{who:Int}{op:OpX}{p:CallP S}(hf:CallF Y dv (stprV stb) who op p){B Bq:Nat->Option Obj}{b5 b6:Nat}(hd:CaB B Bq who op b5 b6){K:Ans->Proc S β}(hK:∀a,Y.sil (K a)){Q:Y.γ->Exit->Act->World->Prop}{s:Y.γ}{w:World}{v:Nat->Value}
 (hret:∀s a w,(Y.Bd Try.f16 (PostR Y K (AnsV 2) B)) s a w->Q s .ret a w) (hpan:∀s ch t w,Y.Dead s ch w->Q s (.panic ch) ⟨t,[]⟩ w)
 (hA:Y.AtB Bq s w ((p.e.bind λx=>Proc.ret (toldA x.1 x.2)).bind K)):wpJ Y.J (caC 0) Q s ⟨caF dv stb who op b5 b6 v,[]⟩ w:=by
 have HKK:=Lib.hid hK;have H5:=Lib.hid hd.h5;have H6:=Lib.hid hd.h6;have HLE:=Lib.hid hd.hle;have HN:=Lib.hid hd.hn;clear hK hd;obtain⟨u_,hu_⟩:∃c,caC 0=c:=⟨_,rfl⟩;have eu_:=hu_;rw[hu_];simp only[caC,caCh,condT,condE,sndC,zqv,headC,tailN,Try.f16,al_od]at eu_;subst eu_;clear hu_;unfold caF;rw[Proc.bind_bind]at hA;refine zqe Y.jc (zqr Y.jc ?_);apply YSys.callR 0 5 4 hA hf.enter (λx=>HKK.out _) rfl rfl rfl (by rfl) rfl rfl rfl
 . intro wc hB X hX;have HX:=Lib.hid hX;clear hX;have c50:wc.cell? ⟨b5,0,none⟩=some (.int .i64 who):=(zq0 (hB.own.box b5 _ H5.out)).trans rfl;have c51:wc.cell? ⟨b5,1,none⟩=some (.int .i64 op.k):=(zq0 (hB.own.box b5 _ H5.out)).trans rfl;have c52:wc.cell? ⟨b5,2,none⟩=some (.int .i64 op.a):=(zq0 (hB.own.box b5 _ H5.out)).trans rfl;have c53:wc.cell? ⟨b5,3,none⟩=some (.int .i64 op.b):=(zq0 (hB.own.box b5 _ H5.out)).trans rfl;have c54:wc.cell? ⟨b5,4,none⟩=some (.int .i64 op.c):=(zq0 (hB.own.box b5 _ H5.out)).trans rfl;go_wp2;exact HX.out _ (Ext1.refl _)
 . intro w;simp[go_sem,execOp,Act.eval,resolve,Deferred.ofValue,invoke,callFunc,Try.func23,Try.f23]
 . intro w;simp[go_sem,execOp,Act.eval,resolve,Deferred.ofValue,invoke,callFunc,Try.func23,Try.f23]
 . intro s' ch w' h;exact hpan _ _ _ _ h
 intro s x w hA;apply YSys.callP 6 2 1 hA (zq35 Y x.1 x.2) rfl rfl rfl (by rfl) rfl rfl rfl
 . intro wc hB X hX;have HX:=Lib.hid hX;clear hX;go_wp2;exact HX.out _ (Ext1.refl _)
 . intro w;simp[go_sem,execOp,Act.eval,resolve,Deferred.ofValue,invoke,callFunc,Try.func45,Try.f45]
 . intro w;simp[go_sem,execOp,Act.eval,resolve,Deferred.ofValue,invoke,callFunc,Try.func45,Try.f45]
 intro w hA;unfold toldV;refine YSys.opsX 9 1 (λt B'=>t.getD 6 undef=.pointer (some ⟨b6,0,none⟩)/\B'=upB Bq b6 (.cells #[.bool (toldA x.1 x.2).ok,.int .i64 (toldA x.1 x.2).n,.slice none 0 0] 48)) hA rfl rfl (by kernel_rfl) ?_ ?_
 . intro wc hB X0 hX0;have HX0:=Lib.hid hX0;clear hX0;have k6:=hB.own.box b6 _ H6.out;have c60:wc.cell? ⟨b6,0,none⟩=some (.bool false):=(zq0 k6).trans rfl;have c61:wc.cell? ⟨b6,1,none⟩=some (.int .i64 0):=(zq0 k6).trans rfl;have c62:wc.cell? ⟨b6,2,none⟩=some (.slice none 0 0):=(zq0 k6).trans rfl;have f60:wc.frozen? ⟨b6,0,none⟩=false:=zq8 k6;have f61:wc.frozen? ⟨b6,1,none⟩=false:=zq8 k6;have f62:wc.frozen? ⟨b6,2,none⟩=false:=zq8 k6;have hm:=OMoved.set3 (o1:=0) (o2:=1) (o3:=2) hB.own H6.out (.bool (toldA x.1 x.2).ok) (.int .i64 (toldA x.1 x.2).n) (.slice none 0 0);have HM:=Lib.hid hm;clear hm k6;go_wp2;exact⟨rfl,HX0.out _ _ _ HM.out ⟨rfl,rfl⟩⟩
 rintro t _ w ⟨ht6,rfl⟩ hA;show wpJ Y.J _ _ _ _ _;refine zq13 Y.jc (hret _ _ _ ?_);refine YSys.left hA (v:=.agg #[.bool (toldA x.1 x.2).ok,.int .i64 (toldA x.1 x.2).n,.slice none 0 0]) (λwc hB=>results_cell_row rfl t wc b6 48 _ _ _ ht6 (hB.own.box b6 _ (upB_same _ _ _)) rfl rfl rfl) λw hA=>?_;exact⟨toldA x.1 x.2,λ_=>none,zq3t _ _,λb hb=>absurd rfl hb,hA.drop (zq1h HLE.out HN.out)⟩
end
section
variable {Ml S β:Type} {C:Core Ml S} {ro:Nat->Option Obj} {i:Nat}
theorem eca_c2(Y:YSys Try.prog aM C ro i β){dv:Value}{stb:Nat}{who:Int}{op:OpX}{p:CallP S}(hf:CallF Y dv (stprV stb) who op p){B Bq:Nat->Option Obj}{b5 b6:Nat}(hd:CaB B Bq who op b5 b6){K:Ans->Proc S β}(hK:∀a,Y.sil (K a)){Q:Y.γ->Exit->Act->World->Prop}{s:Y.γ}{w:World}{v:Nat->Value}
 (hret:∀s a w,(Y.Bd Try.f16 (PostR Y K (AnsV 2) B)) s a w->Q s .ret a w) (hpan:∀s ch t w,Y.Dead s ch w->Q s (.panic ch) ⟨t,[]⟩ w)
 (hA:Y.AtB Bq s w ((p.l.bind λx=>Proc.ret (toldA 0 x)).bind K)):wpJ Y.J (caC 1) Q s ⟨caF dv stb who op b5 b6 v,[]⟩ w:=by
 have HKK:=Lib.hid hK;have H5:=Lib.hid hd.h5;have H6:=Lib.hid hd.h6;have HLE:=Lib.hid hd.hle;have HN:=Lib.hid hd.hn;clear hK hd;obtain⟨u_,hu_⟩:∃c,caC 1=c:=⟨_,rfl⟩;have eu_:=hu_;rw[hu_];simp only[caC,caCh,condT,condE,sndC,zqv,headC,tailN,Try.f16,al_od]at eu_;subst eu_;clear hu_;unfold caF;rw[Proc.bind_bind]at hA;refine zqe Y.jc (zqr Y.jc ?_);apply YSys.callR 0 5 2 hA hf.leave (λx=>HKK.out _) rfl rfl rfl (by rfl) rfl rfl rfl
 . intro wc hB X hX;have HX:=Lib.hid hX;clear hX;have c50:wc.cell? ⟨b5,0,none⟩=some (.int .i64 who):=(zq0 (hB.own.box b5 _ H5.out)).trans rfl;have c51:wc.cell? ⟨b5,1,none⟩=some (.int .i64 op.k):=(zq0 (hB.own.box b5 _ H5.out)).trans rfl;have c52:wc.cell? ⟨b5,2,none⟩=some (.int .i64 op.a):=(zq0 (hB.own.box b5 _ H5.out)).trans rfl;have c53:wc.cell? ⟨b5,3,none⟩=some (.int .i64 op.b):=(zq0 (hB.own.box b5 _ H5.out)).trans rfl;have c54:wc.cell? ⟨b5,4,none⟩=some (.int .i64 op.c):=(zq0 (hB.own.box b5 _ H5.out)).trans rfl;go_wp2;exact HX.out _ (Ext1.refl _)
 . intro w;simp[go_sem,execOp,Act.eval,resolve,Deferred.ofValue,invoke,callFunc,Try.func27,Try.f27]
 . intro w;simp[go_sem,execOp,Act.eval,resolve,Deferred.ofValue,invoke,callFunc,Try.func27,Try.f27]
 . intro s' ch w' h;exact hpan _ _ _ _ h
 intro s x w hA;apply YSys.callP 6 0 1 hA (zq35 Y 0 x) rfl rfl rfl (by rfl) rfl rfl rfl
 . intro wc hB X hX;have HX:=Lib.hid hX;clear hX;go_wp2;exact HX.out _ (Ext1.refl _)
 . intro w;simp[go_sem,execOp,Act.eval,resolve,Deferred.ofValue,invoke,callFunc,Try.func45,Try.f45]
 . intro w;simp[go_sem,execOp,Act.eval,resolve,Deferred.ofValue,invoke,callFunc,Try.func45,Try.f45]
 intro w hA;unfold toldV;refine YSys.opsX 7 1 (λt B'=>t.getD 6 undef=.pointer (some ⟨b6,0,none⟩)/\B'=upB Bq b6 (.cells #[.bool (toldA 0 x).ok,.int .i64 (toldA 0 x).n,.slice none 0 0] 48)) hA rfl rfl (by kernel_rfl) ?_ ?_
 . intro wc hB X0 hX0;have HX0:=Lib.hid hX0;clear hX0;have k6:=hB.own.box b6 _ H6.out;have c60:wc.cell? ⟨b6,0,none⟩=some (.bool false):=(zq0 k6).trans rfl;have c61:wc.cell? ⟨b6,1,none⟩=some (.int .i64 0):=(zq0 k6).trans rfl;have c62:wc.cell? ⟨b6,2,none⟩=some (.slice none 0 0):=(zq0 k6).trans rfl;have f60:wc.frozen? ⟨b6,0,none⟩=false:=zq8 k6;have f61:wc.frozen? ⟨b6,1,none⟩=false:=zq8 k6;have f62:wc.frozen? ⟨b6,2,none⟩=false:=zq8 k6;have hm:=OMoved.set3 (o1:=0) (o2:=1) (o3:=2) hB.own H6.out (.bool (toldA 0 x).ok) (.int .i64 (toldA 0 x).n) (.slice none 0 0);have HM:=Lib.hid hm;clear hm k6;go_wp2;exact⟨rfl,HX0.out _ _ _ HM.out ⟨rfl,rfl⟩⟩
 rintro t _ w ⟨ht6,rfl⟩ hA;show wpJ Y.J _ _ _ _ _;refine zq13 Y.jc (hret _ _ _ ?_);refine YSys.left hA (v:=.agg #[.bool (toldA 0 x).ok,.int .i64 (toldA 0 x).n,.slice none 0 0]) (λwc hB=>results_cell_row rfl t wc b6 48 _ _ _ ht6 (hB.own.box b6 _ (upB_same _ _ _)) rfl rfl rfl) λw hA=>?_;exact⟨toldA 0 x,λ_=>none,zq3t _ _,λb hb=>absurd rfl hb,hA.drop (zq1h HLE.out HN.out)⟩
end
section
variable {Ml S β:Type} {C:Core Ml S} {ro:Nat->Option Obj} {i:Nat}
theorem eca_c3(Y:YSys Try.prog aM C ro i β){dv:Value}{stb:Nat}{who:Int}{op:OpX}{p:CallP S}(hf:CallF Y dv (stprV stb) who op p){B Bq:Nat->Option Obj}{b5 b6:Nat}(hd:CaB B Bq who op b5 b6){K:Ans->Proc S β}(hK:∀a,Y.sil (K a)){Q:Y.γ->Exit->Act->World->Prop}{s:Y.γ}{w:World}{v:Nat->Value}
 (hret:∀s a w,(Y.Bd Try.f16 (PostR Y K (AnsV 2) B)) s a w->Q s .ret a w) (hpan:∀s ch t w,Y.Dead s ch w->Q s (.panic ch) ⟨t,[]⟩ w)
 (hA:Y.AtB Bq s w ((p.r.bind λx=>Proc.ret (toldA x.1 x.2)).bind K)):wpJ Y.J (caC 2) Q s ⟨caF dv stb who op b5 b6 v,[]⟩ w:=by
 have HKK:=Lib.hid hK;have H5:=Lib.hid hd.h5;have H6:=Lib.hid hd.h6;have HLE:=Lib.hid hd.hle;have HN:=Lib.hid hd.hn;clear hK hd;obtain⟨u_,hu_⟩:∃c,caC 2=c:=⟨_,rfl⟩;have eu_:=hu_;rw[hu_];simp only[caC,caCh,condT,condE,sndC,zqv,headC,tailN,Try.f16,al_od]at eu_;subst eu_;clear hu_;unfold caF;rw[Proc.bind_bind]at hA;refine zqe Y.jc (zqr Y.jc ?_);apply YSys.callR 0 8 4 hA hf.retire (λx=>HKK.out _) rfl rfl rfl (by rfl) rfl rfl rfl
 . intro wc hB X hX;have HX:=Lib.hid hX;clear hX;have c50:wc.cell? ⟨b5,0,none⟩=some (.int .i64 who):=(zq0 (hB.own.box b5 _ H5.out)).trans rfl;have c51:wc.cell? ⟨b5,1,none⟩=some (.int .i64 op.k):=(zq0 (hB.own.box b5 _ H5.out)).trans rfl;have c52:wc.cell? ⟨b5,2,none⟩=some (.int .i64 op.a):=(zq0 (hB.own.box b5 _ H5.out)).trans rfl;have c53:wc.cell? ⟨b5,3,none⟩=some (.int .i64 op.b):=(zq0 (hB.own.box b5 _ H5.out)).trans rfl;have c54:wc.cell? ⟨b5,4,none⟩=some (.int .i64 op.c):=(zq0 (hB.own.box b5 _ H5.out)).trans rfl;go_wp2;exact HX.out _ (Ext1.refl _)
 . intro w;simp[go_sem,execOp,Act.eval,resolve,Deferred.ofValue,invoke,callFunc,Try.func24,Try.f24]
 . intro w;simp[go_sem,execOp,Act.eval,resolve,Deferred.ofValue,invoke,callFunc,Try.func24,Try.f24]
 . intro s' ch w' h;exact hpan _ _ _ _ h
 intro s x w hA;apply YSys.callP 9 2 1 hA (zq35 Y x.1 x.2) rfl rfl rfl (by rfl) rfl rfl rfl
 . intro wc hB X hX;have HX:=Lib.hid hX;clear hX;go_wp2;exact HX.out _ (Ext1.refl _)
 . intro w;simp[go_sem,execOp,Act.eval,resolve,Deferred.ofValue,invoke,callFunc,Try.func45,Try.f45]
 . intro w;simp[go_sem,execOp,Act.eval,resolve,Deferred.ofValue,invoke,callFunc,Try.func45,Try.f45]
 intro w hA;unfold toldV;refine YSys.opsX 12 1 (λt B'=>t.getD 6 undef=.pointer (some ⟨b6,0,none⟩)/\B'=upB Bq b6 (.cells #[.bool (toldA x.1 x.2).ok,.int .i64 (toldA x.1 x.2).n,.slice none 0 0] 48)) hA rfl rfl (by kernel_rfl) ?_ ?_
 . intro wc hB X0 hX0;have HX0:=Lib.hid hX0;clear hX0;have k6:=hB.own.box b6 _ H6.out;have c60:wc.cell? ⟨b6,0,none⟩=some (.bool false):=(zq0 k6).trans rfl;have c61:wc.cell? ⟨b6,1,none⟩=some (.int .i64 0):=(zq0 k6).trans rfl;have c62:wc.cell? ⟨b6,2,none⟩=some (.slice none 0 0):=(zq0 k6).trans rfl;have f60:wc.frozen? ⟨b6,0,none⟩=false:=zq8 k6;have f61:wc.frozen? ⟨b6,1,none⟩=false:=zq8 k6;have f62:wc.frozen? ⟨b6,2,none⟩=false:=zq8 k6;have hm:=OMoved.set3 (o1:=0) (o2:=1) (o3:=2) hB.own H6.out (.bool (toldA x.1 x.2).ok) (.int .i64 (toldA x.1 x.2).n) (.slice none 0 0);have HM:=Lib.hid hm;clear hm k6;go_wp2;exact⟨rfl,HX0.out _ _ _ HM.out ⟨rfl,rfl⟩⟩
 rintro t _ w ⟨ht6,rfl⟩ hA;show wpJ Y.J _ _ _ _ _;refine zq13 Y.jc (hret _ _ _ ?_);refine YSys.left hA (v:=.agg #[.bool (toldA x.1 x.2).ok,.int .i64 (toldA x.1 x.2).n,.slice none 0 0]) (λwc hB=>results_cell_row rfl t wc b6 48 _ _ _ ht6 (hB.own.box b6 _ (upB_same _ _ _)) rfl rfl rfl) λw hA=>?_;exact⟨toldA x.1 x.2,λ_=>none,zq3t _ _,λb hb=>absurd rfl hb,hA.drop (zq1h HLE.out HN.out)⟩
end
section
variable {Ml S β:Type} {C:Core Ml S} {ro:Nat->Option Obj} {i:Nat}
theorem eca_c4(Y:YSys Try.prog aM C ro i β){dv:Value}{stb:Nat}{who:Int}{op:OpX}{p:CallP S}(hf:CallF Y dv (stprV stb) who op p){B Bq:Nat->Option Obj}{b5 b6:Nat}(hd:CaB B Bq who op b5 b6){K:Ans->Proc S β}(hK:∀a,Y.sil (K a)){Q:Y.γ->Exit->Act->World->Prop}{s:Y.γ}{w:World}{v:Nat->Value}
 (hret:∀s a w,(Y.Bd Try.f16 (PostR Y K (AnsV 2) B)) s a w->Q s .ret a w) (hpan:∀s ch t w,Y.Dead s ch w->Q s (.panic ch) ⟨t,[]⟩ w)
 (hA:Y.AtB Bq s w ((p.a.bind λx=>Proc.ret (toldA (if x.1=true then 1 else 0) x.2)).bind K)):wpJ Y.J (caC 3) Q s ⟨caF dv stb who op b5 b6 v,[]⟩ w:=by
 have HKK:=Lib.hid hK;have H5:=Lib.hid hd.h5;have H6:=Lib.hid hd.h6;have HLE:=Lib.hid hd.hle;have HN:=Lib.hid hd.hn;clear hK hd;obtain⟨u_,hu_⟩:∃c,caC 3=c:=⟨_,rfl⟩;have eu_:=hu_;rw[hu_];simp only[caC,caCh,condT,condE,sndC,zqv,headC,tailN,Try.f16,al_od]at eu_;subst eu_;clear hu_;unfold caF;rw[Proc.bind_bind]at hA;refine zqe Y.jc (zqr Y.jc ?_);apply YSys.callR 0 5 5 hA hf.adv (λx=>HKK.out _) rfl rfl rfl (by rfl) rfl rfl rfl
 . intro wc hB X hX;have HX:=Lib.hid hX;clear hX;have c50:wc.cell? ⟨b5,0,none⟩=some (.int .i64 who):=(zq0 (hB.own.box b5 _ H5.out)).trans rfl;have c51:wc.cell? ⟨b5,1,none⟩=some (.int .i64 op.k):=(zq0 (hB.own.box b5 _ H5.out)).trans rfl;have c52:wc.cell? ⟨b5,2,none⟩=some (.int .i64 op.a):=(zq0 (hB.own.box b5 _ H5.out)).trans rfl;have c53:wc.cell? ⟨b5,3,none⟩=some (.int .i64 op.b):=(zq0 (hB.own.box b5 _ H5.out)).trans rfl;have c54:wc.cell? ⟨b5,4,none⟩=some (.int .i64 op.c):=(zq0 (hB.own.box b5 _ H5.out)).trans rfl;go_wp2;exact HX.out _ (Ext1.refl _)
 . intro w;simp[go_sem,execOp,Act.eval,resolve,Deferred.ofValue,invoke,callFunc,Try.func25,Try.f25]
 . intro w;simp[go_sem,execOp,Act.eval,resolve,Deferred.ofValue,invoke,callFunc,Try.func25,Try.f25]
 . intro s' ch w' h;exact hpan _ _ _ _ h
 intro s x w hA;apply YSys.ops0 6 5 hA rfl rfl (by kernel_rfl)
 . intro wc hB;go_wp2;exact⟨rfl,Ext1.refl _,rfl⟩
 intro w hA;show wpJ Y.J _ _ _ _ _;apply YSys.seq0 hA (by kernel_rfl)
 . intro wc hB;go_wp2;exact⟨rfl,Ext1.refl _,rfl⟩
 intro w hA;refine zqe Y.jc ?_;apply YSys.seq0 hA (by kernel_rfl)
 . intro wc hB;go_wp2;exact⟨rfl,Ext1.refl _,rfl⟩
 intro w hA;refine zqw Y.jc rfl ?_
 by_cases hx:x.1=true
 . rw[if_pos hx];rw[if_pos hx]at hA;clear hx;apply YSys.code0 hA (by kernel_rfl)
   . intro wc hB;go_wp2;exact⟨rfl,Ext1.refl _,rfl⟩
   intro w hA;show wpJ Y.J _ _ _ _ _;refine zqe Y.jc (zqr Y.jc ?_);apply YSys.callP 0 2 1 hA (zq35 Y 1 x.2) rfl rfl rfl (by rfl) rfl rfl rfl
   . intro wc hB X hX;have HX:=Lib.hid hX;clear hX;go_wp2;exact HX.out _ (Ext1.refl _)
   . intro w;simp[go_sem,execOp,Act.eval,resolve,Deferred.ofValue,invoke,callFunc,Try.func45,Try.f45]
   . intro w;simp[go_sem,execOp,Act.eval,resolve,Deferred.ofValue,invoke,callFunc,Try.func45,Try.f45]
   intro w hA;unfold toldV;refine YSys.opsX 3 1 (λt B'=>t.getD 6 undef=.pointer (some ⟨b6,0,none⟩)/\B'=upB Bq b6 (.cells #[.bool (toldA 1 x.2).ok,.int .i64 (toldA 1 x.2).n,.slice none 0 0] 48)) hA rfl rfl (by kernel_rfl) ?_ ?_
   . intro wc hB X0 hX0;have HX0:=Lib.hid hX0;clear hX0;have k6:=hB.own.box b6 _ H6.out;have c60:wc.cell? ⟨b6,0,none⟩=some (.bool false):=(zq0 k6).trans rfl;have c61:wc.cell? ⟨b6,1,none⟩=some (.int .i64 0):=(zq0 k6).trans rfl;have c62:wc.cell? ⟨b6,2,none⟩=some (.slice none 0 0):=(zq0 k6).trans rfl;have f60:wc.frozen? ⟨b6,0,none⟩=false:=zq8 k6;have f61:wc.frozen? ⟨b6,1,none⟩=false:=zq8 k6;have f62:wc.frozen? ⟨b6,2,none⟩=false:=zq8 k6;have hm:=OMoved.set3 (o1:=0) (o2:=1) (o3:=2) hB.own H6.out (.bool (toldA 1 x.2).ok) (.int .i64 (toldA 1 x.2).n) (.slice none 0 0);have HM:=Lib.hid hm;clear hm k6;go_wp2;exact⟨rfl,HX0.out _ _ _ HM.out ⟨rfl,rfl⟩⟩
   rintro t _ w ⟨ht6,rfl⟩ hA;show wpJ Y.J _ _ _ _ _;refine zq13 Y.jc (hret _ _ _ ?_);refine YSys.left hA (v:=.agg #[.bool (toldA 1 x.2).ok,.int .i64 (toldA 1 x.2).n,.slice none 0 0]) (λwc hB=>results_cell_row rfl t wc b6 48 _ _ _ ht6 (hB.own.box b6 _ (upB_same _ _ _)) rfl rfl rfl) λw hA=>?_;exact⟨toldA 1 x.2,λ_=>none,zq3t _ _,λb hb=>absurd rfl hb,hA.drop (zq1h HLE.out HN.out)⟩
 . rw[if_neg hx];rw[if_neg hx]at hA;clear hx;refine zq1l Y.jc ?_;show wpJ Y.J _ _ _ _ _;refine zqe Y.jc (zqr Y.jc ?_);apply YSys.callP 0 2 1 hA (zq35 Y 0 x.2) rfl rfl rfl (by rfl) rfl rfl rfl
   . intro wc hB X hX;have HX:=Lib.hid hX;clear hX;go_wp2;exact HX.out _ (Ext1.refl _)
   . intro w;simp[go_sem,execOp,Act.eval,resolve,Deferred.ofValue,invoke,callFunc,Try.func45,Try.f45]
   . intro w;simp[go_sem,execOp,Act.eval,resolve,Deferred.ofValue,invoke,callFunc,Try.func45,Try.f45]
   intro w hA;unfold toldV;refine YSys.opsX 3 1 (λt B'=>t.getD 6 undef=.pointer (some ⟨b6,0,none⟩)/\B'=upB Bq b6 (.cells #[.bool (toldA 0 x.2).ok,.int .i64 (toldA 0 x.2).n,.slice none 0 0] 48)) hA rfl rfl (by kernel_rfl) ?_ ?_
   . intro wc hB X0 hX0;have HX0:=Lib.hid hX0;clear hX0;have k6:=hB.own.box b6 _ H6.out;have c60:wc.cell? ⟨b6,0,none⟩=some (.bool false):=(zq0 k6).trans rfl;have c61:wc.cell? ⟨b6,1,none⟩=some (.int .i64 0):=(zq0 k6).trans rfl;have c62:wc.cell? ⟨b6,2,none⟩=some (.slice none 0 0):=(zq0 k6).trans rfl;have f60:wc.frozen? ⟨b6,0,none⟩=false:=zq8 k6;have f61:wc.frozen? ⟨b6,1,none⟩=false:=zq8 k6;have f62:wc.frozen? ⟨b6,2,none⟩=false:=zq8 k6;have hm:=OMoved.set3 (o1:=0) (o2:=1) (o3:=2) hB.own H6.out (.bool (toldA 0 x.2).ok) (.int .i64 (toldA 0 x.2).n) (.slice none 0 0);have HM:=Lib.hid hm;clear hm k6;go_wp2;exact⟨rfl,HX0.out _ _ _ HM.out ⟨rfl,rfl⟩⟩
   rintro t _ w ⟨ht6,rfl⟩ hA;show wpJ Y.J _ _ _ _ _;refine zq13 Y.jc (hret _ _ _ ?_);refine YSys.left hA (v:=.agg #[.bool (toldA 0 x.2).ok,.int .i64 (toldA 0 x.2).n,.slice none 0 0]) (λwc hB=>results_cell_row rfl t wc b6 48 _ _ _ ht6 (hB.own.box b6 _ (upB_same _ _ _)) rfl rfl rfl) λw hA=>?_;exact⟨toldA 0 x.2,λ_=>none,zq3t _ _,λb hb=>absurd rfl hb,hA.drop (zq1h HLE.out HN.out)⟩
end
end Go.Proofs
namespace Go.Car
open Go Go.Conc Go.RowKit
theorem hao(w:World)(o:Obj)(b:Nat)(h:b<w.heap.size):(w.alloc o).heap[b]?=w.heap[b]?:=by first|exact heap_alloc_old w o b h|exact heap_alloc_old w o h
structure Wr(X:Nat->Prop)(w w':World):Prop where
 size:w.heap.size<=w'.heap.size
 shp:∀(b:Nat)(c:Array Value)(T:TypeId),w.heap[b]?=some (.cells c T)->∃c',w'.heap[b]?=some (.cells c' T)/\c'.size=c.size
 old:∀b,b<w.heap.size->¬X b->w'.heap[b]?=w.heap[b]?
section
variable {X:Nat->Prop} {w w' w'':World}
theorem Wr.refl (X:Nat->Prop)(w:World):Wr X w w:=⟨Nat.le_refl _,λb c T h=>⟨c,h,rfl⟩,λ_ _ _=>rfl⟩
end
section
variable {P:Program}
theorem app_wr(w:World)(t ty e:TypeId)(i:TypeInfo)(z:Value)(size bytes:Nat)(ht:P.underlying t=some (.slice e))(hi:P.info? e=some i)(hz:i.zero=some z)(hsize:i.size=size)(hby:i.bytes=bytes)(hzs:z.cells.size=size)(hsz:0<size)
 {v:Value} {n:Nat} {xs:List Value} {B:Nat} (hown:w.ownsRow B e size v n xs) (hB:B<=w.heap.size) (pa:Option Addr) (m c:Nat) (news:List Value) (hl:news.length=m*size) (hnews:0<m->∃a,pa=some a/\∀j u,news[j]?=some u->w.cell? (a.add j)=some u) (h1:∀u∈news,u.oneCell'=true)
 (h63:n+m<=maxLen) (hbytes:(n+m)*bytes<=140737488355328):
 ∃v' w',(Builtin.append_ #[t,t] ty #[v,.slice pa m c]).run P w=.ok v' w'/\w'.ownsRow B e size v' (n+m) (xs++news)/\Wr (λb=>v.ownBlock=some b) w w'/\(v'.ownBlock=v.ownBlock\/v'.ownBlock=some w.heap.size)/\
  (∀g o,v.ownBlock=some g->o<n*size->w'.cell? ⟨g,o,none⟩=w.cell? ⟨g,o,none⟩)/\(m=0->w'=w/\v'=v):=by
 subst hsize;subst hby
 have hsmall:n+m<=9223372036854775807:=by simp only[maxLen]at h63;omega
 by_cases hm:m=0
 . subst hm;have hn:news=[]:=List.eq_nil_of_length_eq_zero (by simpa using hl);subst hn;refine⟨v,w,?_,by simpa using hown,Wr.refl _ _,.inl rfl,λ_ _ _ _=>rfl,λ_=>⟨rfl,rfl⟩⟩;rcases hown.2 with⟨rfl,rfl⟩|⟨g,cap,cur,rfl,hbg,hg,hnc,hcm,hcs,htake⟩
   . cases pa<;>simp[Builtin.append_,run_underlying ht,sizeOf,typeInfo,hi,Builtin.lenOf,Builtin.firstCells,loadCells,loadCellsFrom,storeCells]
   . cases pa<;>simp[Builtin.append_,run_underlying ht,sizeOf,typeInfo,hi,Builtin.lenOf,Builtin.firstCells,loadCells,loadCellsFrom,storeCells,hnc]
 . obtain⟨a,rfl,hnw⟩:=hnews (Nat.pos_of_ne_zero hm);clear hnews;rcases hown.2 with⟨rfl,rfl⟩|⟨g,cap,cur,rfl,hbg,hg,hnc,hcm,hcs,htake⟩
   . obtain⟨g,cap,w',hr,h2,h3,h4,_⟩:=run_append_lies (P:=P) w t ty B e i z i.size i.bytes ht hi hz rfl rfl hzs hsz _ 0 xs hown a m c news hl hnw h1 (Nat.pos_of_ne_zero hm) h63 hbytes hB _ rfl;have same:∀b,b<w.heap.size->w'.heap[b]?=w.heap[b]?:=λb hb=>h3.block b hb (by simp[Value.ownBlock]);refine⟨_,_,hr,h2,⟨h3.size,λb c T hb=>⟨c,(same b (zqf hb)).trans hb,rfl⟩,λb hb _=>same b hb⟩,?_,λg o h=>(by simp[Value.ownBlock]at h),λh=>absurd h hm⟩;rcases h4 with h|h
     . simp[Value.ownBlock]at h
     . exact .inr (by simp[Value.ownBlock,h])
   . have hlen:(xs++news).length=(n+m)*i.size:=by rw[List.length_append,hown.1,hl,Nat.add_mul]
     by_cases hroom:n+m<=cap
     . have hfit:n*i.size+news.length<=cur.size:=by rw[hl,hcs,<-Nat.add_mul];exact Nat.mul_le_mul_right _ hroom
       have hr:=run_append_room (P:=P) w t ty e i ht hi g n cap cur hg a m c news hl hnw h1 hroom hfit;have hsz2:(cur.toList.take (n*i.size)++news++cur.toList.drop (n*i.size+news.length)).toArray.size=cur.size:=by
        simp only[List.size_toArray,List.length_append,List.length_take,List.length_drop,Array.length_toList];omega
       have hh:=setRow_heap w g cur (cur.toList.take (n*i.size)++news++cur.toList.drop (n*i.size+news.length)).toArray e (0,0) hg;refine⟨_,_,hr,⟨hlen,.inr ⟨g,cap,_,rfl,hbg,hh,hroom,hcm,by rw[hsz2,hcs],?_⟩⟩,⟨by simp,λb c T hb=>?_,λb _ hx=>setRow_other w g b _ (λe=>hx (by simp[Value.ownBlock,e]))⟩,.inl rfl,λg2 o h ho=>?_,λh=>absurd h hm⟩
       . rw[htake,<-hlen];exact List.take_left
       . by_cases e2:b=g
         . subst e2;have:=hg.symm.trans hb;simp only[al_oi,Obj.cells.injEq]at this;obtain⟨rfl,rfl,-⟩:=this;exact⟨_,hh,hsz2⟩
         . exact⟨c,(setRow_other w g b _ e2).trans hb,rfl⟩
       . simp only[Value.ownBlock,al_oi]at h;subst h;rw[zq0 hg];rw[zq0 hh,al_gl,List.append_assoc,List.getElem?_append_left (by rw[List.length_take,Array.length_toList];omega),List.getElem?_take,if_pos ho,Array.getElem?_toList]
     . have holds:∀j u,xs[j]?=some u->w.cell? ((⟨g,0,none⟩:Addr).add j)=some u:=hown.cells (g:=g) rfl;have hr:=run_append_grow (P:=P) w t ty e i z ht hi hz ⟨g,0,none⟩ n cap xs hown.1 holds a m c news hl hnw (by omega) (by omega) (growslice_fits (by omega) hbytes);have hge:=grownCap_ge w (n+m) cap e;have hcm':grownCap w (n+m) cap e<=maxLen:=grownCap_le_maxLen w (n+m) cap e h63;refine⟨_,_,hr,⟨hlen,.inr ⟨w.heap.size,_,_,rfl,hB,heap_alloc_new w.drew _,hge,hcm',?_,?_⟩⟩,⟨by simp,λb c T hb=>⟨c,(hao w.drew _ b (zqf hb)).trans hb,rfl⟩,λb hb _=>hao w.drew _ b hb⟩,.inr rfl,λg2 o h _=>?_,λh=>absurd h hm⟩
       . simp only[Array.size_append,List.size_toArray,size_zeroCells,hzs,hown.1,hl,<-Nat.add_mul];congr 1;omega
       . simp only[Array.toList_append,List.append_assoc];rw[<-List.append_assoc,<-hlen];exact List.take_left
       . simp only[Value.ownBlock,al_oi]at h;subst h;exact zq14 (hao w.drew _ g (zqf hg))
theorem zqa2{ops:Array Oper}{rest:List Oper}{o:Oper}{a:Act}{Q:Exit->Act->World->Prop}{w w':World}{v:Value}(hgd:o.guard=none)(s x:Operand)(t:TypeId)
 (ho:o.op=.call {callee:=.builtin .append,args:=#[s,x],argTypes:=#[t,t]}) (hr:(Builtin.append_ #[t,t] o.type #[a.eval s,a.eval x]).run P w=.ok v w') (h:wpList P ops Q rest (a.put o.dst v) w'):wpList P ops Q (o::rest) a w:=
 wpList_plain hgd λ_ hK=>by
  unfold Oper.wp execOp;simp only[ho,resolve,invoke,builtin,Sem.run_bind,Sem.run_pure,Result.andThen_ok,List.map_toArray,List.map_cons,List.map_nil,hr];exact hK _ _ h
end
end Go.Car
set_option maxHeartbeats 16000000
namespace Go.Proofs
open Go Go.Conc Go.RowKit Go.Car
section
variable {Ml S β:Type} {C:Core Ml S} {ro:Nat->Option Obj} {i:Nat}
def caF5(dv:Value)(stb:Nat)(who:Int)(op:OpX)(b5 b6 b12:Nat)(dp:Option Addr)(L dc:Nat)(v:Nat->Value):Array Value:=#[dv,.pointer (some ⟨stb,0,none⟩),(actV who op),v 3,v 4,.pointer (some ⟨b5,0,none⟩),.pointer (some ⟨b6,0,none⟩),v 7,v 8,v 9,.slice dp L dc,v 11,.pointer (some ⟨b12,0,none⟩),v 13,v 14,v 15,.int .i64 op.k,v 17,v 18,v 19,v 20,v 21,v 22,v 23,v 24,v 25,v 26,v 27,v 28,v 29,v 30,v 31,v 32,v 33,v 34,v 35,v 36,v 37,v 38,v 39,v 40,v 41,v 42,v 43,v 44,v 45,v 46,v 47,v 48,v 49,v 50,v 51,v 52,v 53,v 54,v 55,v 56,v 57,v 58,v 59,v 60,v 61,v 62,v 63,v 64,v 65,v 66,v 67,v 68,v 69,v 70,v 71,v 72,v 73,v 74,v 75,v 76,v 77,v 78,v 79,v 80,v 81,v 82,v 83,v 84,v 85,v 86,v 87,v 88,v 89,v 90,v 91,v 92,v 93,v 94]
theorem coll_end{ro X Bq:Nat->Option Obj}{b5 b6 b12 stb:Nat}{who:Int}{op:OpX}{dv:Value}{dp:Option Addr}{dc:Nat}{l:List Int}{okv:Bool}{v:Nat->Value}{wc:World}(hB:OwnRep ro (upB (orB X Bq) b12 (.cells #[.bool okv,.int .i64 0,.slice none 0 0] 48)) wc)(h6:Bq b6=some (.cells #[.bool false,.int .i64 0,.slice none 0 0] 48))(h12:orB X Bq b12=none)(hlm:l.length<=mostT)
 (hrow:RowB X 2 1 (.slice dp l.length dc) l.length (l.map (Value.int .i64))) (hXB:∀b,X b≠none->Bq b=none) {R:Act->World->Prop}
 (hR:∀t np nc w' Xn,t.getD 6 undef=.pointer (some ⟨b6,0,none⟩)->RowB Xn 2 1 (.slice np l.length nc) l.length (l.map (Value.int .i64))->(∀b,Xn b≠none->Bq b=none)->OMoved (upB (orB X Bq) b12 (.cells #[.bool okv,.int .i64 0,.slice none 0 0] 48)) wc (upB (orB Xn Bq) b6 (.cells #[.bool okv,.int .i64 0,.slice np l.length nc] 48)) w'->R ⟨t,[]⟩ w'):
 Code.wp Try.prog (tailN 2 (caC 4)) (ends (λ_ _=>False) R) ⟨caF5 dv stb who op b5 b6 b12 dp l.length dc v,[]⟩ wc:=by
 obtain⟨hx6,hx12,hq12⟩:X b6=none/\X b12=none/\Bq b12=none:=by
  refine⟨Classical.byContradiction λy=>(by have:=hXB b6 y;rw[h6]at this;cases this),?_,?_⟩
  . cases hx:X b12 with
    |none=>rfl
    |some o=>simp[orB,hx]at h12
  . cases hx:X b12 with
    |none=>simpa[orB,hx]using h12
    |some o=>simp[orB,hx]at h12
 have hne:b6≠b12:=λe=>by rw[<-e,h6]at hq12;cases hq12
 have k12:wc.heap[b12]?=some (.cells #[.bool okv,.int .i64 0,.slice none 0 0] 48):=hB.box b12 _ (upB_same _ _ _);have k6:wc.heap[b6]?=some (.cells #[.bool false,.int .i64 0,.slice none 0 0] 48):=hB.box b6 _ (zq2h (by simp[orB,hx6,h6]) hne);have hXk:∀b o,X b=some o->wc.heap[b]?=some o:=λb o hb=>hB.box b o (zq2h (by simp[orB,hb]) (λe=>by rw[e,hx12]at hb;cases hb));have hlt:∀b,Bq b≠none->b<wc.heap.size:=λb hb=>by
  refine hB.lt (b:=b) ?_
  by_cases e:b=b12
  . exact absurd (e▸hq12) hb
  . rw[zq1b _ _ e];cases hx:X b with
    |some o=>simp[orB,hx]
    |none=>simpa[orB,hx]using hb
 obtain⟨ti,hti,hz,hz1,hz2⟩:∃ti,Try.prog.info? 2=some ti/\ti.zero=some (.int .i64 0)/\ti.size=1/\ti.bytes=8:=⟨_,rfl,rfl,rfl,rfl⟩;have hll:l.length<=maxLen/\l.length*8<=140737488355328:=by simp only[mostT]at hlm;simp only[maxLen];omega
 have hnews:0<l.length->∃a,dp=some a/\a=⟨a.block,0,none⟩/\∀j u,(l.map (Value.int .i64))[j]?=some u->wc.cell? (a.add j)=some u:=λh0=>by
  rcases hrow.2 with⟨hv,h1,_⟩|⟨g,cap,cur,hv,hXg,h2,_,h4,h5⟩
  . omega
  . cases hv;refine⟨_,rfl,rfl,λj u hj=>?_⟩;have hjl:=(List.getElem?_eq_some_iff.1 hj).1;have hg:=hXk g (.cells cur 2 (0,0)) (by rw[hXg];simp);rw[Go.Proofs.add_at rfl,show 0+j=j from by omega];refine(zq0 hg).trans ?_;rw[<-h5,Nat.mul_one,List.getElem?_take]at hj;simp only[List.length_map]at hjl;rw[if_pos hjl,Array.getElem?_toList]at hj;exact hj
 obtain⟨v',w4,hrun,ho,hw,hat,hkeep,hzero⟩:=app_wr (P:=Try.prog) wc 22 22 2 ti (.int .i64 0) 1 8 (by kernel_rfl) hti hz hz1 hz2 rfl (by decide) (World.ownsRow_nil wc wc.heap.size 2 1) (Nat.le_refl _) dp l.length dc (l.map (Value.int .i64)) (by simp) (λh0=>by obtain⟨a,h1,_,h2⟩:=hnews h0;exact⟨a,h1,h2⟩) (by simp[Value.oneCell']) (by omega) (by omega);have hone:w4.heap.size<=wc.heap.size+1:=by
  by_cases h0:l.length=0
  . rw[(hzero h0).1];omega
  . obtain⟨a,h1,h2,h3⟩:=hnews (by omega);subst h1;rw[h2]at hrun h3;exact zqa9 (P:=Try.prog) 22 22 0 2 ti (.int .i64 0) (by kernel_rfl) hti hz (.slice none 0 0) 0 [] (World.ownsRow_nil wc 0 2 ti.size) ⟨a.block,0,none⟩ l.length dc (l.map (Value.int .i64)) (by rw[hz1];simp) h3 (by simp[Value.oneCell']) (by omega) (by simp only[mostT]at hlm;simp only[maxLen];omega) (by rw[hz2];simp only[mostT]at hlm;omega) hrun
 obtain⟨np,nc,rfl,-,-⟩:=zq2a ho;rw[Nat.zero_add,List.nil_append]at ho;rw[Nat.zero_add]at hrun;obtain⟨Xn,n1,n2,n3⟩:=zq5i ho;have hold4:∀b,b<wc.heap.size->w4.heap[b]?=wc.heap[b]?:=λb hb=>hw.old b hb (λe=>by cases e);have k12':w4.heap[b12]?=some (.cells #[.bool okv,.int .i64 0,.slice none 0 0] 48):=(hold4 b12 (zqs k12)).trans k12;obtain⟨w9,hw9⟩:∃w9,w4.setCell ⟨b12,2,none⟩ (.slice np l.length nc)=w9:=⟨_,rfl⟩;have hs9:w9.heap.size=w4.heap.size:=by rw[<-hw9,zqx]
 have ho9:∀b,b≠b12->w9.heap[b]?=w4.heap[b]?:=λb hb=>by rw[<-hw9];exact zqi _ _ _ _ hb
 have k129:w9.heap[b12]?=some (.cells #[.bool okv,.int .i64 0,.slice np l.length nc] 48):=by rw[<-hw9];exact(zqu _ _ _ _ k12').trans rfl
 have k69:w9.heap[b6]?=some (.cells #[.bool false,.int .i64 0,.slice none 0 0] 48):=(ho9 b6 hne).trans ((hold4 b6 (zqs k6)).trans k6);have c122:wc.cell? ⟨b12,2,none⟩=some (.slice none 0 0):=(zq0 k12).trans rfl;have d122:w4.cell? ⟨b12,2,none⟩=some (.slice none 0 0):=(zq0 k12').trans rfl;have f122:w4.frozen? ⟨b12,2,none⟩=false:=zq8 k12';have hdp:∀a,dp=some a->a.block≠b12/\a.block≠b6/\X a.block≠none:=λa ha=>by
  rcases hrow.2 with⟨hv,h1,_⟩|⟨g,cap,cur,hv,hXg,h2,_,h4,h5⟩
  . simp only[Value.slice.injEq]at hv;rw[hv.1]at ha;cases ha
  . cases hv;cases ha;have hXs:X g=some (.cells cur 2 (0,0)):=by rw[hXg];simp
    exact⟨(λe=>by rw[show g=b12 from e,hx12]at hXs;cases hXs),(λe=>by rw[show g=b6 from e,hx6]at hXs;cases hXs),(by show X g≠none;rw[hXs];simp)⟩
 have hX9:∀j,j<l.length->∃g cur,dp=some ⟨g,0,none⟩/\g≠b12/\g≠b6/\X g≠none/\w9.heap[g]?=some (.cells cur 2)/\l.length<=cur.size:=λj hj=>by
  rcases hrow.2 with⟨hv,h1,_⟩|⟨g,cap,cur,hv,hXg,h2,_,h4,h5⟩
  . omega
  . cases hv;have hXs:X g=some (.cells cur 2 (0,0)):=by rw[hXg];simp
    have hg12:g≠b12:=λe=>by rw[e,hx12]at hXs;cases hXs
    have hg6:g≠b6:=λe=>by rw[e,hx6]at hXs;cases hXs
    have hg:=hXk g _ hXs;exact⟨g,cur,rfl,hg12,hg6,by rw[hXs];simp,(ho9 g hg12).trans ((hold4 g (zqs hg)).trans hg),by omega⟩
 have HALL:=Lib.hid (And.intro hlm (And.intro hx6 (And.intro hq12 (And.intro hne (And.intro hold4 (And.intro hs9 (And.intro ho9 (And.intro k129 (And.intro k69 (And.intro hX9 (And.intro n1 (And.intro n2 (And.intro n3 (And.intro hlt (And.intro hw.size (And.intro hone hdp))))))))))))))));have HB:=Lib.hid (And.intro hB (And.intro hXB hXk));have HR:=Lib.hid hR;have HRUN:=Lib.hid hrun;have H6N:=Lib.hid h6;have HB12:=Lib.hid (zqs k12);clear hone hdp hnews hzero hB h6 h12 hlm hrow hXB hR hx6 hx12 hq12 hne k12 k6 hXk hlt hti hz hz1 hz2 hll hrun ho hw hat hkeep n1 n2 n3 hold4 k12' hs9 ho9 k129 k69 hX9;obtain⟨u_,hu_⟩:∃c,tailN 2 (caC 4)=c:=⟨_,rfl⟩;have eu_:=hu_;rw[hu_];simp only[caC,caCh,condT,condE,sndC,zqv,headC,tailN,Try.f16,al_od]at eu_;subst eu_;clear hu_;unfold caF5
 go_wp2_with (at_builtin;go_loud (refine zqa2 rfl (.tmp 80) (.tmp 81) 22 rfl HRUN.out ?_))
 clear hw9 d122 f122 c122 HRUN
 go_loopg [13] l.length (λq s13 wr=>∃j:Nat,q=l.length - j/\j<=l.length/\s13=.int .i64 j/\wr.heap.size=w9.heap.size/\(∀b,(∀a,dp=some a->a.block≠b)->wr.heap[b]?=w9.heap[b]?)/\∀g,dp=some ⟨g,0,none⟩->∃c',(0<l.length->wr.heap[g]?=some (.cells c' 2))/\l.length<=c'.size)
 case atStart=>
  refine⟨0,rfl,Nat.zero_le _,rfl,rfl,λ_ _=>rfl,λg hg=>?_⟩
  by_cases h0:0<l.length
  . obtain⟨g',cur,e,_,_,_,h2,h3⟩:=HALL.out.2.2.2.2.2.2.2.2.2.1 0 h0;rw[hg]at e;cases e;exact⟨cur,λ_=>h2,h3⟩
  . exact⟨#[],λh=>absurd h h0,by omega⟩
 case round=>
  obtain⟨j,hq,hj,rfl,hR1,hR2,hR3⟩:=hrel
  by_cases hlt:j<l.length
  . have hlt':(j:Int)<(l.length:Int):=by omega
    have hj0:(0:Int)<=j:=by omega
    obtain⟨g,cur,rfl,_,_,_,_,_⟩:=HALL.out.2.2.2.2.2.2.2.2.2.1 j hlt;obtain⟨c',h1,h2⟩:=hR3 g rfl;have hg:=h1 (by omega);obtain⟨y,hy⟩:∃y,c'[j]?=some y:=⟨_,Array.getElem?_eq_getElem (by omega)⟩;have cj:wr.cell? ⟨g,j,none⟩=some y:=(zq0 hg).trans hy;have fj:wr.frozen? ⟨g,j,none⟩=false:=zq8 hg;have H5:=Lib.hid (And.intro hq (And.intro hlt (And.intro hR1 (And.intro hR2 (And.intro hg h2)))));have HLM:=Lib.hid HALL.out.1;clear hq hR1 hR2 hR3 h1 h2 hg hy HALL HB HR;go_wp2;go_roundg (l.length - (j+1))
    case measure=>have:=H5.out;omega
    case rel=>
     obtain⟨hq,hlt,hR1,hR2,hg,h2⟩:=H5.out;refine⟨j+1,rfl,hlt,congrArg (Value.int .i64) (by have:=HLM.out;simp only[mostT]at this;simp only[wrap64];omega),by rw[zqx];exact hR1,λb hb=>?_,λg' hg'=>?_⟩
     . exact(zqi wr ⟨g,j,none⟩ _ b (λe=>hb ⟨g,0,none⟩ rfl e.symm)).trans (hR2 b hb)
     . cases hg';exact⟨_,λ_=>zqu _ _ _ _ hg,by simpa using h2⟩
  . obtain rfl:j=l.length:=by omega
    obtain⟨hlm,hx6,hq12,hne,hold4,hs9,ho9,k129,k69,hX9,n1,n2,n3,hlt9,hsz4,hone,hdp⟩:=HALL.out;have k12r:=(hR2 b12 λa ha=>(hdp a ha).1).trans k129;have k6r:=(hR2 b6 λa ha=>(hdp a ha).2.1).trans k69;have p0:=(zq0 (off:=0) k12r).trans rfl;have p1:=(zq0 (off:=1) k12r).trans rfl;have p2:=(zq0 (off:=2) k12r).trans rfl;have q0:=(zq0 (off:=0) k6r).trans rfl;have q1:=(zq0 (off:=1) k6r).trans rfl;have q2:=(zq0 (off:=2) k6r).trans rfl;have g0:=zq8 (off:=0) k6r;have g1:=zq8 (off:=1) k6r;have g2:=zq8 (off:=2) k6r;have HZ:=Lib.hid (And.intro hR1 (And.intro hR2 k6r));clear hq hj hlt hR1 hR2 hR3 k12r k6r hlm hx6 hq12 hne hold4 hs9 ho9 k129 k69 hX9 n1 n2 n3 hlt9 hsz4 hone hdp;go_wp2;obtain⟨hlm,hx6,hq12,hne,hold4,hs9,ho9,k129,k69,hX9,n1,n2,n3,hlt9,hsz4,hone,hdp⟩:=HALL.out;obtain⟨hR1,hR2,k6r⟩:=HZ.out;have z6:=zqu _ b6 2 (.slice np l.length nc) (zqu _ b6 1 (.int .i64 0) (zqu _ b6 0 (.bool okv) k6r));have zo:∀b,b≠b6->(((wr.setCell ⟨b6,0,none⟩ (.bool okv)).setCell ⟨b6,1,none⟩ (.int .i64 0)).setCell ⟨b6,2,none⟩ (.slice np l.length nc)).heap[b]?=wr.heap[b]?:=λb hb=>by rw[zqi _ _ _ _ hb,zqi _ _ _ _ hb,zqi _ _ _ _ hb]
    have zs:(((wr.setCell ⟨b6,0,none⟩ (.bool okv)).setCell ⟨b6,1,none⟩ (.int .i64 0)).setCell ⟨b6,2,none⟩ (.slice np l.length nc)).heap.size=wr.heap.size:=by simp only[zqx]
    have hdn:∀b,Xn b≠none->Bq b=none:=λb hb=>Classical.byContradiction λy=>by have:=hlt9 b y;have:=n3 b hb;omega
    have keep:∀b,b≠b6->b≠b12->X b=none->(((wr.setCell ⟨b6,0,none⟩ (.bool okv)).setCell ⟨b6,1,none⟩ (.int .i64 0)).setCell ⟨b6,2,none⟩ (.slice np l.length nc)).heap[b]?=w4.heap[b]?:=λb h1 h2 h3=>by
     rw[zo b h1,hR2 b (λa ha e=>(hdp a ha).2.2 (e▸h3)),ho9 b h2]
    have hXlt:∀b,X b≠none->b<wc.heap.size:=λb hb=>by
     cases hx:X b with
     |none=>exact absurd hx hb
     |some o=>exact zqs (HB.out.2.2 b o hx)
    refine⟨rfl,HR.out _ _ _ _ Xn rfl n1 hdn ⟨by omega,by omega,λb hb hn=>?_,λb o hb=>?_,λb hb=>?_⟩⟩
    . have e12:b≠b12:=λe=>by rw[e,upB_same]at hn;cases hn
      rw[zq1b _ _ e12]at hn;have ex:X b=none:=by
       cases hx:X b with
       |none=>rfl
       |some o=>simp[orB,hx]at hn
      have e6:b≠b6:=λe=>by
       subst e;simp only[orB,ex]at hn;exact absurd hn (H6N.out▸by simp)
      rw[keep b e6 e12 ex];exact hold4 b hb
    . by_cases e6:b=b6
      . subst e6;rw[upB_same]at hb;rw[z6,<-hb];rfl
      . rw[zq1b _ _ e6]at hb;cases hxn:Xn b with
        |some o'=>
         have e:o'=o:=by simpa[orB,hxn]using hb
         subst e;have h3:=n3 b (by rw[hxn];simp);have ex:X b=none:=Classical.byContradiction λy=>by have:=hXlt b y;omega
         have e12:b≠b12:=λe=>by have:=HB12.out;omega
         rw[keep b e6 e12 ex];exact(n2 b _ hxn).1
        |none=>
         have hq:Bq b=some o:=by simpa[orB,hxn]using hb
         have e12:b≠b12:=λe=>by rw[e,hq12]at hq;cases hq
         have ex:X b=none:=Classical.byContradiction λy=>by have:=HB.out.2.1 b y;rw[hq]at this;cases this
         rw[keep b e6 e12 ex,hold4 b (hlt9 b (by rw[hq];simp))];exact HB.out.1.box b o (zq2h (by simp[orB,ex,hq]) e12)
    . by_cases e6:b=b6
      . subst e6
        left
        rw[zq1b _ _ hne];simp only[orB,hx6];rw[H6N.out];simp
      . rw[zq1b _ _ e6]at hb;cases hxn:Xn b with
        |some o'=>exact .inr (n3 b (by rw[hxn];simp))
        |none=>
         left
         have hq:Bq b≠none:=by simpa[orB,hxn]using hb
         have e12:b≠b12:=λe=>hq (e▸hq12);rw[zq1b _ _ e12];cases hx:X b with
         |some o=>simp[orB,hx]
         |none=>simpa[orB,hx]using hq
theorem eca_c5(Y:YSys Try.prog aM C ro i β){dv:Value}{stb:Nat}{who:Int}{op:OpX}{p:CallP S}(hf:CallF Y dv (stprV stb) who op p){B Bq:Nat->Option Obj}{b5 b6:Nat}(hd:CaB B Bq who op b5 b6){K:Ans->Proc S β}(hK:∀a,Y.sil (K a)){Q:Y.γ->Exit->Act->World->Prop}{s:Y.γ}{w:World}{v:Nat->Value}
 (hret:∀s a w,(Y.Bd Try.f16 (PostR Y K (AnsV 2) B)) s a w->Q s .ret a w) (hpan:∀s ch t w,Y.Dead s ch w->Q s (.panic ch) ⟨t,[]⟩ w)
 (hA:Y.AtB Bq s w ((p.c.bind λx=>Proc.ret ⟨(toldA 0 x.2).ok,0,x.1⟩).bind K)):wpJ Y.J (caC 4) Q s ⟨caF dv stb who op b5 b6 v,[]⟩ w:=by
 have HKK:=Lib.hid hK;have H5:=Lib.hid hd.h5;have H6:=Lib.hid hd.h6;have HLE:=Lib.hid hd.hle;have HN:=Lib.hid hd.hn;clear hK hd;obtain⟨u_,hu_⟩:∃c,caC 4=c:=⟨_,rfl⟩;have eu_:=hu_;rw[hu_];simp only[caC,caCh,condT,condE,sndC,zqv,headC,tailN,Try.f16,al_od]at eu_;subst eu_;clear hu_;unfold caF;rw[Proc.bind_bind]at hA;refine zqe Y.jc (zqr Y.jc ?_);apply YSys.callQ 0 5 5 hA hf.coll (λx=>HKK.out _) rfl rfl rfl (by rfl) rfl rfl rfl
 . intro wc hB X hX;have HX:=Lib.hid hX;clear hX;have c50:wc.cell? ⟨b5,0,none⟩=some (.int .i64 who):=(zq0 (hB.own.box b5 _ H5.out)).trans rfl;have c51:wc.cell? ⟨b5,1,none⟩=some (.int .i64 op.k):=(zq0 (hB.own.box b5 _ H5.out)).trans rfl;have c52:wc.cell? ⟨b5,2,none⟩=some (.int .i64 op.a):=(zq0 (hB.own.box b5 _ H5.out)).trans rfl;have c53:wc.cell? ⟨b5,3,none⟩=some (.int .i64 op.b):=(zq0 (hB.own.box b5 _ H5.out)).trans rfl;have c54:wc.cell? ⟨b5,4,none⟩=some (.int .i64 op.c):=(zq0 (hB.own.box b5 _ H5.out)).trans rfl;go_wp2;exact HX.out _ (Ext1.refl _)
 . intro w;simp[go_sem,execOp,Act.eval,resolve,Deferred.ofValue,invoke,callFunc,Try.func26,Try.f26]
 . intro w;simp[go_sem,execOp,Act.eval,resolve,Deferred.ofValue,invoke,callFunc,Try.func26,Try.f26]
 . intro s' ch w' h;exact hpan _ _ _ _ h
 intro s x vv X w hrel hXB hA;obtain⟨dw,rfl,hrow,hlm⟩:=hrel;obtain⟨l,xe⟩:=x;simp only at hrow hlm hA |-;have HLM:=Lib.hid hlm;clear hlm;have hrf:=hrow;obtain⟨dp,dc,rfl⟩:∃dp dc,dw=.slice dp l.length dc:=by
  rcases hrow.2 with⟨a,b,_⟩|⟨g,cap,cur,a,_⟩
  . exact⟨none,0,by rw[a,b]⟩
  . exact⟨_,cap,a⟩
 have hx6:X b6=none:=Classical.byContradiction λy=>by have:=hXB b6 y;rw[H6.out]at this;cases this
 have h6x:orB X Bq b6=some (.cells #[.bool false,.int .i64 0,.slice none 0 0] 48):=by simp[orB,hx6,H6.out]
 have H6X:=Lib.hid h6x;have HRW:=Lib.hid (And.intro hrow (And.intro hXB hx6));clear h6x hrow hXB hrf hx6;apply YSys.ops0 6 5 hA rfl rfl (by kernel_rfl)
 . intro wc hB;go_wp2;exact⟨rfl,Ext1.refl _,rfl⟩
 intro w hA;show wpJ Y.J _ _ _ _ _;refine zqe Y.jc (zqr Y.jc ?_);apply YSys.callP 0 1 2 hA (zq35 Y 0 xe) rfl rfl rfl (by rfl) rfl rfl rfl
 . intro wc hB X hX;have HX:=Lib.hid hX;clear hX;go_wp2;exact HX.out _ (Ext1.refl _)
 . intro w;simp[go_sem,execOp,Act.eval,resolve,Deferred.ofValue,invoke,callFunc,Try.func45,Try.f45]
 . intro w;simp[go_sem,execOp,Act.eval,resolve,Deferred.ofValue,invoke,callFunc,Try.func45,Try.f45]
 intro w hA;unfold toldV;refine YSys.opsX 2 2 (λt B'=>∃b12:Nat,t=caF5 dv stb who op b5 b6 b12 dp l.length dc (λj=>t.getD j undef)/\(orB X Bq) b12=none/\B'=upB (orB X Bq) b12 (.cells #[.bool (toldA 0 xe).ok,.int .i64 (toldA 0 xe).n,.slice none 0 0] 48)) hA rfl rfl (by kernel_rfl) ?_ ?_
 . intro wc hB X0 hX0;have HX0:=Lib.hid hX0;clear hX0;have hm:=OMoved.push (o:=.cells #[.bool (toldA 0 xe).ok,.int .i64 (toldA 0 xe).n,.slice none 0 0] 48) hB.own (Ext1.alloc wc (.cells #[.bool (toldA 0 xe).ok,.int .i64 (toldA 0 xe).n,.slice none 0 0] 48)) (Nat.le_refl _) (by rw[zqb];simp);have hf:=hB.own.fresh (Nat.le_refl _);have HM:=Lib.hid (And.intro hm hf);clear hm hf;go_wp2;exact⟨rfl,HX0.out _ _ _ HM.out.1 ⟨wc.heap.size,by kernel_rfl,HM.out.2,rfl⟩⟩
 rintro t _ w ⟨b12,ht,hb12,rfl⟩ hA;obtain⟨v2,hv2⟩:∃v2:Nat->Value,(λj=>t.getD j undef)=v2:=⟨_,rfl⟩;rw[hv2]at ht;clear hv2;subst ht;have HB12:=Lib.hid hb12;clear hb12;have hok0:(toldA 0 xe).n=0:=by unfold toldA;split<;>rfl
 rw[hok0]at hA;clear hok0;obtain⟨okv,hokv⟩:∃okv,(toldA 0 xe).ok=okv:=⟨_,rfl⟩;rw[hokv]at hA;clear hokv;refine YSys.endX (λt B'=>∃Xn np nc,t.getD 6 undef=.pointer (some ⟨b6,0,none⟩)/\RowB Xn 2 1 (.slice np l.length nc) l.length (l.map (Value.int .i64))/\(∀b,Xn b≠none->Bq b=none)/\B'=upB (orB Xn Bq) b6 (.cells #[.bool okv,.int .i64 0,.slice np l.length nc] 48)) hA (by kernel_rfl) ?_ ?_
 . intro wc hB X0 hX0;refine coll_end hB.own H6.out HB12.out HLM.out HRW.out.1 HRW.out.2.1 λt np nc w' Xn h1 h2 h3 h4=>hX0 t _ w' h4 ⟨Xn,np,nc,h1,h2,h3,rfl⟩
 . rintro t _ w ⟨Xn,np,nc,ht6,hrn,hdn,rfl⟩ hA;refine hret _ _ _ ?_;refine YSys.left hA (v:=.agg #[.bool okv,.int .i64 0,.slice np l.length nc]) (λwc hB=>results_cell_row rfl t wc b6 48 _ _ _ ht6 (hB.own.box b6 _ (upB_same _ _ _)) rfl rfl rfl) λw hA=>?_;refine⟨⟨okv,0,l⟩,Xn,⟨_,rfl,hrn⟩,λb hb=>?_,hA.drop λb o hb=>?_⟩
   . have:=hdn b hb;cases ho:B b with
     |none=>rfl
     |some o=>rw[HLE.out b o ho]at this;cases this
   . by_cases e:b=b6
     . subst e;have hx:Xn b=none:=Classical.byContradiction λy=>by have:=hdn b y;rw[H6.out]at this;cases this
       rw[orB,hx]at hb;rw[HN.out]at hb;cases hb
     . rw[zq1b _ _ e];cases hx:Xn b with
       |some o'=>simp only[orB,hx]at hb |-;exact hb
       |none=>simp only[orB,hx]at hb |-;exact HLE.out b o hb
end
section
variable {Ml S β:Type} {C:Core Ml S} {ro:Nat->Option Obj} {i:Nat}
theorem zqam(Y:YSys Try.prog aM C ro i β){dv:Value}{stb:Nat}{who:Int}{op:OpX}{p:CallP S}(hf:CallF Y dv (stprV stb) who op p):
 SpecR Y 16 #[dv,.pointer (some ⟨stb,0,none⟩),actV who op] (callE p op) (AnsV 2):=by
 refine SpecR.of Try.func16 rfl ?_;intro K s B w hK hA;simp only[zqj,Try.ntmps16,List.size_toArray,List.length_cons,List.length_nil,Nat.reduceAdd,Nat.reduceSub,Array.replicate_succ,Array.replicate_zero,List.push_toArray,List.append_toArray,List.nil_append,List.cons_append];unfold callE at hA;refine zqe Y.jc (zqr Y.jc ?_);refine YSys.preX 0 1 1 (λt B'=>∃(b5:Nat)(v:Nat->Value),t=#[dv,.pointer (some ⟨stb,0,none⟩),(actV who op),v 3,v 4,.pointer (some ⟨b5,0,none⟩),v 6,v 7,v 8,v 9,v 10,v 11,v 12,v 13,v 14,v 15,v 16,v 17,v 18,v 19,v 20,v 21,v 22,v 23,v 24,v 25,v 26,v 27,v 28,v 29,v 30,v 31,v 32,v 33,v 34,v 35,v 36,v 37,v 38,v 39,v 40,v 41,v 42,v 43,v 44,v 45,v 46,v 47,v 48,v 49,v 50,v 51,v 52,v 53,v 54,v 55,v 56,v 57,v 58,v 59,v 60,v 61,v 62,v 63,v 64,v 65,v 66,v 67,v 68,v 69,v 70,v 71,v 72,v 73,v 74,v 75,v 76,v 77,v 78,v 79,v 80,v 81,v 82,v 83,v 84,v 85,v 86,v 87,v 88,v 89,v 90,v 91,v 92,v 93,v 94]/\(B) b5=none/\B'=upB (B) b5 (.cells (actC who op) 46)) hA rfl rfl rfl rfl ?_ ?_
 . intro wc hB X0 hX0;have HX0:=Lib.hid hX0;clear hX0;have hm:=OMoved.push (o:=.cells (actC who op) 46) hB.own (Ext1.alloc wc (.cells (actC who op) 46)) (Nat.le_refl _) (by rw[zqb];simp);have hf:=hB.own.fresh (Nat.le_refl _);have HM:=Lib.hid (And.intro hm hf);clear hm hf;unfold actV;go_wp2;exact HX0.out _ _ _ HM.out.1 ⟨_,(λ_=>undef),rfl,HM.out.2,rfl⟩
 clear hA;rintro _ _ w ⟨b5,v,rfl,hb5,rfl⟩ hA;refine YSys.opsX 1 1 (λt B'=>∃(b6:Nat)(v:Nat->Value),t=#[dv,.pointer (some ⟨stb,0,none⟩),(actV who op),v 3,v 4,.pointer (some ⟨b5,0,none⟩),.pointer (some ⟨b6,0,none⟩),v 7,v 8,v 9,v 10,v 11,v 12,v 13,v 14,v 15,v 16,v 17,v 18,v 19,v 20,v 21,v 22,v 23,v 24,v 25,v 26,v 27,v 28,v 29,v 30,v 31,v 32,v 33,v 34,v 35,v 36,v 37,v 38,v 39,v 40,v 41,v 42,v 43,v 44,v 45,v 46,v 47,v 48,v 49,v 50,v 51,v 52,v 53,v 54,v 55,v 56,v 57,v 58,v 59,v 60,v 61,v 62,v 63,v 64,v 65,v 66,v 67,v 68,v 69,v 70,v 71,v 72,v 73,v 74,v 75,v 76,v 77,v 78,v 79,v 80,v 81,v 82,v 83,v 84,v 85,v 86,v 87,v 88,v 89,v 90,v 91,v 92,v 93,v 94]/\(upB B b5 (.cells (actC who op) 46)) b6=none/\B'=upB (upB B b5 (.cells (actC who op) 46)) b6 (.cells #[.bool false,.int .i64 0,.slice none 0 0] 48)) hA rfl rfl (by kernel_rfl) ?_ ?_
 . intro wc hB X0 hX0;have HX0:=Lib.hid hX0;clear hX0;have hm:=OMoved.push (o:=.cells #[.bool false,.int .i64 0,.slice none 0 0] 48) hB.own (Ext1.alloc wc (.cells #[.bool false,.int .i64 0,.slice none 0 0] 48)) (Nat.le_refl _) (by rw[zqb];simp);have hf:=hB.own.fresh (Nat.le_refl _);have HM:=Lib.hid (And.intro hm hf);clear hm hf;go_wp2;exact⟨rfl,HX0.out _ _ _ HM.out.1 ⟨_,v,rfl,HM.out.2,rfl⟩⟩
 clear hA;rintro _ _ w ⟨b6,v,rfl,hb6,rfl⟩ hA;have h5:(upB (upB B b5 (.cells (actC who op) 46)) b6 (.cells #[.bool false,.int .i64 0,.slice none 0 0] 48)) b5=some (.cells (actC who op) 46):=zq2h (upB_same _ _ _) (zq5e (upB_same _ _ _) hb6);have h6:(upB (upB B b5 (.cells (actC who op) 46)) b6 (.cells #[.bool false,.int .i64 0,.slice none 0 0] 48)) b6=some (.cells #[.bool false,.int .i64 0,.slice none 0 0] 48):=upB_same _ _ _;have hB6:B b6=none:=Classical.byContradiction λh=>by
  cases ho:B b6 with
  |none=>exact h ho
  |some o=>rw[zq36 (o:=.cells (actC who op) 46) hb5 b6 o ho]at hb6;cases hb6
 have hle:∀x y,B x=some y->(upB (upB B b5 (.cells (actC who op) 46)) b6 (.cells #[.bool false,.int .i64 0,.slice none 0 0] 48)) x=some y:=zq1h (zq36 (o:=.cells (actC who op) 46) hb5) hB6;obtain⟨Bq,hBq⟩:∃X,upB (upB B b5 (.cells (actC who op) 46)) b6 (.cells #[.bool false,.int .i64 0,.slice none 0 0] 48)=X:=⟨_,rfl⟩;rw[hBq]at h5 h6 hle hA;have HD:=Lib.hid (CaB.mk h5 h6 hle hB6);have H5:=Lib.hid h5;have HK:=Lib.hid hK;clear h5 h6 hle hBq hb5 hb6 hB6 hK;show wpJ Y.J _ _ _ _ _;refine zqe Y.jc ?_;refine YSys.seqX (λt B'=>(∃v,t=caF dv stb who op b5 b6 v)/\B'=Bq) hA (by kernel_rfl) ?_ ?_
 . intro wc hB X0 hX0;have HX0:=Lib.hid hX0;clear hX0;have HOM:=Lib.hid (OMoved.ext hB.own (Ext1.refl wc));have c50:wc.cell? ⟨b5,0,none⟩=some (.int .i64 who):=(zq0 (hB.own.box b5 _ H5.out)).trans rfl;have c51:wc.cell? ⟨b5,1,none⟩=some (.int .i64 op.k):=(zq0 (hB.own.box b5 _ H5.out)).trans rfl;have c52:wc.cell? ⟨b5,2,none⟩=some (.int .i64 op.a):=(zq0 (hB.own.box b5 _ H5.out)).trans rfl;have c53:wc.cell? ⟨b5,3,none⟩=some (.int .i64 op.b):=(zq0 (hB.own.box b5 _ H5.out)).trans rfl;have c54:wc.cell? ⟨b5,4,none⟩=some (.int .i64 op.c):=(zq0 (hB.own.box b5 _ H5.out)).trans rfl;go_wp2;exact⟨rfl,HX0.out _ _ _ HOM.out ⟨⟨λj=>if j=14\/j=15 then .pointer (some ⟨b5,1,none⟩)else v j,rfl⟩,rfl⟩⟩
 rintro _ Bz w ⟨⟨v,rfl⟩,hBz⟩ hA;rw[hBz]at hA;clear hBz;refine zq1x Y.jc ?_;refine YSys.seqX (λt B'=>(∃v,t=(caF dv stb who op b5 b6 v).setIfInBounds 17 (.bool (op.k==1)))/\B'=Bq) hA (by kernel_rfl) ?_ ?_
 . intro wc hB X0 hX0;have HX0:=Lib.hid hX0;clear hX0;have HOM:=Lib.hid (OMoved.ext hB.own (Ext1.refl wc));unfold caF;go_wp2;exact⟨rfl,HX0.out _ _ _ HOM.out ⟨⟨λj=>if j=18 then .bool (op.k==1)else v j,rfl⟩,rfl⟩⟩
 rintro _ Bz w ⟨⟨v',hv⟩,hBz⟩ hA;have hcd:(caF dv stb who op b5 b6 v').setIfInBounds 17 (.bool (op.k==1))=caF dv stb who op b5 b6 (λj=>if j=17 then .bool (op.k==1)else v' j):=rfl;rw[hcd]at hv;subst hv;rw[hBz]at hA;clear hBz hcd v;obtain⟨v,hv⟩:∃v:Nat->Value,(λj=>if j=17 then .bool (op.k==1)else v' j)=v:=⟨_,rfl⟩;have hvk:v 17=.bool (op.k==1):=by rw[<-hv];rfl
 rw[hv];clear hv;refine zqw Y.jc (t:=(op.k==1)) (by show(caF dv stb who op b5 b6 v)[17]?.getD undef=_;unfold caF;exact hvk) ?_;clear hvk v'
 by_cases hk1:op.k=1
 . rw[if_pos (by simp[hk1])];rw[if_pos hk1]at hA;refine eca_c1 Y hf HD.out HK.out (λs a w h=>?_) (λs ch a w h=>?_) hA
   . simp only[thenJ,zq16,bodyC];exact h
   . exact⟨rfl,h⟩
 rw[if_neg (by simp[hk1])];rw[if_neg hk1]at hA;clear hk1;refine YSys.seqX (λt B'=>(∃v,t=(caF dv stb who op b5 b6 v).setIfInBounds 28 (.bool (op.k==2)))/\B'=Bq) hA (by kernel_rfl) ?_ ?_
 . intro wc hB X0 hX0;have HX0:=Lib.hid hX0;clear hX0;have HOM:=Lib.hid (OMoved.ext hB.own (Ext1.refl wc));unfold caF;go_wp2;exact⟨rfl,HX0.out _ _ _ HOM.out ⟨⟨λj=>if j=29 then .bool (op.k==2)else v j,rfl⟩,rfl⟩⟩
 rintro _ Bz w ⟨⟨v',hv⟩,hBz⟩ hA;have hcd:(caF dv stb who op b5 b6 v').setIfInBounds 28 (.bool (op.k==2))=caF dv stb who op b5 b6 (λj=>if j=28 then .bool (op.k==2)else v' j):=rfl;rw[hcd]at hv;subst hv;rw[hBz]at hA;clear hBz hcd v;obtain⟨v,hv⟩:∃v:Nat->Value,(λj=>if j=28 then .bool (op.k==2)else v' j)=v:=⟨_,rfl⟩;have hvk:v 28=.bool (op.k==2):=by rw[<-hv];rfl
 rw[hv];clear hv;refine zqw Y.jc (t:=(op.k==2)) (by show(caF dv stb who op b5 b6 v)[28]?.getD undef=_;unfold caF;exact hvk) ?_;clear hvk v'
 by_cases hk2:op.k=2
 . rw[if_pos (by simp[hk2])];rw[if_pos hk2]at hA;refine eca_c2 Y hf HD.out HK.out (λs a w h=>?_) (λs ch a w h=>?_) hA
   . simp only[thenJ,zq16,bodyC];exact h
   . exact⟨rfl,h⟩
 rw[if_neg (by simp[hk2])];rw[if_neg hk2]at hA;clear hk2;refine YSys.seqX (λt B'=>(∃v,t=(caF dv stb who op b5 b6 v).setIfInBounds 37 (.bool (op.k==3)))/\B'=Bq) hA (by kernel_rfl) ?_ ?_
 . intro wc hB X0 hX0;have HX0:=Lib.hid hX0;clear hX0;have HOM:=Lib.hid (OMoved.ext hB.own (Ext1.refl wc));unfold caF;go_wp2;exact⟨rfl,HX0.out _ _ _ HOM.out ⟨⟨λj=>if j=38 then .bool (op.k==3)else v j,rfl⟩,rfl⟩⟩
 rintro _ Bz w ⟨⟨v',hv⟩,hBz⟩ hA;have hcd:(caF dv stb who op b5 b6 v').setIfInBounds 37 (.bool (op.k==3))=caF dv stb who op b5 b6 (λj=>if j=37 then .bool (op.k==3)else v' j):=rfl;rw[hcd]at hv;subst hv;rw[hBz]at hA;clear hBz hcd v;obtain⟨v,hv⟩:∃v:Nat->Value,(λj=>if j=37 then .bool (op.k==3)else v' j)=v:=⟨_,rfl⟩;have hvk:v 37=.bool (op.k==3):=by rw[<-hv];rfl
 rw[hv];clear hv;refine zqw Y.jc (t:=(op.k==3)) (by show(caF dv stb who op b5 b6 v)[37]?.getD undef=_;unfold caF;exact hvk) ?_;clear hvk v'
 by_cases hk3:op.k=3
 . rw[if_pos (by simp[hk3])];rw[if_pos hk3]at hA;refine eca_c3 Y hf HD.out HK.out (λs a w h=>?_) (λs ch a w h=>?_) hA
   . simp only[thenJ,zq16,bodyC];exact h
   . exact⟨rfl,h⟩
 rw[if_neg (by simp[hk3])];rw[if_neg hk3]at hA;clear hk3;refine YSys.seqX (λt B'=>(∃v,t=(caF dv stb who op b5 b6 v).setIfInBounds 51 (.bool (op.k==4)))/\B'=Bq) hA (by kernel_rfl) ?_ ?_
 . intro wc hB X0 hX0;have HX0:=Lib.hid hX0;clear hX0;have HOM:=Lib.hid (OMoved.ext hB.own (Ext1.refl wc));unfold caF;go_wp2;exact⟨rfl,HX0.out _ _ _ HOM.out ⟨⟨λj=>if j=52 then .bool (op.k==4)else v j,rfl⟩,rfl⟩⟩
 rintro _ Bz w ⟨⟨v',hv⟩,hBz⟩ hA;have hcd:(caF dv stb who op b5 b6 v').setIfInBounds 51 (.bool (op.k==4))=caF dv stb who op b5 b6 (λj=>if j=51 then .bool (op.k==4)else v' j):=rfl;rw[hcd]at hv;subst hv;rw[hBz]at hA;clear hBz hcd v;obtain⟨v,hv⟩:∃v:Nat->Value,(λj=>if j=51 then .bool (op.k==4)else v' j)=v:=⟨_,rfl⟩;have hvk:v 51=.bool (op.k==4):=by rw[<-hv];rfl
 rw[hv];clear hv;refine zqw Y.jc (t:=(op.k==4)) (by show(caF dv stb who op b5 b6 v)[51]?.getD undef=_;unfold caF;exact hvk) ?_;clear hvk v'
 by_cases hk4:op.k=4
 . rw[if_pos (by simp[hk4])];rw[if_pos hk4]at hA;refine eca_c4 Y hf HD.out HK.out (λs a w h=>?_) (λs ch a w h=>?_) hA
   . simp only[thenJ,zq16,bodyC];exact h
   . exact⟨rfl,h⟩
 rw[if_neg (by simp[hk4])];rw[if_neg hk4]at hA;clear hk4;refine YSys.seqX (λt B'=>(∃v,t=(caF dv stb who op b5 b6 v).setIfInBounds 66 (.bool (op.k==5)))/\B'=Bq) hA (by kernel_rfl) ?_ ?_
 . intro wc hB X0 hX0;have HX0:=Lib.hid hX0;clear hX0;have HOM:=Lib.hid (OMoved.ext hB.own (Ext1.refl wc));unfold caF;go_wp2;exact⟨rfl,HX0.out _ _ _ HOM.out ⟨⟨λj=>if j=67 then .bool (op.k==5)else v j,rfl⟩,rfl⟩⟩
 rintro _ Bz w ⟨⟨v',hv⟩,hBz⟩ hA;have hcd:(caF dv stb who op b5 b6 v').setIfInBounds 66 (.bool (op.k==5))=caF dv stb who op b5 b6 (λj=>if j=66 then .bool (op.k==5)else v' j):=rfl;rw[hcd]at hv;subst hv;rw[hBz]at hA;clear hBz hcd v;obtain⟨v,hv⟩:∃v:Nat->Value,(λj=>if j=66 then .bool (op.k==5)else v' j)=v:=⟨_,rfl⟩;have hvk:v 66=.bool (op.k==5):=by rw[<-hv];rfl
 rw[hv];clear hv;refine zqw Y.jc (t:=(op.k==5)) (by show(caF dv stb who op b5 b6 v)[66]?.getD undef=_;unfold caF;exact hvk) ?_;clear hvk v'
 by_cases hk5:op.k=5
 . rw[if_pos (by simp[hk5])];rw[if_pos hk5]at hA;refine eca_c5 Y hf HD.out HK.out (λs a w h=>?_) (λs ch a w h=>?_) hA
   . simp only[thenJ,zq16,bodyC];exact h
   . exact⟨rfl,h⟩
 rw[if_neg (by simp[hk5])];rw[if_neg hk5]at hA;clear hk5;refine zq1l Y.jc ?_;have H6:=Lib.hid HD.out.h6;have HLE:=Lib.hid HD.out.hle;have HN:=Lib.hid HD.out.hn;show wpJ Y.J _ _ _ _ _;unfold caF;refine YSys.seqX (λt B'=>t.getD 6 undef=.pointer (some ⟨b6,0,none⟩)/\B'=upB Bq b6 (.cells #[.bool false,.int .i64 0,.slice none 0 0] 48)) hA (by kernel_rfl) ?_ ?_
 . intro wc hB X0 hX0;have HX0:=Lib.hid hX0;clear hX0;have k6:=hB.own.box b6 _ H6.out;have c60:wc.cell? ⟨b6,0,none⟩=some (.bool false):=(zq0 k6).trans rfl;have c61:wc.cell? ⟨b6,1,none⟩=some (.int .i64 0):=(zq0 k6).trans rfl;have c62:wc.cell? ⟨b6,2,none⟩=some (.slice none 0 0):=(zq0 k6).trans rfl;have f60:wc.frozen? ⟨b6,0,none⟩=false:=zq8 k6;have f61:wc.frozen? ⟨b6,1,none⟩=false:=zq8 k6;have f62:wc.frozen? ⟨b6,2,none⟩=false:=zq8 k6;have hm:=OMoved.set3 (o1:=0) (o2:=1) (o3:=2) hB.own H6.out (.bool false) (.int .i64 0) (.slice none 0 0);have HM:=Lib.hid hm;clear hm k6;go_wp2;exact⟨rfl,HX0.out _ _ _ HM.out ⟨rfl,rfl⟩⟩
 rintro t _ w ⟨ht6,rfl⟩ hA;refine zq13 Y.jc ?_;refine YSys.left hA (v:=.agg #[.bool false,.int .i64 0,.slice none 0 0]) (λwc hB=>results_cell_row rfl t wc b6 48 _ _ _ ht6 (hB.own.box b6 _ (upB_same _ _ _)) rfl rfl rfl) λw hA=>?_;exact⟨Ans.none,λ_=>none,AnsV.plain _ _ _,λb hb=>absurd rfl hb,hA.drop (zq1h HLE.out HN.out)⟩
end
end Go.Proofs
namespace Go.Car
open Go Go.Conc Go.RowKit
section
variable {P:Program} {A:FuncId->Bool} {Ml S β α:Type} {C:Core Ml S} {ro:Nat->Option Obj} {i:Nat} {Y:YSys P A C ro i β} {B:Nat->Option Obj}
variable {Q:Y.γ->Exit->Act->World->Prop} {s:Y.γ} {w:World} {p:Proc S β} {t:Array Value} {ds:List Deferred}
end
section
variable {P:Program} {A:FuncId->Bool} {Ml S α:Type} {C:Core Ml S} {ro:Nat->Option Obj} {i:Nat}
end
end Go.Car
namespace Go.Proofs
open Go Go.Conc Go.RowKit Go.Car
def ZD(dv:Value)(w:World):Prop:=dv=.pointer none\/∃zb,dv=.pointer (some ⟨zb,0,none⟩)/\w.heap[zb]?=some (.cells #[.int .i64 0,.slice none 0 0] 81)
theorem zq4x{dv:Value}{w:World}(h:ZD dv w):Calls Try.prog 12 #[dv] w λe w'=>e=.returned (.int .i64 0)/\w'=w:=by
 rcases h with rfl |⟨zb,rfl,h⟩
 . exact zqcr w
 . exact zq5d (N:=0) ((zq0 (off:=1) h).trans rfl) (by decide)
theorem zd_epoch{dv:Value}{w:World}(h:ZD dv w):Calls Try.prog 18 #[dv] w λe w'=>e=.returned (.int .i64 0)/\w'=w:=by
 rcases h with rfl |⟨zb,rfl,h⟩
 . go_enter Try.func18,Try.ntmps18
   go_wp2;go_ret;exact⟨rfl,rfl⟩
 . have hl:=zq3j ⟨zb,0,none⟩ 0 w ((zq0 (off:=0) h).trans rfl);clear h
   go_enter Try.func18,Try.ntmps18
   go_wp2_with (fail)
   refine Calls.mono hl ?_;rintro e w' ⟨rfl,rfl⟩;go_wp2;go_ret;exact⟨rfl,rfl⟩
theorem zd_marks{dv:Value}{w:World}(h:ZD dv w):Calls Try.prog 20 #[dv] w λe w'=>e=.returned (.slice none 0 0)/\w'=w:=by
 have hm:=zq4x h;clear h
 go_enter Try.func20,Try.ntmps20
 go_wp2_with (fail)
 refine Calls.mono hm ?_;rintro e w' ⟨rfl,rfl⟩;clear hm
 go_wp2_with (fail)
 go_loopg [3,7] 0 (λk s3 s7 wr=>k=0/\s3=.slice none 0 0/\s7=.int .i64 0/\wr=w')
 case atStart=>exact⟨rfl,rfl,rfl,rfl⟩
 case round=>
  obtain⟨rfl,rfl,rfl,rfl⟩:=hrel;go_wp2;go_ret;exact⟨rfl,rfl⟩
theorem zqjb{dv:Value}{w:World}(k:Int)(h:ZD dv w):Calls Try.prog 21 #[dv,.int .i64 k] w λe w'=>e=.returned (.slice none 0 0)/\w'=w:=by
 have hm:=zq6s (k:=k) (zq4x h) (by omega);clear h
 go_enter Try.func21,Try.ntmps21
 go_wp2_with (fail)
 refine Calls.mono hm ?_;rintro e w' ⟨rfl,rfl⟩;go_wp2;go_ret;exact⟨rfl,rfl⟩
def zCore:Core Unit Unit where
 foot _ _:=False
 Rep _ _:=True
 st _:=()
 frame _ _ _ _ _:=trivial
 lt _ _ _ _ h:=h.elim
 pin _:=0
section
variable {main:Bool} {Kc:Addr->Option Value} {J:Goroutine->World->Prop}
noncomputable abbrev zY(α:Type)(hJ:JS Try.prog main Kc (λ(_:Unit)=>J))(hC:CalmJ Try.prog main (λ(_:Unit)=>J))(ro:Nat->Option Obj)(w:World)(T:Unit×Option α×Nat):YSys Try.prog aM zCore ro 0 α:=seqSys zq1p hJ hC zCore ro 0 0 ⟨(),λ_ _=>none⟩ w T
theorem zY_mem{α:Type}(hJ:JS Try.prog main Kc (λ(_:Unit)=>J))(hC:CalmJ Try.prog main (λ(_:Unit)=>J)){ro:Nat->Option Obj}{w:World}{T:Unit×Option α×Nat}{dv:Value}(hz:∀wc:World,(∀b o,ro b=some o->wc.heap[b]?=some o)->ZD dv wc)(k:Int):NoMem (zY α hJ hC ro w T) dv k:=
 ⟨0,by omega,λB wc hB=>zq4x (hz wc hB.own.rod)⟩
def zP{S:Type}:CallP S:=⟨Proc.ret (0,1),Proc.ret 1,Proc.ret (0,1),Proc.ret (false,1),Proc.ret ([],1)⟩
theorem zqa8(op:OpX):(callE (S:=Unit) zP op).run ()=((),some Ans.none,0):=by
 unfold callE zP
 repeat' split
 all_goals rfl
theorem zcall_f{Ml S β:Type}{C:Core Ml S}{ro:Nat->Option Obj}{i:Nat}(Y:YSys Try.prog aM C ro i β){dv sv:Value}{who:Int}{op:OpX}(h:NoMem Y dv who):CallF Y dv sv who op zP where
 enter:=(zq6j Y h).spec
 leave:=(zqcg Y h).spec
 retire:=(zqdi Y h op.a).spec
 adv:=(adv_none Y h).spec
 coll:=by
  intro K s B w hK hA cl cs h1 h2;refine(zqaz Y h).spec.rel (λ_=>K ([],1)) s B w (λ_=>hK _) hA cl cs ?_ h2;rintro s' v w' ⟨a,X,⟨rfl,rfl⟩,k2,k3⟩;exact h1 s' _ w' ⟨([],1),_,⟨_,rfl,RowB.nil _ _,Nat.zero_le _⟩,k2,k3⟩
theorem zY_rep{ro:Nat->Option Obj}{w:World}(hro:∀b o,ro b=some o->w.heap[b]?=some o):BRep zCore ro ⟨(),λ_ _=>none⟩ w:=⟨trivial,λi b o h=>(by cases h),hro,λi b h=>absurd rfl h,λi j b _ h=>absurd rfl h,λb h hf=>hf,λi b h=>rfl⟩
theorem zY_is{ro:Nat->Option Obj}{w:World}(hro:∀b o,ro b=some o->w.heap[b]?=some o){α:Type}{T:Unit×Option α×Nat}{m:BM Unit}{w':World}{r:Unit×Tree Unit α}(h:LoneAt zCore ro 0 0 ⟨(),λ_ _=>none⟩ w T m w' r):Beyond w w':=by
 refine⟨h.size,λb hb=>?_⟩;cases ho:ro b with
 |some o=>rw[h.rep.rod b o ho,hro b o ho]
 |none=>
  refine h.old b hb λhf=>?_;rcases hf with hf|⟨_,hf⟩|hf
  . exact hf
  . exact absurd rfl hf
  . exact hf ho
theorem zcall_J(hJ:JS Try.prog main Kc (λ(_:Unit)=>J))(hC:CalmJ Try.prog main (λ(_:Unit)=>J)){ro:Nat->Option Obj}{w:World}{dv:Value}{stb:Nat}{who:Int}{op:OpX}(hro:∀b o,ro b=some o->w.heap[b]?=some o)(hz:∀wc:World,(∀b o,ro b=some o->wc.heap[b]?=some o)->ZD dv wc){cl:Frame}{cs:List Frame}
 (hq:∀p c w',Beyond w w'->J (G (cl.finish (.agg #[.bool false,.int .i64 0,.slice p 0 c])) cs) w'):
 J (G (Frame.enter Try.prog 16 #[dv,.pointer (some ⟨stb,0,none⟩),actV who op] .normal) (cl::cs)) w:=by
 have h0:LoneAt zCore ro 0 0 ⟨(),λ_ _=>none⟩ w ((callE (S:=Unit) zP op).run ()) ⟨(),λ_ _=>none⟩ w ((callE (S:=Unit) zP op).bind Proc.ret ()):=by
  rw[Proc.bind_pure];exact⟨zY_rep hro,Nat.le_refl _,λ_ _ _=>rfl,λ_ h=>.inl h,⟨_,rfl,by rw[zqa8];exact⟨_,rfl⟩,rfl⟩,λ_ _=>rfl⟩
 refine zqam (zY Ans hJ hC ro w ((callE (S:=Unit) zP op).run ())) (zcall_f _ (zY_mem hJ hC hz who)) Proc.ret () (λ_=>none) w (λ_=>trivial) ⟨_,rfl,h0,trivial⟩ cl cs ?_ ?_
 . rintro s' v w' ⟨a,X,⟨sl,rfl,hrow⟩,_,m,_,hA,_⟩;have hA':LoneAt zCore ro 0 0 ⟨(),λ_ _=>none⟩ w ((callE (S:=Unit) zP op).run ()) m w' ((),.ret a):=hA;obtain⟨k,h1,h2,h3⟩:=hA'.run;rw[zqa8]at h1;have e2:some a=some Ans.none:=congrArg (λx=>x.2.1) h1;cases e2;obtain⟨p,c,rfl⟩:∃p c,sl=.slice p 0 c:=by
    rcases hrow.2 with⟨a,b,_⟩|⟨g,cap,cur,a,_⟩
    . exact⟨none,0,a⟩
    . exact⟨_,cap,a⟩
   exact hq p c w' (zY_is hro hA')
 . intro s' ch w' hf;exact hf.elim
theorem zenter_J(hJ:JS Try.prog main Kc (λ(_:Unit)=>J))(hC:CalmJ Try.prog main (λ(_:Unit)=>J)){ro:Nat->Option Obj}{w:World}{dv sv:Value}{who:Int}(hro:∀b o,ro b=some o->w.heap[b]?=some o)(hz:∀wc:World,(∀b o,ro b=some o->wc.heap[b]?=some o)->ZD dv wc){cl:Frame}{cs:List Frame}
 (hq:∀w',Beyond w w'->J (G (cl.finish (.tuple #[.int .i64 0,.int .i64 1])) cs) w'):
 J (G (Frame.enter Try.prog 23 #[dv,sv,.int .i64 who] .normal) (cl::cs)) w:=by
 have h0:LoneAt zCore ro 0 0 ⟨(),λ_ _=>none⟩ w ((),some ((0:Int),(1:Int)),0) ⟨(),λ_ _=>none⟩ w ((Proc.ret ((0:Int),(1:Int)):Proc Unit (Int×Int)).bind Proc.ret ()):=by
  rw[Proc.bind_pure];exact⟨zY_rep hro,Nat.le_refl _,λ_ _ _=>rfl,λ_ h=>.inl h,⟨0,rfl,⟨_,rfl⟩,rfl⟩,λ_ _=>rfl⟩
 refine(zq6j (zY (Int×Int) hJ hC ro w ((),some (0,1),0)) (zY_mem hJ hC hz who)).spec Proc.ret () ⟨(),λ_ _=>none⟩ w (λ_=>trivial) ⟨h0,trivial⟩ cl cs ?_ ?_
 . rintro s' v w' ⟨a,m,rfl,_,hA,_⟩;have hA':LoneAt zCore ro 0 0 ⟨(),λ_ _=>none⟩ w ((),some ((0:Int),(1:Int)),0) m w' ((),.ret a):=hA;obtain⟨k,h1,h2,h3⟩:=hA'.run;have e2:some a=some ((0:Int),(1:Int)):=congrArg (λx=>x.2.1) h1;cases e2;exact hq w' (zY_is hro hA')
 . intro s' ch w' hf;exact hf.elim
end
def loopC:Code->Code
 |.loop c=>c
 |c=>c
noncomputable def nlT(n:Nat):Code:=tailN n (Try.f5.body.getD .skip)
noncomputable def nlL:Code:=loopC (zqv (sndC (headC (nlT 4))))
noncomputable def nlB(n:Nat):Code:=tailN n (zqv (headC (sndC nlL)))
theorem nl0:Try.f5.body.getD .skip=.seq (headC (nlT 0)) (.seq (headC (nlT 1)) (.seq (headC (nlT 2)) (.seq (headC (nlT 3)) (.seq (.seq (headC (headC (nlT 4))) (.block 0 (.loop nlL))) (nlT 5))))):=by kernel_rfl
theorem nl1:nlL=.seq (headC nlL) (.seq (.block 1 (.seq (headC (nlB 0)) (nlB 1))) (sndC (sndC nlL))):=by kernel_rfl
theorem nl2:nlB 1=.seq (headC (nlB 1)) (.seq (headC (nlB 2)) (.seq (headC (nlB 3)) (nlB 4))):=by kernel_rfl
structure NilAt(W:World)(bb zb lb:Nat)(who:Int)(op:OpX)(w:World):Prop where
 be:Beyond W w
 box:w.heap[bb]?=some (.cells (actC who op) 46)
 zer:w.heap[zb]?=some (.cells #[.int .i64 0,.slice none 0 0] 81)
 lst:w.heap[lb]?=some (.cells #[.pointer none,.pointer (some ⟨zb,0,none⟩)] 33)
theorem NilAt.more {W:World}{bb zb lb:Nat}{who:Int}{op:OpX}{w w':World}(h:NilAt W bb zb lb who op w)(b:Beyond w w'):NilAt W bb zb lb who op w':=
 ⟨h.be.trans b,b.heap h.box,b.heap h.zer,b.heap h.lst⟩
def zRo(zb:Nat):Nat->Option Obj:=λb=>if b=zb then some (.cells #[.int .i64 0,.slice none 0 0] 81)else none
theorem NilAt.ro {W:World}{bb zb lb:Nat}{who:Int}{op:OpX}{w:World}(h:NilAt W bb zb lb who op w):∀b o,zRo zb b=some o->w.heap[b]?=some o:=λb o hb=>by
 unfold zRo at hb;split at hb
 . rename_i e;subst e;cases hb;exact h.zer
 . cases hb
def nlD(zb:Nat):Nat->Value:=λi=>if i=0 then .pointer none else .pointer (some ⟨zb,0,none⟩)
theorem nlD_z(zb i:Nat):∀wc:World,(∀b o,zRo zb b=some o->wc.heap[b]?=some o)->ZD (nlD zb i) wc:=λwc h=>by
 unfold nlD;split
 . exact .inl rfl
 . exact .inr ⟨zb,rfl,h zb _ (if_pos rfl)⟩
def nlF(bb lb:Nat)(who:Int)(op:OpX)(v:Nat->Value):Array Value:=#[(actV who op),.pointer (some ⟨bb,0,none⟩),.bool false,.pointer none,.slice (some ⟨lb,0,none⟩) 2 2,v 5,v 6,v 7,v 8,v 9,v 10,v 11,v 12,v 13,v 14,v 15,v 16,v 17,v 18,v 19,v 20,v 21,v 22,v 23,v 24,v 25,v 26,v 27,v 28,v 29,v 30,v 31,v 32,v 33,v 34,v 35,v 36,v 37,v 38,v 39,v 40,v 41,v 42,v 43,v 44,v 45,v 46,v 47,v 48,v 49,v 50,v 51,v 52,v 53,v 54,v 55,v 56,v 57,v 58,v 59,v 60,v 61,v 62,v 63,v 64,v 65,v 66,v 67,v 68,v 69,v 70,v 71,v 72,v 73,v 74,v 75,v 76,v 77,v 78,v 79,v 80,v 81,v 82,v 83,v 84,v 85,v 86,v 87,v 88,v 89]
section
variable {main:Bool} {J:Goroutine->World->Prop}
theorem nil_body(hJ:JS Try.prog main (λ_=>none) (λ(_:Unit)=>J))(hC:CalmJ Try.prog main (λ(_:Unit)=>J)){W:World}{bb zb lb:Nat}{who:Int}{op:OpX}{w:World}{v:Nat->Value}{dv:Value}{K:List Item}{cs:List Frame}(hz:∀wc:World,(∀b o,zRo zb b=some o->wc.heap[b]?=some o)->ZD dv wc)(hv6:v 6=dv)(h:NilAt W bb zb lb who op w)
 (hq:∀v' w',v' 5=v 5->NilAt W bb zb lb who op w'->J (G ((bN 5).at ⟨nlF bb lb who op v',[]⟩ K) cs) w'):J (G ((bN 5).at ⟨nlF bb lb who op v,[]⟩ (.code (nlB 1)::K)) cs) w:=by
 have HB:=Lib.hid h;have HQ:=Lib.hid hq;have HZ:=Lib.hid hz;have hro:∀w,NilAt W bb zb lb who op w->∀b o,zRo zb b=some o->w.heap[b]?=some o:=λw h=>h.ro;clear h hq hz;rw[nl2];unfold nlF;rw[hv6];refine hJ.ctl (s:=()) (λw=>stepG_seq) ?_;obtain⟨u_,hu_⟩:∃c,headC (nlB 1)=c:=⟨_,rfl⟩;have eu_:=hu_;rw[hu_];simp only[nlB,nlL,nlT,headC,tailN,sndC,zqv,loopC,Try.f5,al_od]at eu_;subst eu_;clear hu_;refine hJ.ctl (s:=()) (λw=>stepG_region) ?_;refine zqm (s:=()) (by decide) hJ (zqk _) false (.inr rfl) 0 3 0 rfl rfl rfl (by rfl) ?_;intro τ d;simp only[List.drop_succ_cons,List.drop_zero,List.take_succ_cons,List.take_zero];replace HB:=Lib.hid (HB.out.more (Beyond.re w τ d));generalize re w τ d=w at HB |-;obtain⟨sb,hsb⟩:∃x,w.heap.size=x:=⟨_,rfl⟩;go_wp2;simp only[zqd];replace HB:RowKit.Hid (NilAt W bb zb lb who op (w.alloc (.cells #[.int .i64 0] 42))/\(w.alloc (.cells #[.int .i64 0] 42)).heap[sb]?=some (.cells #[.int .i64 0] 42)):=Lib.hid ⟨HB.out.more (Beyond.alloc _ _),by rw[<-hsb];exact zq10 _ _⟩
 try rw[hsb]
 generalize w.alloc (.cells #[.int .i64 0] 42)=w at HB |-;clear hsb;refine hJ.ctl (s:=()) (λw=>stepG_region_end) ?_;refine hJ.ctl (s:=()) (λw=>stepG_seq) ?_;obtain⟨u_,hu_⟩:∃c,headC (nlB 2)=c:=⟨_,rfl⟩;have eu_:=hu_;rw[hu_];simp only[nlB,nlL,nlT,headC,tailN,sndC,zqv,loopC,Try.f5,al_od]at eu_;subst eu_;clear hu_;refine hJ.ctl (s:=()) (λw=>stepG_region) ?_;refine zqm (s:=()) (by decide) hJ (zqk _) false (.inr rfl) 0 3 3 rfl rfl rfl (by rfl) ?_;intro τ d;simp only[List.drop_succ_cons,List.drop_zero,List.take_succ_cons,List.take_zero];replace HB:=Lib.hid (And.intro (HB.out.1.more (Beyond.re w τ d)) ((Beyond.re w τ d).heap HB.out.2));generalize re w τ d=w at HB |-;have c50:w.cell? ⟨bb,0,none⟩=some (.int .i64 who):=(zq0 HB.out.1.box).trans rfl;have c51:w.cell? ⟨bb,1,none⟩=some (.int .i64 op.k):=(zq0 HB.out.1.box).trans rfl;have c52:w.cell? ⟨bb,2,none⟩=some (.int .i64 op.a):=(zq0 HB.out.1.box).trans rfl;have c53:w.cell? ⟨bb,3,none⟩=some (.int .i64 op.b):=(zq0 HB.out.1.box).trans rfl;have c54:w.cell? ⟨bb,4,none⟩=some (.int .i64 op.c):=(zq0 HB.out.1.box).trans rfl;go_wp2;simp only[zqd];clear c50 c51 c52 c53 c54;refine zq1j (by decide) hJ (s:=()) rfl rfl (f:=16) (args:=#[dv,.pointer (some ⟨sb,0,none⟩),actV who op]) (λτ d=>?_) (λτ d=>?_) ?_
 . simp[go_sem,execOp,Act.eval,resolve,Deferred.ofValue,invoke,callFunc,Try.func16,Try.f16]
   try rfl
 . intro e he;simp[go_sem,execOp,Act.eval,resolve,Deferred.ofValue,invoke,callFunc,Try.func16,Try.f16,Sem.runT_eq]at he
 refine zcall_J hJ hC (hro _ HB.out.1) HZ.out (λp cc w' hw'=>?_);replace HB:=Lib.hid (And.intro (HB.out.1.more hw') (hw'.heap HB.out.2));clear hw';generalize w'=w at HB |-;rw[Frame.finish_at]
 walk_nrm
 refine zqm (s:=()) (by decide) hJ (zqk _) false (.inr rfl) 4 2 0 rfl rfl rfl (by rfl) ?_;intro τ d;simp only[List.drop_succ_cons,List.drop_zero,List.take_succ_cons,List.take_zero];replace HB:=Lib.hid (And.intro (HB.out.1.more (Beyond.re w τ d)) ((Beyond.re w τ d).heap HB.out.2));generalize re w τ d=w at HB |-;obtain⟨gb,hgb⟩:∃x,w.heap.size=x:=⟨_,rfl⟩;go_wp2;simp only[zqd];replace HB:RowKit.Hid ((NilAt W bb zb lb who op (w.alloc (.cells #[.bool false,.int .i64 0,.slice p 0 cc] 48))/\(w.alloc (.cells #[.bool false,.int .i64 0,.slice p 0 cc] 48)).heap[sb]?=some (.cells #[.int .i64 0] 42))/\(w.alloc (.cells #[.bool false,.int .i64 0,.slice p 0 cc] 48)).heap[gb]?=some (.cells #[.bool false,.int .i64 0,.slice p 0 cc] 48)):=Lib.hid ⟨⟨HB.out.1.more (Beyond.alloc _ _),(Beyond.alloc _ _).heap HB.out.2⟩,by rw[<-hgb];exact zq10 _ _⟩
 try rw[hgb]
 generalize w.alloc (.cells #[.bool false,.int .i64 0,.slice p 0 cc] 48)=w at HB |-;clear hgb;refine hJ.ctl (s:=()) (λw=>stepG_region_end) ?_;refine hJ.ctl (s:=()) (λw=>stepG_seq) ?_;obtain⟨u_,hu_⟩:∃c,headC (nlB 3)=c:=⟨_,rfl⟩;have eu_:=hu_;rw[hu_];simp only[nlB,nlL,nlT,headC,tailN,sndC,zqv,loopC,Try.f5,al_od]at eu_;subst eu_;clear hu_;refine hJ.ctl (s:=()) (λw=>stepG_region) ?_;refine zqm (s:=()) (by decide) hJ (zqk _) false (.inr rfl) 0 5 6 rfl rfl rfl (by rfl) ?_;intro τ d;simp only[List.drop_succ_cons,List.drop_zero,List.take_succ_cons,List.take_zero];replace HB:=Lib.hid (And.intro (And.intro (HB.out.1.1.more (Beyond.re w τ d)) ((Beyond.re w τ d).heap HB.out.1.2)) ((Beyond.re w τ d).heap HB.out.2));generalize re w τ d=w at HB |-;have c50:w.cell? ⟨bb,0,none⟩=some (.int .i64 who):=(zq0 HB.out.1.1.box).trans rfl;have c51:w.cell? ⟨bb,1,none⟩=some (.int .i64 op.k):=(zq0 HB.out.1.1.box).trans rfl;have c52:w.cell? ⟨bb,2,none⟩=some (.int .i64 op.a):=(zq0 HB.out.1.1.box).trans rfl;have c53:w.cell? ⟨bb,3,none⟩=some (.int .i64 op.b):=(zq0 HB.out.1.1.box).trans rfl;have c54:w.cell? ⟨bb,4,none⟩=some (.int .i64 op.c):=(zq0 HB.out.1.1.box).trans rfl;go_wp2;simp only[zqd];clear c50 c51 c52 c53 c54;refine zq1j (by decide) hJ (s:=()) rfl rfl (f:=23) (args:=#[dv,.iface 40 (.pointer (some ⟨sb,0,none⟩)),.int .i64 who]) (λτ d=>?_) (λτ d=>?_) ?_
 . simp[go_sem,execOp,Act.eval,resolve,Deferred.ofValue,invoke,callFunc,Try.func23,Try.f23]
   try rfl
 . intro e he;simp[go_sem,execOp,Act.eval,resolve,Deferred.ofValue,invoke,callFunc,Try.func23,Try.f23,Sem.runT_eq]at he
 refine zenter_J hJ hC (hro _ HB.out.1.1) HZ.out (λw' hw'=>?_);replace HB:=Lib.hid (And.intro (And.intro (HB.out.1.1.more hw') (hw'.heap HB.out.1.2)) (hw'.heap HB.out.2));clear hw';generalize w'=w at HB |-;rw[Frame.finish_at]
 walk_nrm
 refine zqm (s:=()) (by decide) hJ (zqk _) false (.inr rfl) 6 5 0 rfl rfl rfl (by rfl) ?_;intro τ d;simp only[List.drop_succ_cons,List.drop_zero,List.take_succ_cons,List.take_zero];replace HB:=Lib.hid (And.intro (And.intro (HB.out.1.1.more (Beyond.re w τ d)) ((Beyond.re w τ d).heap HB.out.1.2)) ((Beyond.re w τ d).heap HB.out.2));generalize re w τ d=w at HB |-;go_wp2;simp only[zqd];refine hJ.ctl (s:=()) (λw=>stepG_region_end) ?_;refine zq2v (s:=()) hJ hC zq1p (by kernel_rfl) (λt w'=>t=nlF bb lb who op (λi=>t.getD i undef)/\t.getD 5 undef=v 5/\t.getD 6 undef=dv/\NilAt W bb zb lb who op w') (λt w' τ d⟨h1,h2,h3,h4⟩=>⟨h1,h2,h3,h4.more (Beyond.re w' τ d)⟩) (by decide) (λτ d=>?_) ?_
 . replace HB:=Lib.hid (And.intro (And.intro (HB.out.1.1.more (Beyond.re w τ d)) ((Beyond.re w τ d).heap HB.out.1.2)) ((Beyond.re w τ d).heap HB.out.2));generalize re w τ d=w at HB |-;obtain⟨u_,hu_⟩:∃c,nlB 4=c:=⟨_,rfl⟩;have eu_:=hu_;rw[hu_];simp only[nlB,nlL,nlT,headC,tailN,sndC,zqv,loopC,Try.f5,al_od]at eu_;subst eu_;clear hu_;have hzw:=HZ.out w (hro _ HB.out.1.1);have m1:=zq4x hzw;have m2:=zd_epoch hzw;have m3:=zd_marks hzw;have m4:=zqjb who hzw;have g0:w.cell? ⟨gb,0,none⟩=some (.bool false):=(zq0 HB.out.2).trans rfl;have g1:w.cell? ⟨gb,1,none⟩=some (.int .i64 0):=(zq0 HB.out.2).trans rfl;have g2:w.cell? ⟨gb,2,none⟩=some (.slice p 0 cc):=(zq0 HB.out.2).trans rfl;have s0:w.cell? ⟨sb,0,none⟩=some (.int .i64 0):=(zq0 HB.out.1.2).trans rfl;have c50:w.cell? ⟨bb,0,none⟩=some (.int .i64 who):=(zq0 HB.out.1.1.box).trans rfl;clear hzw
   go_wp2_with (fail)
   refine Calls.mono m1 ?_;rintro e w' ⟨rfl,rfl⟩;clear m1
   go_wp2_with (fail)
   refine Calls.mono m2 ?_;rintro e w' ⟨rfl,rfl⟩;clear m2
   go_wp2_with (fail)
   refine Calls.mono m3 ?_;rintro e w' ⟨rfl,rfl⟩;clear m3
   go_wp2_with (fail)
   refine Calls.mono m4 ?_;rintro e w' ⟨rfl,rfl⟩;clear m4;go_wp2;exact⟨rfl,rfl,rfl,rfl,HB.out.1.1⟩
 rintro t w' ⟨h1,h5,h6,h7⟩;have:=HQ.out (λi=>t.getD i undef) w' h5 h7;rw[<-h1]at this;exact this
end
section
variable {M1 S1:Type} {C:Core M1 S1} {RP:Nat->Option Obj} {l₀:M1} {w wa w1 w2:World} {N n most:Nat} {sp:Nat->Option Addr} {L Cp:Nat->Nat} {ob ib:Nat->Nat} {dv fv v:Value} {pr:Nat->Proc (S1×(Nat->List Ans)) Unit} {sched:List Int} {b:OSt (TM (M1×AnsM) (S1×(Nat->List Ans)))} {m':TM (M1×AnsM) (S1×(Nat->List Ans))} {g:Nat}
def mOps(l₀:M1)(room:Nat):TM (M1×AnsM) (S1×(Nat->List Ans)):=⟨⟨(l₀,ans0),λ_ _=>none⟩,λ_=>.ret (),room⟩
theorem OpsRes.ext {r:TSt (S1×(Nat->List Ans))}{ab:Nat}{l':M1}{am:AnsM}{w':World}(h:OpsRes C N l₀ wa r ab v l' am w2){H:Nat}(hw:w.heap.size=H)(hwa:wa.heap.size=H+1)(hoa:∀b,b<H->wa.heap[b]?=w.heap[b]?)(hl:∀b,C.foot l₀ b->b<H)(hsz:w2.heap.size<=w'.heap.size)(hold:∀x,x<w2.heap.size->x≠H->w'.heap[x]?=w2.heap[x]?):OpsRes C N l₀ w r ab v l' am w':=by
 have hs:=h.size;have hab:=h.abl;have hcn:∀b,C.foot l' b->b≠H:=λb hb e=>by
  rcases h.foot b hb with h2|h2
  . have:=hl b h2;omega
  . omega
 have han:∀i b,i<N->am.X i b≠none->b≠H:=λi b hi hb e=>by
  rcases h.ansn i b hi hb with h2|h2
  . have:=hl b h2;omega
  . omega
 refine⟨C.frame _ _ _ h.rep λb hb=>hold b (C.lt _ _ _ h.rep hb) (hcn b hb),h.st,⟨(hold ab (zqs h.ans.hd) (by omega)).trans h.ans.hd,h.ans.row,λi b o hi hb=>(hold b (zqs (h.ans.blk i b o hi hb)) (han i b hi (by rw[hb];simp))).trans (h.ans.blk i b o hi hb),h.ans.nab,h.ans.sep⟩,h.ast,by omega,λb hb hf=>(hold b (by omega) (by omega)).trans ((h.old b (by omega) hf).trans (hoa b (by omega))),λb hb=>(h.foot b hb).imp id (λx=>by omega),by omega,λi b hi hb=>(h.ansn i b hi hb).imp id (λx=>by omega),h.anf,?_,h.rowf⟩;refine zq3m (zq23 h.row λg hg=>hold g (own_lt h.row hg).2.2 ?_) (by omega);have:=(own_lt h.row hg).2.1;omega
end
theorem DRes.re {w w':World}{N n:Nat}{dv:Value}{sp:Nat->Option Addr}{L Cp:Nat->Nat}{ob ib:Nat->Nat}{fv:Value}(h:DRes w N dv sp L Cp n ob ib fv w')(τ:Nat->Question->Nat)(d:Nat):DRes w N dv sp L Cp n ob ib fv (Go.Car.re w' τ d):=h.of_heap rfl
theorem DRes.of_re {w w':World}{τ:Nat->Question->Nat}{d:Nat}{N n:Nat}{dv:Value}{sp:Nat->Option Addr}{L Cp:Nat->Nat}{ob ib:Nat->Nat}{fv:Value}(h:DRes (Go.Car.re w τ d) N dv sp L Cp n ob ib fv w'):DRes w N dv sp L Cp n ob ib fv w':=
 ⟨h.size,h.old,h.db,h.ab,h.hb,h.frow,h.obx,h.ibx,h.lo,h.inc⟩
theorem zqd1{w:World}{B N:Nat}{T:TypeId}{v:Value}{xs:List Value}(h:w.ownsRow B T 1 v N xs):∃p C,v=.slice p N C/\(v.ownBlock=p.map (·.block))/\(0<N->∃g,p=some ⟨g,0,none⟩/\v.ownBlock=some g/\∀i x,xs[i]?=some x->w.cell? ⟨g,i,none⟩=some x):=by
 rcases h.2 with⟨hv,h0⟩|⟨g,cap,cur,hv,hb,hh,h1,h2,h3,h4⟩
 . subst h0;exact⟨none,0,hv,by rw[hv];rfl,λh=>absurd h (Nat.lt_irrefl _)⟩
 . refine⟨_,cap,hv,by rw[hv];rfl,λ_=>⟨g,rfl,by rw[hv];rfl,λi x hx=>?_⟩⟩;rw[zq0 (off:=i) hh];have hi:i<xs.length:=(List.getElem?_eq_some_iff.1 hx).1;have hl:=h.1;rw[<-h4,List.getElem?_take]at hx;split at hx
   . simpa using hx
   . cases hx
structure PlayedR{S1:Type}(N:Nat)(w:World)(r:TSt (S1×(Nat->List Ans)))(st:List Int)(ab:Nat)(ov sv:Value)(am:AnsM)(w':World):Prop where
 size:w.heap.size<=w'.heap.size
 old:∀b,b<w.heap.size->w'.heap[b]?=w.heap[b]?
 ans:zq2t tT ab N am w'
 ast:am.st=r.s.2
 abl:w.heap.size<=ab
 ansn:∀i b,i<N->am.X i b≠none->w.heap.size<=b
 orow:w'.ownsRow w.heap.size 3 1 ov r.ord.length (r.ord.map λ(i:Nat)=>.int .i64 i)
 srow:w'.ownsRow w.heap.size 2 1 sv st.length (st.map (Value.int .i64))
 rowf:∀x,ov.ownBlock=some x->x≠ab/\∀i,i<N->am.X i x=none
 srowf:∀x,sv.ownBlock=some x->x≠ab/\(∀i,i<N->am.X i x=none)/\ov.ownBlock≠some x
theorem PlayedR.re {S1:Type}{N:Nat}{w w':World}{r:TSt (S1×(Nat->List Ans))}{st:List Int}{ab:Nat}{ov sv:Value}{am:AnsM}(h:PlayedR N w r st ab ov sv am w')(τ:Nat->Question->Nat)(d:Nat):PlayedR N w r st ab ov sv am (Go.Car.re w' τ d):=
 ⟨h.size,h.old,⟨h.ans.hd,h.ans.row,h.ans.blk,h.ans.nab,h.ans.sep⟩,h.ast,h.abl,h.ansn,h.orow,h.srow,h.rowf,h.srowf⟩
theorem zqdd{M1 S1:Type}{C:Core M1 S1}{N H:Nat}{l₀ l':M1}{w wb w2 w':World}{r:TSt (S1×(Nat->List Ans))}{ab:Nat}{v sv:Value}{am:AnsM}{st:List Int}(h:OpsRes C N l₀ wb r ab v l' am w2)(hw:w.heap.size=H)(hwb:H+1<=wb.heap.size)(hob:∀b,b<H->wb.heap[b]?=w.heap[b]?)
 (hl:∀b,C.foot l₀ b->H+1<=b) (hsz:w2.heap.size<=w'.heap.size) (hold:∀x,x<w2.heap.size->x≠H->w'.heap[x]?=w2.heap[x]?) (hs:w'.ownsRow w2.heap.size 2 1 sv st.length (st.map (Value.int .i64))):PlayedR N w r st ab v sv am w':=by
 have h1:=h.size;have h2:=h.abl;have han:∀i b,i<N->am.X i b≠none->H+1<=b:=λi b hi hb=>(h.ansn i b hi hb).elim (hl b) (λx=>by omega);refine⟨by omega,λb hb=>(hold b (by omega) (by omega)).trans ((h.old b (by omega) λx=>by have:=hl b x;omega).trans (hob b (by omega))),⟨(hold ab (zqs h.ans.hd) (by omega)).trans h.ans.hd,h.ans.row,λi b o hi hb=>(hold b (zqs (h.ans.blk i b o hi hb)) (by have:=han i b hi (by rw[hb];simp);omega)).trans (h.ans.blk i b o hi hb),h.ans.nab,h.ans.sep⟩,h.ast,by omega,λi b hi hb=>by have:=han i b hi hb;omega,?_,zq3m hs (by omega),λx hx=>(h.rowf x hx).2,λx hx=>?_⟩
 . refine zq3m (zq23 h.row λg hg=>hold g (own_lt h.row hg).2.2 ?_) (by omega);have:=(own_lt h.row hg).2.1;omega
 . have h3:=(own_lt hs hx).2.1;refine⟨?_,λi hi=>?_,λe=>?_⟩
   . have:=zqs h.ans.hd;omega
   . cases ho:am.X i x with
     |none=>rfl
     |some o=>have:=zqs (h.ans.blk i x o hi ho);omega
   . have:=(own_lt h.row e).2.2;omega
set_option maxHeartbeats 16000000
section
variable {M2 S2 β:Type} {D:Core M2 S2} {ro:Nat->Option Obj} {i:Nat} {T:EpT}
theorem edo_c1(Y:YSys Try.prog aM (zqg (zqh T) D) ro i β){sv:Value}{k:Nat}(hst:EpoY T k Y sv)(hk:k<T.N)(hN:T.N<=64)(hc:EpoC T k Y sv){op:OpX}{B Bq:Nat->Option Obj}{b7 b8:Nat}(hd:DoB B Bq op b7 b8){K:Ans->Proc (EpS×S2) β}(hK:∀a,Y.sil (K a)){Q:Y.γ->Exit->Act->World->Prop}{s:Y.γ}{w:World}{v:Nat->Value}
 (hret:∀s a w,(Y.Bd Try.f33 (PostR Y K (AnsV 2) B)) s a w->Q s .ret a w) (hpan:∀s ch t w,Y.Dead s ch w->Q s (.panic ch) ⟨t,[]⟩ w)
 (hA:Y.AtB Bq s w (((zq2w k).bind λx=>Proc.ret ⟨x.2==0,x.1,[]⟩).bind K)):wpJ Y.J (doC 0) Q s ⟨doF T.db k sv op b7 b8 v,[]⟩ w:=by
 have HKK:=Lib.hid hK;have H7:=Lib.hid hd.h7;have H8:=Lib.hid hd.h8;have HLE:=Lib.hid hd.hle;have HN:=Lib.hid hd.hn;clear hK hd;obtain⟨u_,hu_⟩:∃c,doC 0=c:=⟨_,rfl⟩;have eu_:=hu_;rw[hu_];simp only[doC,doCh,condT,condE,sndC,zqv,headC,tailN,Try.f33,al_od]at eu_;subst eu_;clear hu_;unfold doF;rw[Proc.bind_bind]at hA;refine zqe Y.jc (zqr Y.jc ?_);apply YSys.callR 0 3 5 hA (zqb9 Y hst hk hN).spec (λx=>HKK.out _) rfl rfl rfl (by rfl) rfl rfl rfl
 . intro wc hB X hX;have HX:=Lib.hid hX;clear hX;go_wp2;exact HX.out _ (Ext1.refl _)
 . intro w;simp[go_sem,execOp,Act.eval,resolve,Deferred.ofValue,invoke,callFunc,Try.func23,Try.f23]
 . intro w;simp[go_sem,execOp,Act.eval,resolve,Deferred.ofValue,invoke,callFunc,Try.func23,Try.f23]
 . intro s' ch w' h;exact hpan _ _ _ _ h
 intro s x w hA;apply YSys.ops0 4 5 hA rfl rfl (by kernel_rfl)
 . intro wc hB;go_wp2;exact⟨rfl,Ext1.refl _,rfl⟩
 intro w hA;show wpJ Y.J _ _ _ _ _;refine YSys.seqX (λt B'=>t.getD 8 undef=.pointer (some ⟨b8,0,none⟩)/\B'=upB Bq b8 (.cells #[.bool (x.2==0),.int .i64 x.1,.slice none 0 0] 48)) hA (by kernel_rfl) ?_ ?_
 . intro wc hB X0 hX0;have HX0:=Lib.hid hX0;clear hX0;have k8:=hB.own.box b8 _ H8.out;have c80:wc.cell? ⟨b8,0,none⟩=some (.bool false):=(zq0 k8).trans rfl;have c81:wc.cell? ⟨b8,1,none⟩=some (.int .i64 0):=(zq0 k8).trans rfl;have c82:wc.cell? ⟨b8,2,none⟩=some (.slice none 0 0):=(zq0 k8).trans rfl;have f80:wc.frozen? ⟨b8,0,none⟩=false:=zq8 k8;have f81:wc.frozen? ⟨b8,1,none⟩=false:=zq8 k8;have f82:wc.frozen? ⟨b8,2,none⟩=false:=zq8 k8;have hm:=OMoved.set3 (o1:=0) (o2:=1) (o3:=2) hB.own H8.out (.bool (x.2==0)) (.int .i64 x.1) (.slice none 0 0);have HM:=Lib.hid hm;clear hm k8;go_wp2;exact⟨rfl,HX0.out _ _ _ HM.out ⟨rfl,rfl⟩⟩
 rintro t _ w ⟨ht8,rfl⟩ hA;refine zq13 Y.jc (hret _ _ _ ?_);refine YSys.left hA (v:=.agg #[.bool (x.2==0),.int .i64 x.1,.slice none 0 0]) (λwc hB=>results_cell_row rfl t wc b8 48 _ _ _ ht8 (hB.own.box b8 _ (upB_same _ _ _)) rfl rfl rfl) λw hA=>?_;exact⟨⟨(x.2==0),x.1,[]⟩,λ_=>none,AnsV.plain _ _ _,λb hb=>absurd rfl hb,hA.drop (zq1h HLE.out HN.out)⟩
end
section
variable {M2 S2 β:Type} {D:Core M2 S2} {ro:Nat->Option Obj} {i:Nat} {T:EpT}
theorem edo_c2(Y:YSys Try.prog aM (zqg (zqh T) D) ro i β){sv:Value}{k:Nat}(hst:EpoY T k Y sv)(hk:k<T.N)(hN:T.N<=64)(hc:EpoC T k Y sv){op:OpX}{B Bq:Nat->Option Obj}{b7 b8:Nat}(hd:DoB B Bq op b7 b8){K:Ans->Proc (EpS×S2) β}(hK:∀a,Y.sil (K a)){Q:Y.γ->Exit->Act->World->Prop}{s:Y.γ}{w:World}{v:Nat->Value}
 (hret:∀s a w,(Y.Bd Try.f33 (PostR Y K (AnsV 2) B)) s a w->Q s .ret a w) (hpan:∀s ch t w,Y.Dead s ch w->Q s (.panic ch) ⟨t,[]⟩ w)
 (hA:Y.AtB Bq s w (((zq30 k).bind λx=>Proc.ret ⟨x==0,0,[]⟩).bind K)):wpJ Y.J (doC 1) Q s ⟨doF T.db k sv op b7 b8 v,[]⟩ w:=by
 have HKK:=Lib.hid hK;have H7:=Lib.hid hd.h7;have H8:=Lib.hid hd.h8;have HLE:=Lib.hid hd.hle;have HN:=Lib.hid hd.hn;clear hK hd;obtain⟨u_,hu_⟩:∃c,doC 1=c:=⟨_,rfl⟩;have eu_:=hu_;rw[hu_];simp only[doC,doCh,condT,condE,sndC,zqv,headC,tailN,Try.f33,al_od]at eu_;subst eu_;clear hu_;unfold doF;rw[Proc.bind_bind]at hA;refine zqe Y.jc (zqr Y.jc ?_);apply YSys.callR 0 3 3 hA (zqch Y hst hk hN).spec (λx=>HKK.out _) rfl rfl rfl (by rfl) rfl rfl rfl
 . intro wc hB X hX;have HX:=Lib.hid hX;clear hX;go_wp2;exact HX.out _ (Ext1.refl _)
 . intro w;simp[go_sem,execOp,Act.eval,resolve,Deferred.ofValue,invoke,callFunc,Try.func27,Try.f27]
 . intro w;simp[go_sem,execOp,Act.eval,resolve,Deferred.ofValue,invoke,callFunc,Try.func27,Try.f27]
 . intro s' ch w' h;exact hpan _ _ _ _ h
 intro s x w hA;refine YSys.opsX 4 3 (λt B'=>t.getD 8 undef=.pointer (some ⟨b8,0,none⟩)/\B'=upB Bq b8 (.cells #[.bool (x==0),.int .i64 0,.slice none 0 0] 48)) hA rfl rfl (by kernel_rfl) ?_ ?_
 . intro wc hB X0 hX0;have HX0:=Lib.hid hX0;clear hX0;have k8:=hB.own.box b8 _ H8.out;have c80:wc.cell? ⟨b8,0,none⟩=some (.bool false):=(zq0 k8).trans rfl;have c81:wc.cell? ⟨b8,1,none⟩=some (.int .i64 0):=(zq0 k8).trans rfl;have c82:wc.cell? ⟨b8,2,none⟩=some (.slice none 0 0):=(zq0 k8).trans rfl;have f80:wc.frozen? ⟨b8,0,none⟩=false:=zq8 k8;have f81:wc.frozen? ⟨b8,1,none⟩=false:=zq8 k8;have f82:wc.frozen? ⟨b8,2,none⟩=false:=zq8 k8;have hm:=OMoved.set3 (o1:=0) (o2:=1) (o3:=2) hB.own H8.out (.bool (x==0)) (.int .i64 0) (.slice none 0 0);have HM:=Lib.hid hm;clear hm k8;go_wp2;exact⟨rfl,HX0.out _ _ _ HM.out ⟨rfl,rfl⟩⟩
 rintro t _ w ⟨ht8,rfl⟩ hA;show wpJ Y.J _ _ _ _ _;refine zq13 Y.jc (hret _ _ _ ?_);refine YSys.left hA (v:=.agg #[.bool (x==0),.int .i64 0,.slice none 0 0]) (λwc hB=>results_cell_row rfl t wc b8 48 _ _ _ ht8 (hB.own.box b8 _ (upB_same _ _ _)) rfl rfl rfl) λw hA=>?_;exact⟨⟨(x==0),0,[]⟩,λ_=>none,AnsV.plain _ _ _,λb hb=>absurd rfl hb,hA.drop (zq1h HLE.out HN.out)⟩
end
section
variable {M2 S2 β:Type} {D:Core M2 S2} {ro:Nat->Option Obj} {i:Nat} {T:EpT}
theorem edo_c3(Y:YSys Try.prog aM (zqg (zqh T) D) ro i β){sv:Value}{k:Nat}(hst:EpoY T k Y sv)(hk:k<T.N)(hN:T.N<=64)(hc:EpoC T k Y sv){op:OpX}{B Bq:Nat->Option Obj}{b7 b8:Nat}(hd:DoB B Bq op b7 b8){K:Ans->Proc (EpS×S2) β}(hK:∀a,Y.sil (K a)){Q:Y.γ->Exit->Act->World->Prop}{s:Y.γ}{w:World}{v:Nat->Value}
 (hret:∀s a w,(Y.Bd Try.f33 (PostR Y K (AnsV 2) B)) s a w->Q s .ret a w) (hpan:∀s ch t w,Y.Dead s ch w->Q s (.panic ch) ⟨t,[]⟩ w)
 (hA:Y.AtB Bq s w (((zq33 k op.a).bind λx=>Proc.ret ⟨x.2==0,x.1,[]⟩).bind K)):wpJ Y.J (doC 2) Q s ⟨doF T.db k sv op b7 b8 v,[]⟩ w:=by
 have HKK:=Lib.hid hK;have H7:=Lib.hid hd.h7;have H8:=Lib.hid hd.h8;have HLE:=Lib.hid hd.hle;have HN:=Lib.hid hd.hn;clear hK hd;obtain⟨u_,hu_⟩:∃c,doC 2=c:=⟨_,rfl⟩;have eu_:=hu_;rw[hu_];simp only[doC,doCh,condT,condE,sndC,zqv,headC,tailN,Try.f33,al_od]at eu_;subst eu_;clear hu_;unfold doF;rw[Proc.bind_bind]at hA;refine zqe Y.jc (zqr Y.jc ?_);apply YSys.callR 0 5 5 hA (zqdj Y hst hk hN op.a).spec (λx=>HKK.out _) rfl rfl rfl (by rfl) rfl rfl rfl
 . intro wc hB X hX;have HX:=Lib.hid hX;clear hX;have c70:wc.cell? ⟨b7,0,none⟩=some (.int .i64 op.k):=(zq0 (hB.own.box b7 _ H7.out)).trans rfl;have c71:wc.cell? ⟨b7,1,none⟩=some (.int .i64 op.a):=(zq0 (hB.own.box b7 _ H7.out)).trans rfl;have c72:wc.cell? ⟨b7,2,none⟩=some (.int .i64 op.b):=(zq0 (hB.own.box b7 _ H7.out)).trans rfl;have c73:wc.cell? ⟨b7,3,none⟩=some (.int .i64 op.c):=(zq0 (hB.own.box b7 _ H7.out)).trans rfl;go_wp2;exact HX.out _ (Ext1.refl _)
 . intro w;simp[go_sem,execOp,Act.eval,resolve,Deferred.ofValue,invoke,callFunc,Try.func24,Try.f24]
 . intro w;simp[go_sem,execOp,Act.eval,resolve,Deferred.ofValue,invoke,callFunc,Try.func24,Try.f24]
 . intro s' ch w' h;exact hpan _ _ _ _ h
 intro s x w hA;apply YSys.ops0 6 5 hA rfl rfl (by kernel_rfl)
 . intro wc hB;go_wp2;exact⟨rfl,Ext1.refl _,rfl⟩
 intro w hA;show wpJ Y.J _ _ _ _ _;refine YSys.seqX (λt B'=>t.getD 8 undef=.pointer (some ⟨b8,0,none⟩)/\B'=upB Bq b8 (.cells #[.bool (x.2==0),.int .i64 x.1,.slice none 0 0] 48)) hA (by kernel_rfl) ?_ ?_
 . intro wc hB X0 hX0;have HX0:=Lib.hid hX0;clear hX0;have k8:=hB.own.box b8 _ H8.out;have c80:wc.cell? ⟨b8,0,none⟩=some (.bool false):=(zq0 k8).trans rfl;have c81:wc.cell? ⟨b8,1,none⟩=some (.int .i64 0):=(zq0 k8).trans rfl;have c82:wc.cell? ⟨b8,2,none⟩=some (.slice none 0 0):=(zq0 k8).trans rfl;have f80:wc.frozen? ⟨b8,0,none⟩=false:=zq8 k8;have f81:wc.frozen? ⟨b8,1,none⟩=false:=zq8 k8;have f82:wc.frozen? ⟨b8,2,none⟩=false:=zq8 k8;have hm:=OMoved.set3 (o1:=0) (o2:=1) (o3:=2) hB.own H8.out (.bool (x.2==0)) (.int .i64 x.1) (.slice none 0 0);have HM:=Lib.hid hm;clear hm k8;go_wp2;exact⟨rfl,HX0.out _ _ _ HM.out ⟨rfl,rfl⟩⟩
 rintro t _ w ⟨ht8,rfl⟩ hA;refine zq13 Y.jc (hret _ _ _ ?_);refine YSys.left hA (v:=.agg #[.bool (x.2==0),.int .i64 x.1,.slice none 0 0]) (λwc hB=>results_cell_row rfl t wc b8 48 _ _ _ ht8 (hB.own.box b8 _ (upB_same _ _ _)) rfl rfl rfl) λw hA=>?_;exact⟨⟨(x.2==0),x.1,[]⟩,λ_=>none,AnsV.plain _ _ _,λb hb=>absurd rfl hb,hA.drop (zq1h HLE.out HN.out)⟩
end
end Go.Proofs
