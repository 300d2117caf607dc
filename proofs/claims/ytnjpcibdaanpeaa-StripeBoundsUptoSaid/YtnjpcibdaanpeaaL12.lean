/- YtnjpcibdaanpeaaSBound10: part 12 of the proof (the texts behind it, in order). -/
import Derived.Test.YtnjpcibdaanpeaaL11
set_option linter.unusedSimpArgs false
set_option linter.unusedVariables false
set_option linter.unusedSectionVars false
set_option linter.unnecessarySimpa false
set_option maxHeartbeats 8000000
set_option maxRecDepth 100000
namespace Go.Proofs
open Go Go.Conc Go.RowKit Go.Car
noncomputable def bdT(n:Nat):Code:=tailN n (Try.f5.body.getD .skip)
theorem bd0:Try.f5.body.getD .skip=.seq (headC (bdT 0)) (.seq (headC (bdT 1)) (.seq (headC (bdT 2)) (.seq (headC (bdT 3)) (.seq (headC (bdT 4)) (.seq (headC (bdT 5)) (.seq (headC (bdT 6)) (.seq (headC (bdT 7)) (.seq (headC (bdT 8)) (.seq (headC (bdT 9)) (.seq (headC (bdT 10)) (.seq (headC (bdT 11)) (.seq (headC (bdT 12)) (bdT 13))))))))))))):=by kernel_rfl
theorem lit269{T:Array Value}(h:T.size=269):∃x:Nat->Value,T=#[x 0,x 1,x 2,x 3,x 4,x 5,x 6,x 7,x 8,x 9,x 10,x 11,x 12,x 13,x 14,x 15,x 16,x 17,x 18,x 19,x 20,x 21,x 22,x 23,x 24,x 25,x 26,x 27,x 28,x 29,x 30,x 31,x 32,x 33,x 34,x 35,x 36,x 37,x 38,x 39,x 40,x 41,x 42,x 43,x 44,x 45,x 46,x 47,x 48,x 49,x 50,x 51,x 52,x 53,x 54,x 55,x 56,x 57,x 58,x 59,x 60,x 61,x 62,x 63,x 64,x 65,x 66,x 67,x 68,x 69,x 70,x 71,x 72,x 73,x 74,x 75,x 76,x 77,x 78,x 79,x 80,x 81,x 82,x 83,x 84,x 85,x 86,x 87,x 88,x 89,x 90,x 91,x 92,x 93,x 94,x 95,x 96,x 97,x 98,x 99,x 100,x 101,x 102,x 103,x 104,x 105,x 106,x 107,x 108,x 109,x 110,x 111,x 112,x 113,x 114,x 115,x 116,x 117,x 118,x 119,x 120,x 121,x 122,x 123,x 124,x 125,x 126,x 127,x 128,x 129,x 130,x 131,x 132,x 133,x 134,x 135,x 136,x 137,x 138,x 139,x 140,x 141,x 142,x 143,x 144,x 145,x 146,x 147,x 148,x 149,x 150,x 151,x 152,x 153,x 154,x 155,x 156,x 157,x 158,x 159,x 160,x 161,x 162,x 163,x 164,x 165,x 166,x 167,x 168,x 169,x 170,x 171,x 172,x 173,x 174,x 175,x 176,x 177,x 178,x 179,x 180,x 181,x 182,x 183,x 184,x 185,x 186,x 187,x 188,x 189,x 190,x 191,x 192,x 193,x 194,x 195,x 196,x 197,x 198,x 199,x 200,x 201,x 202,x 203,x 204,x 205,x 206,x 207,x 208,x 209,x 210,x 211,x 212,x 213,x 214,x 215,x 216,x 217,x 218,x 219,x 220,x 221,x 222,x 223,x 224,x 225,x 226,x 227,x 228,x 229,x 230,x 231,x 232,x 233,x 234,x 235,x 236,x 237,x 238,x 239,x 240,x 241,x 242,x 243,x 244,x 245,x 246,x 247,x 248,x 249,x 250,x 251,x 252,x 253,x 254,x 255,x 256,x 257,x 258,x 259,x 260,x 261,x 262,x 263,x 264,x 265,x 266,x 267,x 268]/\∀i,i<269->T[i]?=some (x i):=by
 obtain⟨x,h1,h2⟩:=lit_list T;rw[h]at h1 h2;refine⟨x,?_,h1⟩;have h3:T=((List.range 269).map x).toArray:=by rw[←h2]
 exact h3.trans (show((List.range 269).map x).toArray=#[x 0,x 1,x 2,x 3,x 4,x 5,x 6,x 7,x 8,x 9,x 10,x 11,x 12,x 13,x 14,x 15,x 16,x 17,x 18,x 19,x 20,x 21,x 22,x 23,x 24,x 25,x 26,x 27,x 28,x 29,x 30,x 31,x 32,x 33,x 34,x 35,x 36,x 37,x 38,x 39,x 40,x 41,x 42,x 43,x 44,x 45,x 46,x 47,x 48,x 49,x 50,x 51,x 52,x 53,x 54,x 55,x 56,x 57,x 58,x 59,x 60,x 61,x 62,x 63,x 64,x 65,x 66,x 67,x 68,x 69,x 70,x 71,x 72,x 73,x 74,x 75,x 76,x 77,x 78,x 79,x 80,x 81,x 82,x 83,x 84,x 85,x 86,x 87,x 88,x 89,x 90,x 91,x 92,x 93,x 94,x 95,x 96,x 97,x 98,x 99,x 100,x 101,x 102,x 103,x 104,x 105,x 106,x 107,x 108,x 109,x 110,x 111,x 112,x 113,x 114,x 115,x 116,x 117,x 118,x 119,x 120,x 121,x 122,x 123,x 124,x 125,x 126,x 127,x 128,x 129,x 130,x 131,x 132,x 133,x 134,x 135,x 136,x 137,x 138,x 139,x 140,x 141,x 142,x 143,x 144,x 145,x 146,x 147,x 148,x 149,x 150,x 151,x 152,x 153,x 154,x 155,x 156,x 157,x 158,x 159,x 160,x 161,x 162,x 163,x 164,x 165,x 166,x 167,x 168,x 169,x 170,x 171,x 172,x 173,x 174,x 175,x 176,x 177,x 178,x 179,x 180,x 181,x 182,x 183,x 184,x 185,x 186,x 187,x 188,x 189,x 190,x 191,x 192,x 193,x 194,x 195,x 196,x 197,x 198,x 199,x 200,x 201,x 202,x 203,x 204,x 205,x 206,x 207,x 208,x 209,x 210,x 211,x 212,x 213,x 214,x 215,x 216,x 217,x 218,x 219,x 220,x 221,x 222,x 223,x 224,x 225,x 226,x 227,x 228,x 229,x 230,x 231,x 232,x 233,x 234,x 235,x 236,x 237,x 238,x 239,x 240,x 241,x 242,x 243,x 244,x 245,x 246,x 247,x 248,x 249,x 250,x 251,x 252,x 253,x 254,x 255,x 256,x 257,x 258,x 259,x 260,x 261,x 262,x 263,x 264,x 265,x 266,x 267,x 268]from by kernel_rfl)
structure BF(a0 a1 a2 v7 v8 v10 v11:Value)(T:Array Value):Prop where
 sz:T.size=269
 t0:T[0]?=some a0
 t1:T[1]?=some a1
 t2:T[2]?=some a2
 t7:T[7]?=some v7
 t8:T[8]?=some v8
 t10:T[10]?=some v10
 t11:T[11]?=some v11
 t6:T[6]?=some (.bool false)
theorem bd_r0{W:World}{sp:Int}{lp scp:Option Addr}{ll lc sl Cs:Nat}(τ:Nat->Question->Nat)(d:Nat):
 Code.wp Try.prog (headC (bdT 0)) (ends (λa' w'=>BF (.int .u8 sp) (.slice lp ll lc) (.slice scp sl Cs) undef undef undef undef a'.tmps/\Beyond W w') (λ_ _=>False)) ⟨#[.int .u8 sp,.slice lp ll lc,.slice scp sl Cs,undef,undef,undef,undef,undef,undef,undef,undef,undef,undef,undef,undef,undef,undef,undef,undef,undef,undef,undef,undef,undef,undef,undef,undef,undef,undef,undef,undef,undef,undef,undef,undef,undef,undef,undef,undef,undef,undef,undef,undef,undef,undef,undef,undef,undef,undef,undef,undef,undef,undef,undef,undef,undef,undef,undef,undef,undef,undef,undef,undef,undef,undef,undef,undef,undef,undef,undef,undef,undef,undef,undef,undef,undef,undef,undef,undef,undef,undef,undef,undef,undef,undef,undef,undef,undef,undef,undef,undef,undef,undef,undef,undef,undef,undef,undef,undef,undef,undef,undef,undef,undef,undef,undef,undef,undef,undef,undef,undef,undef,undef,undef,undef,undef,undef,undef,undef,undef,undef,undef,undef,undef,undef,undef,undef,undef,undef,undef,undef,undef,undef,undef,undef,undef,undef,undef,undef,undef,undef,undef,undef,undef,undef,undef,undef,undef,undef,undef,undef,undef,undef,undef,undef,undef,undef,undef,undef,undef,undef,undef,undef,undef,undef,undef,undef,undef,undef,undef,undef,undef,undef,undef,undef,undef,undef,undef,undef,undef,undef,undef,undef,undef,undef,undef,undef,undef,undef,undef,undef,undef,undef,undef,undef,undef,undef,undef,undef,undef,undef,undef,undef,undef,undef,undef,undef,undef,undef,undef,undef,undef,undef,undef,undef,undef,undef,undef,undef,undef,undef,undef,undef,undef,undef,undef,undef,undef,undef,undef,undef,undef,undef,undef,undef,undef,undef,undef,undef,undef,undef,undef,undef,undef,undef,undef,undef,undef,undef,undef,undef,undef,undef,undef,undef,undef,undef,undef,undef,undef,undef,undef,undef,undef,undef,undef,undef,undef,undef],[]⟩ (re W τ d):=by
 have HB:=Lib.hid (Beyond.re W τ d);obtain⟨u,hu⟩:∃c,headC (bdT 0)=c:=⟨_,rfl⟩;have eu:=hu;rw[hu];simp only[bdT,headC,tailN,Try.f5,al_od]at eu;subst eu;clear hu;go_wp2;exact⟨rfl,⟨rfl,rfl,rfl,rfl,rfl,rfl,rfl,rfl,rfl⟩,HB.out⟩
theorem bd_r1{Fin:Machine->Trace->Prop}(hFin:Back Try.prog Fin){w:World}{a0 a1 a2 v7 v8 v10 v11:Value}{T:Array Value}(hF:BF a0 a1 a2 v7 v8 v10 v11 T){k:List Item}(hq:∀T' w',Beyond w w'->BF a0 a1 a2 v7 v8 v10 v11 T'->J0 Try.prog Fin 5 (G ((bN 5).at ⟨T',[]⟩ k) []) w'):
 J0 Try.prog Fin 1 (G ((bN 5).at ⟨T,[]⟩ (.code (headC (bdT 1))::k)) []) w:=by
 have hJ:=j0_JS hFin;have hC:=j0_calm hFin;have HH:=Lib.hid hq;clear hq;obtain⟨u,hu⟩:∃c,headC (bdT 1)=c:=⟨_,rfl⟩;have eu:=hu;rw[hu];simp only[bdT,headC,tailN,Try.f5,al_od]at eu;subst eu;clear hu;obtain⟨x,hT,hx⟩:=lit269 hF.sz;have e0:x 0=a0:=Option.some.inj ((hx 0 (by decide)).symm.trans hF.t0);have e1:x 1=a1:=Option.some.inj ((hx 1 (by decide)).symm.trans hF.t1);have e2:x 2=a2:=Option.some.inj ((hx 2 (by decide)).symm.trans hF.t2);have e7:x 7=v7:=Option.some.inj ((hx 7 (by decide)).symm.trans hF.t7);have e8:x 8=v8:=Option.some.inj ((hx 8 (by decide)).symm.trans hF.t8);have e10:x 10=v10:=Option.some.inj ((hx 10 (by decide)).symm.trans hF.t10);have e11:x 11=v11:=Option.some.inj ((hx 11 (by decide)).symm.trans hF.t11);have e6:x 6=.bool false:=Option.some.inj ((hx 6 (by decide)).symm.trans hF.t6);subst hT;simp only[e0,e1,e2,e7,e8,e10,e11,e6];clear e0 e1 e2 e7 e8 e10 e11 e6 hx hF;refine hJ.ctl (s:=1) (λw=>stepG_seq) ?_;refine hJ.ctl (s:=1) (λw=>stepG_region) ?_;refine at_call (by decide) hJ (s:=1) rfl rfl (f:=8) (args:=#[]) (λτ d=>?_) (λτ d=>?_) ?_
 · simp[go_sem,execOp,Act.eval,resolve,Deferred.ofValue,invoke,callFunc,Try.func8,Try.f8]
 · intro e he;simp[go_sem,execOp,Act.eval,resolve,Deferred.ofValue,invoke,callFunc,Try.func8,Try.f8,Sem.runT_eq]at he
 refine fixed_calls hFin (n:=1) (by decide) ?_;intro w1 hb1;rw[Frame.finish_at]
 walk_nrm
 refine at_piece (s:=1+4) (by decide) hJ (zq6 _) false (.inr rfl) 1 1 0 rfl rfl rfl (by rfl) ?_;intro τ d;simp only[List.drop_succ_cons,List.drop_zero,List.take_succ_cons,List.take_zero];go_wp2;simp only[contAt];refine hJ.re' (1+4) _ _ τ d ?_;refine hJ.ctl (s:=1+4) (λw=>stepG_region_end) ?_;refine hJ.ctl (s:=1+4) (λw=>stepG_cond (t:=false) rfl) ?_;rw[if_neg (by decide)];refine hJ.ctl (s:=1+4) (λw=>stepG_skip) ?_;exact HH.out _ w1 hb1 ⟨rfl,rfl,rfl,rfl,rfl,rfl,rfl,rfl,rfl⟩
theorem bd_r3{w:World}{a1 a2 v7 v8 v10 v11:Value}{sp:Int}{n:Nat}(h0:0<=sp)(h1:sp<256)(hn:(n:Int)=1+sp % 8){T:Array Value}(hF:BF (.int .u8 sp) a1 a2 v7 v8 v10 v11 T)(τ:Nat->Question->Nat)(d:Nat):
 Code.wp Try.prog (headC (bdT 2)) (ends (λa' w'=>BF (.int .u8 sp) a1 a2 (.int .i64 n) v8 v10 v11 a'.tmps/\Beyond w w') (λ_ _=>False)) ⟨T,[]⟩ (re w τ d):=by
 have HB:=Lib.hid (Beyond.re w τ d);obtain⟨u,hu⟩:∃c,headC (bdT 2)=c:=⟨_,rfl⟩;have eu:=hu;rw[hu];simp only[bdT,headC,tailN,Try.f5,al_od]at eu;subst eu;clear hu;obtain⟨x,hT,hx⟩:=lit269 hF.sz;have e0:x 0=.int .u8 sp:=Option.some.inj ((hx 0 (by decide)).symm.trans hF.t0);have e1:x 1=a1:=Option.some.inj ((hx 1 (by decide)).symm.trans hF.t1);have e2:x 2=a2:=Option.some.inj ((hx 2 (by decide)).symm.trans hF.t2);have e7:x 7=v7:=Option.some.inj ((hx 7 (by decide)).symm.trans hF.t7);have e8:x 8=v8:=Option.some.inj ((hx 8 (by decide)).symm.trans hF.t8);have e10:x 10=v10:=Option.some.inj ((hx 10 (by decide)).symm.trans hF.t10);have e11:x 11=v11:=Option.some.inj ((hx 11 (by decide)).symm.trans hF.t11);have e6:x 6=.bool false:=Option.some.inj ((hx 6 (by decide)).symm.trans hF.t6);subst hT;simp only[e0,e1,e2,e7,e8,e10,e11,e6];clear e0 e1 e2 e7 e8 e10 e11 e6 hx hF;have hm:sp.tmod 8=sp % 8:=Int.tmod_eq_emod_of_nonneg h0;go_wp2;exact⟨rfl,⟨rfl,rfl,rfl,rfl,by rw[hn];rfl,rfl,rfl,rfl,rfl⟩,HB.out⟩
theorem bd_r4{w:World}{a0 a2 v7 v8 v10 v11:Value}{lp:Option Addr}{ll lc:Nat}{ls:Nat->List Int}(hI:ListsIn w lp ll ls)(hn:ll<=1048576)(hln:∀i,i<ll->(ls i).length<=1048576){T:Array Value}(hF:BF a0 (.slice lp ll lc) a2 v7 v8 v10 v11 T)(τ:Nat->Question->Nat)(d:Nat):
 Code.wp Try.prog (headC (bdT 3)) (ends (λa' w'=>∃vs p C,BF a0 (.slice lp ll lc) a2 v7 (.slice p (min ll 63) C) v10 v11 a'.tmps/\vs.length=min ll 63/\AdI w (adOps ls) vs (.slice p (min ll 63) C) w') (λ_ _=>False)) ⟨T,[]⟩ (re w τ d):=by
 have HA:=Lib.hid (adders_lone (w:=re w τ d) (lc:=lc) hI hn hln);have HB:=Lib.hid (Beyond.re w τ d);clear hI hn hln;obtain⟨u,hu⟩:∃c,headC (bdT 3)=c:=⟨_,rfl⟩;have eu:=hu;rw[hu];simp only[bdT,headC,tailN,Try.f5,al_od]at eu;subst eu;clear hu;obtain⟨x,hT,hx⟩:=lit269 hF.sz;have e0:x 0=a0:=Option.some.inj ((hx 0 (by decide)).symm.trans hF.t0);have e1:x 1=.slice lp ll lc:=Option.some.inj ((hx 1 (by decide)).symm.trans hF.t1);have e2:x 2=a2:=Option.some.inj ((hx 2 (by decide)).symm.trans hF.t2);have e7:x 7=v7:=Option.some.inj ((hx 7 (by decide)).symm.trans hF.t7);have e8:x 8=v8:=Option.some.inj ((hx 8 (by decide)).symm.trans hF.t8);have e10:x 10=v10:=Option.some.inj ((hx 10 (by decide)).symm.trans hF.t10);have e11:x 11=v11:=Option.some.inj ((hx 11 (by decide)).symm.trans hF.t11);have e6:x 6=.bool false:=Option.some.inj ((hx 6 (by decide)).symm.trans hF.t6);subst hT;simp only[e0,e1,e2,e7,e8,e10,e11,e6];clear e0 e1 e2 e7 e8 e10 e11 e6 hx hF;generalize re w τ d=w1 at HA HB ⊢;obtain⟨m,hm⟩:∃m,min ll 63=m:=⟨_,rfl⟩;rw[hm]at HA ⊢;clear hm
 go_wp2_with (fail)
 refine Calls.mono HA.out ?_;rintro e w' ⟨vs,p,C,t,rfl,h1,h2⟩;have HR:=Lib.hid (And.intro h1 h2);clear h1 h2;go_wp2;exact⟨rfl,vs,p,C,⟨rfl,rfl,rfl,rfl,rfl,rfl,rfl,rfl,rfl⟩,HR.out.1,⟨HB.out.trans HR.out.2.be,ownsRow_base HR.out.2.row HB.out.1,λi x hx=>ownsRow_base (HR.out.2.cp i x hx) HB.out.1⟩⟩
theorem bd_r5{w:World}{a0 a1 a2 v7 v10 v11:Value}{p:Option Addr}{rd C:Nat}{T:Array Value}(hF:BF a0 a1 a2 v7 (.slice p rd C) v10 v11 T)(τ:Nat->Question->Nat)(d:Nat):
 Code.wp Try.prog (headC (bdT 4)) (ends (λa' w'=>BF a0 a1 a2 v7 (.slice p rd C) (.int .i64 rd) v11 a'.tmps/\Beyond w w') (λ_ _=>False)) ⟨T,[]⟩ (re w τ d):=by
 have HB:=Lib.hid (Beyond.re w τ d);obtain⟨u,hu⟩:∃c,headC (bdT 4)=c:=⟨_,rfl⟩;have eu:=hu;rw[hu];simp only[bdT,headC,tailN,Try.f5,al_od]at eu;subst eu;clear hu;obtain⟨x,hT,hx⟩:=lit269 hF.sz;have e0:x 0=a0:=Option.some.inj ((hx 0 (by decide)).symm.trans hF.t0);have e1:x 1=a1:=Option.some.inj ((hx 1 (by decide)).symm.trans hF.t1);have e2:x 2=a2:=Option.some.inj ((hx 2 (by decide)).symm.trans hF.t2);have e7:x 7=v7:=Option.some.inj ((hx 7 (by decide)).symm.trans hF.t7);have e8:x 8=.slice p rd C:=Option.some.inj ((hx 8 (by decide)).symm.trans hF.t8);have e10:x 10=v10:=Option.some.inj ((hx 10 (by decide)).symm.trans hF.t10);have e11:x 11=v11:=Option.some.inj ((hx 11 (by decide)).symm.trans hF.t11);have e6:x 6=.bool false:=Option.some.inj ((hx 6 (by decide)).symm.trans hF.t6);subst hT;simp only[e0,e1,e2,e7,e8,e10,e11,e6];clear e0 e1 e2 e7 e8 e10 e11 e6 hx hF;go_wp2;exact⟨rfl,⟨rfl,rfl,rfl,rfl,rfl,rfl,rfl,rfl,rfl⟩,HB.out⟩
def bdOps(ls:Nat->List Int)(rd i:Nat):List OpX:=if i=rd then rdOps else adOps ls i
theorem bd_reader{w0 w:World}{ls:Nat->List Int}{rd:Nat}{vs:List Value}{v:Value}(h:AdI w0 (adOps ls) vs v w)(hv:vs.length=rd)(hrd:rd<=63):
 ∃g C w2,(Builtin.append_ #[23,23] 23 #[v,.slice (some ⟨w.heap.size+1,0,none⟩) 1 1]).run Try.prog ((w.alloc (.cells #[.int .i64 2,.int .i64 0,.int .i64 0,.int .i64 0,.int .i64 5,.int .i64 0,.int .i64 0,.int .i64 0,.int .i64 2,.int .i64 0,.int .i64 0,.int .i64 0] 46)).alloc (.cells #[.slice (some ⟨w.heap.size,0,none⟩) 3 3] 34))=.ok (.slice (some ⟨g,0,none⟩) (rd+1) C) w2/\∃vs',vs'.length=rd+1/\AdI w0 (bdOps ls rd) vs' (.slice (some ⟨g,0,none⟩) (rd+1) C) w2:=by
 obtain⟨w1,hw1⟩:∃w1,w.alloc (.cells #[.int .i64 2,.int .i64 0,.int .i64 0,.int .i64 0,.int .i64 5,.int .i64 0,.int .i64 0,.int .i64 0,.int .i64 2,.int .i64 0,.int .i64 0,.int .i64 0] 46)=w1:=⟨_,rfl⟩;have hnew:w1.heap[w.heap.size]?=some (.cells #[.int .i64 2,.int .i64 0,.int .i64 0,.int .i64 0,.int .i64 5,.int .i64 0,.int .i64 0,.int .i64 0,.int .i64 2,.int .i64 0,.int .i64 0,.int .i64 0] 46):=by rw[←hw1];exact al_new _ _
 have hs:w1.heap.size=w.heap.size+1:=by rw[←hw1,zq3]
 have hb:Beyond w w1:=by rw[←hw1];exact Beyond.alloc _ _
 rw[hw1];have hr:AdR w rdOps (.slice (some ⟨w.heap.size,0,none⟩) 3 3) w1:=⟨hb,⟨by decide,.inr ⟨w.heap.size,3,_,rfl,Nat.le_refl _,hnew,by decide,by decide,by decide,rfl⟩⟩⟩;have h2:AdI w0 (bdOps ls rd) vs v w:=⟨h.be,h.row,λi x hx=>by
  have hi:=(List.getElem?_eq_some_iff.1 hx).1;unfold bdOps;rw[if_neg (by omega)];exact h.cp i x hx⟩
 obtain⟨g,C,w2,r,hA⟩:=ad_thread h2 hr (by unfold bdOps;rw[if_pos hv]) (by omega);rw[hs,hv]at r;rw[hv]at hA;exact⟨g,C,w2,r,_,by rw[List.length_append,hv];rfl,hA⟩
theorem bd_r6{w0 w:World}{a0 a1 a2 v7 v10 v11:Value}{p:Option Addr}{rd C:Nat}{vs:List Value}{ls:Nat->List Int}(hA:AdI w0 (adOps ls) vs (.slice p rd C) w)(hv:vs.length=rd)(hrd:rd<=63){T:Array Value}(hF:BF a0 a1 a2 v7 (.slice p rd C) v10 v11 T)(τ:Nat->Question->Nat)(d:Nat):
 Code.wp Try.prog (headC (bdT 5)) (ends (λa' w'=>∃vs' g C,BF a0 a1 a2 v7 (.slice (some ⟨g,0,none⟩) (rd+1) C) v10 v11 a'.tmps/\vs'.length=rd+1/\AdI w0 (bdOps ls rd) vs' (.slice (some ⟨g,0,none⟩) (rd+1) C) w') (λ_ _=>False)) ⟨T,[]⟩ (re w τ d):=by
 obtain⟨g,C2,w2,r,vs',h1,h2⟩:=bd_reader (hA.re τ d) hv hrd;have HR:=Lib.hid (And.intro h1 h2);clear hA h1 h2;obtain⟨u,hu⟩:∃c,headC (bdT 5)=c:=⟨_,rfl⟩;have eu:=hu;rw[hu];simp only[bdT,headC,tailN,Try.f5,al_od]at eu;subst eu;clear hu;obtain⟨x,hT,hx⟩:=lit269 hF.sz;have e0:x 0=a0:=Option.some.inj ((hx 0 (by decide)).symm.trans hF.t0);have e1:x 1=a1:=Option.some.inj ((hx 1 (by decide)).symm.trans hF.t1);have e2:x 2=a2:=Option.some.inj ((hx 2 (by decide)).symm.trans hF.t2);have e7:x 7=v7:=Option.some.inj ((hx 7 (by decide)).symm.trans hF.t7);have e8:x 8=.slice p rd C:=Option.some.inj ((hx 8 (by decide)).symm.trans hF.t8);have e10:x 10=v10:=Option.some.inj ((hx 10 (by decide)).symm.trans hF.t10);have e11:x 11=v11:=Option.some.inj ((hx 11 (by decide)).symm.trans hF.t11);have e6:x 6=.bool false:=Option.some.inj ((hx 6 (by decide)).symm.trans hF.t6);subst hT;simp only[e0,e1,e2,e7,e8,e10,e11,e6];clear e0 e1 e2 e7 e8 e10 e11 e6 hx hF;generalize re w τ d=w1 at r ⊢
 go_wp2_with (at_builtin;go_loud (refine wpList_arun rfl (.tmp 33) (.tmp 38) 23 rfl r ?_))
 exact⟨rfl,vs',g,C2,⟨rfl,rfl,rfl,rfl,rfl,rfl,rfl,rfl,rfl⟩,HR.out⟩
theorem ad_thr{w0 w:World}{ops:Nat->List OpX}{vs:List Value}{p:Option Addr}{C np:Nat}(h:AdI w0 ops vs (.slice p np C) w)(hl:vs.length=np):ThrIn w p np ops:=by
 intro h0;have hrow:=h.row;rw[hl]at hrow;rcases hrow.2 with⟨hv,hz⟩|⟨g,cap,cur,hv,hb,hh,hn,hm,hs,ht⟩
 · omega
 · cases hv;refine⟨g,0,rfl,λi hi=>?_⟩;obtain⟨x,hx⟩:∃x,vs[i]?=some x:=⟨_,List.getElem?_eq_getElem (by omega)⟩;have e2:=h.cp i x hx;obtain⟨g',e,_,hc,_⟩:=row_cell hrow (i:=i) (x:=x) hx;cases e;have e3:=e2;rcases e2.2 with⟨hv,hz⟩|⟨g2,cap2,cur2,hv,hb2,hh2,hn2,hm2,hs2,ht2⟩
   · exact⟨none,0,by rw[Nat.zero_add,hc,hv,hz],⟨by omega,λ_=>rfl⟩,λhne=>absurd (List.length_eq_zero_iff.1 hz) hne⟩
   · refine⟨some ⟨g2,0,none⟩,cap2,by rw[Nat.zero_add,hc,hv],⟨hn2,λh=>(by cases h)⟩,λhne=>⟨g2,0,rfl,λk c hk j hj=>?_⟩⟩;have e5:=opsL_get _ k c hk j hj;obtain⟨u,hu⟩:∃u,c.cells[j]?=some u:=⟨_,List.getElem?_eq_getElem (show j<c.cells.length from hj)⟩;rw[hu]at e5 ⊢;have:=e3.cells (g:=g2) (by rw[hv];rfl) (k*4+j) u e5;rw[Addr.add_lit,Nat.zero_add]at this;rw[Nat.zero_add];exact this
theorem bdOps_len(ls:Nat->List Int)(rd i:Nat):(bdOps ls rd i).length<=500:=by
 unfold bdOps;split
 · decide
 · rw[adOps_len];omega
theorem bdOps_take(ls:Nat->List Int)(rd:Nat):(λi=>(bdOps ls rd i).take 65536)=bdOps ls rd:=funext λi=>List.take_of_length_le (by have:=bdOps_len ls rd i;omega)
theorem bd_in{n:Nat}(h0:0<n)(h8:n<=8){rd:Nat}(hrd:rd<=63)(ls:Nat->List Int):BdIn n rd (bdOps ls rd):=
 ⟨h0,h8,hrd,λi _=>bdOps_len ls rd i,λi hi o ho=>by
  unfold bdOps at ho;rw[if_neg (by omega)]at ho;exact adOps_ok ls i o ho,by unfold bdOps;rw[if_pos rfl]⟩
theorem begunL_zero{n:Nat}(h0:0<n)(h8:n<=8):begunL (List.replicate n 0)=List.replicate n 0:=by
 rw[begunL_eq];have:List.replicate n (0:Int)≠[]:=by
  intro e;have:=congrArg List.length e;simp at this;omega
 first|rw[if_neg this]|skip
 exact List.take_of_length_le (by simp;omega)
theorem bd_r7{Fin:Machine->Trace->Prop}(hFin:Back Try.prog Fin){w0 w:World}{a0 a1 v10:Value}{n rd C g Cs m:Nat}{scp:Option Addr}{sched:List Int}{ls:Nat->List Int}{vs:List Value}(hm:0<m)(h0:0<n)(h8:n<=8)(hrd:rd<=63)(hv:vs.length=rd+1)(hA:AdI w0 (bdOps ls rd) vs (.slice (some ⟨g,0,none⟩) (rd+1) C) w)(hs:IntsAt w (.slice scp sched.length Cs) sched)(hsl:sched.length<=1048576)
 {R:RS} (hR:playR (bdOps ls rd) (rd+1) 1048576 sched (List.replicate n 0)=R) {T:Array Value} (hF:BF a0 a1 (.slice scp sched.length Cs) (.int .i64 n) (.slice (some ⟨g,0,none⟩) (rd+1) C) v10 undef T) {k:List Item}
 (hq:∀T' Bb ab p1 c1 p2 c2 w',BF a0 a1 (.slice scp sched.length Cs) (.int .i64 n) (.slice (some ⟨g,0,none⟩) (rd+1) C) v10 (.pointer (some ⟨Bb,0,none⟩)) T'->Beyond w w'->w'.heap[Bb]?=some (.cells #[.slice (some ⟨ab,0,none⟩) (rd+1) (rd+1),.slice p1 R.ord.length c1,.slice p2 R.C.length c2,.bool (decide (0<leftN (ovR R) (rd+1)))] 31)->
  TraceAt w' (.agg #[.slice (some ⟨ab,0,none⟩) (rd+1) (rd+1),.slice p1 R.ord.length c1,.slice p2 R.C.length c2,.bool (decide (0<leftN (ovR R) (rd+1)))]) (rd+1) (λi=>(R.T i).ans) (R.ord.map λ(i:Nat)=>(i:Int)) R.C (decide (0<leftN (ovR R) (rd+1)))->J0 Try.prog Fin (m+(rd+1)) (G ((bN 5).at ⟨T',[]⟩ k) []) w'):
 J0 Try.prog Fin m (G ((bN 5).at ⟨T,[]⟩ (.code (headC (bdT 6))::k)) []) w:=by
 have hJ:=j0_JS hFin;have hC:=j0_calm hFin;have HH:=Lib.hid hq;have HX:=Lib.hid (And.intro hv (And.intro hA (And.intro hs (And.intro hsl hR))));clear hq hv hA hs hsl hR;obtain⟨u,hu⟩:∃c,headC (bdT 6)=c:=⟨_,rfl⟩;have eu:=hu;rw[hu];simp only[bdT,headC,tailN,Try.f5,al_od]at eu;subst eu;clear hu;obtain⟨x,hT,hx⟩:=lit269 hF.sz;have e0:x 0=a0:=Option.some.inj ((hx 0 (by decide)).symm.trans hF.t0);have e1:x 1=a1:=Option.some.inj ((hx 1 (by decide)).symm.trans hF.t1);have e2:x 2=.slice scp sched.length Cs:=Option.some.inj ((hx 2 (by decide)).symm.trans hF.t2);have e7:x 7=.int .i64 n:=Option.some.inj ((hx 7 (by decide)).symm.trans hF.t7);have e8:x 8=.slice (some ⟨g,0,none⟩) (rd+1) C:=Option.some.inj ((hx 8 (by decide)).symm.trans hF.t8);have e10:x 10=v10:=Option.some.inj ((hx 10 (by decide)).symm.trans hF.t10);have e11:x 11=undef:=Option.some.inj ((hx 11 (by decide)).symm.trans hF.t11);have e6:x 6=.bool false:=Option.some.inj ((hx 6 (by decide)).symm.trans hF.t6);subst hT;simp only[e0,e1,e2,e7,e8,e10,e11,e6];clear e0 e1 e2 e7 e8 e10 e11 e6 hx hF;refine hJ.ctl (s:=m) (λw=>stepG_region) ?_;refine at_piece (s:=m) (by decide) hJ (zq6 _) false (.inr rfl) 0 4 3 rfl rfl rfl (by rfl) ?_;intro τ d;simp only[List.drop_zero,List.take_succ_cons,List.take_zero];have hr:Beyond w (re w τ d):=Beyond.re _ _ _;generalize re w τ d=w1 at hr ⊢;have hmk:=make_i64 w1 n (by omega);have HR:=Lib.hid hr;clear hr;go_wp2;simp only[contAt];clear hmk;obtain⟨w2,hw2⟩:∃w2,w1.alloc (.cells (Array.replicate n (.int .i64 0)) 2)=w2:=⟨_,rfl⟩;have hb2:Beyond w1 w2:=by rw[←hw2];exact Beyond.alloc _ _
 have hz:w2.heap[w1.heap.size]?=some (.cells (Array.replicate n (.int .i64 0)) 2):=by rw[←hw2];exact al_new _ _
 rw[hw2];clear hw2;refine at_call (by decide) hJ (s:=m) rfl rfl (f:=10) (args:=#[.slice (some ⟨w1.heap.size,0,none⟩) n n,.slice (some ⟨g,0,none⟩) (rd+1) C,.slice scp sched.length Cs,.int .i64 1048576]) (λτ d=>?_) (λτ d=>?_) ?_
 · simp[go_sem,execOp,Act.eval,resolve,Deferred.ofValue,invoke,callFunc,Try.func10,Try.f10]
 · intro e he;simp[go_sem,execOp,Act.eval,resolve,Deferred.ofValue,invoke,callFunc,Try.func10,Try.f10,Sem.runT_eq]at he
 obtain⟨hv,hA,hs,hsl,hR⟩:=HX.out;have hbw:=HR.out.trans hb2;have hI:KIn w2 (some ⟨w1.heap.size,0,none⟩) (some ⟨g,0,none⟩) scp n (rd+1) Cs (List.replicate n 0) sched (bdOps ls rd):=by
  refine⟨?_,by simp;omega,(ad_thr hA hv).beyond hbw,by omega,λi _=>by have:=bdOps_len ls rd i;omega,hs.beyond hbw,hsl⟩;refine⟨_,_,rfl,λ_=>⟨_,_,rfl,λi hi=>?_⟩⟩;have hi':i<n:=by simpa using hi
  rw[zq0 hz,Nat.zero_add,List.getD_eq_getElem?_getD,List.getElem?_replicate,if_pos hi',Array.getElem?_replicate,if_pos hi'];rfl
 obtain⟨sp,Cp,hP⟩:=plg_of hI 1048576;rw[bdOps_take,begunL_zero h0 h8,show min (rd+1) 64=rd+1 by omega,show min (1048576:Int).toNat 1048576=1048576 from rfl,hR,List.length_replicate]at hP;refine hP.calls hFin hm (Beyond.refl _) ?_;intro ab p1 c1 p2 c2 w' hb3 hA3;rw[Frame.finish_at]
 walk_nrm
 have HA:=Lib.hid (And.intro hA3 (hbw.trans hb3));clear hA3 hb3 hP hI hA hs hsl hR hz hbw hb2 hv;obtain⟨stk,hstk⟩:∃x,decide (0<leftN (ovR R) (rd+1))=x:=⟨_,rfl⟩;rw[hstk]at HH ⊢;clear hstk;obtain⟨ol,hol⟩:∃x,R.ord.length=x:=⟨_,rfl⟩;obtain⟨cl,hcl⟩:∃x,R.C.length=x:=⟨_,rfl⟩;have HL:=Lib.hid (And.intro hol hcl);rw[hol,hcl];clear hol hcl;refine at_piece (s:=m+(rd+1)) (by decide) hJ (zq6 _) false (.inr rfl) 5 2 0 rfl rfl rfl (by rfl) ?_;intro τ d;simp only[List.drop_succ_cons,List.drop_zero,List.take_succ_cons,List.take_zero];have hr:Beyond w' (re w' τ d):=Beyond.re _ _ _;generalize re w' τ d=w3 at hr ⊢;have HR3:=Lib.hid hr;clear hr;go_wp2;simp only[contAt];refine hJ.ctl (s:=m+(rd+1)) (λw=>stepG_region_end) ?_;have hw:=HR3.out.trans (Beyond.alloc w3 (.cells #[.slice (some ⟨ab,0,none⟩) (rd+1) (rd+1),.slice p1 ol c1,.slice p2 cl c2,.bool stk] 31));have hA4:=(HA.out.1.at' stk).beyond hw;have hbx:=al_new w3 (.cells #[.slice (some ⟨ab,0,none⟩) (rd+1) (rd+1),.slice p1 ol c1,.slice p2 cl c2,.bool stk] 31);have hb:=HA.out.2.trans hw;rw[←HL.out.1,←HL.out.2]at hbx hb;rw[←HL.out.1,←HL.out.2]at hA4;rw[←HL.out.1,←HL.out.2];exact HH.out _ w3.heap.size ab p1 c1 p2 c2 _ ⟨rfl,rfl,rfl,rfl,rfl,rfl,rfl,rfl,rfl⟩ hb hbx hA4
theorem scan_pre{rd:Nat}{ops:Nat->List OpX}{ord:List Nat}(h:OkOrd rd ops ord)(hop:∀i,i<rd->∀o∈ops i,0<=o.b/\o.b<=999):∀k,k<=ord.length->0<=(scan rd ops (ord.take k)).tot/\(scan rd ops (ord.take k)).tot<=999*k/\(scan rd ops (ord.take k)).tots.length=k/\(scan rd ops (ord.take k)).mine.length<=k/\∀m∈(scan rd ops (ord.take k)).mine,m<k:=by
 intro k
 induction k with
 |zero=>intro _;exact⟨Int.le_refl _,Int.le_refl _,rfl,Nat.le_refl _,λm hm=>by cases hm⟩
 |succ k ih=>
  intro hk;obtain⟨h1,h2,h3,h4,h5⟩:=ih (by omega);obtain⟨i,hi⟩:∃i,ord[k]?=some i:=⟨_,List.getElem?_eq_getElem (by omega)⟩;obtain⟨hir,hlt⟩:=h k i hi;rw[scan_take hi];unfold scStep
  by_cases e:i=rd
  · rw[if_pos e];refine⟨h1,by show(scan rd ops (ord.take k)).tot<=_;omega,by simp[h3],by simp;omega,λm hm=>?_⟩;rcases List.mem_append.1 hm with hm|hm
    · have:=h5 m hm;omega
    · simp at hm;omega
  · rw[if_neg e];have hlt':=hlt e;have hg:∃o,(ops i)[(scan rd ops (ord.take k)).at' i]?=some o:=⟨_,List.getElem?_eq_getElem hlt'⟩;obtain⟨o,ho⟩:=hg;obtain⟨b1,b2⟩:=hop i (by omega) o (mem_of_at ho);rw[getD_of ho];refine⟨by show 0<=(scan rd ops (ord.take k)).tot+o.b;omega,by show(scan rd ops (ord.take k)).tot+o.b<=_;omega,by simp[h3],by show(scan rd ops (ord.take k)).mine.length<=_;omega,λm hm=>?_⟩;have:=h5 m hm;omega
def ntA(N:Nat)(f:Nat->Nat):Array Value:=((List.range N).map λi=>Value.int .i64 (f i)).toArray
theorem ntA_get{N:Nat}{f:Nat->Nat}{i:Nat}(hi:i<N):(ntA N f)[i]?=some (.int .i64 (f i)):=by
 unfold ntA;rw[al_gl,List.getElem?_map,List.getElem?_range hi];rfl
theorem ntA_zero(N:Nat):Array.replicate N (Value.int .i64 0)=ntA N λ_=>0:=by
 apply Array.ext_getElem?;intro i
 by_cases hi:i<N
 · rw[ntA_get hi];simp[hi]
 · unfold ntA;simp[hi]
theorem ntA_set{N:Nat}{f:Nat->Nat}{i x:Nat}:(ntA N f).setIfInBounds i (.int .i64 (x:Int))=ntA N (upd' f i x):=by
 unfold ntA;rw[upd'_row (λi=>Value.int .i64 (f i))];congr 1;apply List.map_congr_left;intro j _
 by_cases e:j=i
 · subst e;simp
 · rw[upd'_ne _ _ e,upd'_ne _ _ e]
theorem make_ints(w:World)(N:Nat)(hN:N<=64):(Instr.makeSlice 24 (.int .i64 N) (.int .i64 N)).run Try.prog w=.ok (.slice (some ⟨w.heap.size,0,none⟩) N N) (w.alloc (.cells (Array.replicate N (.int .i64 0)) 3)):=by
 obtain⟨ti,hti,hz,hz1,hz2⟩:∃ti,Try.prog.info? 3=some ti/\ti.zero=some (.int .i64 0)/\ti.size=1/\ti.bytes=8:=⟨_,rfl,rfl,rfl,rfl⟩;have:=run_make (P:=Try.prog) w 24 3 ti (.int .i64 0) (by kernel_rfl) hti hz .i64 .i64 N N (by omega) (Int.le_refl _) (by rw[hz2];omega) (by omega);simp only[Int.toNat_natCast,hz1,Nat.mul_one]at this;rw[this];congr 3;apply Array.ext_getElem?;intro i
 by_cases hi:i<N
 · simp[madeCells,hi,Nat.mod_one,Value.cells]
 · simp[madeCells,hi]
structure BdL(w8:World)(N:Nat)(f:Nat->Nat)(t:List Int)(v14:Value)(m:List Nat)(v15:Value)(w:World):Prop where
 be:Beyond w8 w
 at':w.heap[w8.heap.size]?=some (.cells (ntA N f) 3)
 tots:w.ownsRow (w8.heap.size+1) 2 1 v14 t.length (t.map (Value.int .i64))
 mine:w.ownsRow (w8.heap.size+1) 3 1 v15 m.length (m.map λ(i:Nat)=>Value.int .i64 i)
section
variable {w8 w:World} {N:Nat} {f:Nat->Nat} {t:List Int} {m:List Nat} {v14 v15:Value}
theorem BdL.start (w8:World)(N:Nat):BdL w8 N (λ_=>0) [] (.slice none 0 0) [] (.slice none 0 0) (w8.alloc (.cells (Array.replicate N (.int .i64 0)) 3)):=
 ⟨Beyond.alloc _ _,by rw[ntA_zero];exact al_new _ _,World.ownsRow_nil _ _ _ _,World.ownsRow_nil _ _ _ _⟩
theorem BdL.drewN (h:BdL w8 N f t v14 m v15 w)(n:Nat):BdL w8 N f t v14 m v15 (w.drewN n):=
 ⟨⟨h.be.1,h.be.2⟩,h.at',ownsRow_of h.tots λ_ _=>rfl,ownsRow_of h.mine λ_ _=>rfl⟩
theorem BdL.tot (h:BdL w8 N f t v14 m v15 w)(ht:t.length<=1048576)(x:Int):
 ∃g C w2,(Builtin.append_ #[22,22] 22 #[v14,.slice (some ⟨w.heap.size,0,none⟩) 1 1]).run Try.prog (w.alloc (.cells #[.int .i64 x] 2))=.ok (.slice (some ⟨g,0,none⟩) (t.length+1) C) w2/\BdL w8 N f (t++[x]) (.slice (some ⟨g,0,none⟩) (t.length+1) C) m v15 w2:=by
 obtain⟨ti,hti,hz,hz1,hz2⟩:∃ti,Try.prog.info? 2=some ti/\ti.zero=some (.int .i64 0)/\ti.size=1/\ti.bytes=8:=⟨_,rfl,rfl,rfl,rfl⟩;have hlt:=heap_lt h.at';obtain⟨g,C,w2,r,ow,wr,-,-⟩:=copy_one (P:=Try.prog) (w:=w) (t:=22) (ty:=22) (e:=2) (k:=1) (by kernel_rfl) hti hz hz1 hz2 rfl (by decide) (cs:=[.int .i64 x]) h.tots (by omega) rfl (by simp[Value.oneCell']) (by simp only[maxLen];omega) (by omega);have old:∀b,b<w8.heap.size+1->w2.heap[b]?=w.heap[b]?:=λb hb=>wr.old b (by omega) λhv=>by have:=(own_lt h.tots hv).2.1;omega
 refine⟨g,C,w2,r,⟨by have:=h.be.1;have:=wr.size;omega,λb hb=>(old b (by omega)).trans (h.be.2 b hb)⟩,(old _ (by omega)).trans h.at',by rw[List.length_append,List.map_append];exact ow,ownsRow_of h.mine λg hg=>?_⟩;obtain⟨⟨c,hc⟩,_,hl⟩:=own_lt h.mine hg;refine wr.old g hl λhv=>?_;obtain⟨⟨c2,hc2⟩,_⟩:=own_lt h.tots hv;exact absurd (heap_type hc hc2) (by decide)
theorem BdL.me (h:BdL w8 N f t v14 m v15 w)(hm:m.length<=1048576)(x:Nat):
 ∃g C w2,(Builtin.append_ #[24,24] 24 #[v15,.slice (some ⟨w.heap.size,0,none⟩) 1 1]).run Try.prog (w.alloc (.cells #[.int .i64 x] 3))=.ok (.slice (some ⟨g,0,none⟩) (m.length+1) C) w2/\BdL w8 N f t v14 (m++[x]) (.slice (some ⟨g,0,none⟩) (m.length+1) C) w2:=by
 obtain⟨ti,hti,hz,hz1,hz2⟩:∃ti,Try.prog.info? 3=some ti/\ti.zero=some (.int .i64 0)/\ti.size=1/\ti.bytes=8:=⟨_,rfl,rfl,rfl,rfl⟩;have hlt:=heap_lt h.at';obtain⟨g,C,w2,r,ow,wr,-,-⟩:=copy_one (P:=Try.prog) (w:=w) (t:=24) (ty:=24) (e:=3) (k:=1) (by kernel_rfl) hti hz hz1 hz2 rfl (by decide) (cs:=[.int .i64 x]) h.mine (by omega) rfl (by simp[Value.oneCell']) (by simp only[maxLen];omega) (by omega);have old:∀b,b<w8.heap.size+1->w2.heap[b]?=w.heap[b]?:=λb hb=>wr.old b (by omega) λhv=>by have:=(own_lt h.mine hv).2.1;omega
 refine⟨g,C,w2,r,⟨by have:=h.be.1;have:=wr.size;omega,λb hb=>(old b (by omega)).trans (h.be.2 b hb)⟩,(old _ (by omega)).trans h.at',ownsRow_of h.tots λg hg=>?_,by rw[List.length_append,List.map_append];exact ow⟩;obtain⟨⟨c,hc⟩,_,hl⟩:=own_lt h.tots hg;refine wr.old g hl λhv=>?_;obtain⟨⟨c2,hc2⟩,_⟩:=own_lt h.mine hv;exact absurd (heap_type hc hc2) (by decide)
theorem BdL.count (h:BdL w8 N f t v14 m v15 w)(i x:Nat):BdL w8 N (upd' f i x) t v14 m v15 (w.setCell ⟨w8.heap.size,i,none⟩ (.int .i64 (x:Int))):=by
 have ne:∀b,b≠w8.heap.size->(w.setCell ⟨w8.heap.size,i,none⟩ (.int .i64 (x:Int))).heap[b]?=w.heap[b]?:=λb hb=>hp_set_ne _ _ _ _ hb;refine⟨⟨by rw[hp_size_set];exact h.be.1,λb hb=>(ne b (by omega)).trans (h.be.2 b hb)⟩,?_,ownsRow_of h.tots λg hg=>ne g (by have:=(own_lt h.tots hg).2.1;omega),ownsRow_of h.mine λg hg=>ne g (by have:=(own_lt h.mine hg).2.1;omega)⟩;rw[←ntA_set];exact hp_set_same _ _ _ _ h.at'
theorem BdL.cellT (h:BdL w8 N f t v14 m v15 w){p:Option Addr}{n c:Nat}(hv:v14=.slice p n c){j:Nat}{x:Int}(hx:t[j]?=some x):∃g,p=some ⟨g,0,none⟩/\n=t.length/\w.cell? ⟨g,j,none⟩=some (.int .i64 x):=by
 obtain⟨p',c',e,-,-⟩:=own_slice h.tots;rw[hv]at e;cases e;have hr:=h.tots;rw[hv]at hr;obtain⟨g,e2,_,hc,_⟩:=row_cell hr (i:=j) (x:=.int .i64 x) (by rw[List.getElem?_map,hx];rfl);exact⟨g,e2,rfl,hc⟩
theorem BdL.cellM (h:BdL w8 N f t v14 m v15 w){p:Option Addr}{n c:Nat}(hv:v15=.slice p n c){j x:Nat}(hx:m[j]?=some x):∃g,p=some ⟨g,0,none⟩/\n=m.length/\w.cell? ⟨g,j,none⟩=some (.int .i64 (x:Int)):=by
 obtain⟨p',c',e,-,-⟩:=own_slice h.mine;rw[hv]at e;cases e;have hr:=h.mine;rw[hv]at hr;obtain⟨g,e2,_,hc,_⟩:=row_cell hr (i:=j) (x:=.int .i64 (x:Int)) (by rw[List.getElem?_map,hx];rfl);exact⟨g,e2,rfl,hc⟩
end
structure BdM(w:World)(Bb ab rd g8 ra ro rc:Nat)(po:Option Addr)(ol oc:Nat)(v2:Value)(s1 x s3:Int)(ok:Bool)(ord:List Nat)(ops:Nat->List OpX):Prop where
 b0:w.cell? ⟨Bb,0,none⟩=some (.slice (some ⟨ab,0,none⟩) (rd+1) (rd+1))
 b1:w.cell? ⟨Bb,1,none⟩=some (.slice po ol oc)
 b3:w.cell? ⟨Bb,3,none⟩=some (.bool false)
 an:w.cell? ⟨ab,rd,none⟩=some (.slice (some ⟨ra,ro,none⟩) 3 rc)
 n0:w.cell? ⟨ra,ro+1,none⟩=some (.int .i64 s1)
 k1:w.cell? ⟨ra,ro+3,none⟩=some (.bool ok)
 n1:w.cell? ⟨ra,ro+4,none⟩=some (.int .i64 x)
 n2:w.cell? ⟨ra,ro+7,none⟩=some (.int .i64 s3)
 od:∀(k i:Nat),ord[k]?=some i->∃ob oo,po=some ⟨ob,oo,none⟩/\w.cell? ⟨ob,oo+k,none⟩=some (.int .i64 (i:Int))
 th:∀i,i<rd+1->∃q C,w.cell? ⟨g8,i,none⟩=some (.slice q (ops i).length C)/\∀(k:Nat)(o:OpX),(ops i)[k]?=some o->∃gb go,q=some ⟨gb,go,none⟩/\w.cell? ⟨gb,go+k*4+2,none⟩=some (.int .i64 o.b)
theorem BdM.beyond {w w':World}{Bb ab rd g8 ra ro rc:Nat}{po:Option Addr}{ol oc:Nat}{v2:Value}{s1 x s3:Int}{ok:Bool}{ord:List Nat}{ops:Nat->List OpX}(h:BdM w Bb ab rd g8 ra ro rc po ol oc v2 s1 x s3 ok ord ops)(hb:Beyond w w'):BdM w' Bb ab rd g8 ra ro rc po ol oc v2 s1 x s3 ok ord ops:=
 ⟨hb.cell h.b0,hb.cell h.b1,hb.cell h.b3,hb.cell h.an,hb.cell h.n0,hb.cell h.k1,hb.cell h.n1,hb.cell h.n2,λk i hk=>by
  obtain⟨ob,oo,e,hc⟩:=h.od k i hk;exact⟨ob,oo,e,hb.cell hc⟩,λi hi=>by
  obtain⟨q,C,hc,h2⟩:=h.th i hi;refine⟨q,C,hb.cell hc,λk o ho=>?_⟩;obtain⟨gb,go,e,hc2⟩:=h2 k o ho;exact⟨gb,go,e,hb.cell hc2⟩⟩
set_option maxHeartbeats 16000000
set_option maxRecDepth 100000
theorem bd7:bdT 7=.seq (headC (bdT 7)) (.seq (headC (bdT 8)) (.seq (headC (bdT 9)) (.seq (headC (bdT 10)) (.seq (headC (bdT 11)) (.seq (headC (bdT 12)) (bdT 13)))))):=by kernel_rfl
structure BG(n rd Bb:Nat)(v14 v15:Value)(T:Array Value):Prop where
 sz:T.size=269
 t7:T[7]?=some (.int .i64 n)
 t10:T[10]?=some (.int .i64 rd)
 t11:T[11]?=some (.pointer (some ⟨Bb,0,none⟩))
 t14:T[14]?=some v14
 t15:T[15]?=some v15
theorem bd_tail{E:Ending->World->Prop}{w w8:World}{v2:Value}{n rd Bb ab g8 ra ro rc k m oc c14 c15:Nat}{po p14 p15:Option Addr}{s1 y s3:Int}{ok:Bool}{ord:List Nat}{ops:Nat->List OpX}{sc:ScB}{T:Array Value}(hF:BG n rd Bb (.slice p14 k c14) (.slice p15 m c15) T)(hMr:BdM w Bb ab rd g8 ra ro rc po k oc v2 s1 y s3 ok ord ops)(hI:BdIn n rd ops)(hB:Bounded n sc.gl [⟨true,s1,[]⟩,⟨ok,y,[]⟩,⟨true,s3,[]⟩])(hS:ScOk sc)
 (hR:BdL w8 (rd+1) sc.at' sc.tots (.slice p14 k c14) sc.mine (.slice p15 m c15) w) (hml:sc.mine.length=m) (htl:sc.tots.length=k) (hpm:∀x∈sc.mine,x<k) (hE:∀w',Beyond w w'->E (.returned (.bool true)) w'):
 Code.wp Try.prog (bdT 13) (bodyPost Try.prog Try.f5 E) ⟨T,[]⟩ w:=by
 have HE:=Lib.hid hE;clear hE;obtain⟨e,s1',x',s3',ok',ha,he1,he2,hgl,q1,q2,q3,q4,q5,q6⟩:=hB.out;simp only[List.cons.injEq,Ans.mk.injEq,and_true,true_and]at ha;obtain⟨rfl,⟨rfl,rfl⟩,rfl⟩:=ha;have hn0:=hI.n0;have hn8:=hI.n8;have hrd:=hI.rdle;have hm:m=2*n+e:=by rw[←hml,←gl_len];exact hgl
 have hget:∀j,j<m->∃mj g15 g14:Nat,p15=some ⟨g15,0,none⟩/\p14=some ⟨g14,0,none⟩/\(mj:Int)<(k:Int)/\w.cell? ⟨g15,j,none⟩=some (.int .i64 (mj:Int))/\w.cell? ⟨g14,mj,none⟩=some (.int .i64 (sc.gl.getD j 0)):=λj hj=>by
  obtain⟨mj,hmj⟩:∃x,sc.mine[j]?=some x:=⟨_,List.getElem?_eq_getElem (by rw[hml];exact hj)⟩;have hmk:=hpm mj (List.mem_of_getElem? hmj);obtain⟨x,hx⟩:∃x,sc.tots[mj]?=some x:=⟨_,List.getElem?_eq_getElem (by rw[htl];exact hmk)⟩;obtain⟨g15,e1,-,c1⟩:=hR.cellM rfl hmj;obtain⟨g14,e2,-,c2⟩:=hR.cellT rfl hx;refine⟨mj,g15,g14,e1,e2,by omega,c1,?_⟩;rw[gl_get hmj,List.getD_eq_getElem?_getD,hx];exact c2
 obtain⟨i5,hi5⟩:∃x,x=2*n:=⟨_,rfl⟩;obtain⟨i4,hi4⟩:∃x,x=2*n - 1:=⟨_,rfl⟩;obtain⟨i3,hi3⟩:∃x,x=m - 1:=⟨_,rfl⟩;obtain⟨i2,hi2⟩:∃x,x=n+e:=⟨_,rfl⟩;obtain⟨i1,hi1⟩:∃x,x=n - 1:=⟨_,rfl⟩;obtain⟨m0,g15,g14,rfl,rfl,l0,c0,d0⟩:=hget 0 (by omega);obtain⟨m1,_,_,ea,eb,l1,c1,d1⟩:=hget i1 (by omega);cases ea;cases eb;obtain⟨m2,_,_,ea,eb,l2,c2,d2⟩:=hget i2 (by omega);cases ea;cases eb;obtain⟨m3,_,_,ea,eb,l3,c3,d3⟩:=hget i3 (by omega);cases ea;cases eb;obtain⟨m4,_,_,ea,eb,l4,c4,d4⟩:=hget i4 (by omega);cases ea;cases eb;obtain⟨m5,_,_,ea,eb,l5,c5,d5⟩:=hget i5 (by omega);cases ea;cases eb;clear hget;rw[←hi1]at q2;rw[←hi2]at q3;rw[show 2*n+e - 1=i3 by omega]at q4;rw[←hi4,←hi5]at q5;generalize sc.gl.getD 0 0=G0 at q1 d0;generalize sc.gl.getD i1 0=G1 at q2 d1;generalize sc.gl.getD i2 0=G2 at q3 d2;generalize sc.gl.getD i3 0=G3 at q4 d3;generalize sc.gl.getD i4 0=G4 at q5 d4;generalize sc.gl.getD i5 0=G5 at q5 d5;have an:=hMr.an;have b0:=hMr.b0;have HA:RowKit.Hid (((2*(n:Int)=(i5:Int)/\(i5:Int) - 1=(i4:Int)/\(m:Int) - 1=(i3:Int)/\(n:Int)+(e:Int)=(i2:Int)/\(n:Int) - 1=(i1:Int))/\((i1:Int)<(m:Int)/\(i2:Int)<(m:Int)/\(i3:Int)<(m:Int)/\(i4:Int)<(m:Int)/\(i5:Int)<(m:Int)/\(0:Int)<(m:Int))/\(¬s1<G0/\¬G1<s1/\¬s3<G2/\¬G3<s3))):=Lib.hid ⟨⟨by omega,by omega,by omega,by omega,by omega⟩,⟨by omega,by omega,by omega,by omega,by omega,by omega⟩,by omega,by omega,by omega,by omega⟩;have HL:=Lib.hid (And.intro l0 (And.intro l1 (And.intro l2 (And.intro l3 (And.intro l4 l5)))));have HC0:=Lib.hid (And.intro c0 (And.intro c1 (And.intro c2 (And.intro c3 (And.intro c4 c5)))));have HD:=Lib.hid (And.intro d0 (And.intro d1 (And.intro d2 (And.intro d3 (And.intro d4 d5)))));have HN:=Lib.hid (And.intro hMr.n0 (And.intro hMr.k1 (And.intro hMr.n1 hMr.n2)));have u1:¬(m:Int)<3*(n:Int)+1:=by omega
 have u2:¬4*(n:Int)<(m:Int):=by omega
 have v0:(m:Int) - 2*(n:Int)=(e:Int):=by omega
 have w0:(0:Int)<=(n:Int):=by omega
 have w1:(n:Int)<=8:=by omega
 have w2:(m:Int)<=32:=by omega
 have w3:(e:Int)<=16:=by omega
 have w4:(0:Int)<=(rd:Int):=by omega
 have w5:(rd:Int)<=63:=by omega
 have w6:(0:Int)<=(e:Int):=by omega
 have w7:(0:Int)<=(m:Int):=by omega
 have w8':(rd:Int)<(rd:Int)+1:=by omega
 have HQ:=Lib.hid (And.intro q5 (And.intro q6 hi5));clear q1 q2 q3 q4 q5 q6 hi1 hi2 hi3 hi4 hi5 hm hgl he1 he2 hn0 hn8 hI hB hS hR hMr hml htl hpm l0 l1 l2 l3 l4 l5 c0 c1 c2 c3 c4 c5 d0 d1 d2 d3 d4 d5;obtain⟨u,hu⟩:∃c,bdT 13=c:=⟨_,rfl⟩;have eu:=hu;rw[hu];simp only[bdT,headC,tailN,Try.f5,al_od]at eu;subst eu;clear hu;obtain⟨x,hT,hx⟩:=lit269 hF.sz;have e7:x 7=.int .i64 n:=Option.some.inj ((hx 7 (by decide)).symm.trans hF.t7);have e10:x 10=.int .i64 rd:=Option.some.inj ((hx 10 (by decide)).symm.trans hF.t10);have e11:x 11=.pointer (some ⟨Bb,0,none⟩):=Option.some.inj ((hx 11 (by decide)).symm.trans hF.t11);have e14:x 14=.slice (some ⟨g14,0,none⟩) k c14:=Option.some.inj ((hx 14 (by decide)).symm.trans hF.t14);have e15:x 15=.slice (some ⟨g15,0,none⟩) m c15:=Option.some.inj ((hx 15 (by decide)).symm.trans hF.t15);subst hT;simp only[e7,e10,e11,e14,e15];clear e7 e10 e11 e14 e15 hx hF
 go_wp2_with (fail)
 clear u1 u2 v0 an b0;obtain⟨⟨v5,v4,v3,v2',v1⟩,⟨z1,z2,z3,z4,z5,z0⟩,y1,y2,y3,y4⟩:=HA.out;obtain⟨l0,l1,l2,l3,l4,l5⟩:=HL.out;obtain⟨c0,c1,c2,c3,c4,c5⟩:=HC0.out;obtain⟨d0,d1,d2,d3,d4,d5⟩:=HD.out;obtain⟨n0,k1,n1,n2⟩:=HN.out;clear v5 v4 z4 z5 l4 l5 c4 c5 d4 d5 n1 k1;have x1:¬s1<G0:=by omega
 have x2:¬G1<s1:=by omega
 have x3:¬s3<G2:=by omega
 have x4:¬G3<s3:=by omega
 clear y1 y2 y3 y4
 go_quiet (fail)
 clear x1 x2 x3 x4 n0 n2 c0 c1 c2 c3 d0 d1 d2 d3 v3 v2' v1 z1 z2 z3 z0 l0 l1 l2 l3;obtain⟨⟨v5,v4,-,-,-⟩,⟨-,-,-,z4,z5,-⟩,-⟩:=HA.out;obtain⟨-,-,-,-,l4,l5⟩:=HL.out;obtain⟨-,-,-,-,c4,c5⟩:=HC0.out;obtain⟨-,-,-,-,d4,d5⟩:=HD.out;obtain⟨-,k1,n1,-⟩:=HN.out;have hbw:Beyond w (w.drewN nq):=⟨Nat.le_refl _,λ_ _=>rfl⟩;replace c4:=hbw.cell c4;replace c5:=hbw.cell c5;replace d4:=hbw.cell d4;replace d5:=hbw.cell d5;replace k1:=hbw.cell k1;replace n1:=hbw.cell n1;have HB:=Lib.hid hbw;clear hbw;generalize w.drewN nq=w9 at HB c4 c5 d4 d5 k1 n1 ⊢;cases ok with
 |false=>
  have hy:y=0:=HQ.out.2.1 rfl;subst hy;clear c4 c5 d4 d5 v5 v4 z4 z5 l4 l5;have HE9:=Lib.hid (HE.out _ HB.out);clear HQ HA HL HC0 HD HN HE HB;go_wp2;exact HE9.out
 |true=>
  obtain⟨ve0,vy,x5⟩:=HQ.out.1 rfl;subst vy;have hi5:=HQ.out.2.2;have ve:(e:Int)=(i5:Int):=by omega
  clear ve0 hi5 w3 w6;clear HQ HA HL HC0 HD HN
  go_wp2_with (fail)
  go_quiet (fail)
  have HE9:=Lib.hid (HE.out (w9.drewN nq) (HB.out.trans ⟨Nat.le_refl _,λ_ _=>rfl⟩));clear HE HB c4 c5 d4 d5 v5 v4 z4 z5 l4 l5 ve x5;go_wp2;exact HE9.out
theorem bd_rest{E:Ending->World->Prop}{w:World}{a0 a1 a2 v2:Value}{n rd C8 g8 Bb ab ra ro rc ol oc:Nat}{po:Option Addr}{s1 y s3:Int}{ok:Bool}{ord:List Nat}{ops:Nat->List OpX}{T:Array Value}(hF:BF a0 a1 a2 (.int .i64 n) (.slice (some ⟨g8,0,none⟩) (rd+1) C8) (.int .i64 rd) (.pointer (some ⟨Bb,0,none⟩)) T)
 (hM:BdM w Bb ab rd g8 ra ro rc po ol oc v2 s1 y s3 ok ord ops) (hI:BdIn n rd ops) (hol:ord.length=ol) (hol2:ol<=1048576) (hO:OkOrd rd ops ord) (hB:Bounded n (scan rd ops ord).gl [⟨true,s1,[]⟩,⟨ok,y,[]⟩,⟨true,s3,[]⟩]) (hS:ScOk (scan rd ops ord)) (hE:∀w',Beyond w w'->E (.returned (.bool true)) w'):
 Code.wp Try.prog (bdT 7) (bodyPost Try.prog Try.f5 E) ⟨T,[]⟩ w:=by
 have hrd:=hI.rdle;have hN64:rd+1<=64:=by omega
 have HM:=Lib.hid hM;have HI:=Lib.hid (And.intro hI (And.intro hol (And.intro hol2 (And.intro hO (And.intro hB hS)))));have HE:=Lib.hid hE;have b0:=hM.b0;have b1:=hM.b1;have b3:=hM.b3;have an:=hM.an;clear hM hI hol hol2 hO hB hS hE;rw[bd7];obtain⟨c13,hc13⟩:∃c,bdT 13=c:=⟨_,rfl⟩;rw[hc13];have HC:=Lib.hid hc13;clear hc13;obtain⟨u7,h7⟩:∃c,headC (bdT 7)=c:=⟨_,rfl⟩;have e7:=h7;rw[h7];simp only[bdT,headC,tailN,Try.f5,al_od]at e7;subst e7;clear h7;obtain⟨u8,h8⟩:∃c,headC (bdT 8)=c:=⟨_,rfl⟩;have e8:=h8;rw[h8];simp only[bdT,headC,tailN,Try.f5,al_od]at e8;subst e8;clear h8;obtain⟨u9,h9⟩:∃c,headC (bdT 9)=c:=⟨_,rfl⟩;have e9:=h9;rw[h9];simp only[bdT,headC,tailN,Try.f5,al_od]at e9;subst e9;clear h9;obtain⟨u10,h10⟩:∃c,headC (bdT 10)=c:=⟨_,rfl⟩;have e10:=h10;rw[h10];simp only[bdT,headC,tailN,Try.f5,al_od]at e10;subst e10;clear h10;obtain⟨u11,h11⟩:∃c,headC (bdT 11)=c:=⟨_,rfl⟩;have e11:=h11;rw[h11];simp only[bdT,headC,tailN,Try.f5,al_od]at e11;subst e11;clear h11;obtain⟨u12,h12⟩:∃c,headC (bdT 12)=c:=⟨_,rfl⟩;have e12:=h12;rw[h12];simp only[bdT,headC,tailN,Try.f5,al_od]at e12;subst e12;clear h12;obtain⟨x,hT,hx⟩:=lit269 hF.sz;have e0:x 0=a0:=Option.some.inj ((hx 0 (by decide)).symm.trans hF.t0);have e1:x 1=a1:=Option.some.inj ((hx 1 (by decide)).symm.trans hF.t1);have e2:x 2=a2:=Option.some.inj ((hx 2 (by decide)).symm.trans hF.t2);have e7:x 7=.int .i64 n:=Option.some.inj ((hx 7 (by decide)).symm.trans hF.t7);have e8:x 8=.slice (some ⟨g8,0,none⟩) (rd+1) C8:=Option.some.inj ((hx 8 (by decide)).symm.trans hF.t8);have e10:x 10=.int .i64 rd:=Option.some.inj ((hx 10 (by decide)).symm.trans hF.t10);have e11:x 11=.pointer (some ⟨Bb,0,none⟩):=Option.some.inj ((hx 11 (by decide)).symm.trans hF.t11);have e6:x 6=.bool false:=Option.some.inj ((hx 6 (by decide)).symm.trans hF.t6);subst hT;simp only[e0,e1,e2,e7,e8,e10,e11,e6];clear e0 e1 e2 e7 e8 e10 e11 e6 hx hF;obtain⟨N,hN⟩:∃N,rd+1=N:=⟨_,rfl⟩;rw[hN]at b0 hN64 ⊢;have HNN:=Lib.hid hN;have hrN:(rd:Int)<(N:Int):=by omega
 have hr0:(0:Int)<=(rd:Int):=by omega
 clear hN;have hmk:=λw=>make_ints w N hN64
 go_wp2_with (fail)
 clear hmk
 go_loopg [13,14,15,16] ol (λkk s13 s14 s15 s16 wr=>∃(k:Nat)(p14:Option Addr)(c14:Nat)(p15:Option Addr)(m c15:Nat)(sc:ScB),kk=ol - k/\k<=ol/\s16=.int .i64 k/\s13=.int .i64 sc.tot/\s14=.slice p14 k c14/\s15=.slice p15 m c15/\sc=scan rd ops (ord.take k)/\sc.mine.length=m/\sc.tots.length=k/\BdL w N sc.at' sc.tots (.slice p14 k c14) sc.mine (.slice p15 m c15) wr)
 case atStart=>exact⟨0,none,0,none,0,0,scan rd ops [],rfl,Nat.zero_le _,rfl,rfl,rfl,rfl,rfl,rfl,rfl,BdL.start w N⟩
 case round=>
  obtain⟨k,p14,c14,p15,m,c15,sc,hkk,hk,rfl,rfl,rfl,rfl,hsc,hml,htl,hR⟩:=hrel;obtain⟨hI,hol,hol2,hO,hB,hS⟩:=HI.out;have hpre:=scan_pre hO (λi hi o ho=>(hI.op i hi o ho).2) k (by omega);rw[←hsc]at hpre;have HR:=Lib.hid (And.intro hR (And.intro hsc (And.intro hml (And.intro htl hpre))));have t0:=hpre.1;have t1:sc.tot<=999*1048576:=by have:=hpre.2.1;omega
  have hmk2:m<=1048576:=by have:=hpre.2.2.2.1;omega
  have b1':=hR.be.cell b1;have hMr:=HM.out.beyond hR.be;clear hsc hml htl hpre b0 b1 b3 an;have hk0:(0:Int)<=k:=by omega
  by_cases hlt:k<ol
  · have hlt':(k:Int)<(ol:Int):=by omega
    obtain⟨i,hi⟩:∃i,ord[k]?=some i:=⟨_,List.getElem?_eq_getElem (by omega)⟩;obtain⟨hir,hia⟩:=hO k i hi;obtain⟨ob,oo,rfl,hc1⟩:=hMr.od k i hi;have hst:=scan_take (rd:=rd) (ops:=ops) hi;rw[←HR.out.2.1]at hst;obtain⟨q,Cq,hq,hq2⟩:=hMr.th i hir;have cA:=(zq0 (off:=i) hR.at').trans (ntA_get (f:=sc.at') (N:=N) (by have:=HNN.out;omega));have zA:=zq5 (off:=i) hR.at';have hi0:(0:Int)<=i:=by omega
    have hiN:(i:Int)<(N:Int):=by have:=HNN.out;omega
    by_cases e:i=rd
    · subst e;obtain⟨g,C,w2,r1,hR2⟩:=hR.me (by rw[HR.out.2.2.1];exact hmk2) k;obtain⟨g2,C2,w3,r2,hR3⟩:=hR2.tot (by rw[HR.out.2.2.2.1];omega) sc.tot;rw[HR.out.2.2.1]at r1 hR2 hR3;rw[HR.out.2.2.2.1]at r2 hR3;have es:scStep i ops sc i=⟨sc.at',sc.tot,sc.tots++[sc.tot],sc.mine++[sc.tots.length]⟩:=by unfold scStep;rw[if_pos rfl]
      rw[es,HR.out.2.2.2.1]at hst;have H3:=Lib.hid (And.intro hR3 hst);clear hR2 hR3 hst es hR hMr hI hol hO hB hS hi hir hia hq hq2 cA zA;obtain⟨tt,htt⟩:∃x,sc.tot=x:=⟨_,rfl⟩;rw[htt]at t0 t1 r2 ⊢;have HTT:=Lib.hid htt;clear htt
      go_wp2_with (at_builtin;go_loud (first|(refine wpList_arun rfl (.tmp 90) (.tmp 92) 24 rfl r1 ?_)|(refine wpList_arun rfl (.tmp 123) (.tmp 125) 22 rfl r2 ?_)))
      go_roundg (ol - (k+1))
      case measure=>omega
      case rel=>exact⟨k+1,_,C2,_,m+1,C,_,rfl,by omega,rfl,by rw[←HTT.out],rfl,rfl,H3.out.2.symm,by rw[List.length_append,HR.out.2.2.1];rfl,by rw[List.length_append,HR.out.2.2.2.1];rfl,H3.out.1⟩
    · have hne:¬((i:Int)=(rd:Int)):=by omega
      have hia':=hia e;rw[←HR.out.2.1]at hia';obtain⟨o,ho⟩:∃o,(ops i)[sc.at' i]?=some o:=⟨_,List.getElem?_eq_getElem hia'⟩;obtain⟨gb,go,rfl,hc2⟩:=hq2 _ o ho;obtain⟨-,o2,o3⟩:=hI.op i (by omega) o (mem_of_at ho);have hl5:=hI.len i (by omega);have es:scStep rd ops sc i=⟨upd' sc.at' i (sc.at' i+1),sc.tot+o.b,sc.tots++[sc.tot+o.b],sc.mine⟩:=by unfold scStep;rw[if_neg e,getD_of ho]
      rw[es]at hst;have H3:=Lib.hid hst;obtain⟨tt,htt⟩:∃x,sc.tot=x:=⟨_,rfl⟩;obtain⟨b,hb⟩:∃x,o.b=x:=⟨_,rfl⟩;obtain⟨at0,hat⟩:∃x,sc.at' i=x:=⟨_,rfl⟩;obtain⟨L,hL⟩:∃x,(ops i).length=x:=⟨_,rfl⟩;rw[hL]at hq hia' hl5;rw[hat]at cA hia' hc2;rw[hb]at hc2 o2 o3;rw[htt]at t0 t1 ⊢;have HTT:=Lib.hid (And.intro htt (And.intro hb (And.intro hat hL)));clear hst es hMr hI hol hO hB hS hi hir hia hq2 htt hb hat hL ho hR;have ha0:(0:Int)<=at0:=by omega
      have haL:(at0:Int)<(L:Int):=by omega
      have haL2:(at0:Int)<500:=by omega
      go_wp2_with (fail)
      go_quiet (fail)
      have hR4:=HR.out.1.drewN nq;replace hq:(wr.drewN nq).cell? ⟨g8,i,none⟩=some (.slice (some ⟨gb,go,none⟩) L Cq):=hq;replace hc2:(wr.drewN nq).cell? ⟨gb,go+at0*4+2,none⟩=some (.int .i64 b):=hc2;replace cA:(wr.drewN nq).cell? ⟨w.heap.size,i,none⟩=some (.int .i64 at0):=cA;replace zA:(wr.drewN nq).frozen? ⟨w.heap.size,i,none⟩=false:=zA;clear b1' hc1;generalize wr.drewN nq=w4 at hR4 hq hc2 cA zA ⊢;have HR4:=Lib.hid hR4;clear hR4
      go_wp2_with (fail)
      go_quiet (fail)
      have hR5:=HR4.out.drewN nq;replace cA:(w4.drewN nq).cell? ⟨w.heap.size,i,none⟩=some (.int .i64 at0):=cA;replace zA:(w4.drewN nq).frozen? ⟨w.heap.size,i,none⟩=false:=zA;clear hq hc2;generalize w4.drewN nq=w5 at hR5 cA zA ⊢;have hR6:=hR5.count i (at0+1);obtain⟨g2,C2,w6,r2,hR7⟩:=hR6.tot (by rw[HR.out.2.2.2.1];omega) (tt+b);rw[HR.out.2.2.2.1]at r2 hR7;rw[show((at0+1:Nat):Int)=(at0:Int)+1 from rfl,hp_size_set]at r2;have H7:=Lib.hid hR7;clear hR5 hR6 hR7
      go_wp2_with (at_builtin;go_loud (refine wpList_arun rfl (.tmp 123) (.tmp 125) 22 rfl r2 ?_))
      go_roundg (ol - (k+1))
      case measure=>omega
      case rel=>
       obtain⟨rfl,rfl,rfl,rfl⟩:=HTT.out;exact⟨k+1,some ⟨g2,0,none⟩,C2,p15,m,c15,_,rfl,by omega,rfl,rfl,rfl,rfl,H3.out.symm,HR.out.2.2.1,by rw[List.length_append,HR.out.2.2.2.1];rfl,H7.out⟩
  · obtain rfl:k=ol:=by omega
    have hfull:sc=scan rd ops ord:=by rw[HR.out.2.1,←hol,List.take_length]
    rw[←hfull]at hB hS;have hml:=HR.out.2.2.1;have htl:=HR.out.2.2.2.1;have hpm:=HR.out.2.2.2.2.2.2.2.2;have HX:=Lib.hid (And.intro hMr (And.intro hI (And.intro hB (And.intro hS (And.intro hR (And.intro hml (And.intro htl hpm)))))));clear hMr hI hB hS hR hml htl hpm hfull hol hol2 hO t0 t1 hmk2 hkk hk hlt
    go_wp2_with (fail)
    rw[←HC.out];obtain⟨hMr,hI,hB,hS,hR,hml,htl,hpm⟩:=HX.out;exact bd_tail ⟨rfl,rfl,rfl,rfl,rfl,rfl⟩ hMr hI hB hS (by rw[HNN.out];exact hR) hml htl hpm λw' hb=>HE.out w' (hR.be.trans hb)
end Go.Proofs
set_option maxHeartbeats 8000000
set_option maxRecDepth 100000
namespace Go.Proofs
open Go Go.Conc Go.RowKit Go.Car Go.ChangeShapes Go.WideShapes Go.Deep
theorem lists_open{H:Type}{enc:TypeId×Value->H}{P:Program}{w:World}{held:Bool}{sp:Nat->Bool}{t e e2:TypeId}(ht:P.underlying t=some (.slice e))(hc1:P.cellsOf e=1)(he:P.underlying e=some (.slice e2))(he2:P.underlying e2=some (.int .i64))(hc:P.cellsOf e2=1)
 {a0:Option Addr} {len cap:Nat} {d:DataW H} {ps:List MemPlace} {fuel:Nat} (h:DataW.trod enc P w 0 sp held fuel t [.slice a0 len cap]=some (d,ps)):
 ∃ls:Nat->List Int,ListsIn w a0 len ls/\lenD d=len/\(∀i,i<len->∃x es sp',d=.slice es sp'/\es[i]?=some x/\lenD x=(ls i).length):=by
 rcases open_slice1 ht hc1 h with⟨hcs,hx⟩|⟨a,len',cap',m,n,V,D,Pl,hcs,_,hl,_,hm,hx,hcell⟩
 · simp only[List.cons.injEq,Value.slice.injEq,and_true]at hcs;obtain⟨rfl,rfl,rfl⟩:=hcs;cases hx;exact⟨λ_=>[],λh=>absurd h (Nat.lt_irrefl _),rfl,λi hi=>absurd hi (Nat.not_lt_zero _)⟩
 · simp only[List.cons.injEq,Value.slice.injEq,and_true]at hcs;obtain⟨rfl,rfl,rfl⟩:=hcs;have hlm:len<=m:=by rw[hm];split<;>omega
   have each:∀i,i<len->∃l:List Int,∃q C,V i=.slice q l.length C/\lenD (D i)=l.length/\(l≠[]->∃b o,q=some ⟨b,o,none⟩/\∀k,k<l.length->w.cell? ⟨b,o+k,none⟩=some (.int .i64 (l.getD k 0))):=λi hi=>by
    have h2:=(hcell i (by omega)).2;have hsl:∃a len cap,V i=.slice a len cap:=by
     rcases open_slice he h2 with⟨hcs,hx⟩|⟨a,len,cap,m,n,D,Pl,hcs,_⟩
     · simp only[List.cons.injEq,and_true]at hcs;exact⟨_,_,_,hcs⟩
     · simp only[List.cons.injEq,and_true]at hcs;exact⟨_,_,_,hcs⟩
    obtain⟨q,n1,C,hv⟩:=hsl;rw[hv]at h2;obtain⟨l,e1,⟨q',C',e2',h3⟩,e4⟩:=ints_open he he2 hc h2;subst e1;cases e2';exact⟨l,q,C,hv,e4,h3⟩
   obtain⟨ls,hpr⟩:∃ls:Nat->List Int,∀i,i<len->∃q C,V i=.slice q (ls i).length C/\lenD (D i)=(ls i).length/\(ls i≠[]->∃b o,q=some ⟨b,o,none⟩/\∀k,k<(ls i).length->w.cell? ⟨b,o+k,none⟩=some (.int .i64 ((ls i).getD k 0))):=by
    classical
    refine⟨λi=>if h:i<len then(each i h).choose else [],λi hi=>?_⟩;simp only[hi,dif_pos];exact(each i hi).choose_spec
   cases hx;refine⟨ls,λh0=>?_,by simp[lenD],λi hi=>⟨D i,_,_,rfl,by simp[hi],(hpr i hi).choose_spec.choose_spec.2.1⟩⟩;have hs:=spot_add (hcell 0 (by omega)).1;refine⟨a.block,a.off,by obtain⟨b,o,s⟩:=a;simp only at hs;rw[hs],λi hi=>?_⟩;obtain⟨q,C,h1,_,h3⟩:=hpr i hi;have:=(hcell i (by omega)).1;rw[add_at hs,h1]at this;exact⟨q,C,this,h3⟩
theorem bdM_of{w0 w:World}{Bb ab rd g8 c8:Nat}{p1 p2:Option Addr}{c1 c2:Nat}{R:RS}{ops:Nat->List OpX}{vs:List Value}{s1 y s3:Int}{ok:Bool}(hb:w.heap[Bb]?=some (.cells #[.slice (some ⟨ab,0,none⟩) (rd+1) (rd+1),.slice p1 R.ord.length c1,.slice p2 R.C.length c2,.bool false] 31))
 (ht:TraceAt w (.agg #[.slice (some ⟨ab,0,none⟩) (rd+1) (rd+1),.slice p1 R.ord.length c1,.slice p2 R.C.length c2,.bool false]) (rd+1) (λi=>(R.T i).ans) (R.ord.map λ(i:Nat)=>(i:Int)) R.C false) (hv:vs.length=rd+1) (hA:AdI w0 ops vs (.slice (some ⟨g8,0,none⟩) (rd+1) c8) w)
 (ha:(R.T rd).ans=[⟨true,s1,[]⟩,⟨ok,y,[]⟩,⟨true,s3,[]⟩]):∃ra ro rc,BdM w Bb ab rd g8 ra ro rc p1 R.ord.length c1 undef s1 y s3 ok R.ord ops:=by
 obtain⟨p,C,ov,sv,e,ho,hs,hans⟩:=ht;simp only[Value.agg.injEq,Array.mk.injEq,List.cons.injEq,Value.slice.injEq,and_true,List.toArray_eq_toArray_eq]at e;obtain⟨⟨rfl,-,rfl⟩,rfl,rfl⟩:=e;obtain⟨b,o,e1,hh⟩:=hans (by omega);cases e1;obtain⟨v,hc,pa,ca,rfl,hcells⟩:=hh rd (by omega);simp only[ha]at hc hcells;obtain⟨ra,ro,rfl,hh3⟩:=hcells (by simp);obtain⟨x0,x1,_⟩:=hh3 0 _ rfl;obtain⟨y0,y1,_⟩:=hh3 1 _ rfl;obtain⟨z0,z1,_⟩:=hh3 2 _ rfl;have hthr:=ad_thr hA hv;refine⟨ra,ro,ca,(zq0 (off:=0) hb).trans rfl,(zq0 (off:=1) hb).trans rfl,(zq0 (off:=3) hb).trans rfl,by simpa using hc,by simpa using x1,y0,y1,z1,λk i hk=>?_,λi hi=>?_⟩
 · obtain⟨po,co,e,hoc⟩:=ho;simp only[Value.slice.injEq]at e;obtain⟨rfl,-,rfl⟩:=e;have hkl:=(List.getElem?_eq_some_iff.1 hk).1;obtain⟨ob,oo,rfl,h4⟩:=hoc (by intro e;simp at e;rw[e]at hkl;simp at hkl);refine⟨ob,oo,rfl,?_⟩;rw[h4 k (by simpa using hkl),List.getD_eq_getElem?_getD,List.getElem?_map,hk];rfl
 · obtain⟨pb,po,e,h4⟩:=hthr (by omega);cases e;obtain⟨q,Cq,h5,h6,h7⟩:=h4 i hi;rw[Nat.zero_add]at h5;refine⟨q,Cq,h5,λk op hop=>?_⟩;obtain⟨gb,go,rfl,h8⟩:=h7 (by intro e;rw[e]at hop;simp at hop);exact⟨gb,go,rfl,(h8 k op hop 2 (by decide)).trans rfl⟩
theorem stripebounds_run{Post:Value->World->Prop}(hPost:∀v w τ d,Post v w->Post v (re w τ d)){W:World}{lp scp:Option Addr}{ll lc Cs:Nat}{sp:Int}{ls:Nat->List Int}{sched:List Int}(hs0:0<=sp)(hs1:sp<256)(hI:ListsIn W lp ll ls)(hn:ll<=1048576)(hln:∀i,i<ll->(ls i).length<=1048576)(hs:IntsAt W (.slice scp sched.length Cs) sched)(hsl:sched.length<=1048576)(hend:∀w',Beyond W w'->Post (.bool true) w'):
 FinOf Try.prog Post (solo (G (Frame.enter Try.prog 5 #[.int .u8 sp,.slice lp ll lc,.slice scp sched.length Cs] .normal) []) W) #[]:=by
 refine j0_run Try.func5 rfl ?_;have hFin:=back_fin (P:=Try.prog) Post;have hJ:=j0_JS hFin;have hC:=j0_calm hFin;have e:Frame.enter Try.prog 5 #[.int .u8 sp,.slice lp ll lc,.slice scp sched.length Cs] .normal=(bN 5).at (enterAct Try.f5 #[.int .u8 sp,.slice lp ll lc,.slice scp sched.length Cs]) [.code ((Try.f5.body).getD .skip)]:=by kernel_rfl
 have ea:enterAct Try.f5 #[.int .u8 sp,.slice lp ll lc,.slice scp sched.length Cs]=⟨#[.int .u8 sp,.slice lp ll lc,.slice scp sched.length Cs,undef,undef,undef,undef,undef,undef,undef,undef,undef,undef,undef,undef,undef,undef,undef,undef,undef,undef,undef,undef,undef,undef,undef,undef,undef,undef,undef,undef,undef,undef,undef,undef,undef,undef,undef,undef,undef,undef,undef,undef,undef,undef,undef,undef,undef,undef,undef,undef,undef,undef,undef,undef,undef,undef,undef,undef,undef,undef,undef,undef,undef,undef,undef,undef,undef,undef,undef,undef,undef,undef,undef,undef,undef,undef,undef,undef,undef,undef,undef,undef,undef,undef,undef,undef,undef,undef,undef,undef,undef,undef,undef,undef,undef,undef,undef,undef,undef,undef,undef,undef,undef,undef,undef,undef,undef,undef,undef,undef,undef,undef,undef,undef,undef,undef,undef,undef,undef,undef,undef,undef,undef,undef,undef,undef,undef,undef,undef,undef,undef,undef,undef,undef,undef,undef,undef,undef,undef,undef,undef,undef,undef,undef,undef,undef,undef,undef,undef,undef,undef,undef,undef,undef,undef,undef,undef,undef,undef,undef,undef,undef,undef,undef,undef,undef,undef,undef,undef,undef,undef,undef,undef,undef,undef,undef,undef,undef,undef,undef,undef,undef,undef,undef,undef,undef,undef,undef,undef,undef,undef,undef,undef,undef,undef,undef,undef,undef,undef,undef,undef,undef,undef,undef,undef,undef,undef,undef,undef,undef,undef,undef,undef,undef,undef,undef,undef,undef,undef,undef,undef,undef,undef,undef,undef,undef,undef,undef,undef,undef,undef,undef,undef,undef,undef,undef,undef,undef,undef,undef,undef,undef,undef,undef,undef,undef,undef,undef,undef,undef,undef,undef,undef,undef,undef,undef,undef,undef,undef,undef,undef,undef,undef,undef,undef,undef,undef,undef],[]⟩:=by kernel_rfl
 rw[e,ea,bd0];clear e ea;obtain⟨n,hnn⟩:∃n:Nat,(n:Int)=1+sp % 8:=⟨(1+sp % 8).toNat,by omega⟩;have hn0:0<n:=by omega
 have hn8:n<=8:=by omega
 obtain⟨rd,hrd⟩:∃rd,min ll 63=rd:=⟨_,rfl⟩;have hrd63:rd<=63:=by omega
 obtain⟨R,hR⟩:∃x,playR (bdOps ls rd) (rd+1) 1048576 sched (List.replicate n 0)=x:=⟨_,rfl⟩;have hin:=bd_in hn0 hn8 hrd63 ls;obtain⟨g1,g2,g3,g4⟩:=bounds_end hin sched;have g5:=(bounds_play hin sched).1;rw[hR]at g1 g2 g3 g4 g5;have hol:R.ord.length<=1048576:=by
  have h1:=sumN_le (f:=(scan rd (bdOps ls rd) R.ord).at') (b:=500) rd λi hi=>by
   have:=g5.add i hi;have:=hin.len i hi;omega
  have h2:(scan rd (bdOps ls rd) R.ord).mine.length<=32:=by
   rw[←gl_len];obtain⟨e,_,_,_,_,_,he1,he2,hm,_⟩:=g2.out;omega
  have:=g5.cnt;have:rd*500<=63*500:=Nat.mul_le_mul_right _ hrd63;omega
 refine hJ.ctl (s:=1) (λw=>stepG_seq) ?_;refine at_lone hJ hC plainM (by kernel_rfl) (λt w'=>BF (.int .u8 sp) (.slice lp ll lc) (.slice scp sched.length Cs) undef undef undef undef t/\Beyond W w') (λt w' τ d h=>⟨h.1,h.2.trans (Beyond.re _ _ _)⟩) (by decide) (λτ d=>bd_r0 τ d) ?_;rintro t0 w0 ⟨hF0,hb0⟩;refine hJ.ctl (s:=1) (λw=>stepG_seq) ?_;refine bd_r1 hFin hF0 ?_;intro t1 w1 hb1 hF1;refine hJ.ctl (s:=5) (λw=>stepG_seq) ?_;refine at_lone hJ hC plainM (by kernel_rfl) (λt w'=>BF (.int .u8 sp) (.slice lp ll lc) (.slice scp sched.length Cs) (.int .i64 n) undef undef undef t/\Beyond w1 w') (λt w' τ d h=>⟨h.1,h.2.trans (Beyond.re _ _ _)⟩) (by decide) (λτ d=>bd_r3 hs0 hs1 hnn hF1 τ d) ?_;rintro t2 w2 ⟨hF2,hb2⟩;have hW2:=(hb0.trans hb1).trans hb2;refine hJ.ctl (s:=5) (λw=>stepG_seq) ?_;refine at_lone hJ hC plainM (by kernel_rfl) (λt w'=>∃vs p C,BF (.int .u8 sp) (.slice lp ll lc) (.slice scp sched.length Cs) (.int .i64 n) (.slice p (min ll 63) C) undef undef t/\vs.length=min ll 63/\AdI w2 (adOps ls) vs (.slice p (min ll 63) C) w') (λt w' τ d h=>by
  obtain⟨vs,p,C,h1,h2,h3⟩:=h;exact⟨vs,p,C,h1,h2,h3.re τ d⟩) (by decide) (λτ d=>bd_r4 (hI.beyond hW2) hn hln hF2 τ d) ?_
 rintro t3 w3 ⟨vs,p,C,hF3,hvl,hA3⟩;rw[hrd]at hF3 hvl hA3;refine hJ.ctl (s:=5) (λw=>stepG_seq) ?_;refine at_lone hJ hC plainM (by kernel_rfl) (λt w'=>BF (.int .u8 sp) (.slice lp ll lc) (.slice scp sched.length Cs) (.int .i64 n) (.slice p rd C) (.int .i64 rd) undef t/\Beyond w3 w') (λt w' τ d h=>⟨h.1,h.2.trans (Beyond.re _ _ _)⟩) (by decide) (λτ d=>bd_r5 hF3 τ d) ?_;rintro t4 w4 ⟨hF4,hb4⟩;refine hJ.ctl (s:=5) (λw=>stepG_seq) ?_;refine at_lone hJ hC plainM (by kernel_rfl) (λt w'=>∃vs' g C,BF (.int .u8 sp) (.slice lp ll lc) (.slice scp sched.length Cs) (.int .i64 n) (.slice (some ⟨g,0,none⟩) (rd+1) C) (.int .i64 rd) undef t/\vs'.length=rd+1/\AdI w2 (bdOps ls rd) vs' (.slice (some ⟨g,0,none⟩) (rd+1) C) w') (λt w' τ d h=>by
  obtain⟨vs,g,C,h1,h2,h3⟩:=h;exact⟨vs,g,C,h1,h2,h3.re τ d⟩) (by decide) (λτ d=>bd_r6 (hA3.beyond hb4) hvl hrd63 hF4 τ d) ?_
 rintro t5 w5 ⟨vs',g,C8,hF5,hvl',hA5⟩;refine hJ.ctl (s:=5) (λw=>stepG_seq) ?_;refine bd_r7 hFin (by decide) hn0 hn8 hrd63 hvl' hA5 (hs.beyond (hW2.trans hA5.be)) hsl hR hF5 ?_;intro t6 Bb ab p1 c1 p2 c2 w6 hF6 hb6 hbx htr;rw[show decide (0<leftN (ovR R) (rd+1))=false by rw[g3];rfl]at hbx htr;obtain⟨e,s1,y,s3,ok,ha,hrest⟩:=g2.out;have hB:Bounded n (scan rd (bdOps ls rd) R.ord).gl [⟨true,s1,[]⟩,⟨ok,y,[]⟩,⟨true,s3,[]⟩]:=⟨⟨e,s1,y,s3,ok,rfl,hrest⟩⟩;obtain⟨ra,ro,rc,hM⟩:=bdM_of hbx htr hvl' (hA5.beyond hb6) ha;have hW6:=(hW2.trans hA5.be).trans hb6;refine at_rest_end (P:=Try.prog) hPost plainM (by kernel_rfl) rfl (by kernel_rfl) Try.func5 (λτ d=>?_);exact bd_rest hF6 (hM.beyond (Beyond.re w6 τ d)) hin rfl hol g1 hB g4 λw' hb=>⟨_,rfl,hend _ (hW6.trans ((Beyond.re w6 τ d).trans hb))⟩
end Go.Proofs
namespace Go.Car
open Go Go.Conc
theorem leaving_of_cond{H:Type}{enc:TypeId×Value->H}{a:Assume}{C:Checked}{os:Os}{f:FuncId}{fn:Func}{s:OpenSpec}{k:(H:Type)->List (DataW H)->Bool}(hk:s.cond=some k){F:Stop.Interp}{conds:List PathCond}{apart fresh handsOn again:Bool}
 (own:ownKnob C.prog.godebug=none) (started:os.Started) (hfn:C.prog.funcs[f]?=some fn)
 (witness:∃(w:World)(tape:Tape)(i:Input),w.os=os/\(w.forCall tape i).Shaped C.prog/\i.vars=[]/\Input.okWide C.prog (w.forCall tape i) .any w.heap.size f i/\
  s.pre6 enc C.prog fn conds apart (w.forCall tape i).memory i.args/\a.holds C.prog (lone (Frame.enter C.prog f i.args .normal) [] (w.forCall tape i)))
 (runs:∀(W:World)(base:Nat)(args:Array Value)(ds gs:List (DataW H))(before:List MemPlace),
  (∀(j:Nat)t v,fn.params[j]?=some t->args[j]?=some v->Value.okWide C.prog W .any base t v)->
  DataW.Whole enc C.prog fn.params.toList s.vars apart W args.toList ds gs before->k H (ds++gs)=true->
  ∃M last o w' t',runNT C.prog (M+1) (solo (G (Frame.enter C.prog f args .normal) []) W) #[]=(.ended o w',t')/\runN C.prog M (solo (G (Frame.enter C.prog f args .normal) []) W)=.next last/\
   step C.prog last=.ended o w'/\Conc.Good C.prog (λv W'=>(s.at F).post enc C.prog fn apart fresh handsOn again W args v W') last o w' t'):
 ReturnsInLeavingWide a C os f .any (s.pre6 enc C.prog fn conds apart) ((s.at F).post enc C.prog fn apart fresh handsOn again):=by
 refine returnsInLeavingWide_of_good own started witness ?_;intro w tape i _ _ _ hok hpre _;obtain⟨_,_,_,fn',hfn',_,_,_,_,hval⟩:=hok;obtain rfl:fn'=fn:=Option.some.inj (hfn'.symm.trans hfn);obtain⟨ds,gs,before,hw,_,hkk⟩:=(OpenSpec.pre_some hk conds apart _ _).1 hpre.1;obtain⟨M,last,o,w',t',h1,h2,h3,h4⟩:=runs (w.forCall tape i) w.heap.size i.args ds gs before hval (DataW.Whole.of_heap (w':=w.forCall tape i) (by rfl) hw) hkk;exact⟨M,last,o,w',t',h1,h2,h3,h4.mono λv hp=>ChangeSpec.post_blind hp⟩
theorem holds_leaving_cond{p:Pinned}{s:OpenSpec}{c:OpenClaim}(f:FuncId)(fn:Func)
 (hn:c.program=p.name) (hs:c.sum=p.sum) (hsp:c.spec=s.name)
 (hstart:c.start=.entering) (hout:c.outside=[]) (hin:c.inits=[]) (hun:c.under=none) (hi4:c.initsInPlace=[]/\c.initsUnfollowed=false/\c.initsRecurse=false/\c.initsNamed=[]/\c.initsPassed=[]) (hnb:c.noBlocks=false) (hlv:c.leaving=true) (hfo:c.followed=none) (hnar:c.narrowed=s.cond.isSome) (hstill:c.still=false)
 (hfn:p.checked.prog.funcNamed c.func=some f) (hf:p.checked.prog.funcs[f]?=some fn)
 (closed:joinedFacts p.checked.prog f fn s.bare c=true)
 (hinst:fn.isInstance p.checked.prog c.origin c.targs) (hwrap:fn.isWrapper p.checked.prog c.wrapper c.mainSum)
 (h:∀os:Os,os.Started->∀(H:Type)(enc:TypeId×Value->H),(∀a b,enc a=enc b->a=b)->∀F:Stop.Interp,
  ReturnsInLeavingWide c.assume p.checked os f .any (c.pre enc p.checked.prog fn s) ((s.at F).post enc p.checked.prog fn c.apart c.fresh c.handsOn c.again)):c.holds p s:=by
 simp only[joinedFacts,Bool.and_eq_true,beq_iff_eq,Array.all_eq_true_iff_forall_mem,List.all_eq_true,decide_eq_true_eq]at closed;obtain⟨⟨⟨⟨⟨⟨⟨⟨⟨⟨⟨⟨⟨⟨⟨⟨⟨⟨⟨⟨⟨⟨⟨⟨⟨⟨⟨⟨⟨⟨⟨a1,a2⟩,a3⟩,a4⟩,a5⟩,a6⟩,a7⟩,a8⟩,a9⟩,a10⟩,a11⟩,a12⟩,a13⟩,a14⟩,a15⟩,a16⟩,a17⟩,b17⟩,a18⟩,a19⟩,a20⟩,a21⟩,a22⟩,a23⟩,b23⟩,a24⟩,b24⟩,c24⟩,a25⟩,a26⟩,a27⟩,a28⟩:=closed;have quiet:∀os:Os,Stop.quiet p.checked.prog os:=λos k hk=>by rw[a9]at hk;cases hk
 have fits:c.startFits p.checked.prog:=by unfold OpenClaim.startFits;rw[hstart];exact a24
 have told:c.startTold p.checked.prog:=by unfold OpenClaim.startTold;rw[hstart];exact⟨hin,hun,hi4⟩
 have named:namedTie p.checked.prog c.namedList s.vars=true:=by unfold OpenClaim.namedList;rw[hfo];exact a5
 have worded:p.checked.prog.envWorded=true:=by unfold Program.envWorded;rw[a9];rfl
 have world0:∃os:Os,c.world os/\Stop.quiet p.checked.prog os:=⟨_,by unfold OpenClaim.world;rw[hout,hstart];exact WideRow.started_initial,quiet _⟩;have lists0:c.lists p.checked.prog []:=by unfold OpenClaim.lists;rw[hfo]
 refine⟨a1,hn,hs,hsp,a2,a3,fits,told,f,fn,hfn,hf,⟨a4,a19⟩,(λhb=>by rw[hnb]at hb;cases hb),named,hinst,hwrap,
  a6.trans a7.symm,⟨a8.trans a9.symm,worded,b23⟩,a10,a11,a12,a13,a14,⟨a15,a27,a28⟩,⟨a16,a20⟩,⟨a17,a21,a25,a26⟩,⟨a22,b24,c24,b17⟩,(by rw[hout,hnar];cases hsh:c.shortTexts with|none=>simp |some _=>rw[hsh]at a23;cases a23),λn hn'=>varReadable_some (a18 n hn'),
  world0,[],lists0,λos st _ H enc inj=>?_⟩
 have st':os.Started:=by unfold OpenClaim.world at st;rw[hout,hstart]at st;exact st
 rw[OpenClaim.post_not_still hstill];unfold OpenClaim.form;rw[hstart,a6];intro F;have e1:c.okInput=Input.okWide:=by unfold OpenClaim.okInput;rw[hnb]
 have e2:c.atReturn p.checked.prog=leavingAtReturn p.checked.prog:=by unfold OpenClaim.atReturn;rw[hlv]
 have e3:c.always p.checked.prog []=nothingAlways:=by unfold OpenClaim.always;rw[hfo]
 have e4:s.post enc p.checked.prog fn F c.outside c.apart c.fresh c.handsOn c.again=(s.at F).post enc p.checked.prog fn c.apart c.fresh c.handsOn c.again:=by rw[hout];rfl
 rw[e1,e2,e3];show ReturnsInOpen _ _ _ _ _ _ _ _ (s.post enc p.checked.prog fn F c.outside c.apart c.fresh c.handsOn c.again) _ _;rw[e4];exact h os st' H enc inj F a24
end Go.Car
set_option maxHeartbeats 4000000
set_option maxRecDepth 100000
namespace Go.Proofs.Ytnjpcibdaanpeaa
open Go Go.Conc Go.RowKit Go.Car Go.ChangeShapes Go.WideShapes Go.ChangeAt
theorem bulk_one{H:Type}(d:DataW H):1<=Rows.uptoBulk d:=by
 cases d with
 |lit l=>cases l<;>simp[Rows.uptoBulk]
 |nil=>simp[Rows.uptoBulk]
 |ptr d=>simp[Rows.uptoBulk]
 |slice elems spare=>simp[Rows.uptoBulk]
 |agg parts=>simp[Rows.uptoBulk]
 |iface t d=>simp[Rows.uptoBulk]
 |map entries=>simp[Rows.uptoBulk]
 |held h=>simp[Rows.uptoBulk]
theorem bulk_mem{H:Type}{d:DataW H}{l:List (DataW H)}(h:d∈l):Rows.uptoBulk d<=Rows.uptoBulkAll l:=by
 induction l with
 |nil=>cases h
 |cons x r ih=>
  simp only[Rows.uptoBulkAll];rcases List.mem_cons.1 h with e|e
  · subst e;omega
  · have:=ih e;omega
theorem bulk_length{H:Type}(l:List (DataW H)):l.length<=Rows.uptoBulkAll l:=by
 induction l with
 |nil=>simp[Rows.uptoBulkAll]
 |cons x r ih=>have:=bulk_one x;simp only[Rows.uptoBulkAll,List.length_cons];omega
theorem bulk_lenD{H:Type}(d:DataW H):lenD d<=Rows.uptoBulk d:=by
 cases d with
 |slice e s=>have:=bulk_length e;simp only[lenD,Rows.uptoBulk];omega
 |_=>exact Nat.zero_le _
theorem bulk_part{H:Type}{x:DataW H}{es sp:List (DataW H)}{i:Nat}(h:es[i]?=some x):Rows.uptoBulk x<=Rows.uptoBulk (.slice es sp):=by
 have:=bulk_mem (List.mem_of_getElem? h);simp only[Rows.uptoBulk];omega
theorem bulk_small{H:Type}{l:List (DataW H)}(hk:Rows.uptoSmall H l=true){d:DataW H}(h:d∈l):Rows.uptoBulk d<=1048576:=by
 have h1:=of_decide_eq_true hk;have h2:=bulk_mem h;omega
theorem own_knob:ownKnob Try.prog.godebug=none:=by kernel_rfl
theorem laid_out:laidOutB Try.prog=true:=by kernel_rfl
theorem reads_same{H:Type}{enc:TypeId×Value->H}{t:TypeId}(hr:Try.prog.readableRec t=true)(hrow:t<Try.prog.types.size){W w':World}{v:Value}{d:DataW H}{ps:List MemPlace}
 (h:DataW.Trod enc Try.prog W 0 (λ_=>true) true t v d ps) (hb:Beyond W w') (hlt:∀x∈ps,x.block<W.heap.size):DataW.Trod enc Try.prog w' 0 (λb=>decide (b<W.heap.size)) true t v d ps:=
 DataW.Trod.of_heap (w:={w' with os:=W.os,tape:=W.tape,output:=W.output}) (by rfl) (Below.trod laid_out hr hrow h ⟨rfl,rfl,rfl,hb.1,hb.2⟩ hlt)
theorem kept_same{W w':World}(hb:Beyond W w')(ho:w'.os=W.os)(hu:w'.output=W.output)(may:MemPlace->Prop):W.keptBut w' may:=by
 have h:=Below.frame (W:=W) (w':={w' with os:=W.os,tape:=W.tape,output:=W.output}) ⟨rfl,rfl,rfl,hb.1,hb.2⟩ may;exact⟨ho,hu,h.2.2⟩
end Go.Proofs.Ytnjpcibdaanpeaa
set_option maxHeartbeats 8000000
set_option maxRecDepth 100000
namespace Go.Proofs
open Go Go.Conc Go.RowKit Go.Car
open Go.ConcN (upd upd_ne upd_same)
end Go.Proofs
set_option maxHeartbeats 4000000
set_option maxRecDepth 100000
namespace Go.Proofs.Ytnjpcibdaanpeaa
open Go Go.Conc Go.RowKit Go.Car Go.ChangeShapes Go.WideShapes Go.ChangeAt Go.Deep
open Go.Joins (array4 trod_struct4)
end Go.Proofs.Ytnjpcibdaanpeaa
set_option maxHeartbeats 4000000
set_option maxRecDepth 100000
namespace Go.Proofs.Ytnjpcibdaanpeaa
open Go Go.Conc Go.RowKit Go.Car Go.ChangeShapes Go.WideShapes Go.ChangeAt Go.Deep
theorem stripeBounds_lifted(os:Os)(started:os.Started)(H:Type)(enc:TypeId×Value->H)(F:Stop.Interp):
 ReturnsInLeavingWide {} Try.checked os 5 .any ((Rows.OpenSpec.upto Rows.stripeBoundsSpec).pre6 enc Try.prog Try.f5 Rows.stripeBoundsUptoRow.domain false) (((Rows.OpenSpec.upto Rows.stripeBoundsSpec).at F).post enc Try.prog Try.f5 false true false false):=by
 refine leaving_of_cond (C:=Try.checked) (s:=Rows.OpenSpec.upto Rows.stripeBoundsSpec) (k:=Rows.uptoSmall) rfl own_knob started Try.func5
  (OpenSpec.witness (enc:=enc) (C:=Try.checked) (s:=Rows.OpenSpec.upto Rows.stripeBoundsSpec) (k:=Rows.uptoSmall) rfl false ⟨#[],#[.int .u8 0,.slice none 0 0,.slice none 0 0],[]⟩ 8 (by kernel_rfl) (by kernel_rfl) (by kernel_rfl)
   (x:=([.lit (.int .u8 0),.nil,.nil],[],[])) (by kernel_rfl) rfl (by kernel_rfl)) ?_
 intro W base args ds gs before hval0 hW hk;have hval:∀(j:Nat)t v,Try.f5.params[j]?=some t->args[j]?=some v->Value.okWide Try.prog W .any base t v:=hval0;have hW':=hW;obtain⟨p,q,hA0,hV,rfl,_,_⟩:=hW;have hA:DataW.TrodAll enc Try.prog W 0 (λ_=>true) true Try.f5.params.toList args.toList ds p:=hA0;rw[Try.params5]at hA hval;obtain⟨v0,v1,v2,d0,d1,d2,p0,p1,p2,rfl,rfl,rfl,h0,h1,h2⟩:=trodAll_three hA;obtain⟨rfl,rfl⟩:=trodVars_none hV;clear hA0 hval0
 try simp only[List.append_nil]at hW'
 try simp only[List.append_nil]at hk
 have hlt:∀x∈p0++(p1++p2),x.block<W.heap.size:=λx hx=>by simpa using hW'.lt x (by simpa using hx)
 obtain⟨sp,rfl⟩:=okWide_int (k:=.u8) (by kernel_rfl) (hval 0 _ v0 rfl rfl);obtain⟨lp,ll,lc,rfl⟩:=okWide_slice (e:=22) (by kernel_rfl) (hval 1 _ v1 rfl rfl);obtain⟨scp,sl,Cs,rfl⟩:=okWide_slice (e:=3) (by kernel_rfl) (hval 2 _ v2 rfl rfl);have h0':=h0;have h1':=h1;have h2':=h2;obtain⟨f0,k0⟩:=h0;obtain⟨f1,k1⟩:=h1;obtain⟨f2,k2⟩:=h2;obtain⟨sp',e0,-,hwf⟩:=DataW.trod_int (k:=.u8) (by kernel_rfl) k0;cases e0;have hr:0<=sp/\sp<256:=by
  unfold Lit.wf at hwf;rw[Bool.and_eq_true,decide_eq_true_eq,decide_eq_true_eq]at hwf;obtain⟨q1,q2⟩:=hwf;have e1:IntKind.u8.min=0:=by decide
  have e2:IntKind.u8.max=255:=by decide
  omega
 obtain⟨ls,l1,l2,l3⟩:=lists_open (e:=22) (e2:=2) (by kernel_rfl) (by kernel_rfl) (by kernel_rfl) (by kernel_rfl) (by kernel_rfl) k1;obtain⟨sched,s1,s2,s3⟩:=ints_open (e:=3) (by kernel_rfl) (by kernel_rfl) (by kernel_rfl) k2;subst s1;have b1:=bulk_small (d:=d1) hk (by simp);have b2:=bulk_small (d:=d2) hk (by simp);have q1:=bulk_lenD d1;have q2:=bulk_lenD d2;obtain⟨M,last,o,w',t',r1,r2,r3,r4⟩:=stripebounds_run (Post:=λv w'=>v=.bool true/\Beyond W w') (λv w τ d h=>⟨h.1,h.2.1,h.2.2⟩) (lc:=lc) hr.1 hr.2 l1 (by omega) (λi hi=>by
  obtain⟨x,es,sp',e,he,hx⟩:=l3 i hi;have:=bulk_part (sp:=sp') he;rw[←e]at this;have:=bulk_lenD x;omega) s2 (by omega) (λw' h=>⟨rfl,h⟩)
 refine⟨M,last,o,w',t',r1,r2,r3,r4.mono λv hF=>?_⟩;obtain⟨⟨rfl,hb⟩,ho,hu⟩:=hF;refine⟨_,_,_,[],p0++p1++p2,[],hW',trodAll_mk1 (shut_bool Try.underlying4 true),?_,rfl,kept_same hb ho hu _,λh=>by cases h⟩;rw[List.append_assoc];exact trodAll_mk3 (reads_same (by kernel_rfl) (of_decide_eq_true (by kernel_rfl)) h0' hb λx hx=>hlt x (by simp[hx])) (reads_same (by kernel_rfl) (of_decide_eq_true (by kernel_rfl)) h1' hb λx hx=>hlt x (by simp[hx])) (reads_same (by kernel_rfl) (of_decide_eq_true (by kernel_rfl)) h2' hb λx hx=>hlt x (by simp[hx]))
theorem stripeBounds_upto:Rows.StripeBoundsUptoSaid:=
 holds_leaving_cond 5 Try.f5 rfl rfl rfl rfl rfl rfl rfl ⟨rfl,rfl,rfl,rfl,rfl⟩ rfl rfl rfl rfl rfl (by kernel_rfl) Try.func5 (by kernel_rfl)
  (of_decide_eq_true (by kernel_rfl)) (by unfold Func.isWrapper;first|(rw[if_pos (by decide +kernel)];kernel_rfl)|(rw[if_neg (by decide +kernel)];exact⟨rfl,rfl⟩))
  (λos started H enc _ F=>stripeBounds_lifted os started H enc F)
end Go.Proofs.Ytnjpcibdaanpeaa
