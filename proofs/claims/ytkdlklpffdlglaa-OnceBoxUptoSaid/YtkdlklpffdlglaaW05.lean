/- YtkdlklpffdlglaaBox15: part 5 of the proof (the texts behind it, in order). -/
import Derived.Test.YtkdlklpffdlglaaW04
set_option maxHeartbeats 4000000
set_option maxRecDepth 100000
set_option linter.all false
namespace Go.Proofs
open Go Go.Conc Go.RowKit Go.Car
@[go_sem] theorem neq_do (f : Fn) (a b : Array Value) (w : World) : (binOp .neq 109 (.func f a b) .nilFunc).run Try.prog w = .ok (.bool true) w := by rfl
def tT:AnsT:=⟨49,47,2⟩
def ownA{S1:Type}(i:Nat)(s:S1×(Nat->List Ans)):List Ans:=s.2 i
structure DoRo(ro:Nat->Option Obj)(i N ab ob db ib hb:Nat)(sp:Option Addr)(L Cp:Nat)(ops:List OpX)(f:FuncId)(first caps:Array Value):Prop where
 ob:ro ob=some (.cells #[.slice sp L Cp] 32)
 db:ro db=some (.cells #[.func (.func f) first caps] 109)
 ib:ro ib=some (.cells #[.int .i64 i] 3)
 hb:ro hb=some (.cells #[.slice (some ⟨ab,0,none⟩) N N] 26)
 len:ops.length=L
 le:L<=65536
 lt:i<N
 leN:N<=64
 ops:∀(k:Nat)(op:OpX),ops[k]?=some op->∃g off cur e fr,sp=some ⟨g,off,none⟩/\ro g=some (.cells cur e fr)/\∀j,j<4->cur[off+k*4+j]?=op.cells[j]?
section
variable {M1 S1:Type} {C:Core M1 S1} {ro:Nat->Option Obj} {i N ab ob db ib hb:Nat} {sp:Option Addr} {L Cp:Nat} {ops:List OpX} {f:FuncId} {first caps:Array Value} {A:FuncId->Bool} {pr:Nat->Proc (S1×(Nat->List Ans)) Unit} {fStep:FuncId} {sv sx:Value} {cr:Frame} {rest:List Frame} {NE EN:List PanicEntry->Prop} {dop:OpX->Proc (S1×(Nat->List Ans)) Ans}
theorem zqc2(hP:Plain Try.prog A)(hRS:RowsS Try.prog A){fn:Func}{c:Code}(hf:Try.prog.funcs[f]?=some fn)(hb':fn.body=some c)(hnm:(fn.name== "runtime.NumGoroutine")=false)(hR:DoRo ro i N ab ob db ib hb sp L Cp ops f first caps)
 (hdo:∀(o:List Ans)(op:OpX),SpecR (zq34 hP hRS (zq7 C (zqt tT ab N)) ownA ro pr fStep sx cr rest NE EN i o) f (first++#[sv,.int .i64 i,op.val]++caps) (dop op) (AnsV 2))
 (s:Turn Try.prog (M1×AnsM) (S1×(Nat->List Ans))) (m:BM (M1×AnsM)) (w:World) (hA:TurnAt Try.prog (zq7 C (zqt tT ab N)) ownA ro pr fStep sx cr rest NE EN i s m w ((opsP i dop ops).bind Proc.ret ((zq7 C (zqt tT ab N)).st m.l))) (ho:ownA i ((zq7 C (zqt tT ab N)).st m.l)=[]):
 zq19 Try.prog (λ(s:Turn Try.prog (M1×AnsM) (S1×(Nat->List Ans)))=>s.J) 84 #[sv,.pointer (some ⟨ob,0,none⟩),.pointer (some ⟨db,0,none⟩),.pointer (some ⟨ib,0,none⟩),.pointer (some ⟨hb,0,none⟩)] (λs e w=>match e with
  |.returned _=>∃m',TurnAt Try.prog (zq7 C (zqt tT ab N)) ownA ro pr fStep sx cr rest NE EN i s m' w ((zq7 C (zqt tT ab N)).st m'.l,.ret ())
  |.panicked ch=>s.J (G (cr.raise ch) rest) w
  |.outgrown=>False) s w:=by
 have hJC:JC Try.prog false (λ(s:Turn Try.prog (M1×AnsM) (S1×(Nat->List Ans)))=>s.J):=((zq45 hP hRS (zq7 C (zqt tT ab N)) ownA ro pr fStep sx cr rest NE EN i).sys (λ_=>True)).jc;refine zq5b (Bd:=λs a w=>a.defers=[]/\∃m',TurnAt Try.prog (zq7 C (zqt tT ab N)) ownA ro pr fStep sx cr rest NE EN i s m' w ((zq7 C (zqt tT ab N)).st m'.l,.ret ())) hJC Try.func84 rfl ?_ ?_
 . rintro s a w b cl cs todo ⟨hd,m',h⟩ hbf hbk hp;exact hJC.ctl (λw=>stepG_leave hbk hd (by rw[hbf];exact Try.func84) (resultsC_none rfl _ w).1 (resultsC_none rfl _ w).2) (hp _ _ _ ⟨m',h⟩)
 simp only[zqk,Try.ntmps84,List.size_toArray,List.length_cons,List.length_nil,Nat.reduceAdd,Nat.reduceSub,Array.replicate_succ,Array.replicate_zero,List.push_toArray,List.append_toArray,List.nil_append,List.cons_append];have HR:=Lib.hid hR;have HDO:=Lib.hid hdo;have HFN:=Lib.hid (And.intro hf (And.intro hb' hnm));have hA:(zq45 hP hRS (zq7 C (zqt tT ab N)) ownA ro pr fStep sx cr rest NE EN i).sys (λs=>ownA i s=[]) |>.AtB (m.box i) s w ((opsP i dop ops).bind Proc.ret):=⟨m,rfl,hA,ho⟩
 clear hR hdo hf hb' hnm ho;apply YSys.seq0 hA (by kernel_rfl)
 . intro wc hB;have c1:wc.cell? ⟨ob,0,none⟩=some (.slice sp L Cp):=(zq0 (hB.own.rod ob _ HR.out.ob)).trans rfl;go_wp2;exact⟨rfl,Ext1.refl _,rfl⟩
 intro w hA;refine zq3m hJC (zqat hJC (λs a w n=>∃(k:Nat)(o:List Ans)(B:Nat->Option Obj)(x5 x6 x7 x8 x12 x13 x14 x15 x16 x17 x18 x19 x20 x21 x22 x23 x24 x25 x26 x27 x28 x29 x30 x31 x32:Value),k+n=L/\o.length=k/\a=⟨#[sv,.pointer (some ⟨ob,0,none⟩),.pointer (some ⟨db,0,none⟩),.pointer (some ⟨ib,0,none⟩),.pointer (some ⟨hb,0,none⟩),x5,x6,x7,x8,.slice sp L Cp,.int .i64 L,.int .i64 k,x12,x13,x14,x15,x16,x17,x18,x19,x20,x21,x22,x23,x24,x25,x26,x27,x28,x29,x30,x31,x32],[]⟩/\(zq34 hP hRS (zq7 C (zqt tT ab N)) ownA ro pr fStep sx cr rest NE EN i o).AtB B s w ((opsP i dop (ops.drop k)).bind Proc.ret)) L ?_ ?_)
 . exact⟨0,[],_,_,_,_,_,_,_,_,_,_,_,_,_,_,_,_,_,_,_,_,_,_,_,_,_,_,by omega,rfl,rfl,hA⟩
 clear hA;rintro s a w n ⟨k,o,B,x5,x6,x7,x8,x12,x13,x14,x15,x16,x17,x18,x19,x20,x21,x22,x23,x24,x25,x26,x27,x28,x29,x30,x31,x32,hkn,hok,rfl,hA⟩;have HK:=Lib.hid hkn;have HO:=Lib.hid hok;clear hkn hok;cases n with
 |zero=>
  apply YSys.seq0 hA (by kernel_rfl)
  . intro wc hB;go_wp2;exact⟨rfl,Ext1.refl _,rfl⟩
  intro w hA;refine zqh hJC (zqx hJC rfl ?_);rw[if_neg (by have:=HK.out;simp only[decide_eq_true_eq];omega)];refine zq6g hJC ?_;obtain⟨m',_,hA',_⟩:=hA;have e:ops.drop k=[]:=List.drop_eq_nil_of_le (by have:=HR.out.len;have:=HK.out;omega);rw[e]at hA';exact⟨rfl,m',hA'⟩
 |succ n=>
  have hk:(k:Int)<(L:Int):=by have:=HK.out;omega
  have hk0:(0:Int)<=(k:Int):=by omega
  have e1:IntKind.i64.wrap ((k:Int)+1)=((k+1:Nat):Int):=by have:=HR.out.le;rw[IntWalk.i64_in _ (by omega)];omega
  have hkl:k<ops.length:=by have:=HR.out.len;have:=HK.out;omega
  obtain⟨op,hop⟩:∃op,ops[k]?=some op:=⟨_,List.getElem?_eq_getElem hkl⟩;obtain⟨g,off,cur,e,fr,hsp,hg,hcur⟩:=HR.out.ops k op hop;have hdrop:ops.drop k=op::ops.drop (k+1):=by rw[List.drop_eq_getElem_cons hkl,(List.getElem?_eq_some_iff.1 hop).2]
  rw[hdrop,opsP]at hA;rw[Proc.bind_bind]at hA;have HG:=Lib.hid (And.intro hsp (And.intro hg hcur));clear hsp hg hcur hop hkl hdrop;apply YSys.seq0 hA (by kernel_rfl)
  . intro wc hB;go_wp2;exact⟨rfl,Ext1.refl _,rfl⟩
  intro w hA;refine zqh hJC (zqx hJC rfl (zq1e hJC ?_));show wpJ (λ(s:Turn Try.prog (M1×AnsM) (S1×(Nat->List Ans)))=>s.J) _ _ _ _ _;refine zqh hJC (zq3m hJC ?_);refine YSys.seqX (λt B'=>∃(b7:Nat)(y5 y6 y8 y12 y13 y14 y15 y16 y17 y18 y19 y20 y21 y22 y23 y24 y25 y26 y27 y28 y29 y30 y31 y32:Value),t=#[sv,.pointer (some ⟨ob,0,none⟩),.pointer (some ⟨db,0,none⟩),.pointer (some ⟨ib,0,none⟩),.pointer (some ⟨hb,0,none⟩),y5,y6,.pointer (some ⟨b7,0,none⟩),y8,.slice sp L Cp,.int .i64 L,.int .i64 k,y12,y13,y14,y15,y16,y17,y18,y19,y20,y21,y22,y23,y24,y25,y26,y27,y28,y29,y30,y31,y32]/\B b7=none/\B'=upB B b7 (.cells op.cells.toArray 34)) hA (by kernel_rfl) ?_ ?_
  . intro wc hB X0 hX0;have HX0:=Lib.hid hX0;clear hX0;have hm:=OMoved.push (o:=.cells op.cells.toArray 34) hB.own (Ext1.alloc wc (.cells op.cells.toArray 34)) (Nat.le_refl _) (by rw[zqa];simp);have hf:=hB.own.fresh (Nat.le_refl _);have HM:=Lib.hid (And.intro hm hf);clear hm hf;have hgw:=hB.own.rod g _ HG.out.2.1;have hc0:wc.cell? ⟨g,off+k*4,none⟩=some (.int .i64 op.k):=(zq0 hgw).trans (HG.out.2.2 0 (by decide));have hc1:wc.cell? ⟨g,off+k*4+1,none⟩=some (.int .i64 op.a):=(zq0 hgw).trans (HG.out.2.2 1 (by decide));have hc2:wc.cell? ⟨g,off+k*4+2,none⟩=some (.int .i64 op.b):=(zq0 hgw).trans (HG.out.2.2 2 (by decide));have hc3:wc.cell? ⟨g,off+k*4+3,none⟩=some (.int .i64 op.c):=(zq0 hgw).trans (HG.out.2.2 3 (by decide));clear hgw;rw[HG.out.1];go_wp2;rw[<-HG.out.1];exact⟨rfl,HX0.out _ _ _ HM.out.1 ⟨_,_,_,_,_,_,_,_,_,_,_,_,_,_,_,_,_,_,_,_,_,_,_,_,_,rfl,HM.out.2,rfl⟩⟩
  clear hA;rintro _ _ w ⟨b7,y5,y6,y8,y12,y13,y14,y15,y16,y17,y18,y19,y20,y21,y22,y23,y24,y25,y26,y27,y28,y29,y30,y31,y32,rfl,hb7,rfl⟩ hA;refine YSys.seqX (λt B'=>∃(b8:Nat)(z5 z6 z12 z13 z14 z15 z16 z17 z18 z19 z20 z21 z22 z23 z24 z25 z26 z27 z28 z29 z30 z31 z32:Value),t=#[sv,.pointer (some ⟨ob,0,none⟩),.pointer (some ⟨db,0,none⟩),.pointer (some ⟨ib,0,none⟩),.pointer (some ⟨hb,0,none⟩),z5,z6,.pointer (some ⟨b7,0,none⟩),.pointer (some ⟨b8,0,none⟩),.slice sp L Cp,.int .i64 L,.int .i64 k,z12,z13,z14,z15,z16,z17,z18,z19,z20,z21,z22,z23,z24,z25,z26,z27,z28,z29,z30,z31,z32]/\upB B b7 (.cells op.cells.toArray 34) b8=none/\B'=upB (upB B b7 (.cells op.cells.toArray 34)) b8 (.cells #[.bool false,.int .i64 0,.slice none 0 0] 49)) hA (by kernel_rfl) ?_ ?_
  . intro wc hB X0 hX0;have HX0:=Lib.hid hX0;clear hX0;have hm:=OMoved.push (o:=.cells #[.bool false,.int .i64 0,.slice none 0 0] 49) hB.own (Ext1.alloc wc (.cells #[.bool false,.int .i64 0,.slice none 0 0] 49)) (Nat.le_refl _) (by rw[zqa];simp);have hf:=hB.own.fresh (Nat.le_refl _);have HM:=Lib.hid (And.intro hm hf);clear hm hf;go_wp2;exact⟨rfl,HX0.out _ _ _ HM.out.1 ⟨_,_,_,_,_,_,_,_,_,_,_,_,_,_,_,_,_,_,_,_,_,_,_,_,rfl,HM.out.2,rfl⟩⟩
  clear hA;rintro _ _ w ⟨b8,z5,z6,z12,z13,z14,z15,z16,z17,z18,z19,z20,z21,z22,z23,z24,z25,z26,z27,z28,z29,z30,z31,z32,rfl,hb8,rfl⟩ hA;have h7:upB (upB B b7 (.cells op.cells.toArray 34)) b8 (.cells #[.bool false,.int .i64 0,.slice none 0 0] 49) b7=some (.cells op.cells.toArray 34):=zq2e (upB_same _ _ _) (zq3g (upB_same _ _ _) hb8);have h8:upB (upB B b7 (.cells op.cells.toArray 34)) b8 (.cells #[.bool false,.int .i64 0,.slice none 0 0] 49) b8=some (.cells #[.bool false,.int .i64 0,.slice none 0 0] 49):=upB_same _ _ _;have hB8:B b8=none:=Classical.byContradiction λh=>by
   cases ho:B b8 with
   |none=>exact h ho
   |some o=>rw[zq35 (o:=.cells op.cells.toArray 34) hb7 b8 o ho]at hb8;cases hb8
  have hle:∀x y,B x=some y->upB (upB B b7 (.cells op.cells.toArray 34)) b8 (.cells #[.bool false,.int .i64 0,.slice none 0 0] 49) x=some y:=zq1s (zq35 (o:=.cells op.cells.toArray 34) hb7) hB8;obtain⟨B1,hB1⟩:∃X,upB (upB B b7 (.cells op.cells.toArray 34)) b8 (.cells #[.bool false,.int .i64 0,.slice none 0 0] 49)=X:=⟨_,rfl⟩;rw[hB1]at h7 h8 hle hA;have H7:=Lib.hid h7;have H8:=Lib.hid h8;have HLE:=Lib.hid hle;have HN:=Lib.hid hB8;clear h7 h8 hle hB1 hb7 hb8 hB8;refine zqh hJC ?_;apply YSys.seq0 hA (by kernel_rfl)
  . intro wc hB;have c2:wc.cell? ⟨db,0,none⟩=some (.func (.func f) first caps):=(zq0 (hB.own.rod db _ HR.out.db)).trans rfl;go_wp2;exact⟨rfl,Ext1.refl _,rfl⟩
  intro w hA;refine zqx hJC rfl ?_;rw[if_pos rfl];refine zqv hJC ?_;apply YSys.pre0 0 4 2 hA rfl rfl rfl rfl
  . intro wc hB X hX;have HX:=Lib.hid hX;clear hX;have c2:wc.cell? ⟨db,0,none⟩=some (.func (.func f) first caps):=(zq0 (hB.own.rod db _ HR.out.db)).trans rfl;have c3:wc.cell? ⟨ib,0,none⟩=some (.int .i64 i):=(zq0 (hB.own.rod ib _ HR.out.ib)).trans rfl;have k7:=hB.own.box b7 _ H7.out;have c70:wc.cell? ⟨b7,0,none⟩=some (.int .i64 op.k):=(zq0 k7).trans rfl;have c71:wc.cell? ⟨b7,1,none⟩=some (.int .i64 op.a):=(zq0 k7).trans rfl;have c72:wc.cell? ⟨b7,2,none⟩=some (.int .i64 op.b):=(zq0 k7).trans rfl;have c73:wc.cell? ⟨b7,3,none⟩=some (.int .i64 op.c):=(zq0 k7).trans rfl;clear k7;go_wp2;exact HX.out _ (Ext1.refl _)
  intro w hA;have hnm':¬fn.name= "runtime.NumGoroutine" :=by simpa using HFN.out.2.2
  have hf:=HFN.out.1;have hb':=HFN.out.2.1;refine YSys.callO (HDO.out o op _ s B1 w (λ_=>trivial) hA) rfl rfl rfl ?_ ?_ ?_
  . intro w;simp[go_sem,execOp,Act.eval,resolve,Deferred.ofValue,invoke,callFunc,hf,hb',hnm',OpX.val]
  . intro w;simp[go_sem,execOp,Act.eval,resolve,Deferred.ofValue,invoke,callFunc,hf,hb',hnm',OpX.val]
  clear hnm' hf hb' hA;intro s e' w hp;cases e' with
  |outgrown=>exact hp
  |panicked ch=>exact⟨rfl,hp⟩
  |returned v=>
  obtain⟨a,X,⟨sl,rfl,hsl⟩,hXB,hA⟩:=hp;have hX8:X b8=none:=Classical.byContradiction λh=>by
   have:=hXB b8 h;rw[H8.out]at this;cases this
  have h8':orB X B1 b8=some (.cells #[.bool false,.int .i64 0,.slice none 0 0] 49):=by simp[orB,hX8,H8.out]
  have H8':=Lib.hid h8';clear h8';refine YSys.opsX 5 1 (λt B'=>∃(u5 u6 u12 u13 u14 u15 u16 u17 u18 u19 u20 u21 u22 u23 u24 u25 u26 u27 u28 u29 u30 u31 u32:Value),t=#[sv,.pointer (some ⟨ob,0,none⟩),.pointer (some ⟨db,0,none⟩),.pointer (some ⟨ib,0,none⟩),.pointer (some ⟨hb,0,none⟩),u5,u6,.pointer (some ⟨b7,0,none⟩),.pointer (some ⟨b8,0,none⟩),.slice sp L Cp,.int .i64 L,.int .i64 k,u12,u13,u14,u15,u16,u17,u18,u19,u20,u21,u22,u23,u24,u25,u26,u27,u28,u29,u30,u31,u32]/\B'=upB (orB X B1) b8 (.cells #[.bool a.ok,.int .i64 a.n,sl] 49)) hA rfl rfl (by kernel_rfl) ?_ ?_
  . intro wc hB X0 hX0;have HX0:=Lib.hid hX0;clear hX0;have hm:=OMoved.set3 (o1:=0) (o2:=1) (o3:=2) hB.own H8'.out (.bool a.ok) (.int .i64 a.n) sl;have HM:=Lib.hid hm;have k8:=hB.own.box b8 _ H8'.out;have c80:wc.cell? ⟨b8,0,none⟩=some (.bool false):=(zq0 k8).trans rfl;have c81:wc.cell? ⟨b8,1,none⟩=some (.int .i64 0):=(zq0 k8).trans rfl;have c82:wc.cell? ⟨b8,2,none⟩=some (.slice none 0 0):=(zq0 k8).trans rfl;have f80:wc.frozen? ⟨b8,0,none⟩=false:=zqc k8;have f81:wc.frozen? ⟨b8,1,none⟩=false:=zqc k8;have f82:wc.frozen? ⟨b8,2,none⟩=false:=zqc k8;obtain⟨sa,sn,sc,hsl'⟩:∃sa sn sc,sl=.slice sa sn sc:=by rcases hsl.2 with⟨h,_⟩|⟨_,_,_,h,_⟩<;>exact⟨_,_,_,h⟩
    clear hm k8 hX8 hA hXB hsl;subst hsl';go_wp2;exact⟨rfl,HX0.out _ _ _ HM.out ⟨_,_,_,_,_,_,_,_,_,_,_,_,_,_,_,_,_,_,_,_,_,_,_,rfl,rfl⟩⟩
  clear hA;rintro _ _ w ⟨u5,u6,u12,u13,u14,u15,u16,u17,u18,u19,u20,u21,u22,u23,u24,u25,u26,u27,u28,u29,u30,u31,u32,rfl,rfl⟩ hA;show wpJ (λ(s:Turn Try.prog (M1×AnsM) (S1×(Nat->List Ans)))=>s.J) _ _ _ _ _;replace hA:(zq34 hP hRS (zq7 C (zqt tT ab N)) ownA ro pr fStep sx cr rest NE EN i o).AtB _ s w (((pushP i a).bind λ_=>opsP i dop (ops.drop (k+1))).bind Proc.ret):=hA;rw[Proc.bind_bind]at hA;obtain⟨m,hmB,hA⟩:=hA;refine Alone.actS (zq45 hP hRS (zq7 C (zqt tT ab N)) ownA ro pr fStep sx cr rest NE EN i) (I:=λs=>ownA i s=o) (I':=λs=>ownA i s=o++[a]) (g:=λs=>((s.1,upd' s.2 i (s.2 i++[a])),())) (K:=λ_=>(opsP i dop (ops.drop (k+1))).bind Proc.ret) (λt B'=>(∃(v5 v6 v7 v8 v12 v13 v14 v15 v16 v17 v18 v19 v20 v21 v22 v23 v24 v25 v26 v27 v28 v29 v30 v31 v32:Value),t=#[sv,.pointer (some ⟨ob,0,none⟩),.pointer (some ⟨db,0,none⟩),.pointer (some ⟨ib,0,none⟩),.pointer (some ⟨hb,0,none⟩),v5,v6,v7,v8,.slice sp L Cp,.int .i64 L,.int .i64 k,v12,v13,v14,v15,v16,v17,v18,v19,v20,v21,v22,v23,v24,v25,v26,v27,v28,v29,v30,v31,v32])/\B'=B) hA (by kernel_rfl) (λs h=>by show upd' s.2 i _ i=_;rw[upd'_same,show s.2 i=o from h]) (λs j hj=>zqj _ _ hj) ?_ ?_
  . intro wc hBR hown X0 hX0;have HX0:=Lib.hid hX0;clear hX0;have hst:m.l.2.st i=o:=hown;have hYB:∀b y,X b=some y->m.box i b=some y:=λb y hb=>by
     rw[hmB];exact zq2e (by simp[orB,hb]) (λe=>by subst e;rw[hX8]at hb;cases hb)
    have hBB:∀b y,B b=some y->m.box i b=some y:=λb y hb=>by
     have h1:=HLE.out b y hb;have h2:X b=none:=Classical.byContradiction λh=>by rw[hXB b h]at h1;cases h1
     rw[hmB];exact zq2e (by simp[orB,h2,h1]) (λe=>by subst e;rw[HN.out]at hb;cases hb)
    have hYn:∀b,X b≠none->B b=none:=λb hb=>Classical.byContradiction λh=>by
     cases ho:B b with
     |none=>exact h ho
     |some y=>have:=HLE.out b y ho;rw[hXB b hb]at this;cases this
    have hor:∀b,(orB X B1 b≠none->m.box i b≠none):=λb hb=>by
     rw[hmB]
     by_cases e:b=b8
     . subst e;simp
     . rw[zq26 _ _ e];exact hb
    obtain⟨ti,hti,hz0,hz1,hz2⟩:∃ti,Try.prog.info? 49=some ti/\ti.zero=some (.agg #[.bool false,.int .i64 0,.slice none 0 0])/\ti.size=3/\ti.bytes=40:=⟨_,rfl,rfl,rfl,rfl⟩;obtain⟨g2,cap,w2,m',hrun,hold,hst',hmv⟩:=ans_push (P:=Try.prog) hBR HR.out.lt 47 47 ti _ (by kernel_rfl) hti hz0 hz1 hz2 (by rfl) hsl hYB hBB hYn (by rw[hst];have:=HO.out;have:=HK.out;have:=HR.out.le;omega) wc.tape (wc.drawn+1);rw[hst]at hrun hmv hst';have k8:wc.heap[b8]?=some (.cells #[.bool a.ok,.int .i64 a.n,sl] 49):=hBR.box i b8 _ (by rw[hmB];exact upB_same _ _ _);have hX8f:m.l.2.X i b8=none:=Classical.byContradiction λh=>hBR.apart i b8 (by rw[hmB,upB_same];simp) (.inr (.inr ⟨i,HR.out.lt,h⟩));have hD:=hBR.core.2.1;have kab:wc.heap[ab]?=some (.cells ((List.range N).map m.l.2.hv).toArray 47):=hD.hd;have hXab:=hD.nab i HR.out.lt;have khb:=hBR.rod hb _ HR.out.hb;have hXhb:m.l.2.X i hb=none:=Classical.byContradiction λh=>hBR.rol hb (by rw[HR.out.hb];simp) (.inr (.inr ⟨i,HR.out.lt,h⟩));have kib:=hBR.rod ib _ HR.out.ib;have hXib:m.l.2.X i ib=none:=Classical.byContradiction λh=>hBR.rol ib (by rw[HR.out.ib];simp) (.inr (.inr ⟨i,HR.out.lt,h⟩));obtain⟨hv,hhv⟩:∃hv,m.l.2.hv i=hv:=⟨_,rfl⟩;have hvi:(((List.range N).map m.l.2.hv).toArray)[i]?=some hv:=by simp[HR.out.lt,hhv]
    obtain⟨sa,sn,sc,hsl'⟩:∃sa sn sc,sl=.slice sa sn sc:=by rcases hsl.2 with⟨h,_⟩|⟨_,_,_,h,_⟩<;>exact⟨_,_,_,h⟩
    obtain⟨va,vn,vc,hv'⟩:∃va vn vc,hv=.slice va vn vc:=by
     obtain⟨_,_,_,hr,_⟩:=hD.row i HR.out.lt;rw[hhv]at hr;rcases hr.2 with⟨h,_⟩|⟨_,_,_,h,_⟩<;>exact⟨_,_,_,h⟩
    rw[hhv]at hrun;obtain⟨W0,hW0⟩:∃W0,Car.re wc wc.tape (wc.drawn+1)=W0:=⟨_,rfl⟩;obtain⟨H,hH⟩:∃H,wc.heap.size=H:=⟨_,rfl⟩;rw[hW0,hH]at hrun;have hWs:∀W,W=W0\/W=W0.alloc (.cells #[.bool a.ok,.int .i64 a.n,sl] 49)\/W=w2->∀b,b<H->m.l.2.X i b=none->W.heap[b]?=wc.heap[b]?:=by
     rintro W (rfl |rfl |rfl) b hb hx
     . rw[<-hW0];rfl
     . rw[zqa,if_neg (by rw[<-hW0];show b≠wc.heap.size;omega),<-hW0];rfl
     . exact hold b (by omega) hx
    have hcell:∀W,W=W0\/W=W0.alloc (.cells #[.bool a.ok,.int .i64 a.n,sl] 49)\/W=w2->(W.cell? ⟨hb,0,none⟩=some (.slice (some ⟨ab,0,none⟩) N N)/\W.cell? ⟨ib,0,none⟩=some (.int .i64 i)/\W.cell? ⟨ab,i,none⟩=some hv/\W.cell? ⟨b8,0,none⟩=some (.bool a.ok)/\W.cell? ⟨b8,1,none⟩=some (.int .i64 a.n)/\W.cell? ⟨b8,2,none⟩=some sl)/\W.frozen? ⟨ab,i,none⟩=false:=by
     intro W hW;have e1:=(hWs W hW hb (by rw[<-hH];exact zqs khb) hXhb).trans khb;have e2:=(hWs W hW ib (by rw[<-hH];exact zqs kib) hXib).trans kib;have e3:=(hWs W hW ab (by rw[<-hH];exact zqs kab) hXab).trans kab;have e4:=(hWs W hW b8 (by rw[<-hH];exact zqs k8) hX8f).trans k8;exact⟨⟨(zq0 e1).trans rfl,(zq0 e2).trans rfl,(zq0 e3).trans hvi,(zq0 e4).trans rfl,(zq0 e4).trans rfl,(zq0 e4).trans rfl⟩,zqc e3⟩
    have HC:=Lib.hid hcell;have hi0:(0:Int)<=(i:Int):=by omega
    have hiN:(i:Int)<(N:Int):=by have:=HR.out.lt;omega
    have HMV:=Lib.hid (And.intro hmv hst');have HRUN:=Lib.hid hrun;have HST:=Lib.hid hst;have HWs:=Lib.hid (And.intro hW0 hH);have hiN':i<N:=HR.out.lt;have HIN:=Lib.hid hiN';clear hcell hWs hvi kib khb kab k8 hX8f hXab hXhb hXib hD hold hst' hmv hti hz0 hz1 hz2 hor hYn hBB hYB hst hown hA hX8 hXB hsl hrun hW0 hH hiN';subst hsl' hv';refine zqki (k:=10) (s:=7) (t:=8) (W0:=W0) (W1:=W0.alloc (.cells #[.bool a.ok,.int .i64 a.n,.slice sa sn sc] 49)) (W2:=w2) (by kernel_rfl) (by kernel_rfl) (by kernel_rfl) (by kernel_rfl) (by decide) (by decide) (by decide) (by kernel_rfl)
     [.slice (some ⟨ab,0,none⟩) N N,.int .i64 i,.slice (some ⟨ab,0,none⟩) N N,.int .i64 i,.pointer (some ⟨ab,i,none⟩),.slice va vn vc,.agg #[.bool a.ok,.int .i64 a.n,.slice sa sn sc],.slice (some ⟨H,0,none⟩) 1 1,.slice (some ⟨g2,0,none⟩) (o.length+1) cap,.pointer (some ⟨ab,i,none⟩)] rfl HWs.out.1.symm ?_ ?_ ?_ ?_
    . intro j oo hj hj7 hj8 hoo W hWW;obtain⟨⟨d1,d2,d3,d4,d5,d6⟩,_⟩:=HC.out W hWW;clear hWW;simp only[putv,dstOf,al_gl,al_g0,al_g1,al_ob,al_g2,List.set_cons_succ,List.set_cons_zero];obtain rfl |rfl |rfl |rfl |rfl |rfl |rfl |rfl:j=0\/j=1\/j=2\/j=3\/j=4\/j=5\/j=6\/j=9:=by omega
      all_goals(simp only[al_gl,al_g0,al_g1,al_oi]at hoo;subst hoo;refine .inl ?_)
      all_goals(simp only[execOp,Act.eval,al_gd,al_gl,al_g0,al_g1,al_od])
      all_goals(try go_simp)
    . intro oo hoo;simp only[putv,dstOf,al_gl,al_g0,al_g1,al_ob,al_g2,List.set_cons_succ,List.set_cons_zero];simp only[al_gl,al_g0,al_g1,al_oi]at hoo;subst hoo;refine .inl ?_;have hs0:W0.heap.size=H:=by rw[<-HWs.out.1];exact HWs.out.2
      simp only[execOp,Act.eval,al_gd,al_gl,al_g0,al_g1,al_od];go_simp
    . intro oo hoo;have hrun:(Builtin.append_ #[47,47] 47 #[.slice va vn vc,.slice (some ⟨H,0,none⟩) 1 1]).run Try.prog (W0.alloc (.cells #[.bool a.ok,.int .i64 a.n,.slice sa sn sc] 49))=.ok (.slice (some ⟨g2,0,none⟩) (o.length+1) cap) w2:=HRUN.out;simp only[putv,dstOf,al_gl,al_g0,al_g1,al_ob,al_g2,List.set_cons_succ,List.set_cons_zero];simp only[al_gl,al_g0,al_g1,al_oi]at hoo;subst hoo;refine .inl ?_;unfold execOp;simp only[resolve,invoke,builtin,Sem.run_bind,Sem.run_pure,Result.andThen_ok,List.map_toArray,List.map_cons,List.map_nil,Act.eval,al_gd,al_gl,al_g0,al_g1,al_od,hrun];rfl
    simp only[putv,dstOf,al_gl,al_g0,al_g1,al_ob,al_g2,List.set_cons_succ,List.set_cons_zero];obtain⟨⟨_,_,d3,_,_,_⟩,d7⟩:=HC.out w2 (.inr (.inr rfl));refine zq6e (i:=10) (by kernel_rfl) ?_;simp only[wpOp,al_gl,al_g0,al_g1];rw[if_pos (by rfl)];refine .inl ?_;go_simp;refine zq6d (by kernel_rfl) ?_;refine⟨rfl,HX0.out _ _ _ _ (HMV.out.1 w2.tape w2.drawn) ?_ ⟨⟨_,_,_,_,_,_,_,_,_,_,_,_,_,_,_,_,_,_,_,_,_,_,_,_,_,rfl⟩,rfl⟩⟩;show(C.st m.l.1,m'.st)=(C.st m.l.1,upd' m.l.2.st i (m.l.2.st i++[a]));rw[HMV.out.2,HST.out]
  rintro _ m' w ⟨⟨v5,v6,v7,v8,v12,v13,v14,v15,v16,v17,v18,v19,v20,v21,v22,v23,v24,v25,v26,v27,v28,v29,v30,v31,v32,rfl⟩,hB'⟩ hA;replace hA:(zq34 hP hRS (zq7 C (zqt tT ab N)) ownA ro pr fStep sx cr rest NE EN i (o++[a])).AtB B _ w ((opsP i dop (ops.drop (k+1))).bind Proc.ret):=⟨m',hB',hA⟩;show wpJ (λ(s:Turn Try.prog (M1×AnsM) (S1×(Nat->List Ans)))=>s.J) _ _ _ _ _;apply YSys.code0 hA (by kernel_rfl)
  . intro wc hB;go_wp2;exact⟨rfl,Ext1.refl _,rfl⟩
  intro w hA;exact⟨n,by omega,k+1,o++[a],B,_,_,_,_,_,_,_,_,_,_,_,_,_,_,_,_,_,_,_,_,_,_,_,_,_,by have:=HK.out;omega,by have:=HO.out;simp;omega,rfl,hA⟩
end
end Go.Proofs
namespace Go.Car
open Go Go.Conc Go.RowKit
theorem zqf{w:World}{o:Obj}{b:Nat}{y:Obj}(h:w.heap[b]?=some y):(w.alloc o).heap[b]?=some y:=by
 rw[zqa,if_neg (by have:=zqe h;omega)];exact h
theorem zq12(w:World)(o:Obj):(w.alloc o).heap[w.heap.size]?=some o:=by rw[zqa,if_pos rfl]
theorem zq1x{base n:Nat}{tv:Value}{xs:List Value}{w w':World}{T:TypeId}{k:Nat}(h:w.ownsRow base T k tv n xs)(hs:∀g,tv.ownBlock=some g->w'.heap[g]?=w.heap[g]?):w'.ownsRow base T k tv n xs:=by
 refine⟨h.1,?_⟩;rcases h.2 with hv|⟨g,cap,cur,hv,h1,h2,h3⟩
 . exact .inl hv
 . exact .inr ⟨g,cap,cur,hv,h1,(hs g (by rw[hv];rfl)).trans h2,h3⟩
theorem zq3y{w:World}{B B' n k:Nat}{T:TypeId}{v:Value}{xs:List Value}(h:w.ownsRow B T k v n xs)(hb:B'<=B):w.ownsRow B' T k v n xs:=by
 refine⟨h.1,?_⟩;rcases h.2 with hv|⟨g,cap,cur,hv,h1,h2⟩
 . exact .inl hv
 . exact .inr ⟨g,cap,cur,hv,Nat.le_trans hb h1,h2⟩
theorem zq5i{w:World}{b:Nat}{c c':Array Value}{T T':TypeId}{f f':Nat×Nat}(h:w.heap[b]?=some (.cells c T f))(h':w.heap[b]?=some (.cells c' T' f')):T=T':=by
 rw[h]at h';simp only[al_oi,Obj.cells.injEq]at h';exact h'.2.1
theorem zq1h{w:World}{b b':Nat}{c c':Array Value}{T T':TypeId}{f f':Nat×Nat}(h:w.heap[b]?=some (.cells c T f))(h':w.heap[b']?=some (.cells c' T' f'))(hne:T≠T'):b≠b':=λe=>by subst e;exact hne (zq5i h h')
theorem own_lt{w:World}{B k n g:Nat}{T:TypeId}{v:Value}{xs:List Value}(h:w.ownsRow B T k v n xs)(hg:v.ownBlock=some g):(∃c,w.heap[g]?=some (.cells c T))/\B<=g/\g<w.heap.size:=by
 rcases h.2 with⟨hv,_⟩|⟨g2,cap,cur,hv,hb,hh,_⟩
 . rw[hv]at hg;cases hg
 . rw[hv]at hg;simp only[Value.ownBlock,al_oi]at hg;subst hg;exact⟨⟨cur,hh⟩,hb,zqe hh⟩
theorem zq3h{base n k b:Nat}{tv:Value}{xs:List Value}{w:World}{T T':TypeId}{c:Array Value}{f:Nat×Nat}(h:w.ownsRow base T k tv n xs)(hb:w.heap[b]?=some (.cells c T' f))(hne:T≠T'):tv.ownBlock≠some b:=by
 intro e;obtain⟨⟨c2,h2⟩,_⟩:=own_lt h e;exact hne (zq5i h2 hb)
theorem zq3x{w:World}{B n k:Nat}{T:TypeId}{v:Value}{xs:List Value}(h:w.ownsRow B T k v n xs):∃p c,v=.slice p n c/\v.ownBlock=p.map (·.block)/\∀a,p=some a->a=⟨a.block,0,none⟩:=by
 rcases h.2 with⟨hv,h0⟩|⟨g,cap,cur,hv,_⟩
 . subst h0;exact⟨none,0,hv,by rw[hv];rfl,λa h=>by cases h⟩
 . exact⟨_,cap,hv,by rw[hv];rfl,λa h=>by cases h;rfl⟩
theorem zq31{w:World}{B k:Nat}{e:TypeId}{v:Value}{n:Nat}{xs:List Value}(h:w.ownsRow B e k v n xs)(o:Obj):(w.alloc o).ownsRow B e k v n xs:=zq1x h λg hg=>by rw[zqa,if_neg (by have:=(own_lt h hg).2.2;omega)]
theorem zq4u{w:World}{x:Value}{T:TypeId}{B:Nat}(hB:w.heap.size=B):∀j u,[x][j]?=some u->(w.alloc (.cells #[x] T)).cell? ((⟨B,0,none⟩:Addr).add j)=some u:=by subst hB;exact cell_one_new w x T
theorem news_new{w:World}{cs:Array Value}{T:TypeId}{B:Nat}(hB:w.heap.size=B):∀j u,cs.toList[j]?=some u->(w.alloc (.cells cs T)).cell? ((⟨B,0,none⟩:Addr).add j)=some u:=by subst hB;exact World.news_of_block (zq12 w _)
theorem zq7w{α:Type}(f:Nat->α)(j:Nat)(x:α):(List.range (j+1)).map (λi=>if i=j then x else f i)=(List.range j).map f++[x]:=by
 rw[List.range_succ,List.map_append];congr 1
 . refine List.map_congr_left λi hi=>?_;have:=List.mem_range.1 hi;rw[if_neg (by omega)]
 . simp
end Go.Car
namespace Go.Proofs
open Go Go.Conc Go.RowKit Go.Car
def cloD(H ob ib:Nat):Value:=.func (.func 84) #[] #[.pointer (some ⟨ob,0,none⟩),.pointer (some ⟨H,0,none⟩),.pointer (some ⟨ib,0,none⟩),.pointer (some ⟨H+2,0,none⟩)]
def clsD(H:Nat)(ob ib:Nat->Nat)(n:Nat):List Value:=(List.range n).map λi=>cloD H (ob i) (ib i)
def cutV(sp:Nat->Option Addr)(L Cp:Nat->Nat)(i:Nat):Value:=.slice (sp i) (min (L i) 65536) (Cp i)
structure DRes(w:World)(N:Nat)(dv:Value)(sp:Nat->Option Addr)(L Cp:Nat->Nat)(n:Nat)(ob ib:Nat->Nat)(fv:Value)(w':World):Prop where
 size:w.heap.size+3<=w'.heap.size
 old:∀b,b<w.heap.size->w'.heap[b]?=w.heap[b]?
 db:w'.heap[w.heap.size]?=some (.cells #[dv] 109)
 ab:w'.heap[w.heap.size+1]?=some (.cells (Array.replicate N (.slice none 0 0)) 47)
 hb:w'.heap[w.heap.size+2]?=some (.cells #[.slice (some ⟨w.heap.size+1,0,none⟩) N N] 26)
 frow:w'.ownsRow (w.heap.size+3) 68 1 fv n (clsD w.heap.size ob ib n)
 obx:∀i,i<n->w'.heap[ob i]?=some (.cells #[cutV sp L Cp i] 32)
 ibx:∀i,i<n->w'.heap[ib i]?=some (.cells #[.int .i64 i] 3)
 lo:∀i,i<n->w.heap.size+3<=ib i/\ib i<ob i
 inc:∀i i',i<i'->i'<n->ob i<ib i'
theorem zqdc(w:World)(N:Nat)(hN:N<=64):(Instr.makeSlice 26 (.int .i64 N) (.int .i64 N)).run Try.prog w=.ok (.slice (some ⟨w.heap.size,0,none⟩) N N) (w.alloc (.cells (Array.replicate N (.slice none 0 0)) 47)):=by
 obtain⟨ti,hti,hz0,hz1,hz2⟩:∃ti,Try.prog.info? 47=some ti/\ti.zero=some (.slice none 0 0)/\ti.size=1/\ti.bytes=24:=⟨_,rfl,rfl,rfl,rfl⟩;have:=run_make (P:=Try.prog) w 26 47 ti (.slice none 0 0) (by kernel_rfl) hti hz0 .i64 .i64 N N (by omega) (Int.le_refl _) (by rw[hz2];omega) (by omega);simp only[Int.toNat_natCast,hz1,Nat.mul_one]at this;rw[this];congr 3;apply Array.ext_getElem?;intro i
 by_cases hi:i<N
 . simp[madeCells,hi,Nat.mod_one,Value.cells]
 . simp[madeCells,hi]
theorem DRes.start (w:World)(N:Nat)(dv:Value)(sp:Nat->Option Addr)(L Cp:Nat->Nat)(ob ib:Nat->Nat)(H:Nat)(hH:w.heap.size=H):DRes w N dv sp L Cp 0 ob ib (.slice none 0 0) (((w.alloc (.cells #[dv] 109)).alloc (.cells (Array.replicate N (.slice none 0 0)) 47)).alloc (.cells #[.slice (some ⟨H+1,0,none⟩) N N] 26)):=by
 subst hH;refine⟨by simp only[zqd];omega,λb hb=>?_,zqf (zqf (zq12 _ _)),?_,?_,World.ownsRow_nil _ _ _ _,λi hi=>absurd hi (Nat.not_lt_zero _),λi hi=>absurd hi (Nat.not_lt_zero _),λi hi=>absurd hi (Nat.not_lt_zero _),λi i' _ hi=>absurd hi (Nat.not_lt_zero _)⟩
 . rw[zqa,if_neg (by simp only[zqd];omega),zqa,if_neg (by simp only[zqd];omega),zqa,if_neg (by omega)]
 . refine zqf ?_;rw[zqa,if_pos (by simp only[zqd])]
 . rw[zqa,if_pos (by simp only[zqd])]
theorem DRes.of_heap {w:World}{N n:Nat}{dv:Value}{sp:Nat->Option Addr}{L Cp:Nat->Nat}{ob ib:Nat->Nat}{fv:Value}{w' w2:World}(h:DRes w N dv sp L Cp n ob ib fv w')(e:w2.heap=w'.heap):DRes w N dv sp L Cp n ob ib fv w2:=
 ⟨by rw[e];exact h.size,λb hb=>by rw[e];exact h.old b hb,by rw[e];exact h.db,by rw[e];exact h.ab,by rw[e];exact h.hb,zq1x h.frow λg _=>by rw[e],λi hi=>by rw[e];exact h.obx i hi,λi hi=>by rw[e];exact h.ibx i hi,h.lo,h.inc⟩
theorem DRes.next {w:World}{N j:Nat}{dv:Value}{sp:Nat->Option Addr}{L Cp:Nat->Nat}{ob ib:Nat->Nat}{fv:Value}{wr wm w7:World}(h:DRes w N dv sp L Cp j ob ib fv wr){g7 cap7:Nat}(hm:wm.heap=((wr.alloc (.cells #[.int .i64 j] 3)).alloc (.cells #[cutV sp L Cp j] 32)).heap)
 (hown7:w7.ownsRow (w.heap.size+3) 68 1 (.slice (some ⟨g7,0,none⟩) (j+1) cap7) (j+1) (clsD w.heap.size ob ib j++[cloD w.heap.size (wr.heap.size+1) wr.heap.size]))
 (hgrow7:(wm.alloc (.cells #[cloD w.heap.size (wr.heap.size+1) wr.heap.size] 68)).grownBy w7 fv.ownBlock):
 DRes w N dv sp L Cp (j+1) (λi=>if i=j then wr.heap.size+1 else ob i) (λi=>if i=j then wr.heap.size else ib i) (.slice (some ⟨g7,0,none⟩) (j+1) cap7) w7:=by
 have hs:=h.size;have e1:wm.heap.size=wr.heap.size+2:=by rw[hm];simp only[zqd]
 have h7s:wr.heap.size+3<=w7.heap.size:=by have:=hgrow7.size;rw[zqd,e1]at this;omega
 have hnew:∀b o,wm.heap[b]?=some o->fv.ownBlock≠some b->w7.heap[b]?=some o:=λb o hb hne=>by
  have hlt:=zqe hb;rw[hgrow7.block b (by rw[zqd];omega) (λe=>hne e.symm)];exact zqf hb
 have hext:∀b o,wr.heap[b]?=some o->fv.ownBlock≠some b->w7.heap[b]?=some o:=λb o hb hne=>hnew b o (by rw[hm];exact zqf (zqf hb)) hne;have hlow:∀b,b<w.heap.size+3->fv.ownBlock≠some b:=λb hb e=>by have:=(own_lt h.frow e).2.1;omega
 have hfar:∀b c T f,wr.heap[b]?=some (.cells c T f)->T≠68->fv.ownBlock≠some b:=λb c T f hb hT=>zq3h h.frow hb (λe=>hT e.symm);have hbig:∀b,wr.heap.size<=b->fv.ownBlock≠some b:=λb hb e=>by have:=(own_lt h.frow e).2.2;omega
 refine⟨by omega,λb hb=>?_,hext _ _ h.db (hlow _ (by omega)),hext _ _ h.ab (hlow _ (by omega)),hext _ _ h.hb (hlow _ (by omega)),?_,λi hi=>?_,λi hi=>?_,λi hi=>?_,λi i' hi hi'=>?_⟩
 . have hbw:b<wr.heap.size:=by omega
   obtain⟨o,ho⟩:∃o,wr.heap[b]?=some o:=⟨_,Array.getElem?_eq_getElem hbw⟩;rw[hext b o ho (hlow b (by omega)),<-ho];exact h.old b hb
 . unfold clsD;have:(λi=>cloD w.heap.size (if i=j then wr.heap.size+1 else ob i) (if i=j then wr.heap.size else ib i))=λi=>if i=j then cloD w.heap.size (wr.heap.size+1) wr.heap.size else cloD w.heap.size (ob i) (ib i):=by funext i;split<;>rfl
   rw[this,zq7w];exact hown7
 . by_cases e:i=j
   . simp only[e,if_true];refine hnew _ _ ?_ (hbig _ (by omega));rw[hm,zqa,if_pos (by simp only[zqd])]
   . simp only[e,if_false];have:=h.obx i (by omega);exact hext _ _ this (hfar _ _ _ _ this (by decide))
 . by_cases e:i=j
   . simp only[e,if_true];refine hnew _ _ ?_ (hbig _ (by omega));rw[hm];exact zqf (zq12 _ _)
   . simp only[e,if_false];have:=h.ibx i (by omega);exact hext _ _ this (hfar _ _ _ _ this (by decide))
 . by_cases e:i=j
   . simp only[e,if_true];omega
   . simp only[e,if_false];exact h.lo i (by omega)
 . have e:i≠j:=by omega
   simp only[e,if_false]
   by_cases e2:i'=j
   . simp only[e2,if_true];exact zqe (h.obx i (by omega))
   . simp only[e2,if_false];exact h.inc i i' hi (by omega)
theorem zqc3{pp:Option Addr}{n Cn:Nat}{dv:Value}{sp:Nat->Option Addr}{L Cp:Nat->Nat}(hdv:∃f a b,dv=.func f a b)(w:World)(hn:n<=4611686018427387904)(hL:∀i,i<min n 64->L i<=Cp i/\L i<=4611686018427387904/\(sp i=none->L i=0/\Cp i=0))
 (hp:0<n->∃tb to',pp=some ⟨tb,to',none⟩/\∀i,i<min n 64->w.cell? ⟨tb,to'+i,none⟩=some (.slice (sp i) (L i) (Cp i))):
 Calls Try.prog 65 #[.slice pp n Cn,dv] w λe w'=>∃ob ib fv,e=.returned (.tuple #[fv,.slice (some ⟨w.heap.size+1,0,none⟩) (min n 64) (min n 64)])/\DRes w (min n 64) dv sp L Cp (min n 64) ob ib fv w':=by
 obtain⟨fd,fa,fb,rfl⟩:=hdv;have HS:=Lib.hid hp;have HLL:=Lib.hid hL;clear hp hL;obtain⟨N,hN⟩:∃N,min n 64=N:=⟨_,rfl⟩;rw[hN];have hN64:N<=64:=by omega
 have hmk:=λw=>zqdc w N hN64;have hmk64:N=64->∀w,(Instr.makeSlice 26 (.int .i64 64) (.int .i64 64)).run Try.prog w=.ok (.slice (some ⟨w.heap.size,0,none⟩) N N) (w.alloc (.cells (Array.replicate N (.slice none 0 0)) 47)):=λh w=>by
  have:=hmk w;rw[show(N:Int)=64 by omega]at this;exact this
 go_enter Try.func65,Try.ntmps65
 have key:(n<=64/\n=N)\/(¬n<=64/\N=64):=by omega
 have HN:=Lib.hid hN;have hmkn:n=N->∀w,(Instr.makeSlice 26 (.int .i64 n) (.int .i64 n)).run Try.prog w=.ok (.slice (some ⟨w.heap.size,0,none⟩) N N) (w.alloc (.cells (Array.replicate N (.slice none 0 0)) 47)):=λh w=>by
  have:=hmk w;rw[show(N:Int)=(n:Int)by omega]at this;exact this
 rcases key with⟨hc,hN'⟩|⟨hc,hN'⟩
 . have hc':(n:Int)<=64:=by omega
   replace hmkn:=hmkn hN';have e1:(n:Int)=(N:Int):=by omega
   clear hN hmk64 hc hmk;have HE:=Lib.hid e1;clear e1 hN'
   go_wp2_with (fail)
   rw[HE.out];clear hmkn hc';have hP:=Lib.hid (DRes.start w N (.func fd fa fb) sp L Cp (λ_=>0) (λ_=>0) w.heap.size rfl);generalize (((w.alloc (.cells #[.func fd fa fb] 109)).alloc (.cells (Array.replicate N (.slice none 0 0)) 47)).alloc (.cells #[.slice (some ⟨w.heap.size+1,0,none⟩) N N] 26))=w1 at hP |-;generalize hH2:w.heap.size+1+1=H2;generalize hH1:w.heap.size+1=H1;generalize hH:w.heap.size=H at hH1 hH2 |-;have HB:RowKit.Hid (H=w.heap.size/\H1=w.heap.size+1/\H2=w.heap.size+2):=⟨hH.symm,by omega,by omega⟩;clear hH hH1 hH2
   go_loopg [8,17] N (λk t i wr=>∃(jj:Nat)(ob ib:Nat->Nat)(fv:Value),fv=t/\k=N - jj/\jj<=N/\i=.int .i64 jj/\DRes w N (.func fd fa fb) sp L Cp jj ob ib fv wr)
   case atStart=>exact⟨0,_,_,_,rfl,rfl,Nat.zero_le _,rfl,hP.out⟩
   case round=>
    obtain⟨jj,ob,ib,fv,hfv,hk,hj,rfl,hR⟩:=hrel;subst hfv;have HR:=Lib.hid hR;clear hR
    by_cases hlt:jj<N
    . obtain⟨tb,to',rfl,hc⟩:=HS.out (by have:=HN.out;omega);have hcj:=hc jj (by have:=HN.out;omega);have htb:tb<w.heap.size:=cell_lt hcj;have c1:wr.cell? ⟨tb,to'+jj,none⟩=some (.slice (sp jj) (L jj) (Cp jj)):=(zq16 (HR.out.old tb htb)).trans hcj;obtain⟨l1,l2,l3⟩:=HLL.out jj (by have:=HN.out;omega);have hws:=HR.out.size;have hlt':(jj:Int)<(N:Int):=by omega
      have hj0:(0:Int)<=jj:=by omega
      obtain⟨sj,hsj⟩:∃x,sp jj=x:=⟨_,rfl⟩;obtain⟨Lj,hLj⟩:∃x,L jj=x:=⟨_,rfl⟩;obtain⟨Cj,hCj⟩:∃x,Cp jj=x:=⟨_,rfl⟩;rw[hsj,hLj,hCj]at c1;have HX:=Lib.hid (And.intro hsj (And.intro hLj hCj));rw[hsj,hLj,hCj]at l3;rw[hLj,hCj]at l1;rw[hLj]at l2;have hjn:(jj:Int)<(n:Int):=by have:=HN.out;omega
      have HT:=Lib.hid (And.intro htb hws);have HL3:=Lib.hid l3;clear hc hcj hsj hLj hCj l3 htb hws;have C1:=Lib.hid c1;clear c1
      go_wp2_with (fail)
      have hcl:∀W,W=(wr.alloc (.cells #[.int .i64 jj] 3)).drewN 1\/W=((wr.alloc (.cells #[.int .i64 jj] 3)).drewN 1).alloc (.cells #[.slice none 0 0] 32)->W.cell? ⟨tb,to'+jj,none⟩=some (.slice sj Lj Cj)/\W.cell? ⟨wr.heap.size,0,none⟩=some (.int .i64 jj):=by
       have htw:tb<wr.heap.size:=by have:=HT.out;omega
       have k1:((wr.alloc (.cells #[.int .i64 jj] 3)).drewN 1).cell? ⟨tb,to'+jj,none⟩=some (.slice sj Lj Cj):=(zq16 (by show(wr.alloc _).heap[tb]?=_;rw[zqa,if_neg (by omega)])).trans C1.out;have k2:((wr.alloc (.cells #[.int .i64 jj] 3)).drewN 1).heap[wr.heap.size]?=some (.cells #[.int .i64 jj] 3):=zq12 wr _;rintro W (rfl |rfl)
       . exact⟨k1,(zq0 k2).trans rfl⟩
       . exact⟨(zq16 (by rw[zqa,if_neg (by show tb≠(wr.alloc _).heap.size;rw[zqd];omega)])).trans k1,(zq0 (zqf k2)).trans rfl⟩
      have HCL:=Lib.hid hcl;clear hcl;refine zqav (k:=12) (s:=11) (W0:=(wr.alloc (.cells #[.int .i64 jj] 3)).drewN 1) (W1:=((wr.alloc (.cells #[.int .i64 jj] 3)).drewN 1).alloc (.cells #[.slice none 0 0] 32)) (by kernel_rfl) (by kernel_rfl) (by kernel_rfl) (by kernel_rfl) (by decide) [.slice (some ⟨tb,to',none⟩) n Cn,.int .i64 jj,.pointer (some ⟨tb,to'+jj,none⟩),.slice sj Lj Cj,.slice (some ⟨tb,to',none⟩) n Cn,.int .i64 jj,.pointer (some ⟨tb,to'+jj,none⟩),.slice sj Lj Cj,.int .i64 Lj,.int .i64 ((min Lj 65536:Nat):Int),.slice sj (min Lj 65536) Cj,.pointer (some ⟨wr.heap.size+1,0,none⟩)] rfl rfl ?_ ?_ ?_
      . intro i o hi his ho W hWW;obtain⟨q1,q2⟩:=HCL.out W hWW;clear hWW;simp only[putv,dstOf,al_gl,al_g0,al_g1,al_ob,al_g2,List.set_cons_succ,List.set_cons_zero];obtain rfl |rfl |rfl |rfl |rfl |rfl |rfl |rfl |rfl |rfl |rfl:i=0\/i=1\/i=2\/i=3\/i=4\/i=5\/i=6\/i=7\/i=8\/i=9\/i=10:=by omega
        all_goals(simp only[al_gl,al_g0,al_g1,al_oi]at ho;subst ho;refine .inl ?_)
        all_goals(simp only[execOp,Act.eval,al_gd,al_gl,al_g0,al_g1,al_od])
        all_goals(try go_simp)
        . split<;>omega
        . intro h;exfalso;omega
      . intro o ho;simp only[putv,dstOf,al_gl,al_g0,al_g1,al_ob,al_g2,List.set_cons_succ,List.set_cons_zero];simp only[al_gl,al_g0,al_g1,al_oi]at ho;subst ho;refine .inl ?_;simp only[execOp,Act.eval,al_gd,al_gl,al_g0,al_g1,al_od];go_simp
      simp only[putv,dstOf,al_gl,al_g0,al_g1,al_ob,al_g2,List.set_cons_succ,List.set_cons_zero];have hs1:((wr.alloc (.cells #[.int .i64 jj] 3)).drewN 1).heap.size=wr.heap.size+1:=by show(wr.alloc _).heap.size=_;rw[zqd]
      have kb:(((wr.alloc (.cells #[.int .i64 jj] 3)).drewN 1).alloc (.cells #[.slice none 0 0] 32)).heap[wr.heap.size+1]?=some (.cells #[.slice none 0 0] 32):=by rw[zqa,if_pos hs1.symm]
      have d1:=(zq0 (off:=0) kb).trans rfl;have d2:=zqc (off:=0) kb;have hwm:((((wr.alloc (.cells #[.int .i64 jj] 3)).drewN 1).alloc (.cells #[.slice none 0 0] 32)).setCell ⟨wr.heap.size+1,0,none⟩ (.slice sj (min Lj 65536) Cj)).heap=((wr.alloc (.cells #[.int .i64 jj] 3)).alloc (.cells #[cutV sp L Cp jj] 32)).heap:=by
       obtain⟨r1,r2,r3⟩:=HX.out;unfold cutV;rw[r1,r2,r3];apply Array.ext_getElem?;intro b
       by_cases e:b=wr.heap.size+1
       . subst e;rw[zqy _ _ _ _ kb,zqa,if_pos (by rw[zqd])];rfl
       . rw[zqi _ _ _ _ e,zqa,zqa,if_neg (by rw[hs1];exact e),if_neg (by rw[zqd];exact e)];rfl
      clear kb hs1;generalize (((wr.alloc (.cells #[.int .i64 jj] 3)).drewN 1).alloc (.cells #[.slice none 0 0] 32))=wk at d1 d2 hwm |-;have HWM:=Lib.hid hwm;clear hwm;refine zq6e (i:=12) (by kernel_rfl) ?_;simp only[wpOp,al_gl,al_g0,al_g1];rw[if_pos (by rfl)];refine .inl ?_;go_simp;refine zq6d (by kernel_rfl) ?_;obtain⟨wm,hwm⟩:∃wm,wk.setCell ⟨wr.heap.size+1,0,none⟩ (.slice sj (min Lj 65536) Cj)=wm:=⟨_,rfl⟩;have HWM2:=Lib.hid (HWM.out);rw[hwm]at HWM2 |-;clear d1 d2 HWM hwm;obtain⟨tj,htj,hy0,hy1,hy2⟩:∃ti,Try.prog.info? 68=some ti/\ti.zero=some .nilFunc/\ti.size=1/\ti.bytes=8:=⟨_,rfl,rfl,rfl,rfl⟩;have TJ:=Lib.hid (And.intro htj (And.intro hy0 (And.intro hy1 hy2)));clear htj hy0 hy1 hy2;have hrow:wm.ownsRow (w.heap.size+3) 68 1 fv jj (clsD w.heap.size ob ib jj):=zq1x HR.out.frow λg hg=>by
       rw[HWM2.out,zqa,if_neg (by rw[zqd];have:=(own_lt HR.out.frow hg).2.2;omega),zqa,if_neg (by have:=(own_lt HR.out.frow hg).2.2;omega)]
      have HRW:=Lib.hid hrow;clear hrow
      go_wp2_with (at_builtin;go_loud (refine wpList_append_lies _ rfl (.tmp 31) (.tmp 33) 63 rfl (w.heap.size+3) 68 tj .nilFunc 1 8 (by kernel_rfl) TJ.out.1 TJ.out.2.1 TJ.out.2.2.1 TJ.out.2.2.2 rfl (by decide) _ jj (clsD w.heap.size ob ib jj) rfl (zq31 HRW.out _) _ 1 1 [.func (.func 84) #[] #[.pointer (some ⟨wr.heap.size+1,0,none⟩),.pointer (some ⟨H,0,none⟩),.pointer (some ⟨wr.heap.size,0,none⟩),.pointer (some ⟨H2,0,none⟩)]] rfl rfl (zq4u rfl) (by simp[Value.oneCell']) (by decide) (by simp only[maxLen];omega) (by omega) (by rw[zqd,HWM2.out];simp only[zqd];have:=HT.out;omega) _ rfl ?next))
      case next=>
       intro g7 cap7 w7 hown7 hgrow7 hat7 hlt7;have L7:=Lib.hid (And.intro hown7 (And.intro hgrow7 hat7));clear hown7 hgrow7 hat7 hlt7;go_wp2;go_roundg (N - (jj+1))
       case measure=>omega
       case rel=>
        obtain⟨rfl,rfl,rfl⟩:=HB.out;obtain⟨o7,q7,a7⟩:=L7.out;exact⟨jj+1,_,_,_,rfl,rfl,by omega,rfl,HR.out.next HWM2.out o7 q7⟩
    . obtain rfl:jj=N:=by omega
      have ch:=(zq0 (off:=0) HR.out.hb).trans rfl;rw[<-HB.out.2.2,<-HB.out.2.1]at ch
      go_wp2_with (fail)
      go_quiet (fail)
      go_wp2
      go_ret2
      obtain⟨rfl,rfl,rfl⟩:=HB.out;exact⟨ob,ib,fv,rfl,HR.out.of_heap rfl⟩
 . have hc':¬(n:Int)<=64:=by omega
   have hc2:(64:Int)<=(n:Int):=by omega
   have hc3:¬(n:Int)<64:=by omega
   replace hmk64:=hmk64 hN';have e1:(64:Int)=(N:Int):=by omega
   clear hmk hc hN hmkn;have HE:=Lib.hid e1;clear e1 hN'
   go_wp2_with (fail)
   rw[HE.out];clear hmk64 hc' hc2 hc3;have hP:=Lib.hid (DRes.start w N (.func fd fa fb) sp L Cp (λ_=>0) (λ_=>0) w.heap.size rfl);generalize (((w.alloc (.cells #[.func fd fa fb] 109)).alloc (.cells (Array.replicate N (.slice none 0 0)) 47)).alloc (.cells #[.slice (some ⟨w.heap.size+1,0,none⟩) N N] 26))=w1 at hP |-;generalize hH2:w.heap.size+1+1=H2;generalize hH1:w.heap.size+1=H1;generalize hH:w.heap.size=H at hH1 hH2 |-;have HB:RowKit.Hid (H=w.heap.size/\H1=w.heap.size+1/\H2=w.heap.size+2):=⟨hH.symm,by omega,by omega⟩;clear hH hH1 hH2
   go_loopg [8,17] N (λk t i wr=>∃(jj:Nat)(ob ib:Nat->Nat)(fv:Value),fv=t/\k=N - jj/\jj<=N/\i=.int .i64 jj/\DRes w N (.func fd fa fb) sp L Cp jj ob ib fv wr)
   case atStart=>exact⟨0,_,_,_,rfl,rfl,Nat.zero_le _,rfl,hP.out⟩
   case round=>
    obtain⟨jj,ob,ib,fv,hfv,hk,hj,rfl,hR⟩:=hrel;subst hfv;have HR:=Lib.hid hR;clear hR
    by_cases hlt:jj<N
    . obtain⟨tb,to',rfl,hc⟩:=HS.out (by have:=HN.out;omega);have hcj:=hc jj (by have:=HN.out;omega);have htb:tb<w.heap.size:=cell_lt hcj;have c1:wr.cell? ⟨tb,to'+jj,none⟩=some (.slice (sp jj) (L jj) (Cp jj)):=(zq16 (HR.out.old tb htb)).trans hcj;obtain⟨l1,l2,l3⟩:=HLL.out jj (by have:=HN.out;omega);have hws:=HR.out.size;have hlt':(jj:Int)<(N:Int):=by omega
      have hj0:(0:Int)<=jj:=by omega
      obtain⟨sj,hsj⟩:∃x,sp jj=x:=⟨_,rfl⟩;obtain⟨Lj,hLj⟩:∃x,L jj=x:=⟨_,rfl⟩;obtain⟨Cj,hCj⟩:∃x,Cp jj=x:=⟨_,rfl⟩;rw[hsj,hLj,hCj]at c1;have HX:=Lib.hid (And.intro hsj (And.intro hLj hCj));rw[hsj,hLj,hCj]at l3;rw[hLj,hCj]at l1;rw[hLj]at l2;have hjn:(jj:Int)<(n:Int):=by have:=HN.out;omega
      have HT:=Lib.hid (And.intro htb hws);have HL3:=Lib.hid l3;clear hc hcj hsj hLj hCj l3 htb hws;have C1:=Lib.hid c1;clear c1
      go_wp2_with (fail)
      have hcl:∀W,W=(wr.alloc (.cells #[.int .i64 jj] 3)).drewN 1\/W=((wr.alloc (.cells #[.int .i64 jj] 3)).drewN 1).alloc (.cells #[.slice none 0 0] 32)->W.cell? ⟨tb,to'+jj,none⟩=some (.slice sj Lj Cj)/\W.cell? ⟨wr.heap.size,0,none⟩=some (.int .i64 jj):=by
       have htw:tb<wr.heap.size:=by have:=HT.out;omega
       have k1:((wr.alloc (.cells #[.int .i64 jj] 3)).drewN 1).cell? ⟨tb,to'+jj,none⟩=some (.slice sj Lj Cj):=(zq16 (by show(wr.alloc _).heap[tb]?=_;rw[zqa,if_neg (by omega)])).trans C1.out;have k2:((wr.alloc (.cells #[.int .i64 jj] 3)).drewN 1).heap[wr.heap.size]?=some (.cells #[.int .i64 jj] 3):=zq12 wr _;rintro W (rfl |rfl)
       . exact⟨k1,(zq0 k2).trans rfl⟩
       . exact⟨(zq16 (by rw[zqa,if_neg (by show tb≠(wr.alloc _).heap.size;rw[zqd];omega)])).trans k1,(zq0 (zqf k2)).trans rfl⟩
      have HCL:=Lib.hid hcl;clear hcl;refine zqav (k:=12) (s:=11) (W0:=(wr.alloc (.cells #[.int .i64 jj] 3)).drewN 1) (W1:=((wr.alloc (.cells #[.int .i64 jj] 3)).drewN 1).alloc (.cells #[.slice none 0 0] 32)) (by kernel_rfl) (by kernel_rfl) (by kernel_rfl) (by kernel_rfl) (by decide) [.slice (some ⟨tb,to',none⟩) n Cn,.int .i64 jj,.pointer (some ⟨tb,to'+jj,none⟩),.slice sj Lj Cj,.slice (some ⟨tb,to',none⟩) n Cn,.int .i64 jj,.pointer (some ⟨tb,to'+jj,none⟩),.slice sj Lj Cj,.int .i64 Lj,.int .i64 ((min Lj 65536:Nat):Int),.slice sj (min Lj 65536) Cj,.pointer (some ⟨wr.heap.size+1,0,none⟩)] rfl rfl ?_ ?_ ?_
      . intro i o hi his ho W hWW;obtain⟨q1,q2⟩:=HCL.out W hWW;clear hWW;simp only[putv,dstOf,al_gl,al_g0,al_g1,al_ob,al_g2,List.set_cons_succ,List.set_cons_zero];obtain rfl |rfl |rfl |rfl |rfl |rfl |rfl |rfl |rfl |rfl |rfl:i=0\/i=1\/i=2\/i=3\/i=4\/i=5\/i=6\/i=7\/i=8\/i=9\/i=10:=by omega
        all_goals(simp only[al_gl,al_g0,al_g1,al_oi]at ho;subst ho;refine .inl ?_)
        all_goals(simp only[execOp,Act.eval,al_gd,al_gl,al_g0,al_g1,al_od])
        all_goals(try go_simp)
        . split<;>omega
        . intro h;exfalso;omega
      . intro o ho;simp only[putv,dstOf,al_gl,al_g0,al_g1,al_ob,al_g2,List.set_cons_succ,List.set_cons_zero];simp only[al_gl,al_g0,al_g1,al_oi]at ho;subst ho;refine .inl ?_;simp only[execOp,Act.eval,al_gd,al_gl,al_g0,al_g1,al_od];go_simp
      simp only[putv,dstOf,al_gl,al_g0,al_g1,al_ob,al_g2,List.set_cons_succ,List.set_cons_zero];have hs1:((wr.alloc (.cells #[.int .i64 jj] 3)).drewN 1).heap.size=wr.heap.size+1:=by show(wr.alloc _).heap.size=_;rw[zqd]
      have kb:(((wr.alloc (.cells #[.int .i64 jj] 3)).drewN 1).alloc (.cells #[.slice none 0 0] 32)).heap[wr.heap.size+1]?=some (.cells #[.slice none 0 0] 32):=by rw[zqa,if_pos hs1.symm]
      have d1:=(zq0 (off:=0) kb).trans rfl;have d2:=zqc (off:=0) kb;have hwm:((((wr.alloc (.cells #[.int .i64 jj] 3)).drewN 1).alloc (.cells #[.slice none 0 0] 32)).setCell ⟨wr.heap.size+1,0,none⟩ (.slice sj (min Lj 65536) Cj)).heap=((wr.alloc (.cells #[.int .i64 jj] 3)).alloc (.cells #[cutV sp L Cp jj] 32)).heap:=by
       obtain⟨r1,r2,r3⟩:=HX.out;unfold cutV;rw[r1,r2,r3];apply Array.ext_getElem?;intro b
       by_cases e:b=wr.heap.size+1
       . subst e;rw[zqy _ _ _ _ kb,zqa,if_pos (by rw[zqd])];rfl
       . rw[zqi _ _ _ _ e,zqa,zqa,if_neg (by rw[hs1];exact e),if_neg (by rw[zqd];exact e)];rfl
      clear kb hs1;generalize (((wr.alloc (.cells #[.int .i64 jj] 3)).drewN 1).alloc (.cells #[.slice none 0 0] 32))=wk at d1 d2 hwm |-;have HWM:=Lib.hid hwm;clear hwm;refine zq6e (i:=12) (by kernel_rfl) ?_;simp only[wpOp,al_gl,al_g0,al_g1];rw[if_pos (by rfl)];refine .inl ?_;go_simp;refine zq6d (by kernel_rfl) ?_;obtain⟨wm,hwm⟩:∃wm,wk.setCell ⟨wr.heap.size+1,0,none⟩ (.slice sj (min Lj 65536) Cj)=wm:=⟨_,rfl⟩;have HWM2:=Lib.hid (HWM.out);rw[hwm]at HWM2 |-;clear d1 d2 HWM hwm;obtain⟨tj,htj,hy0,hy1,hy2⟩:∃ti,Try.prog.info? 68=some ti/\ti.zero=some .nilFunc/\ti.size=1/\ti.bytes=8:=⟨_,rfl,rfl,rfl,rfl⟩;have TJ:=Lib.hid (And.intro htj (And.intro hy0 (And.intro hy1 hy2)));clear htj hy0 hy1 hy2;have hrow:wm.ownsRow (w.heap.size+3) 68 1 fv jj (clsD w.heap.size ob ib jj):=zq1x HR.out.frow λg hg=>by
       rw[HWM2.out,zqa,if_neg (by rw[zqd];have:=(own_lt HR.out.frow hg).2.2;omega),zqa,if_neg (by have:=(own_lt HR.out.frow hg).2.2;omega)]
      have HRW:=Lib.hid hrow;clear hrow
      go_wp2_with (at_builtin;go_loud (refine wpList_append_lies _ rfl (.tmp 31) (.tmp 33) 63 rfl (w.heap.size+3) 68 tj .nilFunc 1 8 (by kernel_rfl) TJ.out.1 TJ.out.2.1 TJ.out.2.2.1 TJ.out.2.2.2 rfl (by decide) _ jj (clsD w.heap.size ob ib jj) rfl (zq31 HRW.out _) _ 1 1 [.func (.func 84) #[] #[.pointer (some ⟨wr.heap.size+1,0,none⟩),.pointer (some ⟨H,0,none⟩),.pointer (some ⟨wr.heap.size,0,none⟩),.pointer (some ⟨H2,0,none⟩)]] rfl rfl (zq4u rfl) (by simp[Value.oneCell']) (by decide) (by simp only[maxLen];omega) (by omega) (by rw[zqd,HWM2.out];simp only[zqd];have:=HT.out;omega) _ rfl ?next))
      case next=>
       intro g7 cap7 w7 hown7 hgrow7 hat7 hlt7;have L7:=Lib.hid (And.intro hown7 (And.intro hgrow7 hat7));clear hown7 hgrow7 hat7 hlt7;go_wp2;go_roundg (N - (jj+1))
       case measure=>omega
       case rel=>
        obtain⟨rfl,rfl,rfl⟩:=HB.out;obtain⟨o7,q7,a7⟩:=L7.out;exact⟨jj+1,_,_,_,rfl,rfl,by omega,rfl,HR.out.next HWM2.out o7 q7⟩
    . obtain rfl:jj=N:=by omega
      have ch:=(zq0 (off:=0) HR.out.hb).trans rfl;rw[<-HB.out.2.2,<-HB.out.2.1]at ch
      go_wp2_with (fail)
      go_quiet (fail)
      go_wp2
      go_ret2
      obtain⟨rfl,rfl,rfl⟩:=HB.out;exact⟨ob,ib,fv,rfl,HR.out.of_heap rfl⟩
end Go.Proofs
namespace Go.Car
open Go Go.RowKit
section
variable {P:Program} {st:Bool}
theorem zqi3(t:Extern.Atomic.T)(a:Addr):tame P st (Extern.Atomic.read t a):=by
 unfold Extern.Atomic.read
 repeat' (first|with_reducible (first|exact Tm.out|exact zqb _ (λ_=>zq1 (zq9 _) λ_=>zq8 _) _|refine zq4 ?_|refine zq1 ?_ (λ_=>?_))|split|simp only[])
instance (t:Extern.Atomic.T) (a:Addr):Tm P st (Extern.Atomic.read t a):=⟨zqi3 t a⟩
theorem zqa7(t:Extern.Atomic.T)(x:Array Value):tame P true (Extern.Atomic.loadT t x):=by
 unfold Extern.Atomic.loadT;rcases x with⟨_|⟨a,_|⟨b,l⟩⟩⟩
 . exact zq1a _
 rotate_left
 . exact zq1a _
 change tame P true (do Extern.Atomic.read t (<-asAddr a))
 repeat' (first|with_reducible (first|exact Tm.out|exact zqb _ (λ_=>zq1 (zq9 _) λ_=>zq8 _) _|refine zq4 ?_|refine zq1 ?_ (λ_=>?_))|split|simp only[])
theorem zqjw(x:Array Value):tame P true (Extern.Atomic.storeT x):=by
 unfold Extern.Atomic.storeT;rcases x with⟨_|⟨a,_|⟨b,_|⟨c,l⟩⟩⟩⟩
 . exact zq1a _
 . exact zq1a _
 rotate_left
 . exact zq1a _
 change tame P true (do store (<-asAddr a) b .atomic;pure Extern.Atomic.none_)
 repeat' (first|with_reducible (first|exact Tm.out|exact zqb _ (λ_=>zq1 (zq9 _) λ_=>zq8 _) _|refine zq4 ?_|refine zq1 ?_ (λ_=>?_))|split|simp only[])
theorem zqk5(k:IntKind)(b:Bool)(x:Array Value):tame P true (Extern.Atomic.update (Op.intArith .add) k b x):=by
 unfold Extern.Atomic.update;rcases x with⟨_|⟨a,_|⟨y,_|⟨c,l⟩⟩⟩⟩
 . exact zq1a _
 . exact zq1a _
 rotate_left
 . exact zq1a _
 change tame P true (do let a<-asAddr a;let old<-Extern.Atomic.read (.int k) a;let new<-Op.intArith .add k (<-asInt old) (<-asInt y);store a new .atomic;pure (if b then new else old))
 repeat' (first|with_reducible (first|exact Tm.out|exact zqb _ (λ_=>zq1 (zq9 _) λ_=>zq8 _) _|refine zq4 ?_|refine zq1 ?_ (λ_=>?_))|split|simp only[])
theorem zqi1{α:Type}(f:α->Sem Bool)(h:∀a,tame P st (f a))(l:List α):tame P st (l.anyM f):=by
 induction l with
 |nil=>exact zq8 _
 |cons a l ih=>
  rw[List.anyM];refine zq1 (h a) λb=>?_;cases b
  . exact ih
  . exact zq8 _
theorem zqk0(a:Addr):tame P st (Extern.Atomic.touchesFrozen a):=by
 unfold Extern.Atomic.touchesFrozen;refine zq1 (zqan _) λv=>?_;split
 . exact zq64 _
 . refine zq1 (zqaj _) λi=>?_;simp only[];split
   . exact zqak _
   . exact zqi1 _ (λ_=>zq64 _) _
instance (a:Addr):Tm P st (Extern.Atomic.touchesFrozen a):=⟨zqk0 a⟩
theorem zq9n(t:Extern.Atomic.T)(x:Array Value):tame P true (Extern.Atomic.casT t x):=by
 unfold Extern.Atomic.casT;rcases x with⟨_|⟨a,_|⟨b,_|⟨c,_|⟨d,l⟩⟩⟩⟩⟩
 . exact zq1a _
 . exact zq1a _
 . exact zq1a _
 rotate_left
 . exact zq1a _
 change tame P true (asAddr a>>= _)
 repeat' (first|with_reducible (first|exact Tm.out|exact zqb _ (λ_=>zq1 (zq9 _) λ_=>zq8 _) _|refine zq4 ?_|refine zq1 ?_ (λ_=>?_))|split|simp only[])
instance (t:Extern.Atomic.T) (a:Addr):Stdy P (Extern.Atomic.read t a):=⟨by
 unfold Extern.Atomic.read
 repeat' (first|with_reducible (first|exact Stdy.out|refine zq5 ?_|refine zq6 ?_ (λ_=>?_)|refine zq3 ?_ (λ_=>?_))|exact λ_ _=>rfl |split|simp only[])⟩
theorem zq8y(t:Extern.Atomic.T)(x:Array Value):zq2 P (Extern.Atomic.loadT t x):=by
 unfold Extern.Atomic.loadT;rcases x with⟨_|⟨a,_|⟨b,l⟩⟩⟩
 . exact zq14 _
 rotate_left
 . exact zq14 _
 change zq2 P (do Extern.Atomic.read t (<-asAddr a))
 repeat' (first|with_reducible (first|exact Stdy.out|refine zq5 ?_|refine zq6 ?_ (λ_=>?_)|refine zq3 ?_ (λ_=>?_))|exact λ_ _=>rfl |split|simp only[])
theorem zqhc(x:Array Value):zq2 P (Extern.Atomic.storeT x):=by
 unfold Extern.Atomic.storeT;rcases x with⟨_|⟨a,_|⟨b,_|⟨c,l⟩⟩⟩⟩
 . exact zq14 _
 . exact zq14 _
 rotate_left
 . exact zq14 _
 change zq2 P (do store (<-asAddr a) b .atomic;pure Extern.Atomic.none_)
 repeat' (first|with_reducible (first|exact Stdy.out|refine zq5 ?_|refine zq6 ?_ (λ_=>?_)|refine zq3 ?_ (λ_=>?_))|exact λ_ _=>rfl |split|simp only[])
theorem zqhm(k:IntKind)(b:Bool)(x:Array Value):zq2 P (Extern.Atomic.update (Op.intArith .add) k b x):=by
 unfold Extern.Atomic.update;rcases x with⟨_|⟨a,_|⟨y,_|⟨c,l⟩⟩⟩⟩
 . exact zq14 _
 . exact zq14 _
 rotate_left
 . exact zq14 _
 change zq2 P (do let a<-asAddr a;let old<-Extern.Atomic.read (.int k) a;let new<-Op.intArith .add k (<-asInt old) (<-asInt y);store a new .atomic;pure (if b then new else old))
 repeat' (first|with_reducible (first|exact Stdy.out|refine zq5 ?_|refine zq6 ?_ (λ_=>?_)|refine zq3 ?_ (λ_=>?_))|exact λ_ _=>rfl |split|simp only[])
theorem zqf4{α:Type}(f:α->Sem Bool)(h:∀a,zq2 P (f a))(l:List α):zq2 P (l.anyM f):=by
 induction l with
 |nil=>exact zq1c _
 |cons a l ih=>
  rw[List.anyM];refine zq3 (h a) λb=>?_;cases b
  . exact ih
  . exact zq1c _
theorem zqhf(a:Addr):zq2 P (Extern.Atomic.touchesFrozen a):=by
 unfold Extern.Atomic.touchesFrozen;refine zq3 (zq9c _) λv=>?_;split
 . exact zq61 _
 . refine zq3 (zq9b _) λi=>?_;simp only[];split
   . exact zq14 _
   . exact zqf4 _ (λ_=>zq61 _) _
instance (a:Addr):Stdy P (Extern.Atomic.touchesFrozen a):=⟨zqhf a⟩
instance (a b:Option Addr):Stdy P (samePointer a b):=⟨zq95 a b⟩
theorem zq8o(t:Extern.Atomic.T)(x:Array Value):zq2 P (Extern.Atomic.casT t x):=by
 unfold Extern.Atomic.casT;rcases x with⟨_|⟨a,_|⟨b,_|⟨c,_|⟨d,l⟩⟩⟩⟩⟩
 . exact zq14 _
 . exact zq14 _
 . exact zq14 _
 rotate_left
 . exact zq14 _
 change zq2 P (asAddr a>>= _)
 repeat' (first|with_reducible (first|exact Stdy.out|refine zq5 ?_|refine zq6 ?_ (λ_=>?_)|refine zq3 ?_ (λ_=>?_))|exact λ_ _=>rfl |split|simp only[])
end
def okTxt(P:Program)(A:FuncId->Bool)(f:FuncId):Bool:=
 match P.funcs[f]? with
 |some fn=>(match fn.body with|some c=>(fn.name== "runtime.NumGoroutine")==false&&zqq P A c|none=>false)
 |none=>false
theorem zq83{P:Program}{A:FuncId->Bool}{f:FuncId}(h:okTxt P A f=true):okFn P A f/\∃fn c,P.funcs[f]?=some fn/\fn.body=some c:=by
 unfold okTxt at h;cases h1:P.funcs[f]? with
 |none=>rw[h1]at h;cases h
 |some fn=>
  rw[h1]at h;cases h2:fn.body with
  |none=>simp only[h2]at h;cases h
  |some c=>
   simp only[h2,Bool.and_eq_true,beq_iff_eq]at h;exact⟨.text fn c h1 h2 h.1 h.2,fn,c,rfl,h2⟩
def okRow(P:Program)(f:FuncId):Prop:=∃fn e,P.funcs[f]?=some fn/\fn.body=none/\(fn.name== "runtime.NumGoroutine")=false/\Extern.findNext fn=none/\Extern.find fn=some e/\(∀args,tame P true (e args))/\∀args,zq2 P (e args)
def noRdy(P:Program):Bool:=P.funcs.toList.all λf=>match f.body with|some c=>(readies c).isEmpty|none=>true
theorem zqdg{P:Program}(h:noRdy P=true)(g:Nat):P.stepOf g=none:=by
 unfold Program.stepOf;rw[Array.findIdx?_eq_none_iff];intro f hf;unfold noRdy at h;rw[List.all_eq_true]at h;have:=h f (by simpa using hf);cases hb:f.body with
 |none=>rfl
 |some c=>rw[hb]at this;simp only[List.isEmpty_iff]at this;simp[this]
theorem zq5s{P:Program}{L R:List FuncId}(h:L.all (okTxt P (λf=>L.contains f || R.contains f))=true)(hR:∀f,f∈R->okRow P f)(he:P.follows .staticDataAhead=true)(hn:noRdy P=true):
 Plain P (λf=>L.contains f || R.contains f)/\RowsS P (λf=>L.contains f || R.contains f):=by
 rw[List.all_eq_true]at h;refine⟨⟨λf hf=>?_,he,zqdg hn⟩,λf hf fn e h1 h2 h3 args=>?_⟩
 . simp only[Bool.or_eq_true,List.contains_iff_mem]at hf;rcases hf with hf|hf
   . exact(zq83 (h f hf)).1
   . obtain⟨fn,e,k1,k2,k3,k4,k5,k6,_⟩:=hR f hf;exact .row fn e k1 k2 k3 k4 k5 k6
 . simp only[Bool.or_eq_true,List.contains_iff_mem]at hf;rcases hf with hf|hf
   . obtain⟨_,fn',c,k1,k2⟩:=zq83 (h f hf);rw[k1]at h1;cases h1;rw[k2]at h2;cases h2
   . obtain⟨fn',e',k1,k2,k3,k4,k5,k6,k7⟩:=hR f hf;rw[k1]at h1;cases h1;rw[k5]at h3;cases h3;exact k7 args
end Go.Car
namespace Go.Proofs
open Go Go.Conc Go.RowKit Go.Car
def aLD:List FuncId:=[65]
def aRD:List FuncId:=[]
def aMD(f:FuncId):Bool:=aLD.contains f || aRD.contains f
theorem plain_rowsD:Plain Try.prog aMD/\RowsS Try.prog aMD:=by
 refine zq5s (by kernel_rfl) (λf hf=>?_) (by kernel_rfl) (by kernel_rfl);exact absurd hf (List.not_mem_nil)
theorem zq5r:Plain Try.prog aMD:=plain_rowsD.1
end Go.Proofs
namespace Go.Proofs
open Go Go.Conc Go.RowKit Go.Car
open Go.ConcN (upd upd_ne upd_same)
@[go_sem] theorem buildE (w : World) : (Instr.build 37 #[]).run Try.prog w = .ok (.agg #[]) w := run_build w 37 _ _ (by kernel_rfl)
structure StepW(st bT back pass:Nat)(w:World):Prop where
 gate:w.cell? ⟨st,0,none⟩=some (.pointer (some ⟨bT,0,none⟩))
 back:w.cell? ⟨bT,0,none⟩=some (.chan (some back))
 pass:w.cell? ⟨st,1,none⟩=some (.chan (some pass))
def bN(f:FuncId):Frame:={(default:Frame)with fn:=f,kind:=.normal}
def zq47(st bT back pass:Nat)(c:Frame)(cs:List Frame)(g:Goroutine):Prop:=
 ∀(p:Bool)(Kc:Addr->Option Value)(J:Goroutine->World->Prop),JX Try.prog Kc J->∀w,StepW st bT back pass w->
  J (if p=true then G (c.finish (.tuple #[])) cs else G (c.raise [{v:=.iface 188 (.agg #[.iface 136 (.pointer (some ⟨bT,0,none⟩))]),recovered:=false}]) cs) w->J (Conc.served g (.bool p)) w
theorem zqhq{Fin:Machine->Trace->Prop}(hFin:Back Try.prog Fin){Kc:Addr->Option Value}{Inb:Nat->Option Seat}{j n:Nat}{st bT back pass:Nat}{c:Frame}{cs:List Frame}{w:World}(hw:StepW st bT back pass w)
 (hj:0≠j) (hn:0<n) {zb:Value} {okb:Bool} {homeb:Goroutine->Prop} (h0:Inb 0=some (Seat.one back zb okb homeb))
 (hKp:Kc ⟨st,1,none⟩=some (.chan (some pass))) (hfresh:∀i s,i≠j->Inb i=some s->¬s.has pass) (hpass:∃cap k,w.heap[pass]?=some (.chan cap #[] false k k false))
 (hnext:∀g₂ k cap,homeb g₂->w.heap[back]?=some (.chan cap #[] false k k false)->
  HoldR Try.prog Fin Kc (upd Inb j (some (Seat.one pass (.bool false) false (zq47 st bT back pass c cs)))) 0 n (Conc.served g₂ (recvd okb (.agg #[]) true)) (w.setChan back cap #[] false (k+1) (k+1) false)):
 HoldR Try.prog Fin Kc Inb j n (G (Frame.enter Try.prog 130 #[.pointer (some ⟨st,0,none⟩)] .normal) (c::cs)) w:=by
 have hJ:=zq3c hFin Kc Inb j n;have e:Frame.enter Try.prog 130 #[.pointer (some ⟨st,0,none⟩)] .normal=(bN 130).at (zqk Try.f130 #[.pointer (some ⟨st,0,none⟩)]) [.code ((Try.f130.body).getD .skip)]:=rfl;rw[e];simp only[Try.f130,zqk,al_od,List.size_toArray,List.length_cons,List.length_nil,Nat.reduceAdd,Nat.reduceSub,Array.replicate_succ,Array.replicate_zero,List.push_toArray,List.append_toArray,List.nil_append,List.cons_append];refine hJ.ctl (s:=()) (λw=>stepG_seq) ?_;refine hJ.ctl (s:=()) (λw=>stepG_region) ?_;refine at_mid (J:=λ(_:Unit)=>HoldR Try.prog Fin Kc Inb j n) (s:=()) (by decide) hJ (zqn _) true (.inl rfl) 0 8 1 rfl (by rfl) ?_;intro τ d;obtain⟨h1,h2,h3⟩:=hw;simp only[List.drop_zero,List.take_succ_cons,List.take_zero];go_wp2;simp only[zqg];refine hJ.re' () _ w τ d ?_;refine zq5h hFin hj hn h0 rfl (zq5x (c:=back) (v:=.agg #[]) (z':=.tuple #[]) rfl rfl (by decide) (λw=>by simp[execOp,scase,Act.eval]) (λw=>by simp[go_sem,execOp,Act.eval]) w) (by simp)
  (.sits pass (.bool false) false (zq47 st bT back pass c cs) hfresh hpass ⟨st+1,10,.inl ⟨9,w,rfl,?_⟩⟩) hnext
 rw[served_fr,Frame.finish_at]
 walk_nrm
 simp only[List.range'_zero]
 k_c stepG_region_end
 k_c stepG_seq
 k_reg
 iterate 3 (k_in;refine goes_oper_k rfl rfl (by decide) (λK hK=>?_);go_simp;refine hK _ _ ⟨⟨rfl,λe he=>by(have hm:=mem_listed he;simp[go_sem]at hm)⟩,?_⟩;clear hK K)
 k_ld [(h₁ _ _ hKp).1,(h₁ _ _ hKp).2] ⟨_,_,rfl,hKp⟩
 refine Goes.stop λ_ _=>⟨_,atIn_of (s:=Seat.one pass (.bool false) false (zq47 st bT back pass c cs)) rfl rfl (by decide) (λw=>by simp[go_sem,execOp,rcase,Act.eval,Seat.one]) (λw=>by simp[go_sem,execOp,Act.eval]) ?_⟩;intro p Kc' J hJ' w hw hgo;obtain⟨h1,h2,h3⟩:=hw;rw[served_fr,Frame.finish_at]
 walk_nrm
 refine zqo (J:=λ(_:Unit)=>J) (s:=()) (by decide) hJ' (zqn _) true (.inl rfl) 5 1 0 rfl rfl rfl (by rfl) ?_;intro τ d;simp only[List.drop_zero,List.drop_succ_cons,List.take_succ_cons,List.take_zero];go_wp2;simp only[zqg];refine hJ'.re' () _ w τ d ?_;simp only[List.range'_zero];refine hJ'.ctl (s:=()) (λw=>stepG_region_end) ?_;refine hJ'.ctl (s:=()) (λw=>stepG_cond (t:=!p) rfl) ?_;cases p with
 |true=>
  simp only[Bool.not_true,Bool.false_eq_true,if_false,if_true]at hgo |-;refine hJ'.ctl (s:=()) (λw=>stepG_skip) ?_;refine hJ'.ctl (s:=()) (λw=>stepG_end) ?_;exact zq1v (s:=()) hJ' rfl rfl Try.func130 (λτ d=>by simp[results,Try.f130]) hgo
 |false=>
  simp only[Bool.not_false,if_true,Bool.false_eq_true,if_false]at hgo |-;refine hJ'.ctl (s:=()) (λw=>stepG_region) ?_;refine zqo (J:=λ(_:Unit)=>J) (s:=()) (by decide) hJ' (zqn _) true (.inl rfl) 0 7 1 rfl rfl rfl (by rfl) ?_;intro τ d;simp only[List.drop_zero,List.drop_succ_cons,List.take_succ_cons,List.take_zero];go_wp2;simp only[zqg];refine hJ'.re' () _ w τ d ?_;refine at_panic (J:=λ(_:Unit)=>J) (s:=()) (by decide) hJ' rfl rfl (v:=.iface 188 (.agg #[.iface 136 (.pointer (some ⟨bT,0,none⟩))])) (λw=>?_) (λw=>?_) λtodo=>raiseJ (s:=()) hJ' (b:=bN 130) rfl Try.func130 hgo
  . simp[go_sem,execOp,Act.eval,Instr.panic]
  . simp[go_sem,execOp,Act.eval,Instr.panic]
@[go_sem] theorem zeroE (w : World) : (zeroValue 37).run Try.prog w = .ok (.agg #[]) w := by kernel_rfl
def JM(P:Program)(Kc:Addr->Option Value)(J:Goroutine->World->Prop):Prop:=JS P true Kc (λ(_:Unit)=>J)
def AtLet(c:Frame)(cs:List Frame)(g:Goroutine):Prop:=
 ∀(Kc:Addr->Option Value)(J:Goroutine->World->Prop),JM Try.prog Kc J->∀w,J (G (c.finish (.tuple #[])) cs) w->J (Conc.served g (.agg #[])) w
theorem zq7p{Fin:Machine->Trace->Prop}(hFin:Back Try.prog Fin){Kc:Addr->Option Value}{Inb:Nat->Option Seat}{j n:Nat}{bT bS N cap i st back pass:Nat}{p:Bool}{c:Frame}{cs:List Frame}{w:World}
 (h1:w.cell? ⟨bT,1,none⟩=some (.slice (some ⟨bS,0,none⟩) N cap)) (hi:i<N) (h2:w.cell? ⟨bS,i,none⟩=some (.pointer (some ⟨st,0,none⟩))) (h3:w.cell? ⟨st,1,none⟩=some (.chan (some pass)))
 (hj:j≠0) (hn:j<n) {homej:Goroutine->Prop} (h0:Inb j=some (Seat.one pass (.bool false) false homej))
 (hKb:Kc ⟨bT,0,none⟩=some (.chan (some back))) (hfresh:∀i s,i≠0->Inb i=some s->¬s.has back) (hback:∃cap k,w.heap[back]?=some (.chan cap #[] false k k false))
 (hnext:∀g₂ k cap,homej g₂->w.heap[pass]?=some (.chan cap #[] false k k false)->
  HoldR Try.prog Fin Kc (upd Inb 0 (some (Seat.one back (.agg #[]) false (AtLet c cs)))) j n (Conc.served g₂ (.bool p)) (w.setChan pass cap #[] false (k+1) (k+1) false)):
 HoldR Try.prog Fin Kc Inb 0 n (G (Frame.enter Try.prog 54 #[.pointer (some ⟨bT,0,none⟩),.int .i64 i,.bool p] .normal) (c::cs)) w:=by
 have hJ:=zq3c hFin Kc Inb 0 n;have e:Frame.enter Try.prog 54 #[.pointer (some ⟨bT,0,none⟩),.int .i64 i,.bool p] .normal=(bN 54).at (zqk Try.f54 #[.pointer (some ⟨bT,0,none⟩),.int .i64 i,.bool p]) [.code ((Try.f54.body).getD .skip)]:=rfl;rw[e];simp only[Try.f54,zqk,al_od,List.size_toArray,List.length_cons,List.length_nil,Nat.reduceAdd,Nat.reduceSub,Array.replicate_succ,Array.replicate_zero,List.push_toArray,List.append_toArray,List.nil_append,List.cons_append];refine hJ.ctl (s:=()) (λw=>stepG_seq) ?_;refine hJ.ctl (s:=()) (λw=>stepG_region) ?_;refine zqo (J:=λ(_:Unit)=>HoldR Try.prog Fin Kc Inb 0 n) (s:=()) (by decide) hJ (zqn _) true (.inl rfl) 0 11 1 rfl rfl rfl (by rfl) ?_;intro τ d;simp only[List.drop_zero,List.take_succ_cons,List.take_zero];have hi':(i:Int)<N:=by omega
 have hi0:(0:Int)<=i:=by omega
 go_wp2;simp only[zqg];refine hJ.re' () _ w τ d ?_;refine zq5h hFin hj hn h0 rfl (zq5x (c:=pass) (v:=.bool p) (z':=.tuple #[]) rfl rfl (by decide) (λw=>by simp[execOp,scase,Act.eval]) (λw=>by simp[go_sem,execOp,Act.eval]) w) (by simp)
  (.sits back (.agg #[]) false (AtLet c cs) hfresh hback ⟨bT+1,10,.inl ⟨9,w,rfl,?_⟩⟩) hnext
 rw[served_fr,Frame.finish_at]
 walk_nrm
 simp only[List.range'_zero]
 k_c stepG_region_end
 k_reg
 iterate 3 (k_in;refine goes_oper_k rfl rfl (by decide) (λK hK=>?_);go_simp;refine hK _ _ ⟨⟨rfl,λe he=>by(have hm:=mem_listed he;simp[go_sem]at hm)⟩,?_⟩;clear hK K)
 k_ld [(h₁ _ _ hKb).1,(h₁ _ _ hKb).2] ⟨_,_,rfl,hKb⟩
 refine Goes.stop λ_ _=>⟨_,atIn_of (s:=Seat.one back (.agg #[]) false (AtLet c cs)) rfl rfl (by decide) (λw=>by simp[go_sem,execOp,rcase,Act.eval,Seat.one]) (λw=>by simp[go_sem,execOp,Act.eval]) ?_⟩;intro Kc' J hJ' w hgo;rw[served_fr,Frame.finish_at]
 walk_nrm
 refine hJ'.ctl (s:=()) (λw=>stepG_region_end) ?_;refine hJ'.ctl (s:=()) (λw=>stepG_end) ?_;exact zq1v (s:=()) hJ' rfl rfl Try.func54 (λτ d=>by simp[results,Try.f54]) hgo
noncomputable def bot:Frame:=botF Try.prog
def zq2v(bT i:Nat)(tv:Value):Deferred:={target:=.fn (.func 52) #[],args:=#[.pointer (some ⟨bT,0,none⟩),.int .i64 i,tv]}
theorem born_run(bT i:Nat)(tv:Value)(w:World):stepG Try.prog false (born Try.prog (zq2v bT i tv)) w=
 .go (G ((baseD 52).at (zqk Try.f52 #[.pointer (some ⟨bT,0,none⟩),.int .i64 i,tv]) [.code (Try.f52.body.getD .skip)]) [bot]) w #[]:=by
 simp[born,zq2v,stepG,unwind,callDeferred,invoke,callFunc,Try.func52,Try.f52,seen,GStep.after,G,Frame.enter,Frame.at,baseD,bot,botF,zqk]
structure RunW(n bT i:Nat)(whole:Bool)(w:World):Prop where
 t:w.heap[n]?=some (.cells #[.pointer (some ⟨bT,0,none⟩)] 136)
 i:w.heap[n+1]?=some (.cells #[.int .i64 i] 3)
 whole:w.heap[n+2]?=some (.cells #[.bool whole] 4)
def run1(n:Nat):Deferred:={target:=.fn (.func 74) #[.pointer (some ⟨n,0,none⟩),.pointer (some ⟨n+2,0,none⟩),.pointer (some ⟨n+1,0,none⟩)],args:=#[]}
noncomputable def runAt(n bT i:Nat)(tv:Value)(todo:List Item):Frame:=
 (baseD 52).at ⟨#[.pointer (some ⟨bT,0,none⟩),.int .i64 i,tv,.pointer (some ⟨n,0,none⟩),.pointer (some ⟨n+1,0,none⟩),undef,.pointer (some ⟨n+2,0,none⟩),.func (.func 74) #[] #[.pointer (some ⟨n,0,none⟩),.pointer (some ⟨n+2,0,none⟩),.pointer (some ⟨n+1,0,none⟩)],undef,undef,undef,undef,undef,undef,undef,undef,undef,undef,undef,undef],[run1 n]⟩ todo
noncomputable def zq43:Code:=match Try.f52.body with|some (.seq _ (.seq _ (.seq _ c)))=>c|_=>.skip
theorem zqem{Kc:Addr->Option Value}{J:Goroutine->World->Prop}(hJ:JX Try.prog Kc J){bT i:Nat}{tv:Value}{w:World}
 (hK:∀a v,Kc a=some v->a.block<w.heap.size)
 (hnext:∀w',RunW w.heap.size bT i false w'->w'.heap.size=w.heap.size+3->(∀b,b<w.heap.size->w'.heap[b]?=w.heap[b]?)->J (G (runAt w.heap.size bT i tv [.code zq43]) [bot]) w'):J (born Try.prog (zq2v bT i tv)) w:=by
 refine hJ.step () _ w rfl λτ d=>⟨_,_,#[],born_run bT i tv _,OkD.refl _ _ _,by simp,?_⟩;refine hJ.re' () _ w τ d ?_;simp only[Try.f52,zqk,al_od,List.size_toArray,List.length_cons,List.length_nil,Nat.reduceAdd,Nat.reduceSub,Array.replicate_succ,Array.replicate_zero,List.push_toArray,List.append_toArray,List.nil_append,List.cons_append];refine hJ.ctl (s:=()) (λw=>stepG_seq) ?_;refine hJ.ctl (s:=()) (λw=>stepG_region) ?_;refine zqo (J:=λ(_:Unit)=>J) (s:=()) (by decide) hJ (zqn _) true (.inl rfl) 0 2 0 rfl rfl rfl (by rfl) ?_;intro τ d;simp only[List.drop_zero,List.drop_succ_cons,List.take_succ_cons,List.take_zero];go_wp2;simp only[zqg,zq3z];refine hJ.re' () _ _ τ d ?_;simp only[List.range'_zero];refine hJ.ctl (s:=()) (λw=>stepG_region_end) ?_;refine hJ.ctl (s:=()) (λw=>stepG_seq) ?_;refine hJ.ctl (s:=()) (λw=>stepG_region) ?_;refine zqo (J:=λ(_:Unit)=>J) (s:=()) (by decide) hJ (zqn _) true (.inl rfl) 0 1 1 rfl rfl rfl (by rfl) ?_;intro τ d;simp only[List.drop_zero,List.drop_succ_cons,List.take_succ_cons,List.take_zero];go_wp2;simp only[zqg,zq3z];refine hJ.re' () _ _ τ d ?_;generalize hw1:(((w.alloc (Obj.cells #[Value.pointer (some {block:=bT,off:=0})] 136)).alloc (Obj.cells #[Value.int IntKind.i64 i] 3))).alloc (Obj.cells #[Value.bool false] 4)=w1;have f0:w1.heap[w.heap.size]?=some (.cells #[.pointer (some ⟨bT,0,none⟩)] 136):=by subst hw1;simp only[zqa,zqd];rw[if_neg (by omega),if_neg (by omega),if_pos trivial]
 have f1:w1.heap[w.heap.size+1]?=some (.cells #[.int .i64 i] 3):=by subst hw1;simp only[zqa,zqd];rw[if_neg (by omega),if_pos trivial]
 have f2:w1.heap[w.heap.size+1+1]?=some (.cells #[.bool false] 4):=by subst hw1;simp only[zqa,zqd];rw[if_pos trivial]
 have f3:w1.heap.size=w.heap.size+3:=by subst hw1;simp only[zqd]
 have f4:∀b,b<w.heap.size->w1.heap[b]?=w.heap[b]?:=λb hb=>by subst hw1;simp only[zqa,zqd];rw[if_neg (by omega),if_neg (by omega),if_neg (by omega)]
 refine zq2g (J:=λ(_:Unit)=>J) (s:=()) (i:=1) (rest:=[]) (by decide) hJ rfl rfl (ad:=⟨w.heap.size+1+1,0,none⟩) rfl (λj _=>zq4m (λy hy=>?_) j) ⟨_,_,_,f2⟩ ?_
 . cases hky:Kc y with
   |none=>rfl
   |some v=>have:=hK y v hky;have hy':y.block=w.heap.size+1+1:=hy;omega
 intro τ d;have g1:w1.cell? ⟨w.heap.size+1+1,0,none⟩=some (.bool false):=by exact(zq0 f2).trans rfl
 have g2:w1.frozen? ⟨w.heap.size+1+1,0,none⟩=false:=zqc f2;go_wp2;simp only[zqg,zq21];refine hJ.re' () _ _ τ d ?_;have g3:=zqy w1 (w.heap.size+1+1) 0 (Value.bool false) f2;have g4:∀b,b≠w.heap.size+1+1->(w1.setCell ⟨w.heap.size+1+1,0,none⟩ (.bool false)).heap[b]?=w1.heap[b]?:=λb hb=>zqi _ _ _ _ hb;have g5:(w1.setCell ⟨w.heap.size+1+1,0,none⟩ (.bool false)).heap.size=w.heap.size+3:=by rw[zq13,f3]
 generalize w1.setCell ⟨w.heap.size+1+1,0,none⟩ (.bool false)=w2 at g3 g4 g5 |-;refine hJ.ctl (s:=()) (λw=>stepG_region_end) ?_;refine hJ.ctl (s:=()) (λw=>stepG_seq) ?_;refine hJ.ctl (s:=()) (λw=>stepG_region) ?_;refine zqo (J:=λ(_:Unit)=>J) (s:=()) (by decide) hJ (zqn _) true (.inl rfl) 0 1 1 rfl rfl rfl (by rfl) ?_;intro τ d;simp only[List.drop_zero,List.drop_succ_cons,List.take_succ_cons,List.take_zero];go_wp2;simp only[zqg,zq3z];refine hJ.re' () _ _ τ d ?_;refine at_defer (J:=λ(_:Unit)=>J) (s:=()) (i:=1) (rest:=[]) (d:=run1 w.heap.size) (by decide) hJ rfl rfl (λw=>by simp[go_sem,execOp,Act.eval,run1]) (λw=>by simp[go_sem,execOp,Act.eval]) ?_;refine hJ.ctl (s:=()) (λw=>stepG_region_end) ?_;refine hnext w2 ⟨?_,?_,g3⟩ g5 λb hb=>?_
 . rw[g4 _ (by omega)];exact f0
 . rw[g4 _ (by omega)];exact f1
 . rw[g4 _ (by omega)];exact f4 b hb
@[go_sem] theorem neq_func (f : Fn) (a b : Array Value) (w : World) : (binOp .neq 68 (.func f a b) .nilFunc).run Try.prog w = .ok (.bool true) w := by rfl
@[go_sem] theorem neq_nil (w : World) : (binOp .neq 68 .nilFunc .nilFunc).run Try.prog w = .ok (.bool false) w := by rfl
structure StandW(bT bS N cap i st:Nat)(w:World):Prop where
 stands:w.cell? ⟨bT,1,none⟩=some (.slice (some ⟨bS,0,none⟩) N cap)
 lt:i<N
 stand:w.cell? ⟨bS,i,none⟩=some (.pointer (some ⟨st,0,none⟩))
noncomputable def zq32(n bT bS N cap i st:Nat)(tv:Value)(todo:List Item):Frame:=
 (baseD 52).at ⟨#[.pointer (some ⟨bT,0,none⟩),.int .i64 i,tv,.pointer (some ⟨n,0,none⟩),.pointer (some ⟨n+1,0,none⟩),undef,.pointer (some ⟨n+2,0,none⟩),.func (.func 74) #[] #[.pointer (some ⟨n,0,none⟩),.pointer (some ⟨n+2,0,none⟩),.pointer (some ⟨n+1,0,none⟩)],
  tv,.bool true,tv,.pointer (some ⟨bT,0,none⟩),.pointer (some ⟨bT,0,none⟩),.pointer (some ⟨bT,1,none⟩),.slice (some ⟨bS,0,none⟩) N cap,.int .i64 i,.pointer (some ⟨bS,i,none⟩),.pointer (some ⟨st,0,none⟩),.iface 141 (.pointer (some ⟨st,0,none⟩)),undef],[run1 n]⟩ todo
noncomputable def ops4:Array Oper:=match Try.f52.body with|some (.seq _ (.seq _ (.seq _ (.seq (.seq _ (.cond _ (.region _ ops _) _)) _))))=>ops|_=>#[]
noncomputable def code5:Code:=match Try.f52.body with|some (.seq _ (.seq _ (.seq _ (.seq _ c))))=>c|_=>.skip
theorem zqei{Kc:Addr->Option Value}{J:Goroutine->World->Prop}(hJ:JX Try.prog Kc J){n bT bS N cap i st:Nat}{f:FuncId}{fn:Func}{c:Code}{first caps:Array Value}{w:World}
 (hf:Try.prog.funcs[f]?=some fn) (hb:fn.body=some c) (hnm:(fn.name== "runtime.NumGoroutine")=false)
 (hR:RunW n bT i false w) (hS:StandW bT bS N cap i st w)
 (hnext:J (G (Frame.enter Try.prog f (first++#[.iface 141 (.pointer (some ⟨st,0,none⟩))]++caps) .normal) [zq32 n bT bS N cap i st (.func (.func f) first caps) [.inRegion ops4 [9],.code code5],bot]) w):
 J (G (runAt n bT i (.func (.func f) first caps) [.code zq43]) [bot]) w:=by
 obtain⟨r1,r2,r3⟩:=hR;obtain⟨s1,s2,s3⟩:=hS;simp only[runAt,zq43,Try.f52];refine hJ.ctl (s:=()) (λw=>stepG_seq) ?_;refine hJ.ctl (s:=()) (λw=>stepG_seq) ?_;refine hJ.ctl (s:=()) (λw=>stepG_region) ?_;refine zqo (J:=λ(_:Unit)=>J) (s:=()) (by decide) hJ (zqn _) true (.inl rfl) 0 2 0 rfl rfl rfl (by rfl) ?_;intro τ d;simp only[List.drop_zero,List.drop_succ_cons,List.take_succ_cons,List.take_zero];go_wp2;simp only[zqg];refine hJ.re' () _ _ τ d ?_;refine hJ.ctl (s:=()) (λw=>stepG_region_end) ?_;refine hJ.ctl (s:=()) (λw=>stepG_cond (t:=true) rfl) ?_;simp only[if_true];refine zq4c (J:=λ(_:Unit)=>J) (s:=()) hJ (by decide) (by rfl) [.func (.func f) first caps,.pointer (some ⟨bT,0,none⟩),.pointer (some ⟨bT,0,none⟩),.pointer (some ⟨bT,1,none⟩),.slice (some ⟨bS,0,none⟩) N cap,.int .i64 i,.pointer (some ⟨bS,i,none⟩),.pointer (some ⟨st,0,none⟩),.iface 141 (.pointer (some ⟨st,0,none⟩))] (by kernel_rfl) ?_ ?_
 . intro τ d;have hi':(i:Int)<N:=by omega
   have hi0:(0:Int)<=i:=by omega
   have c1:=(zq0 (off:=0) r1).trans rfl;have c2:=(zq0 (off:=0) r2).trans rfl;have z1:w.frozen? ⟨n,0,none⟩=false:=zqc r1;simp only[evals,putv,dstOf,al_gl,al_g0,al_g1,al_ob,al_g2,List.set_cons_succ,List.set_cons_zero];refine⟨?_,?_,?_,?_,?_,?_,?_,?_,?_,trivial⟩<;>(intro o ho;simp only[al_oi]at ho;subst ho)
   all_goals(simp only[execOp,Act.eval,al_gd,al_gl,al_g0,al_g1,al_od])
   all_goals(try go_simp)
 . simp only[putv,dstOf,al_gl,al_g0,al_g1,al_ob,al_g2,List.set_cons_succ,List.set_cons_zero,Nat.reduceAdd,Nat.zero_add,List.length_cons,List.length_nil];refine zq1q (J:=λ(_:Unit)=>J) (s:=()) (by decide) hJ rfl rfl (f:=f) (args:=first++#[.iface 141 (.pointer (some ⟨st,0,none⟩))]++caps) (λτ d=>?_) (λτ d=>?_) ?_
   . have hnm':¬fn.name= "runtime.NumGoroutine" :=by simpa using hnm
     simp[go_sem,execOp,Act.eval,resolve,Deferred.ofValue,invoke,callFunc,hf,hb,hnm']
   . have hnm':¬fn.name= "runtime.NumGoroutine" :=by simpa using hnm
     intro e he;simp[go_sem,execOp,Act.eval,resolve,Deferred.ofValue,invoke,callFunc,hf,hb,hnm',Sem.runT_eq]at he
   . exact hnext
theorem zqax(w:World):(Instr.typeAssert .nilIface 20 188 true).run Try.prog w=.ok (.tuple #[.agg #[.nilIface],.bool false]) w:=by kernel_rfl
theorem zqaw(x:Value)(w:World):(Instr.typeAssert (.iface 188 x) 20 188 true).run Try.prog w=.ok (.tuple #[x,.bool true]) w:=by rfl
@[go_sem] theorem neq_same (a : Addr) (w : World) : (binOp .neq 20 (.iface 136 (.pointer (some a))) (.iface 136 (.pointer (some a)))).run Try.prog w = .ok (.bool false) w := by
 simp only[binOp];simp[Op.equal,Op.maxDepth,run_equalIn_iface_ptr_same (P:=Try.prog) w 9998 a (ti:=20) (tp:=136) rfl rfl rfl rfl rfl]
structure TW(bT bS bB N cap capB i st back pass:Nat)(sr br:Array Value)(ov:Bool)(w:World):Prop where
 ts:w.heap[bT]?=some (.cells #[.chan (some back),.slice (some ⟨bS,0,none⟩) N cap,.slice (some ⟨bB,0,none⟩) N capB] 140)
 sts:w.heap[bS]?=some (.cells sr 141)
 brs:w.heap[bB]?=some (.cells br 4)
 std:w.heap[st]?=some (.cells #[.pointer (some ⟨bT,0,none⟩),.chan (some pass),.bool ov] 144)
 lt:i<N
 s:sr[i]?=some (.pointer (some ⟨st,0,none⟩))
 b:∃x,br[i]?=some (.bool x)
theorem zq8a{Kc:Addr->Option Value}{J:Goroutine->World->Prop}(hJ:JX Try.prog Kc J){n bT i:Nat}{whole:Bool}{c:Frame}{cs:List Frame}{w:World}{x3 x4 x5 x6 x7 x8 x9 x10 x11 x12 x13 x14 x15 x16 x17 x18 x19 x20 x21 x22 x23 x24 x25 x26 x27 x28 x29 x30 x31 x32 x33 x34 x35 x36 x37 x38 x39 x40 x41 x42:Value}
 (hR:RunW n bT i whole w) {bS bB N cap capB st back pass:Nat} {sr br:Array Value} {ov:Bool} (hT:TW bT bS bB N cap capB i st back pass sr br ov w) (hne:bT≠st/\n≠st)
 (hKs:Kc ⟨st,2,none⟩=none)
 (hnext:∀T w',T[41]?=some (.chan (some back))->T[42]?=some (.agg #[])->w'.heap.size=w.heap.size->(∀b,b≠st->w'.heap[b]?=w.heap[b]?)->
  w'.heap[st]?=some (.cells #[.pointer (some ⟨bT,0,none⟩),.chan (some pass),.bool true] 144)->
  J (G ((baseD 74).at ⟨T,[]⟩ [.inRegion (match Try.f74.body with|some (.seq _ (.seq _ (.seq _ (.region _ ops _))))=>ops|_=>#[]) [5]]) (c::cs)) w'):
 J (G ((baseD 74).at ⟨#[.pointer (some ⟨n,0,none⟩),.pointer (some ⟨n+2,0,none⟩),.pointer (some ⟨n+1,0,none⟩),x3,x4,x5,x6,x7,x8,x9,x10,x11,x12,x13,x14,x15,x16,x17,x18,x19,x20,x21,x22,x23,x24,x25,x26,x27,x28,x29,x30,x31,x32,x33,x34,x35,x36,x37,x38,x39,x40,x41,x42],[]⟩ [.code (match Try.f74.body with|some (.seq _ (.seq _ c))=>c|_=>.skip)]) (c::cs)) w:=by
 obtain⟨r1,r2,r3⟩:=hR;obtain⟨t1,t2,t3,t4,t5,t6,t7⟩:=hT;have c1:=(zq0 (off:=0) r1).trans rfl;have c2:=(zq0 (off:=0) r2).trans rfl;have z1:w.frozen? ⟨n,0,none⟩=false:=zqc r1;have z2:w.frozen? ⟨n+1,0,none⟩=false:=zqc r2;have d1:=(zq0 (off:=1) t1).trans rfl;have d2:=(zq0 (off:=i) t2).trans t6;have d4:=(zq0 (off:=2) t4).trans rfl;have y4:w.frozen? ⟨st,2,none⟩=false:=zqc t4;have hi':(i:Int)<N:=by omega
 have hi0:(0:Int)<=i:=by omega
 simp only[Try.f74];refine hJ.ctl (s:=()) (λw=>stepG_seq) ?_;refine zq4c (J:=λ(_:Unit)=>J) (s:=()) hJ (by decide) (by rfl) [.pointer (some ⟨bT,0,none⟩),.pointer (some ⟨bT,0,none⟩),.pointer (some ⟨bT,1,none⟩),.slice (some ⟨bS,0,none⟩) N cap,.int .i64 i,.pointer (some ⟨bS,i,none⟩),.pointer (some ⟨st,0,none⟩),.pointer (some ⟨st,0,none⟩),.pointer (some ⟨st,2,none⟩)] (by kernel_rfl) ?_ ?_
 . intro τ d;simp only[evals,putv,dstOf,al_gl,al_g0,al_g1,al_ob,al_g2,List.set_cons_succ,List.set_cons_zero];refine⟨?_,?_,?_,?_,?_,?_,?_,?_,?_,trivial⟩<;>(intro o ho;simp only[al_oi]at ho;subst ho)
   all_goals(simp only[execOp,Act.eval,al_gd,al_gl,al_g0,al_g1,al_od])
   all_goals(try go_simp)
 . simp only[putv,dstOf,al_gl,al_g0,al_g1,al_ob,al_g2,List.set_cons_succ,List.set_cons_zero,Nat.reduceAdd,Nat.zero_add,List.length_cons,List.length_nil];refine zq2g (J:=λ(_:Unit)=>J) (s:=()) (i:=9) (rest:=[]) (by decide) hJ rfl rfl (ad:=⟨st,2,none⟩) rfl (λj hj=>zq4n hKs hj) ⟨_,_,_,t4⟩ ?_;intro τ d;go_wp2;simp only[zqg,zq21];refine hJ.re' () _ _ τ d ?_;have g3:=zqy w st 2 (Value.bool true) t4;have g4:∀b,b≠st->(w.setCell ⟨st,2,none⟩ (Value.bool true)).heap[b]?=w.heap[b]?:=λb hb=>zqi _ _ _ _ hb;have g5:(w.setCell ⟨st,2,none⟩ (Value.bool true)).heap.size=w.heap.size:=zq13 _ _ _;generalize w.setCell ⟨st,2,none⟩ (Value.bool true)=w2 at g3 g4 g5 |-;refine hJ.ctl (s:=()) (λw=>stepG_region_end) ?_;refine hJ.ctl (s:=()) (λw=>stepG_region) ?_;refine zqo (J:=λ(_:Unit)=>J) (s:=()) (by decide) hJ (zqn _) true (.inl rfl) 0 5 1 rfl rfl rfl (by rfl) ?_;intro τ d;have e1:w2.cell? ⟨n,0,none⟩=some (.pointer (some ⟨bT,0,none⟩)):=(zq16 (g4 n hne.2)).trans c1;have e2:w2.cell? ⟨bT,0,none⟩=some (.chan (some back)):=(zq16 (g4 bT hne.1)).trans ((zq0 (off:=0) t1).trans rfl);simp only[List.drop_zero,List.drop_succ_cons,List.take_succ_cons,List.take_zero];go_wp2;simp only[zqg];refine hJ.re' () _ _ τ d ?_;refine hnext _ w2 (by rfl) (by rfl) g5 g4 (g3.trans (by rfl))
theorem zqeh{Kc:Addr->Option Value}{J:Goroutine->World->Prop}(hJ:JX Try.prog Kc J){n bT i:Nat}{whole ok:Bool}{r x:Value}{c:Frame}{cs:List Frame}{w:World}{a:Act}
 (ha:a=⟨#[.pointer (some ⟨n,0,none⟩),.pointer (some ⟨n+2,0,none⟩),.pointer (some ⟨n+1,0,none⟩),r,undef,undef,r,undef,undef,undef,undef,undef,undef,undef,undef,undef,undef,undef,undef,undef,undef,undef,undef,undef,undef,undef,undef,undef,undef,undef,undef,undef,undef,undef,undef,undef,undef,undef,undef,undef,undef,undef,undef],[]⟩)
 (hassert:∀w,(Instr.typeAssert r 20 188 true).run Try.prog w=.ok (.tuple #[.agg #[x],.bool ok]) w) (hcase:(ok=false/\x=.nilIface)\/(ok=true/\x=.iface 136 (.pointer (some ⟨bT,0,none⟩))))
 (hR:RunW n bT i whole w) (hK:∀a v,Kc a=some v->a.block<w.heap.size)
 {bS bB N cap capB st back pass:Nat} {sr br:Array Value} {ov:Bool} (hT:TW bT bS bB N cap capB i st back pass sr br ov w) (hlt:bT<n/\bS<n/\bB<n/\st<n) (hne:bT≠bB/\bS≠bB/\st≠bB/\bT≠st/\bS≠st)
 (hKB:∀y:Addr,y.block=bB->Kc y=none) (hKs:Kc ⟨st,2,none⟩=none)
 (hnext:∀T w',T[41]?=some (.chan (some back))->T[42]?=some (.agg #[])->w'.heap.size=w.heap.size+1->(∀b,b<w.heap.size->b≠bB->b≠st->w'.heap[b]?=w.heap[b]?)->
  w'.heap[st]?=some (.cells #[.pointer (some ⟨bT,0,none⟩),.chan (some pass),.bool true] 144)->w'.heap[bB]?=some (.cells (if ok=true then br else br.setIfInBounds i (.bool (!whole))) 4)->
  J (G ((baseD 74).at ⟨T,[]⟩ [.inRegion (match Try.f74.body with|some (.seq _ (.seq _ (.seq _ (.region _ ops _))))=>ops|_=>#[]) [5]]) (c::cs)) w'):
 J (G ((baseD 74).at a [.code (match Try.f74.body with|some (.seq _ c)=>c|_=>.skip)]) (c::cs)) w:=by
 obtain⟨r1,r2,r3⟩:=hR;have c1:=(zq0 (off:=0) r1).trans rfl;have c2:=(zq0 (off:=0) r2).trans rfl;have c3:=(zq0 (off:=0) r3).trans rfl;have z1:w.frozen? ⟨n,0,none⟩=false:=zqc r1;have z2:w.frozen? ⟨n+1,0,none⟩=false:=zqc r2;have z3:w.frozen? ⟨n+2,0,none⟩=false:=zqc r3;subst ha;simp only[Try.f74];refine hJ.ctl (s:=()) (λw=>stepG_seq) ?_;refine hJ.ctl (s:=()) (λw=>stepG_seq) ?_;refine hJ.ctl (s:=()) (λw=>stepG_region) ?_;refine zqo (J:=λ(_:Unit)=>J) (s:=()) (by decide) hJ (zqn _) true (.inl rfl) 0 6 2 rfl rfl rfl (by rfl) ?_;intro τ d;simp only[List.drop_zero,List.drop_succ_cons,List.take_succ_cons,List.take_zero];go_wp2;simp only[zqg,zq3z];refine hJ.re' () _ _ τ d ?_;generalize hw1:w.alloc (Obj.cells #[Value.nilIface] 188)=w1;have f0:w1.heap[w.heap.size]?=some (.cells #[.nilIface] 188):=by subst hw1;rw[zqa,if_pos rfl]
 have f1:∀b,b≠w.heap.size->w1.heap[b]?=w.heap[b]?:=λb hb=>by subst hw1;rw[zqa,if_neg hb]
 have hfree:∀y:Addr,y.block=w.heap.size->Kc y=none:=λy hy=>by
  cases hky:Kc y with
  |none=>rfl
  |some v=>have:=hK y v hky;omega
 have g1:w1.cell? ⟨w.heap.size,0,none⟩=some .nilIface:=(zq0 f0).trans rfl;have g2:w1.frozen? ⟨w.heap.size,0,none⟩=false:=zqc f0;refine zq2g (J:=λ(_:Unit)=>J) (s:=()) (i:=6) (rest:=[7]) (by decide) hJ rfl rfl (ad:=⟨w.heap.size,0,none⟩) rfl (λj _=>zq4m hfree j) ⟨_,_,_,f0⟩ ?_;intro τ d;rcases hcase with⟨rfl,rfl⟩|⟨rfl,rfl⟩
 . go_wp2;simp only[zqg,zq21];refine hJ.re' () _ _ τ d ?_;have g3:=zqy w1 w.heap.size 0 Value.nilIface f0;have g4:∀b,b≠w.heap.size->(w1.setCell ⟨w.heap.size,0,none⟩ Value.nilIface).heap[b]?=w1.heap[b]?:=λb hb=>zqi _ _ _ _ hb;have g5:(w1.setCell ⟨w.heap.size,0,none⟩ Value.nilIface).heap.size=w.heap.size+1:=by rw[zq13,<-hw1,zqd]
   generalize w1.setCell ⟨w.heap.size,0,none⟩ Value.nilIface=w2 at g3 g4 g5 |-;refine zqo (J:=λ(_:Unit)=>J) (s:=()) (by decide) hJ (zqn _) true (.inl rfl) 7 1 0 rfl rfl rfl (by rfl) ?_;intro τ d;simp only[List.drop_zero,List.drop_succ_cons,List.take_succ_cons,List.take_zero];go_wp2;simp only[zqg];refine hJ.re' () _ _ τ d ?_;refine hJ.ctl (s:=()) (λw=>stepG_region_end) ?_;refine hJ.ctl (s:=()) (λw=>stepG_seq) ?_;refine hJ.ctl (s:=()) (λw=>stepG_region) ?_;refine zqo (J:=λ(_:Unit)=>J) (s:=()) (by decide) hJ (zqn _) true (.inl rfl) 0 9 0 rfl rfl rfl (by rfl) ?_;intro τ d;simp only[List.drop_zero,List.drop_succ_cons,List.take_succ_cons,List.take_zero];go_wp2;simp only[zqg];refine hJ.re' () _ _ τ d ?_;refine hJ.ctl (s:=()) (λw=>stepG_region_end) ?_;refine hJ.ctl (s:=()) (λw=>stepG_cond (t:=true) rfl) ?_;simp only[if_true];obtain⟨t1,t2,t3,t4,t5,t6,⟨bx,t7⟩⟩:=hT;have lt1:=zqe t1;have lt2:=zqe t2;have lt3:=zqe t3;have lt4:=zqe t4;have lt5:=zqe r1;have lt6:=zqe r2;have lt7:=zqe r3;have o:∀b,b<w.heap.size->w2.heap[b]?=w.heap[b]?:=λb hb=>(g4 b (by omega)).trans (f1 b (by omega));have k1:w2.cell? ⟨n,0,none⟩=some (.pointer (some ⟨bT,0,none⟩)):=(zq0 ((o n lt5).trans r1)).trans rfl;have k2:w2.cell? ⟨n+1,0,none⟩=some (.int .i64 i):=(zq0 ((o (n+1) lt6).trans r2)).trans rfl;have k3:w2.cell? ⟨n+2,0,none⟩=some (.bool whole):=(zq0 ((o (n+2) lt7).trans r3)).trans rfl;have k4:w2.cell? ⟨bT,2,none⟩=some (.slice (some ⟨bB,0,none⟩) N capB):=(zq0 ((o bT lt1).trans t1)).trans rfl;have k5:w2.cell? ⟨bB,i,none⟩=some (.bool bx):=(zq0 ((o bB lt3).trans t3)).trans t7;have k6:w2.frozen? ⟨bB,i,none⟩=false:=zqc ((o bB lt3).trans t3);have hi':(i:Int)<N:=by omega
   have hi0:(0:Int)<=i:=by omega
   refine zq4c (J:=λ(_:Unit)=>J) (s:=()) hJ (by decide) (by rfl) [.pointer (some ⟨bT,0,none⟩),.pointer (some ⟨bT,0,none⟩),.pointer (some ⟨bT,2,none⟩),.slice (some ⟨bB,0,none⟩) N capB,.int .i64 i,.bool whole,.bool (!whole),.pointer (some ⟨bB,i,none⟩)] (by kernel_rfl) ?_ ?_
   . intro τ d;simp only[evals,putv,dstOf,al_gl,al_g0,al_g1,al_ob,al_g2,List.set_cons_succ,List.set_cons_zero];refine⟨?_,?_,?_,?_,?_,?_,?_,?_,trivial⟩<;>(intro o ho;simp only[al_oi]at ho;subst ho)
     all_goals(simp only[execOp,Act.eval,al_gd,al_gl,al_g0,al_g1,al_od])
     all_goals(try go_simp)
   . simp only[putv,dstOf,al_gl,al_g0,al_g1,al_ob,al_g2,List.set_cons_succ,List.set_cons_zero,Nat.reduceAdd,Nat.zero_add,List.length_cons,List.length_nil];refine zq2g (J:=λ(_:Unit)=>J) (s:=()) (i:=8) (rest:=[]) (by decide) hJ rfl rfl (ad:=⟨bB,i,none⟩) rfl (λj _=>zq4m hKB j) ⟨_,_,_,(o bB lt3).trans t3⟩ ?_;intro τ d;go_wp2;simp only[zqg,zq21];refine hJ.re' () _ _ τ d ?_;have m3:=zqy w2 bB i (Value.bool (!whole)) ((o bB lt3).trans t3);have m4:∀b,b≠bB->(w2.setCell ⟨bB,i,none⟩ (Value.bool (!whole))).heap[b]?=w2.heap[b]?:=λb hb=>zqi _ _ _ _ hb;have m5:(w2.setCell ⟨bB,i,none⟩ (Value.bool (!whole))).heap.size=w2.heap.size:=zq13 _ _ _;generalize w2.setCell ⟨bB,i,none⟩ (Value.bool (!whole))=w3 at m3 m4 m5 |-;refine hJ.ctl (s:=()) (λw=>stepG_region_end) ?_;have o3:∀b,b<w.heap.size->b≠bB->w3.heap[b]?=w.heap[b]?:=λb hb h=>(m4 b h).trans (o b hb);have hbi:i<br.size:=(Array.getElem?_eq_some_iff.1 t7).1;refine zq8a hJ (n:=n) (i:=i) (whole:=whole) ⟨(o3 n lt5 (by omega)).trans r1,(o3 (n+1) lt6 (by omega)).trans r2,(o3 (n+2) lt7 (by omega)).trans r3⟩
      (bB:=bB) (br:=br.setIfInBounds i (.bool (!whole))) ⟨(o3 bT lt1 hne.1).trans t1,(o3 bS lt2 hne.2.1).trans t2,m3,(o3 st lt4 hne.2.2.1).trans t4,t5,t6,⟨!whole,by simp[hbi]⟩⟩ ⟨hne.2.2.2.1,by omega⟩ hKs ?_
     intro T w' hT1 hT2 hsz hold hst;refine hnext T w' hT1 hT2 (by rw[hsz,m5,g5]) (λb hb h1 h2=>(hold b h2).trans (o3 b hb h1)) hst ?_;rw[hold bB hne.2.2.1.symm,m3];simp
 . go_wp2;simp only[zqg,zq21];refine hJ.re' () _ _ τ d ?_;have g3:=zqy w1 w.heap.size 0 (Value.iface 136 (.pointer (some ⟨bT,0,none⟩))) f0;have g4:∀b,b≠w.heap.size->(w1.setCell ⟨w.heap.size,0,none⟩ (Value.iface 136 (.pointer (some ⟨bT,0,none⟩)))).heap[b]?=w1.heap[b]?:=λb hb=>zqi _ _ _ _ hb;have g5:(w1.setCell ⟨w.heap.size,0,none⟩ (Value.iface 136 (.pointer (some ⟨bT,0,none⟩)))).heap.size=w.heap.size+1:=by rw[zq13,<-hw1,zqd]
   generalize w1.setCell ⟨w.heap.size,0,none⟩ (Value.iface 136 (.pointer (some ⟨bT,0,none⟩)))=w2 at g3 g4 g5 |-;obtain⟨t1,t2,t3,t4,t5,t6,⟨bx,t7⟩⟩:=hT;have lt1:=zqe t1;have lt2:=zqe t2;have lt3:=zqe t3;have lt4:=zqe t4;have lt5:=zqe r1;have lt6:=zqe r2;have lt7:=zqe r3;have o:∀b,b<w.heap.size->w2.heap[b]?=w.heap[b]?:=λb hb=>(g4 b (by omega)).trans (f1 b (by omega));have k0:w2.cell? ⟨w.heap.size,0,none⟩=some (Value.iface 136 (.pointer (some ⟨bT,0,none⟩))):=(zq0 g3).trans rfl;have k1:w2.cell? ⟨n,0,none⟩=some (.pointer (some ⟨bT,0,none⟩)):=(zq0 ((o n lt5).trans r1)).trans rfl;refine zqo (J:=λ(_:Unit)=>J) (s:=()) (by decide) hJ (zqn _) true (.inl rfl) 7 1 0 rfl rfl rfl (by rfl) ?_;intro τ d;simp only[List.drop_zero,List.drop_succ_cons,List.take_succ_cons,List.take_zero];go_wp2;simp only[zqg];refine hJ.re' () _ _ τ d ?_;refine hJ.ctl (s:=()) (λw=>stepG_region_end) ?_;refine hJ.ctl (s:=()) (λw=>stepG_seq) ?_;refine hJ.ctl (s:=()) (λw=>stepG_region) ?_;refine zqo (J:=λ(_:Unit)=>J) (s:=()) (by decide) hJ (zqn _) true (.inl rfl) 0 9 0 rfl rfl rfl (by rfl) ?_;intro τ d;simp only[List.drop_zero,List.drop_succ_cons,List.take_succ_cons,List.take_zero];go_wp2;simp only[zqg];refine hJ.re' () _ _ τ d ?_;refine hJ.ctl (s:=()) (λw=>stepG_region_end) ?_;refine hJ.ctl (s:=()) (λw=>stepG_cond (t:=false) rfl) ?_;simp only[Bool.false_eq_true,if_false];refine hJ.ctl (s:=()) (λw=>stepG_skip) ?_;refine zq8a hJ (n:=n) (i:=i) (whole:=whole) ⟨(o n lt5).trans r1,(o (n+1) lt6).trans r2,(o (n+2) lt7).trans r3⟩
    (bB:=bB) (br:=br) ⟨(o bT lt1).trans t1,(o bS lt2).trans t2,(o bB lt3).trans t3,(o st lt4).trans t4,t5,t6,⟨_,t7⟩⟩ ⟨hne.2.2.2.1,by omega⟩ hKs ?_
   intro T w' hT1 hT2 hsz hold hst;refine hnext T w' hT1 hT2 (by rw[hsz,g5]) (λb hb h1 h2=>(hold b h2).trans (o b hb)) hst ?_;rw[hold bB hne.2.2.1.symm,o bB lt3,t3];simp
def zq28(c:Frame):Prop:=c.fn=52/\c.defers=[]/\c.kind=.deferred/\(c.mode=.returning\/∃v,c.mode=.panicking [{v,recovered:=true}])
noncomputable def zq25(T:Array Value):Frame:=(baseD 74).at ⟨T,[]⟩ [.inRegion (match Try.f74.body with|some (.seq _ (.seq _ (.seq _ (.region _ ops _))))=>ops|_=>#[]) [5]]
theorem zqeb:QuitsD Try.prog 1 0 (G bot []):=by
 refine QuitsD.ctl (g':={G bot []with status:=.finished}) rfl (λw=>?_) ⟨rfl,rfl⟩;simp[G,bot,botF,stepG,unwind,goexitEntry,Frame.catches];rfl
theorem zqec(c:Frame)(h1:c.fn=52)(h2:c.defers=[])(h3:c.kind=.deferred)(h4:c.mode=.returning):QuitsD Try.prog 2 0 (G c [bot]):=by
 refine QuitsD.ctl (g':=G bot []) rfl (λw=>?_) zqeb;have hr:(results Try.f52 c.tmps).run Try.prog w=.ok (.tuple #[]) w:=by simp[results,Try.f52]
 have he:(results Try.f52 c.tmps).events Try.prog w #[]=#[]:=by simp[results,Try.f52]
 simp[G,stepG,unwind,h1,h2,h3,h4,Try.func52,Sem.runT_eq,hr,he,seen,GStep.after,doReturn,bot,botF,goexitEntry]
theorem leaves(T:Array Value)(c:Frame)(hc:zq28 c):QuitsD Try.prog 5 0 (Conc.served (G (zq25 T) [c,bot]) undef):=by
 obtain⟨h1,h2,h3,h4⟩:=hc;simp only[zq25,Try.f74];rw[served_fr,Frame.finish_at];have ep:∀a:Act,a.put none undef=a:=λa=>rfl;simp only[al_gl,al_g0,al_g1,al_ob,ep];refine QuitsD.ctl rfl (λw=>stepG_region_end) ?_;refine QuitsD.ctl rfl (λw=>stepG_end) ?_;refine QuitsD.ctl (g':=G {c with mode:=.returning} [bot]) rfl (λw=>?_) (zqec _ h1 h2 h3 rfl);have hr:∀t,(results Try.f74 t).run Try.prog w=.ok (.tuple #[]) w:=λt=>by simp[results,Try.f74]
 have he:∀t,(results Try.f74 t).events Try.prog w #[]=#[]:=λt=>by simp[results,Try.f74]
 rcases h4 with h4|⟨v,h4⟩
 . have e:{c with mode:=.returning}=c:=by cases c;simp only at h4;subst h4;rfl
   rw[e];simp[G,stepG,unwind,Frame.at,baseD,Try.func74,Sem.runT_eq,hr,he,seen,GStep.after,doReturn,h4]
 . simp[G,stepG,unwind,Frame.at,baseD,Try.func74,Sem.runT_eq,hr,he,seen,GStep.after,doReturn,h4]
theorem zqer{Fin:Machine->Trace->Prop}(hFin:Back Try.prog Fin){Kc:Addr->Option Value}{Inb:Nat->Option Seat}{j n back:Nat}{T:Array Value}{c:Frame}{w:World}(hj:0<j)(hn:0<n)
 {zb:Value} {okb:Bool} {homeb:Goroutine->Prop} (h0:Inb 0=some (Seat.one back zb okb homeb)) (h1:T[41]?=some (.chan (some back))) (h2:T[42]?=some (.agg #[])) (hc:zq28 c)
 (hnext:∀g₂ k cap,homeb g₂->w.heap[back]?=some (.chan cap #[] false k k false)->HoldR Try.prog Fin Kc (upd Inb j none) 0 n (Conc.served g₂ (recvd okb (.agg #[]) true)) (w.setChan back cap #[] false (k+1) (k+1) false)):
 HoldR Try.prog Fin Kc Inb j n (G (zq25 T) [c,bot]) w:=by
 have hl:=leaves T c hc;simp only[zq25,Try.f74]at hl |-;refine zq5h hFin (by omega) hn h0 rfl (zq5x (c:=back) (v:=.agg #[]) (z':=.tuple #[]) rfl rfl (by decide) (λw=>?_) (λw=>?_) w) (by simp) (.leaves hj ⟨5,hl⟩) hnext
 . simp[execOp,scase,Act.eval,al_gd,h1,h2]
 . simp[go_sem,execOp,Act.eval]
structure EndIn(Kc:Addr->Option Value)(n bT bS bB N cap capB i st back pass:Nat)(sr br:Array Value)(ov:Bool)(w:World):Prop where
 kept:∀a v,Kc a=some v->a.block<w.heap.size
 tw:TW bT bS bB N cap capB i st back pass sr br ov w
 lt:bT<n/\bS<n/\bB<n/\st<n
 ne:bT≠bB/\bS≠bB/\st≠bB/\bT≠st/\bS≠st
 kb:∀y:Addr,y.block=bB->Kc y=none
 ks:Kc ⟨st,2,none⟩=none
structure EndOut(bB st bT pass i:Nat)(br:Array Value)(brk:Option Bool)(w w':World):Prop where
 size:w.heap.size<=w'.heap.size
 old:∀b,b<w.heap.size->b≠bB->b≠st->w'.heap[b]?=w.heap[b]?
 std:w'.heap[st]?=some (.cells #[.pointer (some ⟨bT,0,none⟩),.chan (some pass),.bool true] 144)
 brs:w'.heap[bB]?=some (.cells (match brk with|some x=>br.setIfInBounds i (.bool x)|none=>br) 4)
theorem zq89{Kc:Addr->Option Value}{J:Goroutine->World->Prop}(hJ:JX Try.prog Kc J){n bT bS bB N cap capB i st back pass:Nat}{sr br:Array Value}{ov whole:Bool}{w:World}{b:Frame}{a:Act}{todo:List Item}{md:FrameMode}{r:Value}{ok:Bool}{x:Value}
 (hb:b=baseD 52) (hd:a.defers=[run1 n]) (hmd:(md=.returning/\r=.nilIface)\/md=.panicking [{v:=r,recovered:=false}])
 (hassert:∀w,(Instr.typeAssert r 20 188 true).run Try.prog w=.ok (.tuple #[.agg #[x],.bool ok]) w) (hcase:(ok=false/\x=.nilIface)\/(ok=true/\x=.iface 136 (.pointer (some ⟨bT,0,none⟩))))
 (hR:RunW n bT i whole w) (hE:EndIn Kc n bT bS bB N cap capB i st back pass sr br ov w)
 (hnext:∀T c w',zq28 c->T[41]?=some (.chan (some back))->T[42]?=some (.agg #[])->EndOut bB st bT pass i br (if ok=true then none else some (!whole)) w w'->J (G (zq25 T) [c,bot]) w'):
 J (G {b.at a todo with mode:=md} [bot]) w:=by
 subst hb;refine zqb7 (J:=λ(_:Unit)=>J) (s:=()) (f:=74) (fn:=Try.f74) (c:=Try.f74.body.getD .skip) (args:=#[]) (caps:=#[.pointer (some ⟨n,0,none⟩),.pointer (some ⟨n+2,0,none⟩),.pointer (some ⟨n+1,0,none⟩)]) (ds:=[]) hJ ?_ hd Try.func74 rfl rfl ?_
 . rcases hmd with⟨h,_⟩|h
   . exact .inl h
   . exact .inr ⟨_,h⟩
 have body:∀(c:Frame),zq28 c->J (G ((baseD 74).at ⟨#[.pointer (some ⟨n,0,none⟩),.pointer (some ⟨n+2,0,none⟩),.pointer (some ⟨n+1,0,none⟩),r,undef,undef,r,undef,undef,undef,undef,undef,undef,undef,undef,undef,undef,undef,undef,undef,undef,undef,undef,undef,undef,undef,undef,undef,undef,undef,undef,undef,undef,undef,undef,undef,undef,undef,undef,undef,undef,undef,undef],[]⟩ [.code (match Try.f74.body with|some (.seq _ c)=>c|_=>.skip)]) [c,bot]) w:=by
  intro c hc;refine zqeh hJ rfl hassert hcase hR hE.kept hE.tw hE.lt hE.ne hE.kb hE.ks ?_;intro T w' h1 h2 h3 h4 h5 h6;refine hnext T c w' hc h1 h2 ⟨by omega,h4,h5,?_⟩;rw[h6];cases ok<;>rfl
 simp only[Try.f74,zqk,al_od,List.size_toArray,List.length_cons,List.length_nil,Nat.reduceAdd,Nat.reduceSub,Array.replicate_succ,Array.replicate_zero,List.push_toArray,List.append_toArray,List.nil_append,List.cons_append]at body |-;refine hJ.ctl (s:=()) (λw=>stepG_seq) ?_;refine hJ.ctl (s:=()) (λw=>stepG_region) ?_;rcases hmd with⟨rfl,rfl⟩|rfl
 . refine zqb4 (J:=λ(_:Unit)=>J) (s:=()) (i:=0) (rest:=[1]) rfl rfl hJ rfl rfl (λw=>by simp[go_sem,execOp,Act.eval]) (λw=>by simp[go_sem,execOp,Act.eval]) ?_
   walk_nrm
   refine zqo (J:=λ(_:Unit)=>J) (s:=()) (by decide) hJ (zqn _) true (.inl rfl) 1 1 0 rfl rfl rfl (by rfl) ?_;intro τ d;simp only[List.drop_zero,List.drop_succ_cons,List.take_succ_cons,List.take_zero];go_wp2;simp only[zqg];refine hJ.re' () _ _ τ d ?_;refine hJ.ctl (s:=()) (λw=>stepG_region_end) ?_;exact body _ ⟨rfl,rfl,rfl,.inl rfl⟩
 . refine zqb5 (J:=λ(_:Unit)=>J) (s:=()) (i:=0) (rest:=[1]) (v:=r) (older:=[]) rfl rfl hJ rfl rfl (λw=>by simp[go_sem,execOp,Act.eval]) (λw=>by simp[go_sem,execOp,Act.eval]) ?_
   walk_nrm
   refine zqo (J:=λ(_:Unit)=>J) (s:=()) (by decide) hJ (zqn _) true (.inl rfl) 1 1 0 rfl rfl rfl (by rfl) ?_;intro τ d;simp only[List.drop_zero,List.drop_succ_cons,List.take_succ_cons,List.take_zero];go_wp2;simp only[zqg];refine hJ.re' () _ _ τ d ?_;refine hJ.ctl (s:=()) (λw=>stepG_region_end) ?_;exact body _ ⟨rfl,rfl,rfl,.inr ⟨r,rfl⟩⟩
end Go.Proofs
