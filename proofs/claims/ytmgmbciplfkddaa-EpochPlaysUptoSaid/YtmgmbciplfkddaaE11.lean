/- YtmgmbciplfkddaaEPlays2: part 11 of the proof (the texts behind it, in order). -/
import Derived.Test.YtmgmbciplfkddaaE10
set_option maxHeartbeats 4000000
set_option maxRecDepth 100000
set_option linter.all false
namespace Go.Proofs
open Go Go.Conc Go.RowKit Go.Car
section
variable {M1 S1 O1:Type} {oe:Nat->S1->O1} {C:Core M1 S1} {ro:Nat->Option Obj} {i N ab ob db ib hb:Nat} {sp:Option Addr} {L Cp:Nat} {ops:List OpX} {f:FuncId} {first caps:Array Value} {A:FuncId->Bool} {pr:Nat->Proc (S1×(Nat->List Ans)) Unit} {fStep:FuncId} {sv sx:Value} {cr:Frame} {rest:List Frame} {NE EN:List PanicEntry->Prop} {dop:OpX->Proc (S1×(Nat->List Ans)) Ans}
theorem zqcs(hP:Plain Try.prog A)(hRS:RowsS Try.prog A){fn:Func}{c:Code}(hf:Try.prog.funcs[f]?=some fn)(hb':fn.body=some c)(hnm:(fn.name== "runtime.NumGoroutine")=false)(hR:DoRo ro i N ab ob db ib hb sp L Cp ops f first caps)
 (hdo:∀(o:List Ans)(op:OpX),SpecR (zq37 hP hRS (zqi C (zqy tT ab N)) (ownE oe) ro pr fStep sx cr rest NE EN i (λs=>s.2 i=o)) f (first++#[sv,.int .i64 i,op.val]++caps) (dop op) (AnsV 2))
 (s:Turn Try.prog (M1×AnsM) (S1×(Nat->List Ans))) (m:BM (M1×AnsM)) (w:World) (hA:TurnAt2 Try.prog (zqi C (zqy tT ab N)) (ownE oe) ro pr fStep sx cr rest NE EN i s m w ((opsP i dop ops).bind Proc.ret ((zqi C (zqy tT ab N)).st m.l))) (ho:((zqi C (zqy tT ab N)).st m.l).2 i=[]):
 zq1l Try.prog (λ(s:Turn Try.prog (M1×AnsM) (S1×(Nat->List Ans)))=>s.J) 58 #[sv,.pointer (some ⟨ob,0,none⟩),.pointer (some ⟨db,0,none⟩),.pointer (some ⟨ib,0,none⟩),.pointer (some ⟨hb,0,none⟩)] (λs e w=>match e with
  |.returned _=>∃m',TurnAt2 Try.prog (zqi C (zqy tT ab N)) (ownE oe) ro pr fStep sx cr rest NE EN i s m' w ((zqi C (zqy tT ab N)).st m'.l,.ret ())
  |.panicked ch=>s.J (G (cr.raise ch) rest) w
  |.outgrown=>False) s w:=by
 have hJC:JC Try.prog false (λ(s:Turn Try.prog (M1×AnsM) (S1×(Nat->List Ans)))=>s.J):=((zq5j hP hRS (zqi C (zqy tT ab N)) (ownE oe) ro pr fStep sx cr rest NE EN i).sys (λ_=>True)).jc;refine zq7i (Bd:=λs a w=>a.defers=[]/\∃m',TurnAt2 Try.prog (zqi C (zqy tT ab N)) (ownE oe) ro pr fStep sx cr rest NE EN i s m' w ((zqi C (zqy tT ab N)).st m'.l,.ret ())) hJC Try.func58 rfl ?_ ?_
 . rintro s a w b cl cs todo ⟨hd,m',h⟩ hbf hbk hp;exact hJC.ctl (λw=>stepG_leave hbk hd (by rw[hbf];exact Try.func58) (resultsC_none rfl _ w).1 (resultsC_none rfl _ w).2) (hp _ _ _ ⟨m',h⟩)
 simp only[zqw,Try.ntmps58,List.size_toArray,List.length_cons,List.length_nil,Nat.reduceAdd,Nat.reduceSub,Array.replicate_succ,Array.replicate_zero,List.push_toArray,List.append_toArray,List.nil_append,List.cons_append];have HR:=Lib.hid hR;have HDO:=Lib.hid hdo;have HFN:=Lib.hid (And.intro hf (And.intro hb' hnm));have hA:(zq5j hP hRS (zqi C (zqy tT ab N)) (ownE oe) ro pr fStep sx cr rest NE EN i).sys (λs=>s.2 i=[]) |>.AtB (m.box i) s w ((opsP i dop ops).bind Proc.ret):=⟨m,rfl,hA,ho⟩
 clear hR hdo hf hb' hnm ho;apply YSys.seq0 hA (by kernel_rfl)
 . intro wc hB;have c1:wc.cell? ⟨ob,0,none⟩=some (.slice sp L Cp):=(zq0 (hB.own.rod ob _ HR.out.ob)).trans rfl;go_wp2;exact⟨rfl,Ext1.refl _,rfl⟩
 intro w hA;refine zq39 hJC (zqbw hJC (λs a w n=>∃(k:Nat)(o:List Ans)(B:Nat->Option Obj)(x5 x6 x7 x8 x12 x13 x14 x15 x16 x17 x18 x19 x20 x21 x22 x23 x24 x25 x26 x27 x28 x29 x30 x31 x32:Value),k+n=L/\o.length=k/\a=⟨#[sv,.pointer (some ⟨ob,0,none⟩),.pointer (some ⟨db,0,none⟩),.pointer (some ⟨ib,0,none⟩),.pointer (some ⟨hb,0,none⟩),x5,x6,x7,x8,.slice sp L Cp,.int .i64 L,.int .i64 k,x12,x13,x14,x15,x16,x17,x18,x19,x20,x21,x22,x23,x24,x25,x26,x27,x28,x29,x30,x31,x32],[]⟩/\(zq37 hP hRS (zqi C (zqy tT ab N)) (ownE oe) ro pr fStep sx cr rest NE EN i (λs=>s.2 i=o)).AtB B s w ((opsP i dop (ops.drop k)).bind Proc.ret)) L ?_ ?_)
 . exact⟨0,[],_,_,_,_,_,_,_,_,_,_,_,_,_,_,_,_,_,_,_,_,_,_,_,_,_,_,by omega,rfl,rfl,hA⟩
 clear hA;rintro s a w n ⟨k,o,B,x5,x6,x7,x8,x12,x13,x14,x15,x16,x17,x18,x19,x20,x21,x22,x23,x24,x25,x26,x27,x28,x29,x30,x31,x32,hkn,hok,rfl,hA⟩;have HK:=Lib.hid hkn;have HO:=Lib.hid hok;clear hkn hok;cases n with
 |zero=>
  apply YSys.seq0 hA (by kernel_rfl)
  . intro wc hB;go_wp2;exact⟨rfl,Ext1.refl _,rfl⟩
  intro w hA;refine zqs hJC (zq1a hJC rfl ?_);rw[if_neg (by have:=HK.out;simp only[decide_eq_true_eq];omega)];refine zqbv hJC ?_;obtain⟨m',_,hA',_⟩:=hA;have e:ops.drop k=[]:=List.drop_eq_nil_of_le (by have:=HR.out.len;have:=HK.out;omega);rw[e]at hA';exact⟨rfl,m',hA'⟩
 |succ n=>
  have hk:(k:Int)<(L:Int):=by have:=HK.out;omega
  have hk0:(0:Int)<=(k:Int):=by omega
  have e1:IntKind.i64.wrap ((k:Int)+1)=((k+1:Nat):Int):=by have:=HR.out.le;rw[IntWalk.i64_in _ (by omega)];omega
  have hkl:k<ops.length:=by have:=HR.out.len;have:=HK.out;omega
  obtain⟨op,hop⟩:∃op,ops[k]?=some op:=⟨_,List.getElem?_eq_getElem hkl⟩;obtain⟨g,off,cur,e,fr,hsp,hg,hcur⟩:=HR.out.ops k op hop;have hdrop:ops.drop k=op::ops.drop (k+1):=by rw[List.drop_eq_getElem_cons hkl,(List.getElem?_eq_some_iff.1 hop).2]
  rw[hdrop,opsP]at hA;rw[Proc.bind_bind]at hA;have HG:=Lib.hid (And.intro hsp (And.intro hg hcur));clear hsp hg hcur hop hkl hdrop;apply YSys.seq0 hA (by kernel_rfl)
  . intro wc hB;go_wp2;exact⟨rfl,Ext1.refl _,rfl⟩
  intro w hA;refine zqs hJC (zq1a hJC rfl (zq28 hJC ?_));show wpJ (λ(s:Turn Try.prog (M1×AnsM) (S1×(Nat->List Ans)))=>s.J) _ _ _ _ _;refine zqs hJC (zq39 hJC ?_);refine YSys.seqX (λt B'=>∃(b7:Nat)(y5 y6 y8 y12 y13 y14 y15 y16 y17 y18 y19 y20 y21 y22 y23 y24 y25 y26 y27 y28 y29 y30 y31 y32:Value),t=#[sv,.pointer (some ⟨ob,0,none⟩),.pointer (some ⟨db,0,none⟩),.pointer (some ⟨ib,0,none⟩),.pointer (some ⟨hb,0,none⟩),y5,y6,.pointer (some ⟨b7,0,none⟩),y8,.slice sp L Cp,.int .i64 L,.int .i64 k,y12,y13,y14,y15,y16,y17,y18,y19,y20,y21,y22,y23,y24,y25,y26,y27,y28,y29,y30,y31,y32]/\B b7=none/\B'=upB B b7 (.cells op.cells.toArray 44)) hA (by kernel_rfl) ?_ ?_
  . intro wc hB X0 hX0;have HX0:=Lib.hid hX0;clear hX0;have hm:=OMoved.push (o:=.cells op.cells.toArray 44) hB.own (Ext1.alloc wc (.cells op.cells.toArray 44)) (Nat.le_refl _) (by rw[zq5];simp);have hf:=hB.own.fresh (Nat.le_refl _);have HM:=Lib.hid (And.intro hm hf);clear hm hf;have hgw:=hB.own.rod g _ HG.out.2.1;have hc0:wc.cell? ⟨g,off+k*4,none⟩=some (.int .i64 op.k):=(zq0 hgw).trans (HG.out.2.2 0 (by decide));have hc1:wc.cell? ⟨g,off+k*4+1,none⟩=some (.int .i64 op.a):=(zq0 hgw).trans (HG.out.2.2 1 (by decide));have hc2:wc.cell? ⟨g,off+k*4+2,none⟩=some (.int .i64 op.b):=(zq0 hgw).trans (HG.out.2.2 2 (by decide));have hc3:wc.cell? ⟨g,off+k*4+3,none⟩=some (.int .i64 op.c):=(zq0 hgw).trans (HG.out.2.2 3 (by decide));clear hgw;rw[HG.out.1];go_wp2;rw[<-HG.out.1];exact⟨rfl,HX0.out _ _ _ HM.out.1 ⟨_,_,_,_,_,_,_,_,_,_,_,_,_,_,_,_,_,_,_,_,_,_,_,_,_,rfl,HM.out.2,rfl⟩⟩
  clear hA;rintro _ _ w ⟨b7,y5,y6,y8,y12,y13,y14,y15,y16,y17,y18,y19,y20,y21,y22,y23,y24,y25,y26,y27,y28,y29,y30,y31,y32,rfl,hb7,rfl⟩ hA;refine YSys.seqX (λt B'=>∃(b8:Nat)(z5 z6 z12 z13 z14 z15 z16 z17 z18 z19 z20 z21 z22 z23 z24 z25 z26 z27 z28 z29 z30 z31 z32:Value),t=#[sv,.pointer (some ⟨ob,0,none⟩),.pointer (some ⟨db,0,none⟩),.pointer (some ⟨ib,0,none⟩),.pointer (some ⟨hb,0,none⟩),z5,z6,.pointer (some ⟨b7,0,none⟩),.pointer (some ⟨b8,0,none⟩),.slice sp L Cp,.int .i64 L,.int .i64 k,z12,z13,z14,z15,z16,z17,z18,z19,z20,z21,z22,z23,z24,z25,z26,z27,z28,z29,z30,z31,z32]/\upB B b7 (.cells op.cells.toArray 44) b8=none/\B'=upB (upB B b7 (.cells op.cells.toArray 44)) b8 (.cells #[.bool false,.int .i64 0,.slice none 0 0] 48)) hA (by kernel_rfl) ?_ ?_
  . intro wc hB X0 hX0;have HX0:=Lib.hid hX0;clear hX0;have hm:=OMoved.push (o:=.cells #[.bool false,.int .i64 0,.slice none 0 0] 48) hB.own (Ext1.alloc wc (.cells #[.bool false,.int .i64 0,.slice none 0 0] 48)) (Nat.le_refl _) (by rw[zq5];simp);have hf:=hB.own.fresh (Nat.le_refl _);have HM:=Lib.hid (And.intro hm hf);clear hm hf;go_wp2;exact⟨rfl,HX0.out _ _ _ HM.out.1 ⟨_,_,_,_,_,_,_,_,_,_,_,_,_,_,_,_,_,_,_,_,_,_,_,_,rfl,HM.out.2,rfl⟩⟩
  clear hA;rintro _ _ w ⟨b8,z5,z6,z12,z13,z14,z15,z16,z17,z18,z19,z20,z21,z22,z23,z24,z25,z26,z27,z28,z29,z30,z31,z32,rfl,hb8,rfl⟩ hA;have h7:upB (upB B b7 (.cells op.cells.toArray 44)) b8 (.cells #[.bool false,.int .i64 0,.slice none 0 0] 48) b7=some (.cells op.cells.toArray 44):=zq5l (upB_same _ _ _) (zq8s (upB_same _ _ _) hb8);have h8:upB (upB B b7 (.cells op.cells.toArray 44)) b8 (.cells #[.bool false,.int .i64 0,.slice none 0 0] 48) b8=some (.cells #[.bool false,.int .i64 0,.slice none 0 0] 48):=upB_same _ _ _;have hB8:B b8=none:=Classical.byContradiction λh=>by
   cases ho:B b8 with
   |none=>exact h ho
   |some o=>rw[zq5k (o:=.cells op.cells.toArray 44) hb7 b8 o ho]at hb8;cases hb8
  have hle:∀x y,B x=some y->upB (upB B b7 (.cells op.cells.toArray 44)) b8 (.cells #[.bool false,.int .i64 0,.slice none 0 0] 48) x=some y:=zq38 (zq5k (o:=.cells op.cells.toArray 44) hb7) hB8;obtain⟨B1,hB1⟩:∃X,upB (upB B b7 (.cells op.cells.toArray 44)) b8 (.cells #[.bool false,.int .i64 0,.slice none 0 0] 48)=X:=⟨_,rfl⟩;rw[hB1]at h7 h8 hle hA;have H7:=Lib.hid h7;have H8:=Lib.hid h8;have HLE:=Lib.hid hle;have HN:=Lib.hid hB8;clear h7 h8 hle hB1 hb7 hb8 hB8;refine zqs hJC ?_;apply YSys.seq0 hA (by kernel_rfl)
  . intro wc hB;have c2:wc.cell? ⟨db,0,none⟩=some (.func (.func f) first caps):=(zq0 (hB.own.rod db _ HR.out.db)).trans rfl;go_wp2;exact⟨rfl,Ext1.refl _,rfl⟩
  intro w hA;refine zq1a hJC rfl ?_;rw[if_pos rfl];refine zq15 hJC ?_;apply YSys.pre0 0 4 2 hA rfl rfl rfl rfl
  . intro wc hB X hX;have HX:=Lib.hid hX;clear hX;have c2:wc.cell? ⟨db,0,none⟩=some (.func (.func f) first caps):=(zq0 (hB.own.rod db _ HR.out.db)).trans rfl;have c3:wc.cell? ⟨ib,0,none⟩=some (.int .i64 i):=(zq0 (hB.own.rod ib _ HR.out.ib)).trans rfl;have k7:=hB.own.box b7 _ H7.out;have c70:wc.cell? ⟨b7,0,none⟩=some (.int .i64 op.k):=(zq0 k7).trans rfl;have c71:wc.cell? ⟨b7,1,none⟩=some (.int .i64 op.a):=(zq0 k7).trans rfl;have c72:wc.cell? ⟨b7,2,none⟩=some (.int .i64 op.b):=(zq0 k7).trans rfl;have c73:wc.cell? ⟨b7,3,none⟩=some (.int .i64 op.c):=(zq0 k7).trans rfl;clear k7;go_wp2;exact HX.out _ (Ext1.refl _)
  intro w hA;have hnm':¬fn.name= "runtime.NumGoroutine" :=by simpa using HFN.out.2.2
  have hf:=HFN.out.1;have hb':=HFN.out.2.1;refine YSys.callO (HDO.out o op _ s B1 w (λ_=>trivial) hA) rfl rfl rfl ?_ ?_ ?_
  . intro w;simp[go_sem,execOp,Act.eval,resolve,Deferred.ofValue,invoke,callFunc,hf,hb',hnm',OpX.val]
  . intro w;simp[go_sem,execOp,Act.eval,resolve,Deferred.ofValue,invoke,callFunc,hf,hb',hnm',OpX.val]
  clear hnm' hf hb' hA;intro s e' w hp;cases e' with
  |outgrown=>exact hp
  |panicked ch=>exact⟨rfl,hp⟩
  |returned v=>
  obtain⟨a,X,⟨sl,rfl,hsl⟩,hXB,hA⟩:=hp;have hX8:X b8=none:=Classical.byContradiction λh=>by
   have:=hXB b8 h;rw[H8.out]at this;cases this
  have h8':orB X B1 b8=some (.cells #[.bool false,.int .i64 0,.slice none 0 0] 48):=by simp[orB,hX8,H8.out]
  have H8':=Lib.hid h8';clear h8';refine YSys.opsX 5 1 (λt B'=>∃(u5 u6 u12 u13 u14 u15 u16 u17 u18 u19 u20 u21 u22 u23 u24 u25 u26 u27 u28 u29 u30 u31 u32:Value),t=#[sv,.pointer (some ⟨ob,0,none⟩),.pointer (some ⟨db,0,none⟩),.pointer (some ⟨ib,0,none⟩),.pointer (some ⟨hb,0,none⟩),u5,u6,.pointer (some ⟨b7,0,none⟩),.pointer (some ⟨b8,0,none⟩),.slice sp L Cp,.int .i64 L,.int .i64 k,u12,u13,u14,u15,u16,u17,u18,u19,u20,u21,u22,u23,u24,u25,u26,u27,u28,u29,u30,u31,u32]/\B'=upB (orB X B1) b8 (.cells #[.bool a.ok,.int .i64 a.n,sl] 48)) hA rfl rfl (by kernel_rfl) ?_ ?_
  . intro wc hB X0 hX0;have HX0:=Lib.hid hX0;clear hX0;have hm:=OMoved.set3 (o1:=0) (o2:=1) (o3:=2) hB.own H8'.out (.bool a.ok) (.int .i64 a.n) sl;have HM:=Lib.hid hm;have k8:=hB.own.box b8 _ H8'.out;have c80:wc.cell? ⟨b8,0,none⟩=some (.bool false):=(zq0 k8).trans rfl;have c81:wc.cell? ⟨b8,1,none⟩=some (.int .i64 0):=(zq0 k8).trans rfl;have c82:wc.cell? ⟨b8,2,none⟩=some (.slice none 0 0):=(zq0 k8).trans rfl;have f80:wc.frozen? ⟨b8,0,none⟩=false:=zq6 k8;have f81:wc.frozen? ⟨b8,1,none⟩=false:=zq6 k8;have f82:wc.frozen? ⟨b8,2,none⟩=false:=zq6 k8;obtain⟨sa,sn,sc,hsl'⟩:∃sa sn sc,sl=.slice sa sn sc:=by rcases hsl.2 with⟨h,_⟩|⟨_,_,_,h,_⟩<;>exact⟨_,_,_,h⟩
    clear hm k8 hX8 hA hXB hsl;subst hsl';go_wp2;exact⟨rfl,HX0.out _ _ _ HM.out ⟨_,_,_,_,_,_,_,_,_,_,_,_,_,_,_,_,_,_,_,_,_,_,_,rfl,rfl⟩⟩
  clear hA;rintro _ _ w ⟨u5,u6,u12,u13,u14,u15,u16,u17,u18,u19,u20,u21,u22,u23,u24,u25,u26,u27,u28,u29,u30,u31,u32,rfl,rfl⟩ hA;show wpJ (λ(s:Turn Try.prog (M1×AnsM) (S1×(Nat->List Ans)))=>s.J) _ _ _ _ _;replace hA:(zq37 hP hRS (zqi C (zqy tT ab N)) (ownE oe) ro pr fStep sx cr rest NE EN i (λs=>s.2 i=o)).AtB _ s w (((pushP i a).bind λ_=>opsP i dop (ops.drop (k+1))).bind Proc.ret):=hA;rw[Proc.bind_bind]at hA;obtain⟨m,hmB,hA⟩:=hA;refine Alone.actS (zq5j hP hRS (zqi C (zqy tT ab N)) (ownE oe) ro pr fStep sx cr rest NE EN i) (I:=λs=>s.2 i=o) (I':=λs=>s.2 i=o++[a]) (g:=λs=>((s.1,upd' s.2 i (s.2 i++[a])),())) (K:=λ_=>(opsP i dop (ops.drop (k+1))).bind Proc.ret) (λt B'=>(∃(v5 v6 v7 v8 v12 v13 v14 v15 v16 v17 v18 v19 v20 v21 v22 v23 v24 v25 v26 v27 v28 v29 v30 v31 v32:Value),t=#[sv,.pointer (some ⟨ob,0,none⟩),.pointer (some ⟨db,0,none⟩),.pointer (some ⟨ib,0,none⟩),.pointer (some ⟨hb,0,none⟩),v5,v6,v7,v8,.slice sp L Cp,.int .i64 L,.int .i64 k,v12,v13,v14,v15,v16,v17,v18,v19,v20,v21,v22,v23,v24,v25,v26,v27,v28,v29,v30,v31,v32])/\B'=B) hA (by kernel_rfl) (λs h=>by show upd' s.2 i _ i=_;rw[upd'_same,show s.2 i=o from h]) (λs j hj=>by show(upd' s.2 i _ j,oe j s.1)=(s.2 j,oe j s.1);rw[zqd _ _ hj]) ?_ ?_
  . intro wc hBR hown X0 hX0;have HX0:=Lib.hid hX0;clear hX0;have hst:m.l.2.st i=o:=hown;have hYB:∀b y,X b=some y->m.box i b=some y:=λb y hb=>by
     rw[hmB];exact zq5l (by simp[orB,hb]) (λe=>by subst e;rw[hX8]at hb;cases hb)
    have hBB:∀b y,B b=some y->m.box i b=some y:=λb y hb=>by
     have h1:=HLE.out b y hb;have h2:X b=none:=Classical.byContradiction λh=>by rw[hXB b h]at h1;cases h1
     rw[hmB];exact zq5l (by simp[orB,h2,h1]) (λe=>by subst e;rw[HN.out]at hb;cases hb)
    have hYn:∀b,X b≠none->B b=none:=λb hb=>Classical.byContradiction λh=>by
     cases ho:B b with
     |none=>exact h ho
     |some y=>have:=HLE.out b y ho;rw[hXB b hb]at this;cases this
    have hor:∀b,(orB X B1 b≠none->m.box i b≠none):=λb hb=>by
     rw[hmB]
     by_cases e:b=b8
     . subst e;simp
     . rw[zq2g _ _ e];exact hb
    obtain⟨ti,hti,hz0,hz1,hz2⟩:∃ti,Try.prog.info? 48=some ti/\ti.zero=some (.agg #[.bool false,.int .i64 0,.slice none 0 0])/\ti.size=3/\ti.bytes=40:=⟨_,rfl,rfl,rfl,rfl⟩;obtain⟨g2,cap,w2,m',hrun,hold,hst',hmv⟩:=ans_push (P:=Try.prog) hBR HR.out.lt 56 56 ti _ (by kernel_rfl) hti hz0 hz1 hz2 (by rfl) hsl hYB hBB hYn (by rw[hst];have:=HO.out;have:=HK.out;have:=HR.out.le;omega) wc.tape (wc.drawn+1);rw[hst]at hrun hmv hst';have k8:wc.heap[b8]?=some (.cells #[.bool a.ok,.int .i64 a.n,sl] 48):=hBR.box i b8 _ (by rw[hmB];exact upB_same _ _ _);have hX8f:m.l.2.X i b8=none:=Classical.byContradiction λh=>hBR.apart i b8 (by rw[hmB,upB_same];simp) (.inr (.inr ⟨i,HR.out.lt,h⟩));have hD:=hBR.core.2.1;have kab:wc.heap[ab]?=some (.cells ((List.range N).map m.l.2.hv).toArray 56):=hD.hd;have hXab:=hD.nab i HR.out.lt;have khb:=hBR.rod hb _ HR.out.hb;have hXhb:m.l.2.X i hb=none:=Classical.byContradiction λh=>hBR.rol hb (by rw[HR.out.hb];simp) (.inr (.inr ⟨i,HR.out.lt,h⟩));have kib:=hBR.rod ib _ HR.out.ib;have hXib:m.l.2.X i ib=none:=Classical.byContradiction λh=>hBR.rol ib (by rw[HR.out.ib];simp) (.inr (.inr ⟨i,HR.out.lt,h⟩));obtain⟨hv,hhv⟩:∃hv,m.l.2.hv i=hv:=⟨_,rfl⟩;have hvi:(((List.range N).map m.l.2.hv).toArray)[i]?=some hv:=by simp[HR.out.lt,hhv]
    obtain⟨sa,sn,sc,hsl'⟩:∃sa sn sc,sl=.slice sa sn sc:=by rcases hsl.2 with⟨h,_⟩|⟨_,_,_,h,_⟩<;>exact⟨_,_,_,h⟩
    obtain⟨va,vn,vc,hv'⟩:∃va vn vc,hv=.slice va vn vc:=by
     obtain⟨_,_,_,hr,_⟩:=hD.row i HR.out.lt;rw[hhv]at hr;rcases hr.2 with⟨h,_⟩|⟨_,_,_,h,_⟩<;>exact⟨_,_,_,h⟩
    rw[hhv]at hrun;obtain⟨W0,hW0⟩:∃W0,Car.re wc wc.tape (wc.drawn+1)=W0:=⟨_,rfl⟩;obtain⟨H,hH⟩:∃H,wc.heap.size=H:=⟨_,rfl⟩;rw[hW0,hH]at hrun;have hWs:∀W,W=W0\/W=W0.alloc (.cells #[.bool a.ok,.int .i64 a.n,sl] 48)\/W=w2->∀b,b<H->m.l.2.X i b=none->W.heap[b]?=wc.heap[b]?:=by
     rintro W (rfl |rfl |rfl) b hb hx
     . rw[<-hW0];rfl
     . rw[zq5,if_neg (by rw[<-hW0];show b≠wc.heap.size;omega),<-hW0];rfl
     . exact hold b (by omega) hx
    have hcell:∀W,W=W0\/W=W0.alloc (.cells #[.bool a.ok,.int .i64 a.n,sl] 48)\/W=w2->(W.cell? ⟨hb,0,none⟩=some (.slice (some ⟨ab,0,none⟩) N N)/\W.cell? ⟨ib,0,none⟩=some (.int .i64 i)/\W.cell? ⟨ab,i,none⟩=some hv/\W.cell? ⟨b8,0,none⟩=some (.bool a.ok)/\W.cell? ⟨b8,1,none⟩=some (.int .i64 a.n)/\W.cell? ⟨b8,2,none⟩=some sl)/\W.frozen? ⟨ab,i,none⟩=false:=by
     intro W hW;have e1:=(hWs W hW hb (by rw[<-hH];exact zqc khb) hXhb).trans khb;have e2:=(hWs W hW ib (by rw[<-hH];exact zqc kib) hXib).trans kib;have e3:=(hWs W hW ab (by rw[<-hH];exact zqc kab) hXab).trans kab;have e4:=(hWs W hW b8 (by rw[<-hH];exact zqc k8) hX8f).trans k8;exact⟨⟨(zq0 e1).trans rfl,(zq0 e2).trans rfl,(zq0 e3).trans hvi,(zq0 e4).trans rfl,(zq0 e4).trans rfl,(zq0 e4).trans rfl⟩,zq6 e3⟩
    have HC:=Lib.hid hcell;have hi0:(0:Int)<=(i:Int):=by omega
    have hiN:(i:Int)<(N:Int):=by have:=HR.out.lt;omega
    have HMV:=Lib.hid (And.intro hmv hst');have HRUN:=Lib.hid hrun;have HST:=Lib.hid hst;have HWs:=Lib.hid (And.intro hW0 hH);have hiN':i<N:=HR.out.lt;have HIN:=Lib.hid hiN';clear hcell hWs hvi kib khb kab k8 hX8f hXab hXhb hXib hD hold hst' hmv hti hz0 hz1 hz2 hor hYn hBB hYB hst hown hA hX8 hXB hsl hrun hW0 hH hiN';subst hsl' hv';refine zqm8 (k:=10) (s:=7) (t:=8) (W0:=W0) (W1:=W0.alloc (.cells #[.bool a.ok,.int .i64 a.n,.slice sa sn sc] 48)) (W2:=w2) (by kernel_rfl) (by kernel_rfl) (by kernel_rfl) (by kernel_rfl) (by decide) (by decide) (by decide) (by kernel_rfl)
     [.slice (some ⟨ab,0,none⟩) N N,.int .i64 i,.slice (some ⟨ab,0,none⟩) N N,.int .i64 i,.pointer (some ⟨ab,i,none⟩),.slice va vn vc,.agg #[.bool a.ok,.int .i64 a.n,.slice sa sn sc],.slice (some ⟨H,0,none⟩) 1 1,.slice (some ⟨g2,0,none⟩) (o.length+1) cap,.pointer (some ⟨ab,i,none⟩)] rfl HWs.out.1.symm ?_ ?_ ?_ ?_
    . intro j oo hj hj7 hj8 hoo W hWW;obtain⟨⟨d1,d2,d3,d4,d5,d6⟩,_⟩:=HC.out W hWW;clear hWW;simp only[putv,dstOf,al_gl,al_g0,al_g1,al_ob,al_g2,List.set_cons_succ,List.set_cons_zero];obtain rfl |rfl |rfl |rfl |rfl |rfl |rfl |rfl:j=0\/j=1\/j=2\/j=3\/j=4\/j=5\/j=6\/j=9:=by omega
      all_goals(simp only[al_gl,al_g0,al_g1,al_oi]at hoo;subst hoo;refine .inl ?_)
      all_goals(simp only[execOp,Act.eval,al_gd,al_gl,al_g0,al_g1,al_od])
      all_goals(try go_simp)
    . intro oo hoo;simp only[putv,dstOf,al_gl,al_g0,al_g1,al_ob,al_g2,List.set_cons_succ,List.set_cons_zero];simp only[al_gl,al_g0,al_g1,al_oi]at hoo;subst hoo;refine .inl ?_;have hs0:W0.heap.size=H:=by rw[<-HWs.out.1];exact HWs.out.2
      simp only[execOp,Act.eval,al_gd,al_gl,al_g0,al_g1,al_od];go_simp
    . intro oo hoo;have hrun:(Builtin.append_ #[56,56] 56 #[.slice va vn vc,.slice (some ⟨H,0,none⟩) 1 1]).run Try.prog (W0.alloc (.cells #[.bool a.ok,.int .i64 a.n,.slice sa sn sc] 48))=.ok (.slice (some ⟨g2,0,none⟩) (o.length+1) cap) w2:=HRUN.out;simp only[putv,dstOf,al_gl,al_g0,al_g1,al_ob,al_g2,List.set_cons_succ,List.set_cons_zero];simp only[al_gl,al_g0,al_g1,al_oi]at hoo;subst hoo;refine .inl ?_;unfold execOp;simp only[resolve,invoke,builtin,Sem.run_bind,Sem.run_pure,Result.andThen_ok,List.map_toArray,List.map_cons,List.map_nil,Act.eval,al_gd,al_gl,al_g0,al_g1,al_od,hrun];rfl
    simp only[putv,dstOf,al_gl,al_g0,al_g1,al_ob,al_g2,List.set_cons_succ,List.set_cons_zero];obtain⟨⟨_,_,d3,_,_,_⟩,d7⟩:=HC.out w2 (.inr (.inr rfl));refine zq1c (i:=10) (by kernel_rfl) ?_;simp only[wpOp,al_gl,al_g0,al_g1];rw[if_pos (by rfl)];refine .inl ?_;go_simp;refine zq1o (by kernel_rfl) ?_;refine⟨rfl,HX0.out _ _ _ _ (HMV.out.1 w2.tape w2.drawn) ?_ ⟨⟨_,_,_,_,_,_,_,_,_,_,_,_,_,_,_,_,_,_,_,_,_,_,_,_,_,rfl⟩,rfl⟩⟩;show(C.st m.l.1,m'.st)=(C.st m.l.1,upd' m.l.2.st i (m.l.2.st i++[a]));rw[HMV.out.2,HST.out]
  rintro _ m' w ⟨⟨v5,v6,v7,v8,v12,v13,v14,v15,v16,v17,v18,v19,v20,v21,v22,v23,v24,v25,v26,v27,v28,v29,v30,v31,v32,rfl⟩,hB'⟩ hA;replace hA:(zq37 hP hRS (zqi C (zqy tT ab N)) (ownE oe) ro pr fStep sx cr rest NE EN i (λs=>s.2 i=o++[a])).AtB B _ w ((opsP i dop (ops.drop (k+1))).bind Proc.ret):=⟨m',hB',hA⟩;show wpJ (λ(s:Turn Try.prog (M1×AnsM) (S1×(Nat->List Ans)))=>s.J) _ _ _ _ _;apply YSys.code0 hA (by kernel_rfl)
  . intro wc hB;go_wp2;exact⟨rfl,Ext1.refl _,rfl⟩
  intro w hA;exact⟨n,by omega,k+1,o++[a],B,_,_,_,_,_,_,_,_,_,_,_,_,_,_,_,_,_,_,_,_,_,_,_,_,_,by have:=HK.out;omega,by have:=HO.out;simp;omega,rfl,hA⟩
end
end Go.Proofs
namespace Go.Car
open Go
section
variable {Ml S O:Type} {C:Core Ml S} {own:Nat->S->O} {ro:Nat->Option Obj} {pr:Nat->Proc S Unit}
theorem begun_T2{m₀:TM Ml S}(h0:m₀.at'=λ_=>.ret ()){s:Nat}{m:TM Ml S}{ov brk:Nat->Bool}(h:Begun (zq1g C own ro pr) m₀ s m ov brk):SameT C ⟨m,ov,brk,[]⟩ (zq16 pr (C.st m₀.bm.l) s):=by
 induction h with
 |zero=>exact⟨rfl,h0,rfl,λ_=>rfl,rfl⟩
 |succ h ht ih=>
  rename_i s m ov brk m' ov' brk';obtain⟨h1,h2,h3,h4,h5⟩:=ih;simp only at h1 h2 h3 h4 h5;obtain⟨e1,e2,e3,e4⟩:=turned_T (C:=C) (own:=own) (r:=pr s (zq16 pr (C.st m₀.bm.l) s).s) (room:=m.room) (λo ho=>by rw[<-h1];exact ho) ht h4;exact⟨e1,by rw[zq16,turnT];simp only;rw[e2,h2],by rw[zq16,turnT];simp only;rw[e3,h3],e4,by rw[zq16,turnT];exact h5⟩
theorem step1_T2{N most:Nat}{x:Int}{a b:OSt (TM Ml S)}{s:TSt S}(h:Step1 (zq1g C own ro pr) N most x a b)(hs:SameT C a s):SameT C b (zq27 N most x s):=by
 obtain⟨h1,h2,h3,h4,h5⟩:=hs;cases h with
 |not hn=>
  rw[h3,h5]at hn;unfold zq27;rw[if_pos hn];exact⟨h1,h2,h3,h4,h5⟩
 |go i hx hi ho hm ht=>
  subst hx;rename_i m' ov' brk';have hn:¬((i:Int)<0\/(N:Int)<=i\/s.ov (i:Int).toNat=true\/s.ord.length=most):=by
   rw[<-h3,<-h5];rintro(e|e|e|e)
   . omega
   . omega
   . rw[Int.toNat_natCast,ho]at e;cases e
   . exact hm e
  unfold zq27;rw[if_neg hn,Int.toNat_natCast];obtain⟨e1,e2,e3,e4⟩:=turned_T (C:=C) (own:=own) (r:=goT (s.t i) s.s) (room:=a.m.room - 1) (λo ho=>by
   obtain⟨u,k,hk,hc⟩:=ho;rw[h2]at hk;rw[hk,<-h1];exact hc) ht h4
  exact⟨e1,by simp only[turnT];rw[e2,h2],by simp only[turnT];rw[e3,h3],e4,by simp only[turnT];rw[h5]⟩
theorem zqac{N most:Nat}{l:List Int}{a b:OSt (TM Ml S)}(h:StepsR (zq1g C own ro pr) N most l a b):∀{s:TSt S},SameT C a s->SameT C b (zq1e N most l s):=by
 induction h with
 |nil a=>exact λhs=>hs
 |cons h1 h2 ih=>exact λhs=>ih (step1_T2 h1 hs)
theorem zqg3{N most:Nat}{a b:OSt (TM Ml S)}(h:zq3b (zq1g C own ro pr) N most a b):∀(f:Nat){s:TSt S},most<f+a.ord.length->SameT C a s->SameT C b (zq2d N most f s):=by
 induction h with
 |stop a hn=>
  intro f s hf hs;cases f with
  |zero=>exact hs
  |succ f=>
   unfold zq2d;rw[if_neg (by rw[<-hs.ov,<-hs.ord];exact hn)];exact hs
 |more hgo hst hr ih=>
  rename_i a b c;intro f s hf hs;cases f with
  |zero=>have:=hgo.2;omega
  |succ f=>
   unfold zq2d;rw[if_pos (by rw[<-hs.ov,<-hs.ord];exact hgo)];obtain⟨i,hi,ho⟩:=zq4y hgo.1;have:=hst.progress hi (mem_upto hi) ho hgo.2;exact ih f (by omega) (zqac hst hs)
theorem ran_T2{N most:Nat}{l:List Int}{m₀ m':TM Ml S}{b:OSt (TM Ml S)}(h0:m₀.at'=λ_=>.ret ())(h:Ran (zq1g C own ro pr) N l most m₀ b m'):SameT C b (playT pr N most l (C.st m₀.bm.l))/\C.st m'.bm.l=C.st b.m.bm.l:=by
 obtain⟨⟨m₁,ov₁,brk₁,a,h1,h2,h3⟩,h4⟩:=h;refine⟨zqg3 h3 _ (by omega) (zqac h2 (begun_T2 h0 h1)),?_⟩;have:∀n m,Go.Car.Ends (zq1g C own ro pr) b.ov b.m n m->C.st m.bm.l=C.st b.m.bm.l:=by
  intro n m h
  induction h with
  |zero=>rfl
  |over h _ ih=>exact ih
  |kill h _ hk ih=>exact hk.1.trans ih
 exact this _ _ h4
end
end Go.Car
namespace Go.Proofs
open Go Go.Conc Go.RowKit Go.Car
section
variable {M1 S1 O1:Type} {oe:Nat->S1->O1} {C:Core M1 S1} {RP:Nat->Option Obj} {l₀:M1} {w wa w1 w2:World} {N n most:Nat} {sp:Nat->Option Addr} {L Cp:Nat->Nat} {ob ib:Nat->Nat} {dv fv v:Value} {pr:Nat->Proc (S1×(Nat->List Ans)) Unit} {sched:List Int} {b:OSt (TM (M1×AnsM) (S1×(Nat->List Ans)))} {m':TM (M1×AnsM) (S1×(Nat->List Ans))} {g:Nat}
theorem zqex{ro:Nat->Option Obj}{ab:Nat}{room:Nat}(h:BRep (zqi C (zqy tT ab N)) ro ⟨(l₀,ans0),λ_ _=>none⟩ w1):(zq1g (zqi C (zqy tT ab N)) (ownE oe) ro pr).Rep (mOps l₀ room) w1:=⟨h,λi=>trivial⟩
theorem zq57{ro:Nat->Option Obj}{ab room x:Nat}(h:(zq1g (zqi C (zqy tT ab N)) (ownE oe) ro pr).foot (mOps l₀ room) x):C.foot l₀ x\/x=ab\/ro x≠none:=by
 rcases h with(h|h|⟨i,hi,h⟩)|⟨i,h⟩|h
 . exact .inl h
 . exact .inr (.inl h)
 . exact absurd rfl h
 . exact absurd rfl h
 . exact .inr (.inr h)
theorem ops_res2(hR:DRes wa N dv sp L Cp N ob ib fv w1)(hb:BRep C RP ⟨l₀,λ_ _=>none⟩ wa){room:Nat}
 (ho:Over1 (zq1g (zqi C (zqy tT (wa.heap.size+1) N)) (ownE oe) (roOf RP wa.heap.size N ob ib w1) pr) N most sched (mOps l₀ room) w1 b m' v g w2):
 OpsRes C N l₀ wa (playT pr N most sched (C.st l₀,λ_=>[])) (wa.heap.size+1) v m'.bm.l.1 m'.bm.l.2 w2/\leftN b.ov N=leftN (playT pr N most sched (C.st l₀,λ_=>[])).ov N:=by
 obtain⟨hs,he⟩:=ran_T2 (m₀:=mOps l₀ room) rfl ho.ran;have hs0:(zqi C (zqy tT (wa.heap.size+1) N)).st (mOps (S1:=S1) l₀ room).bm.l=(C.st l₀,λ_=>[]):=rfl;rw[hs0]at hs;have hst:(C.st m'.bm.l.1,m'.bm.l.2.st)=(playT pr N most sched (C.st l₀,λ_=>[])).s:=he.trans hs.st;have hB:=ho.rep.1;have hsz:=hR.size;have hsz2:=ho.size;have hrl:∀x o,RP x=some o->x<wa.heap.size:=λx o h=>zqc (hb.rod x o h);have hrn:∀x,roOf RP wa.heap.size N ob ib w1 x≠none->RP x≠none\/wa.heap.size<=x:=λx h=>by
  cases hx:roOf RP wa.heap.size N ob ib w1 x with
  |none=>exact absurd hx h
  |some o=>
   rcases zq47 hx with h|⟨h,_⟩
   . exact .inl (by rw[h];simp)
   . right
     rcases h with h|h|⟨i,hi,h⟩
     . omega
     . omega
     . have:=hR.lo i hi;rcases h with h|h<;>omega
 have hfn:∀x,(zq1g (zqi C (zqy tT (wa.heap.size+1) N)) (ownE oe) (roOf RP wa.heap.size N ob ib w1) pr).foot m' x->roOf RP wa.heap.size N ob ib w1 x=none->C.foot l₀ x\/wa.heap.size<=x:=λx h hn=>by
  rcases ho.foot x h with h|h
  . rcases zq57 h with h|h|h
    . exact .inl h
    . exact .inr (by omega)
    . exact absurd hn h
  . exact .inr (by omega)
 have hcr:∀x,C.foot m'.bm.l.1 x->roOf RP wa.heap.size N ob ib w1 x=none:=λx h=>Classical.byContradiction λy=>hB.rol x y (.inl h);refine⟨⟨hB.core.1,congrArg Prod.fst hst,hB.core.2.1,congrArg Prod.snd hst,by omega,λx hx hf=>?_,λx hx=>hfn x (.inl (.inl hx)) (hcr x hx),by omega,λi x hi hx=>hfn x (.inl (.inr (.inr ⟨i,hi,hx⟩))) (Classical.byContradiction λy=>hB.rol x y (.inr (.inr ⟨i,hi,hx⟩))),λx hx=>?_,?_,λx hx=>?_⟩,?_⟩
 . by_cases hro:roOf RP wa.heap.size N ob ib w1 x=none
   . refine(ho.old x (by omega) λh=>?_).trans (hR.old x hx);rcases zq57 h with h|h|h
     . exact hf h
     . omega
     . exact h hro
   . cases hx2:roOf RP wa.heap.size N ob ib w1 x with
     |none=>exact absurd hx2 hro
     |some o=>
      rw[hB.rod x o hx2];rcases zq47 hx2 with h|⟨h,_⟩
      . exact(hb.rod x o h).symm
      . exfalso;rcases h with h|h|⟨i,hi,h⟩
        . omega
        . omega
        . have:=hR.lo i hi;rcases h with h|h<;>omega
 . have h:=hB.core.2.2 x hx;exact⟨λe=>h (.inl e),λi hi=>Classical.byContradiction λy=>h (.inr ⟨i,hi,y⟩)⟩
 . have:=ho.row;rw[hs.ord]at this;exact zq33 this (by omega)
 . have h:=(ho.rowf x hx).1;exact⟨λy=>h (.inl (.inl y)),λe=>h (.inl (.inr (.inl e))),λi hi=>Classical.byContradiction λy=>h (.inl (.inr (.inr ⟨i,hi,y⟩)))⟩
 . exact zq8d λi _=>by rw[hs.ov]
end
theorem zqew{Fin:Machine->Trace->Prop}(hFin:Back Try.prog Fin){n:Nat}(hn:0<n){A:FuncId->Bool}(hP:Plain Try.prog A)(hRS:RowsS Try.prog A){M1 S1 O1:Type}{oe:Nat->S1->O1}{C:Core M1 S1}{RP:Nat->Option Obj}{l₀:M1}{w:World}
 {np Cn N Cs:Nat} {pp scp:Option Addr} {sp:Nat->Option Addr} {L Cp:Nat->Nat} {ops:Nat->List OpX} {sched:List Int} {mo:Int} {f:FuncId} {first caps:Array Value} {fn:Func} {cc:Code} (hf:Try.prog.funcs[f]?=some fn) (hb':fn.body=some cc) (hnm:(fn.name== "runtime.NumGoroutine")=false)
 (hb:BRep C RP ⟨l₀,λ_ _=>none⟩ w) (ho:OpsAt w RP pp np N sp L Cp ops) (hsl:sched.length<=4611686018427387904)
 (hs:sched≠[]->∃sb off,scp=some ⟨sb,off,none⟩/\¬C.foot l₀ sb/\∀j x,sched[j]?=some x->w.cell? ⟨sb,off+j,none⟩=some (.int .i64 x))
 {dop:Nat->OpX->Proc (S1×(Nat->List Ans)) Ans} (hdeep:∀i s,i<N->ownE oe i s=ownE oe i (C.st l₀,λ_=>([]:List Ans))->∀k,(opsP i (dop i) (ops i)).DeepO (ownE oe i) k s)
 (hdo:∀(ro:Nat->Option Obj)(ab:Nat)(pr:Nat->Proc (S1×(Nat->List Ans)) Unit)(st:Nat)(cr:Frame)(rest:List Frame)(EN:List PanicEntry->Prop)(i:Nat)(o:List Ans)(op:OpX),(∀b x,RP b=some x->ro b=some x)->i<N->
  SpecR (zq37 hP hRS (zqi C (zqy tT ab N)) (ownE oe) ro pr 81 (.pointer (some ⟨st,0,none⟩)) cr rest NEnd EN i (λs=>s.2 i=o)) f (first++#[.iface 150 (.pointer (some ⟨st,0,none⟩)),.int .i64 i,op.val]++caps) (dop i op) (AnsV 2))
 {c:Frame} {cs:List Frame}
 (hmain:∀ab v l' am w',OpsRes C N l₀ w (playT (λi=>opsP i (dop i) (ops i)) N (min mo.toNat 1048576) sched (C.st l₀,λ_=>[])) ab v l' am w'->
  J0 Try.prog Fin (n+N) (G (c.finish (.agg #[.slice (some ⟨ab,0,none⟩) N N,v,.slice none 0 0,.bool (decide (0<leftN (playT (λi=>opsP i (dop i) (ops i)) N (min mo.toNat 1048576) sched (C.st l₀,λ_=>[])).ov N))])) cs) w'):
 J0 Try.prog Fin n (G (Frame.enter Try.prog 32 #[.slice pp np Cn,.func (.func f) first caps,.slice scp sched.length Cs,.int .i64 mo] .normal) (c::cs)) w:=by
 have hJ:=j0_JS hFin;have hC:=zq3x hFin;have e:Frame.enter Try.prog 32 #[.slice pp np Cn,.func (.func f) first caps,.slice scp sched.length Cs,.int .i64 mo] .normal=(bN 32).at (zqw Try.f32 #[.slice pp np Cn,.func (.func f) first caps,.slice scp sched.length Cs,.int .i64 mo]) [.code ((Try.f32.body).getD .skip)]:=by kernel_rfl
 have ea:zqw Try.f32 #[.slice pp np Cn,.func (.func f) first caps,.slice scp sched.length Cs,.int .i64 mo]=⟨#[.slice pp np Cn,.func (.func f) first caps,.slice scp sched.length Cs,.int .i64 mo,undef,undef,undef,undef,undef,undef,undef,undef,undef,undef,undef,undef,undef,undef,undef,undef,undef,undef,undef,undef,undef,undef,undef,undef,undef,undef,undef,undef],[]⟩:=by kernel_rfl
 rw[e,ea,ops0];clear e ea;have hm:=Lib.hid hmain;clear hmain;obtain⟨H,hH⟩:∃H,w.heap.size=H:=⟨_,rfl⟩;refine hJ.ctl (s:=n) (λw=>stepG_seq) ?_;refine zq3c hJ hC zq66 (by kernel_rfl) (λt w'=>t=#[.slice pp np Cn,.func (.func f) first caps,.slice scp sched.length Cs,.int .i64 mo,undef,undef,undef,undef,.pointer (some ⟨H,0,none⟩),undef,undef,undef,undef,undef,undef,undef,undef,undef,undef,undef,undef,undef,undef,undef,undef,undef,undef,undef,undef,undef,undef,undef]/\∃τ d,w'=re (w.alloc (.cells #[.slice none 0 0,.slice none 0 0,.slice none 0 0,.bool false] 29)) τ d) (λt w' τ d h=>⟨h.1,by obtain⟨τ',d',rfl⟩:=h.2;exact⟨τ,d,by rw[re_re]⟩⟩) (by decide) (λτ d=>?_) ?_
 . obtain⟨u0,hu0⟩:∃c,headC (opsT 0)=c:=⟨_,rfl⟩;have eu0:=hu0;rw[hu0];simp only[opsT,headC,tailN,Try.f32,al_od]at eu0;subst eu0;clear hu0 hdo hdeep hs ho hb hf hb' hnm;go_wp2;exact⟨rfl,rfl,τ,d,rfl⟩
 rintro t w' ⟨rfl,τ,d,rfl⟩;refine hJ.re' n _ _ τ d ?_;have hwa:(w.alloc (.cells #[.slice none 0 0,.slice none 0 0,.slice none 0 0,.bool false] 29)).heap.size=H+1:=by rw[zq3,hH]
 have hob:∀b,b<H->(w.alloc (.cells #[.slice none 0 0,.slice none 0 0,.slice none 0 0,.bool false] 29)).heap[b]?=w.heap[b]?:=λb hb=>by rw[zq5,if_neg (by omega)]
 have hzb:(w.alloc (.cells #[.slice none 0 0,.slice none 0 0,.slice none 0 0,.bool false] 29)).heap[H]?=some (.cells #[.slice none 0 0,.slice none 0 0,.slice none 0 0,.bool false] 29):=hH▸zqo w _;obtain⟨wa,hwae⟩:∃wa,w.alloc (.cells #[.slice none 0 0,.slice none 0 0,.slice none 0 0,.bool false] 29)=wa:=⟨_,rfl⟩;rw[hwae]at hwa hob hzb |-;clear hwae;have hlw:∀b,C.foot l₀ b->b<H:=λb h=>by rw[<-hH];exact C.lt _ _ _ hb.core h
 have hba:BRep C RP ⟨l₀,λ_ _=>none⟩ wa:=hb.frame λb h=>hob b (by rw[<-hH];exact hb.lt h);have hat:0<np->∃tb to',pp=some ⟨tb,to',none⟩/\∀i,i<N->wa.cell? ⟨tb,to'+i,none⟩=some (.slice (sp i) (L i) (Cp i)):=λh0=>by
  obtain⟨tb,to',e,h1⟩:=ho.at' h0;exact⟨tb,to',e,λi hi=>(zqu (hob tb (by rw[<-hH];exact cell_lt (h1 i hi)))).trans (h1 i hi)⟩
 have hs2:sched≠[]->∃sb off,scp=some ⟨sb,off,none⟩/\¬C.foot l₀ sb/\sb<H/\∀j x,sched[j]?=some x->wa.cell? ⟨sb,off+j,none⟩=some (.int .i64 x):=λh0=>by
  obtain⟨sb,off,e,h1',h2⟩:=hs h0;obtain⟨x,l,hsl⟩:=List.exists_cons_of_ne_nil h0;have hlt:sb<H:=by rw[<-hH];exact cell_lt (h2 0 x (by rw[hsl];rfl))
  exact⟨sb,off,e,h1',hlt,λj x hj=>(zqu (hob sb hlt)).trans (h2 j x hj)⟩
 have hNe:=ho.eq;have hN64:N<=64:=by omega
 have hnp:=ho.le;have hrow:=ho.row;have hlen:=ho.len;have hop:=ho.op;clear ho hs hb;refine hJ.ctl (s:=n) (λw=>stepG_seq) ?_;refine zq3c hJ hC zq66 (by kernel_rfl) (λt w'=>∃ob ib fv,t=#[.slice pp np Cn,.func (.func f) first caps,.slice scp sched.length Cs,.int .i64 mo,undef,undef,undef,undef,.pointer (some ⟨H,0,none⟩),fv,.slice (some ⟨H+1+1,0,none⟩) N N,undef,undef,undef,.tuple #[fv,.slice (some ⟨H+1+1,0,none⟩) N N],.slice pp np Cn,.func (.func f) first caps,.tuple #[fv,.slice (some ⟨H+1+1,0,none⟩) N N],fv,.slice (some ⟨H+1+1,0,none⟩) N N,undef,undef,undef,undef,undef,undef,undef,undef,undef,undef,undef,undef]/\DRes wa N (.func (.func f) first caps) sp L Cp N ob ib fv w') (λt w' τ d h=>?_) (by decide) (λτ d=>?_) ?_
 . obtain⟨ob,ib,fv,h1,h2⟩:=h;exact⟨ob,ib,fv,h1,h2.re τ d⟩
 . obtain⟨u0,hu0⟩:∃c,headC (opsT 1)=c:=⟨_,rfl⟩;have eu0:=hu0;rw[hu0];simp only[opsT,headC,tailN,Try.f32,al_od]at eu0;subst eu0;clear hu0;have HM:=Lib.hid (zqct (pp:=pp) (n:=np) (Cn:=Cn) (dv:=.func (.func f) first caps) (sp:=sp) (L:=L) (Cp:=Cp) ⟨_,_,_,rfl⟩ (re wa τ d) hnp (λi hi=>hrow i (by rw[hNe];exact hi)) (λh0=>by
    obtain⟨tb,to',e,h1⟩:=hat h0;exact⟨tb,to',e,λi hi=>h1 i (by rw[hNe];exact hi)⟩))
   rw[<-hNe]at HM;have HH:=Lib.hid (And.intro hH hwa);clear hs2 hat hlw hba hob hzb hH hwa hNe hN64 hnp hrow hlen hop hdo hdeep hf hb' hnm hsl
   go_wp2_with (fail)
   refine Calls.mono HM.out ?_;rintro e w' ⟨ob,ib,fv,rfl,hR⟩;have hR2:=Lib.hid hR.of_re;clear hR;rw[show(re wa τ d).heap.size=H+1 from HH.out.2];go_wp2;exact⟨rfl,ob,ib,fv,rfl,hR2.out⟩
 rintro t w1 ⟨ob,ib,fv,rfl,hR⟩;obtain⟨fp,Cf,rfl,hfo,hfp⟩:=zqey hR.frow;refine hJ.ctl (s:=n) (λw=>stepG_seq) ?_;have hrep1:=ops_rep hR hba;obtain⟨u0,hu0⟩:∃c,headC (opsT 2)=c:=⟨_,rfl⟩;have eu0:=hu0;rw[hu0];simp only[opsT,headC,tailN,Try.f32,al_od]at eu0;subst eu0;clear hu0;refine hJ.ctl (s:=n) (λw=>stepG_region) ?_;have HR:=Lib.hid hR;have HP:=Lib.hid hrep1;have HX:=Lib.hid (And.intro hat (And.intro hs2 (And.intro hob (And.intro hzb (And.intro hwa (And.intro hlw (And.intro hba (And.intro hrow (And.intro hlen hop)))))))));have HA:=Lib.hid (And.intro hfo hfp);have HNE:=Lib.hid hNe;clear hNe;have HD:=Lib.hid (And.intro hdo (And.intro hdeep (And.intro hf (And.intro hb' hnm))));clear hR hrep1 hat hs2 hob hzb hwa hfo hfp hlw hba hrow hlen hop hdo hdeep hf hb' hnm;refine zq11 (s:=n) (by decide) hJ (zq10 _) true (.inl rfl) 0 3 8 rfl rfl rfl (by rfl) ?_;intro τ d;simp only[List.drop_zero,List.take_succ_cons,List.take_zero];go_wp2;simp only[zql];refine hJ.re' n _ _ τ d ?_;refine zq1p (by decide) hJ (s:=n) rfl rfl (f:=54) (args:=#[.slice fp N Cf,.slice scp sched.length Cs,.int .i64 mo]) (λτ d=>?_) (λτ d=>?_) ?_
 . simp[go_sem,execOp,Act.eval,resolve,Deferred.ofValue,invoke,callFunc,Try.func54,Try.f54]
 . intro e he;simp[go_sem,execOp,Act.eval,resolve,Deferred.ofValue,invoke,callFunc,Try.func54,Try.f54,Sem.runT_eq]at he
 obtain⟨hat,hs2,hob,hzb,hwa,hlw,hba,hrow,hlen,hop⟩:=HX.out;obtain⟨hfo,hfp⟩:=HA.out;obtain⟨hdo,hdeep,hf,hb',hnm⟩:=HD.out;have hRo:∀i,i<N->DoRo (roOf RP wa.heap.size N ob ib w1) i N (wa.heap.size+1) (ob i) wa.heap.size (ib i) (wa.heap.size+2) (sp i) (min (L i) 65536) (Cp i) (ops i) f first caps:=λi hi=>ops_ro HR.out hba hN64 hlen hop hi
 have hfree:∀x,wa.heap.size+3<=x->w1.heap[x]?≠none->(∀i,i<N->x≠ob i/\x≠ib i)->¬(C.foot l₀ x\/x=wa.heap.size+1\/roOf RP wa.heap.size N ob ib w1 x≠none):=λx hx _ hne h=>by
  rcases h with h|h|h
  . have:=hlw x h;omega
  . omega
  . cases ho:roOf RP wa.heap.size N ob ib w1 x with
    |none=>exact h ho
    |some o=>
     rcases zq47 ho with h2|⟨h2,_⟩
     . have:=zqc (hba.rod x o h2);omega
     . rcases h2 with h2|h2|⟨i,hi,h2|h2⟩
       . omega
       . omega
       . exact(hne i hi).1 h2
       . exact(hne i hi).2 h2
 refine zqez hFin (T:=zq1g (zqi C (zqy tT (wa.heap.size+1) N)) (ownE oe) (roOf RP wa.heap.size N ob ib w1) (λi=>opsP i (dop i) (ops i))) (m₀:=mOps l₀ (min mo.toNat 1048576+100)) (N:=N) (most:=min mo.toNat 1048576) (tv:=λi=>cloD wa.heap.size (ob i) (ib i)) (sched:=sched) hn (by have:=HNE.out;omega) rfl (zqex HP.out) (Nat.le_refl _) ?_ (λi hi=>?_) ?_ ?_
 . intro h0;obtain⟨g,e,hg,hc⟩:=hfp h0;refine⟨g,e,λhf=>?_,λi hi=>hc i _ (by simp[clsD,hi])⟩;obtain⟨⟨cc,hcc⟩,hlo,hlt⟩:=own_lt HR.out.frow hg;refine hfree g hlo (by rw[hcc];simp) (λi hi=>⟨λe=>?_,λe=>?_⟩) (zq57 hf)
   . exact zqf hcc (HR.out.obx i hi) (by decide) e
   . exact zqf hcc (HR.out.ibx i hi) (by decide) e
 . refine zqlu hP hRS (fn:=Try.f58) (c:=(Try.f58.body).getD .skip) Try.func58 rfl rfl (λs hs k=>hdeep i s hi hs k) (λst cr rest EN s m w hA hown=>?_);exact zqcs hP hRS hf hb' hnm (hRo i hi) (λo op=>hdo _ _ _ st cr rest EN i o op (λb x h=>zq68 h) hi) s m w hA (congrArg Prod.fst hown)
 . refine⟨hsl,scp,Cs,rfl,λh0=>?_⟩;obtain⟨sb,off,e,h1',h2,h3⟩:=hs2 h0;refine⟨sb,off,e,λj x hj=>?_⟩;cases h1:RP sb with
   |some o=>exact .inr λm w h=>(zqu ((h.1.rod sb o (zq68 h1)).trans (hba.rod sb o h1).symm)).trans (h3 j x hj)
   |none=>
   refine .inl ⟨(zqu (HR.out.old sb (by omega))).trans (h3 j x hj),by have:=HR.out.size;omega,λhf=>?_⟩;rcases zq57 hf with h4|h4|h4
   . exact h1' h4
   . omega
   . cases ho:roOf RP wa.heap.size N ob ib w1 sb with
     |none=>exact h4 ho
     |some o=>
      rcases zq47 ho with h5|⟨h5,_⟩
      . rw[h1]at h5;cases h5
      . rcases h5 with h5|h5|⟨i,hi,h5⟩
        . omega
        . omega
        . have:=HR.out.lo i hi;rcases h5 with h5|h5<;>omega
 intro b m' v g capg w2 ho;obtain⟨hres,hleft⟩:=ops_res2 HR.out hba ho;have hvrow:=ho.row;clear ho;rw[Frame.finish_at]
 walk_nrm
 obtain⟨pv',cv',rfl,_⟩:=zq1b hvrow;clear hvrow;generalize b.ord.length=nv' at hres |-;have HO:=Lib.hid hres;rw[hleft];have hHw:=zqc hzb;clear hleft hres;obtain⟨stuck,hstuck⟩:∃x,decide (0<leftN (playT (λi=>opsP i (dop i) (ops i)) N (min mo.toNat 1048576) sched (C.st l₀,λ_=>[])).ov N)=x:=⟨_,rfl⟩;rw[hstuck];have HST:=Lib.hid hstuck;clear hstuck;refine zq11 (s:=n+N) (by decide) hJ (zq10 _) true (.inl rfl) 4 7 0 rfl rfl rfl (by rfl) ?_;intro τ d;simp only[List.drop_succ_cons,List.drop_zero,List.take_succ_cons,List.take_zero];go_wp2;simp only[zql];refine hJ.re' (n+N) _ _ τ d ?_;refine hJ.ctl (s:=n+N) (λw=>stepG_region_end) ?_;have hze:w2.heap[H]?=some (.cells #[.slice none 0 0,.slice none 0 0,.slice none 0 0,.bool false] 29):=(HO.out.old H hHw (λh=>by have:=hlw H h;omega)).trans hzb;refine zq5r hJ hC zq66 (by kernel_rfl) (λv w'=>v=.agg #[.slice (some ⟨H+1+1,0,none⟩) N N,.slice pv' nv' cv',.slice none 0 0,.bool stuck]/\∃l' am,OpsRes C N l₀ w (playT (λi=>opsP i (dop i) (ops i)) N (min mo.toNat 1048576) sched (C.st l₀,λ_=>[])) (H+1+1) (.slice pv' nv' cv') l' am w') (λv w' τ d⟨h1,l',am,h2⟩=>⟨h1,l',am,h2.re τ d⟩) rfl Try.func32 (λτ d=>?_) ?_
 . obtain⟨u0,hu0⟩:∃c,opsT 3=c:=⟨_,rfl⟩;have eu0:=hu0;rw[hu0];simp only[opsT,headC,tailN,Try.f32,al_od]at eu0;subst eu0;clear hu0;have HZ:=Lib.hid (And.intro hH (And.intro hwa (And.intro hob hlw)));have b0:(re w2 τ d).heap[H]?=some (.cells #[.slice none 0 0,.slice none 0 0,.slice none 0 0,.bool false] 29):=hze;have hre:=HO.out.re τ d;clear HO;generalize re w2 τ d=w3 at b0 hre |-;have HPR:=Lib.hid hre;clear hre hfree hRo hat hs2 hob hzb hwa hlw hba hrow hlen hop hfo hfp hdo hdeep hf hb' hnm hze hHw HX HA HD HP HR hH hsl hN64 hnp hm;have r0:=(zq0 (off:=0) b0).trans rfl;have r1:=(zq0 (off:=1) b0).trans rfl;have r2:=(zq0 (off:=2) b0).trans rfl;have r3:=(zq0 (off:=3) b0).trans rfl;have z0:=zq6 (off:=0) b0;have z1:=zq6 (off:=1) b0;have z2:=zq6 (off:=2) b0;have z3:=zq6 (off:=3) b0;have B0:=Lib.hid b0;clear b0;go_wp2;clear r0 r1 r2 r3 z0 z1 z2 z3;have b1':=zqn w3 H 0 (.slice (some ⟨H+1+1,0,none⟩) N N) B0.out;have b2':=zqn _ H 1 (.slice pv' nv' cv') b1';have b3':=zqn _ H 2 (.slice none 0 0) b2';have b4':=zqn _ H 3 (.bool stuck) b3';have hext:∀x,x<w3.heap.size->x≠H->((((w3.setCell ⟨H,0,none⟩ (.slice (some ⟨H+1+1,0,none⟩) N N)).setCell ⟨H,1,none⟩ (.slice pv' nv' cv')).setCell ⟨H,2,none⟩ (.slice none 0 0)).setCell ⟨H,3,none⟩ (.bool stuck)).heap[x]?=w3.heap[x]?:=λx _ hx=>by
    rw[zq8 _ _ _ _ hx,zq8 _ _ _ _ hx,zq8 _ _ _ _ hx,zq8 _ _ _ _ hx]
   have hsz8:((((w3.setCell ⟨H,0,none⟩ (.slice (some ⟨H+1+1,0,none⟩) N N)).setCell ⟨H,1,none⟩ (.slice pv' nv' cv')).setCell ⟨H,2,none⟩ (.slice none 0 0)).setCell ⟨H,3,none⟩ (.bool stuck)).heap.size=w3.heap.size:=by simp only[zqv]
   generalize ((((w3.setCell ⟨H,0,none⟩ (.slice (some ⟨H+1+1,0,none⟩) N N)).setCell ⟨H,1,none⟩ (.slice pv' nv' cv')).setCell ⟨H,2,none⟩ (.slice none 0 0)).setCell ⟨H,3,none⟩ (.bool stuck))=w8 at b4' hext hsz8 |-;clear b1' b2' b3';have k0:=(zq0 (off:=0) b4').trans rfl;have k1:=(zq0 (off:=1) b4').trans rfl;have k2:=(zq0 (off:=2) b4').trans rfl;have k3:=(zq0 (off:=3) b4').trans rfl;have hres:=HPR.out;rw[HZ.out.2.1]at hres;refine⟨rfl,.agg #[.slice (some ⟨H+1+1,0,none⟩) N N,.slice pv' nv' cv',.slice none 0 0,.bool stuck],?_,_,rfl,rfl,_,_,hres.ext HZ.out.1 HZ.out.2.1 HZ.out.2.2.1 HZ.out.2.2.2 (by omega) hext⟩;simp only[results,Try.f32];simp[go_sem,k0,k1,k2,k3]
 . rintro v w' ⟨rfl,l',am,h⟩;have h2:=hm.out _ _ l' am w' h;rw[HST.out]at h2;exact h2
end Go.Proofs
namespace Go.Car
open Go
section
variable {σ O α γ:Type} {ow:σ->O} {len:σ->Nat} {b b1 b2:Nat}
def Proc.Keep (ow:σ->O)(len:σ->Nat)(b b':Nat)(p:Proc σ α):Prop:=∀{β:Type}(K:α->Proc σ β),(∀a s,len s<=b'->∀n,(K a).DeepO ow n s)->∀s,len s<=b->∀n,(p.bind K).DeepO ow n s
theorem Proc.Keep.ret (a:α):(Proc.ret a:Proc σ α).Keep ow len b b:=λK hK s hs n=>hK a s hs n
theorem Proc.Keep.act {f:σ->σ×α}(h:∀s,len s<=b->len (f s).1<=b1):(Proc.act f).Keep ow len b b1:=λK hK s hs n=>hK (f s).2 (f s).1 (h s hs) n
theorem Proc.Keep.tick (hl:∀s s',ow s'=ow s->len s'=len s):(Proc.tick:Proc σ Unit).Keep ow len b b:=λK hK s hs n=>by
 cases n with
 |zero=>trivial
 |succ n=>exact λs' e=>hK () s' (by rw[hl s s' e];exact hs) n
theorem Proc.Keep.bind {p:Proc σ α}{q:α->Proc σ γ}(hp:p.Keep ow len b b1)(hq:∀a,(q a).Keep ow len b1 b2):(p.bind q).Keep ow len b b2:=λK hK s hs n=>by
 rw[Proc.bind_bind];exact hp _ (λa s h n=>hq a K hK s h n) s hs n
theorem Proc.Keep.mono {p:Proc σ α}{b0 b3:Nat}(hp:p.Keep ow len b b1)(h0:b0<=b)(h1:b1<=b3):p.Keep ow len b0 b3:=λK hK s hs n=>hp K (λa s h n=>hK a s (Nat.le_trans h h1) n) s (Nat.le_trans hs h0) n
theorem Proc.Keep.deep {p:Proc σ α}(hp:p.Keep ow len b b1){s:σ}(hs:len s<=b)(n:Nat):p.DeepO ow n s:=by
 have:=hp Proc.ret (λa s _ n=>by cases n<;>trivial) s hs n
 rwa [Proc.bind_pure]at this
theorem Proc.Keep.then {q:Proc σ α}(hl:∀s s',ow s'=ow s->len s'=len s)(hq:q.Keep ow len b b1):(Proc.tick.bind λ_=>q).Keep ow len b b1:=Proc.Keep.bind (Proc.Keep.tick hl) λ_=>hq
end
end Go.Car
namespace Go.Proofs
open Go Go.Conc Go.RowKit Go.Car
def oeE(i:Nat)(s:EpS):List (Int×Int):=s.th i
theorem edo_turn{T:EpT}{N ab:Nat}(hty:EpTy T)(hN:T.N=N)(hN64:N<=64)(ro:Nat->Option Obj)(pr:Nat->Proc (EpS×(Nat->List Ans)) Unit)(st:Nat)(cr:Frame)(rest:List Frame)(EN:List PanicEntry->Prop)(i:Nat)(hi:i<N)(o:List Ans)(op:OpX):
 SpecR (zq37 zq1s rowsM (zqi (zqm T) (zqy tT ab N)) (ownE oeE) ro pr 81 (.pointer (some ⟨st,0,none⟩)) cr rest NEnd EN i (λs=>s.2 i=o)) 33 (#[.pointer (some ⟨T.db,0,none⟩)]++#[.iface 150 (.pointer (some ⟨st,0,none⟩)),.int .i64 i,op.val]++#[]) (opE T.N i op) (AnsV 2):=by
 have hi':i<T.N:=by omega
 have hs:=zqjk _ (zqlv (C:=zqi (zqm T) (zqy tT ab N)) (own:=ownE oeE) (ro:=ro) (pr:=pr) (fStep:=81) (sx:=.pointer (some ⟨st,0,none⟩)) (cr:=cr) (rest:=rest) (NE:=NEnd) (EN:=EN) (i:=i) zq1s rowsM (I:=λs=>s.2 i=o) (λs s' h hI=>(congrArg Prod.fst h).trans hI));exact edo_spec _ (zqd2 _ hty hi' (λg g' s h=>h) (λg g' s hg j hj=>by show(s j,g'.th j)=(s j,g.th j);rw[hg j hj]) (λ{s m w r}h e=>by
  have:=h.deepr;rw[e]at this;exact this) hs) hi' (by omega) (zqd1 _ hty hi' (λg g' s h=>h) (λg g' s hg j hj=>by show(s j,g'.th j)=(s j,g.th j);rw[hg j hj]) _) op
section
abbrev lenE(i:Nat)(s:EpS×(Nat->List Ans)):Nat:=(s.1.th i).length
variable {i:Nat} {b:Nat}
theorem lenE_own(s s':EpS×(Nat->List Ans))(h:ownE oeE i s'=ownE oeE i s):lenE i s'=lenE i s:=by
 have:=congrArg (λx=>x.2.length) h;exact this
abbrev KeepE(i b b':Nat){α:Type}(p:Proc (EpS×(Nat->List Ans)) α):Prop:=p.Keep (ownE oeE i) (lenE i) b b'
theorem zq2c{α:Type}{f:EpS->EpS×α}(h:∀s,(f s).1.th i=s.th i):KeepE i b b (onE f):=Proc.Keep.act λs hs=>by
 show((f s.1).1.th i).length<=b;rw[h];exact hs
theorem zq3z{α:Type}{q:Proc (EpS×(Nat->List Ans)) α}{b':Nat}(h:KeepE i b b' q):KeepE i b b' (Proc.tick.bind λ_=>q):=Proc.Keep.then lenE_own h
theorem zq51:KeepE i b b loadP:=zq3z (zq2c λ_=>rfl)
theorem zqcy(k:Nat):KeepE i b b (zq2i k):=by
 unfold zq2i;refine Proc.Keep.bind (zq2c λ_=>rfl) λx=>?_;split
 . exact Proc.Keep.ret _
 . exact Proc.Keep.bind zq51 λe=>Proc.Keep.bind (zq3z (zq2c λ_=>rfl)) λ_=>Proc.Keep.bind (zq2c λ_=>rfl) λ_=>Proc.Keep.ret _
theorem zqe9(k:Nat):KeepE i b b (zq2k k):=by
 unfold zq2k;refine Proc.Keep.bind (zq2c λ_=>rfl) λx=>?_;split
 . exact Proc.Keep.bind (zq2c λ_=>rfl) λ_=>Proc.Keep.bind (zq3z (zq2c λ_=>rfl)) λ_=>Proc.Keep.ret _
 . exact Proc.Keep.ret _
theorem zqfy(n:Int)(hb:b<mostT):KeepE i b (b+1) (zq3n i n):=by
 unfold zq3n;refine Proc.Keep.bind zq51 λe=>?_;intro β K hK s hs m;have e1:pushT i (n,e) s.1=(s.1.putT i (s.1.th i++[(n,e)]),true):=by
  unfold pushT;rw[if_pos (Nat.lt_of_le_of_lt hs hb)]
 rw[Proc.bind_bind];show((λx=>(if x=true then Proc.ret (e,(0:Int))else Proc.out).bind K) (pushT i (n,e) s.1).2).DeepO _ m ((pushT i (n,e) s.1).1,s.2);rw[e1];refine hK (e,0) _ ?_ m;show((upd' s.1.th i (s.1.th i++[(n,e)])) i).length<=b+1;rw[upd'_same,List.length_append];have:(s.1.th i).length<=b:=hs;simp;omega
theorem zq75(N:Nat)(e:Int):∀r,KeepE i b b (advL N e r)
 |0=>Proc.Keep.bind (zq3z (zq2c λs=>by unfold casE;split<;>rfl)) λ_=>Proc.Keep.ret _
 |r+1=>Proc.Keep.bind (zq3z (zq2c λ_=>rfl)) λm=>by
  split
  . exact Proc.Keep.ret _
  . exact zq75 N e r
theorem zqcp(k:Nat):KeepE i b b (collP k):=Proc.Keep.bind zq51 λe=>Proc.Keep.bind (Proc.Keep.act λs hs=>by
 show(upd' s.1.th k _ i).length<=b
 by_cases h:i=k
 . subst h;rw[upd'_same];exact Nat.le_trans (List.length_filter_le _ _) hs
 . rw[zqd _ _ h];exact hs) λl=>Proc.Keep.ret _
theorem op_keep(N:Nat)(op:OpX)(hb:b<mostT):KeepE i b (b+1) (opE N i op):=by
 unfold opE
 repeat' split
 . exact Proc.Keep.mono (Proc.Keep.bind (zqcy i) λ_=>Proc.Keep.ret _) (Nat.le_refl _) (Nat.le_succ _)
 . exact Proc.Keep.mono (Proc.Keep.bind (zqe9 i) λ_=>Proc.Keep.ret _) (Nat.le_refl _) (Nat.le_succ _)
 . exact Proc.Keep.bind (zqfy _ hb) λ_=>Proc.Keep.ret _
 . exact Proc.Keep.mono (Proc.Keep.bind (Proc.Keep.bind zq51 λe=>zq75 N e N) λ_=>Proc.Keep.ret _) (Nat.le_refl _) (Nat.le_succ _)
 . exact Proc.Keep.mono (Proc.Keep.bind (zqcp i) λ_=>Proc.Keep.ret _) (Nat.le_refl _) (Nat.le_succ _)
 . exact Proc.Keep.mono (Proc.Keep.ret _) (Nat.le_refl _) (Nat.le_succ _)
theorem zq8x(N:Nat):∀(l:List OpX)(b:Nat),b+l.length<mostT->KeepE i b (b+l.length) (opsP i (opE N i) l)
 |[],b,_=>Proc.Keep.ret _
 |op::l,b,h=>by
  simp only[List.length_cons]at h;refine Proc.Keep.bind (op_keep N op (by omega)) λa=>Proc.Keep.bind (b1:=b+1) (Proc.Keep.act λs hs=>hs) λ_=>?_;exact Proc.Keep.mono (zq8x N l (b+1) (by omega)) (Nat.le_refl _) (by simp only[List.length_cons];omega)
end
end Go.Proofs
namespace Go.Car
open Go Go.Conc Go.RowKit
theorem hao(w:World)(o:Obj)(b:Nat)(h:b<w.heap.size):(w.alloc o).heap[b]?=w.heap[b]?:=by first|exact heap_alloc_old w o b h|exact heap_alloc_old w o h
structure Wr(X:Nat->Prop)(w w':World):Prop where
 size:w.heap.size<=w'.heap.size
 shp:∀(b:Nat)(c:Array Value)(T:TypeId),w.heap[b]?=some (.cells c T)->∃c',w'.heap[b]?=some (.cells c' T)/\c'.size=c.size
 old:∀b,b<w.heap.size->¬X b->w'.heap[b]?=w.heap[b]?
section
variable {X:Nat->Prop} {w w' w'':World}
theorem Wr.refl (X:Nat->Prop)(w:World):Wr X w w:=⟨Nat.le_refl _,λb c T h=>⟨c,h,rfl⟩,λ_ _ _=>rfl⟩
end
section
variable {P:Program}
theorem app_wr(w:World)(t ty e:TypeId)(i:TypeInfo)(z:Value)(size bytes:Nat)(ht:P.underlying t=some (.slice e))(hi:P.info? e=some i)(hz:i.zero=some z)(hsize:i.size=size)(hby:i.bytes=bytes)(hzs:z.cells.size=size)(hsz:0<size)
 {v:Value} {n:Nat} {xs:List Value} {B:Nat} (hown:w.ownsRow B e size v n xs) (hB:B<=w.heap.size) (pa:Option Addr) (m c:Nat) (news:List Value) (hl:news.length=m*size) (hnews:0<m->∃a,pa=some a/\∀j u,news[j]?=some u->w.cell? (a.add j)=some u) (h1:∀u∈news,u.oneCell'=true)
 (h63:n+m<=maxLen) (hbytes:(n+m)*bytes<=140737488355328):
 ∃v' w',(Builtin.append_ #[t,t] ty #[v,.slice pa m c]).run P w=.ok v' w'/\w'.ownsRow B e size v' (n+m) (xs++news)/\Wr (λb=>v.ownBlock=some b) w w'/\(v'.ownBlock=v.ownBlock\/v'.ownBlock=some w.heap.size)/\
  (∀g o,v.ownBlock=some g->o<n*size->w'.cell? ⟨g,o,none⟩=w.cell? ⟨g,o,none⟩)/\(m=0->w'=w/\v'=v):=by
 subst hsize;subst hby
 have hsmall:n+m<=9223372036854775807:=by simp only[maxLen]at h63;omega
 by_cases hm:m=0
 . subst hm;have hn:news=[]:=List.eq_nil_of_length_eq_zero (by simpa using hl);subst hn;refine⟨v,w,?_,by simpa using hown,Wr.refl _ _,.inl rfl,λ_ _ _ _=>rfl,λ_=>⟨rfl,rfl⟩⟩;rcases hown.2 with⟨rfl,rfl⟩|⟨g,cap,cur,rfl,hbg,hg,hnc,hcm,hcs,htake⟩
   . cases pa<;>simp[Builtin.append_,run_underlying ht,sizeOf,typeInfo,hi,Builtin.lenOf,Builtin.firstCells,loadCells,loadCellsFrom,storeCells]
   . cases pa<;>simp[Builtin.append_,run_underlying ht,sizeOf,typeInfo,hi,Builtin.lenOf,Builtin.firstCells,loadCells,loadCellsFrom,storeCells,hnc]
 . obtain⟨a,rfl,hnw⟩:=hnews (Nat.pos_of_ne_zero hm);clear hnews;rcases hown.2 with⟨rfl,rfl⟩|⟨g,cap,cur,rfl,hbg,hg,hnc,hcm,hcs,htake⟩
   . obtain⟨g,cap,w',hr,h2,h3,h4,_⟩:=run_append_lies (P:=P) w t ty B e i z i.size i.bytes ht hi hz rfl rfl hzs hsz _ 0 xs hown a m c news hl hnw h1 (Nat.pos_of_ne_zero hm) h63 hbytes hB _ rfl;have same:∀b,b<w.heap.size->w'.heap[b]?=w.heap[b]?:=λb hb=>h3.block b hb (by simp[Value.ownBlock]);refine⟨_,_,hr,h2,⟨h3.size,λb c T hb=>⟨c,(same b (zqh hb)).trans hb,rfl⟩,λb hb _=>same b hb⟩,?_,λg o h=>(by simp[Value.ownBlock]at h),λh=>absurd h hm⟩;rcases h4 with h|h
     . simp[Value.ownBlock]at h
     . exact .inr (by simp[Value.ownBlock,h])
   . have hlen:(xs++news).length=(n+m)*i.size:=by rw[List.length_append,hown.1,hl,Nat.add_mul]
     by_cases hroom:n+m<=cap
     . have hfit:n*i.size+news.length<=cur.size:=by rw[hl,hcs,<-Nat.add_mul];exact Nat.mul_le_mul_right _ hroom
       have hr:=run_append_room (P:=P) w t ty e i ht hi g n cap cur hg a m c news hl hnw h1 hroom hfit;have hsz2:(cur.toList.take (n*i.size)++news++cur.toList.drop (n*i.size+news.length)).toArray.size=cur.size:=by
        simp only[List.size_toArray,List.length_append,List.length_take,List.length_drop,Array.length_toList];omega
       have hh:=setRow_heap w g cur (cur.toList.take (n*i.size)++news++cur.toList.drop (n*i.size+news.length)).toArray e (0,0) hg;refine⟨_,_,hr,⟨hlen,.inr ⟨g,cap,_,rfl,hbg,hh,hroom,hcm,by rw[hsz2,hcs],?_⟩⟩,⟨by simp,λb c T hb=>?_,λb _ hx=>setRow_other w g b _ (λe=>hx (by simp[Value.ownBlock,e]))⟩,.inl rfl,λg2 o h ho=>?_,λh=>absurd h hm⟩
       . rw[htake,<-hlen];exact List.take_left
       . by_cases e2:b=g
         . subst e2;have:=hg.symm.trans hb;simp only[al_oi,Obj.cells.injEq]at this;obtain⟨rfl,rfl,-⟩:=this;exact⟨_,hh,hsz2⟩
         . exact⟨c,(setRow_other w g b _ e2).trans hb,rfl⟩
       . simp only[Value.ownBlock,al_oi]at h;subst h;rw[zq0 hg];rw[zq0 hh,al_gl,List.append_assoc,List.getElem?_append_left (by rw[List.length_take,Array.length_toList];omega),List.getElem?_take,if_pos ho,Array.getElem?_toList]
     . have holds:∀j u,xs[j]?=some u->w.cell? ((⟨g,0,none⟩:Addr).add j)=some u:=hown.cells (g:=g) rfl;have hr:=run_append_grow (P:=P) w t ty e i z ht hi hz ⟨g,0,none⟩ n cap xs hown.1 holds a m c news hl hnw (by omega) (by omega) (growslice_fits (by omega) hbytes);have hge:=grownCap_ge w (n+m) cap e;have hcm':grownCap w (n+m) cap e<=maxLen:=grownCap_le_maxLen w (n+m) cap e h63;refine⟨_,_,hr,⟨hlen,.inr ⟨w.heap.size,_,_,rfl,hB,heap_alloc_new w.drew _,hge,hcm',?_,?_⟩⟩,⟨by simp,λb c T hb=>⟨c,(hao w.drew _ b (zqh hb)).trans hb,rfl⟩,λb hb _=>hao w.drew _ b hb⟩,.inr rfl,λg2 o h _=>?_,λh=>absurd h hm⟩
       . simp only[Array.size_append,List.size_toArray,size_zeroCells,hzs,hown.1,hl,<-Nat.add_mul];congr 1;omega
       . simp only[Array.toList_append,List.append_assoc];rw[<-List.append_assoc,<-hlen];exact List.take_left
       . simp only[Value.ownBlock,al_oi]at h;subst h;exact zqu (hao w.drew _ g (zqh hg))
theorem zqm5{ops:Array Oper}{rest:List Oper}{o:Oper}{a:Act}{Q:Exit->Act->World->Prop}{w w':World}{v:Value}(hgd:o.guard=none)(s x:Operand)(t:TypeId)
 (ho:o.op=.call {callee:=.builtin .append,args:=#[s,x],argTypes:=#[t,t]}) (hr:(Builtin.append_ #[t,t] o.type #[a.eval s,a.eval x]).run P w=.ok v w') (h:wpList P ops Q rest (a.put o.dst v) w'):wpList P ops Q (o::rest) a w:=
 wpList_plain hgd λ_ hK=>by
  unfold Oper.wp execOp;simp only[ho,resolve,invoke,builtin,Sem.run_bind,Sem.run_pure,Result.andThen_ok,List.map_toArray,List.map_cons,List.map_nil,hr];exact hK _ _ h
end
end Go.Car
namespace Go.Proofs
open Go Go.Conc Go.RowKit Go.Car
def epT(db mb N:Nat):EpT:=⟨db,mb,N,81,121,125⟩
def ep0(e:Int):EpS:=⟨e,λ_=>0,λ_=>false,λ_=>[]⟩
def epM0(e:Int):EpM:=⟨ep0 e,λ_=>.slice none 0 0,λ_ _=>none⟩
theorem zqef(w:World)(N:Nat)(hN:N<=64):(Instr.makeSlice 79 (.int .i64 N) (.int .i64 N)).run Try.prog w=.ok (.slice (some ⟨w.heap.size,0,none⟩) N N) (w.alloc (.cells (memA N (epM0 0)) 121)):=by
 obtain⟨ti,hti,hz0,hz1,hz2⟩:∃ti,Try.prog.info? 121=some ti/\ti.zero=some (.agg #[.int .i64 0,.bool false,.slice none 0 0])/\ti.size=3/\ti.bytes=40:=⟨_,rfl,rfl,rfl,rfl⟩;have:=run_make (P:=Try.prog) w 79 121 ti (.agg #[.int .i64 0,.bool false,.slice none 0 0]) (by kernel_rfl) hti hz0 .i64 .i64 N N (by omega) (Int.le_refl _) (by rw[hz2];omega) (by omega);simp only[Int.toNat_natCast,hz1]at this;rw[this];congr 3;apply Array.ext_getElem?;intro i
 by_cases hi:i<N*3
 . rw[zq32 hi];have h3:i % 3=0\/i % 3=1\/i % 3=2:=by omega
   rcases h3 with h|h|h<;>simp[madeCells,hi,Value.cells,memC,h,epM0,ep0]
 . rw[zq62 hi];simp[madeCells,hi]
structure NewDom(w:World)(db mb N:Nat)(e:Int)(w':World):Prop where
 be:Beyond w w'
 lo:w.heap.size<=db/\w.heap.size<=mb
 rep:EpRep (epT db mb N) (epM0 e) w'
theorem zq7t{w:World}{db mb N:Nat}{e:Int}(h1:w.heap[db]?=some (.cells #[.int .i64 e,.slice (some ⟨mb,0,none⟩) N N] 81))(h2:w.heap[mb]?=some (.cells (memA N (epM0 e)) 121)):EpRep (epT db mb N) (epM0 e) w:=
 ⟨h1,h2,zqf h1 h2 (by decide),(λi _=>RowB.nil _ _),λi b o _ h=>(by cases h),λi _=>rfl,λi _=>rfl,λi j b _ _ _ h=>absurd rfl h,λi _=>Nat.zero_le _⟩
theorem zqcv(N:Nat)(hN:N<=64)(w:World):Calls Try.prog 11 #[.int .i64 N] w λe w'=>∃db mb,e=.returned (.tuple #[.pointer (some ⟨db,0,none⟩),.int .i64 0])/\NewDom w db mb N 0 w':=by
 have h1:¬(N:Int)<0:=by omega
 have h2:¬(64:Int)<(N:Int):=by omega
 have h3:(N:Int)<=64:=by omega
 have hm:=zqef w N hN;have hR:NewDom w (w.heap.size+1) w.heap.size N 0 ((w.alloc (.cells (memA N (epM0 0)) 121)).alloc (.cells #[.int .i64 0,.slice (some ⟨w.heap.size,0,none⟩) N N] 81)):=by
  have hs:=zq3 w (.cells (memA N (epM0 0)) 121);exact⟨(Beyond.alloc _ _).trans (Beyond.alloc _ _),⟨by omega,by omega⟩,zq7t (by rw[<-hs];exact zqo _ _) (zqk (zqo _ _))⟩
 have HR:=Lib.hid hR;clear hR
 go_enter Try.func11,Try.ntmps11
 go_wp2
 go_ret2
 exact⟨_,rfl,_,HR.out⟩
theorem zqd4{T:EpT}{m:EpM}{w:World}(h:EpRep T m w):Calls Try.prog 18 #[.pointer (some ⟨T.db,0,none⟩)] w λe w'=>e=.returned (.int .i64 m.s.e)/\w'=w:=by
 have hl:=zq52 ⟨T.db,0,none⟩ m.s.e w h.cellE;clear h
 go_enter Try.func18,Try.ntmps18
 go_wp2_with (fail)
 refine Calls.mono hl ?_;rintro e w' ⟨rfl,rfl⟩;go_wp2;go_ret;exact⟨rfl,rfl⟩
structure NumsI(w0:World)(l:List Int)(v:Value)(w:World):Prop where
 be:Beyond w0 w
 row:w.ownsRow w0.heap.size 2 1 v l.length (l.map (Value.int .i64))
def markL(s:EpS)(n:Nat):List Int:=(List.range n).map s.mark
theorem zqei(s:EpS)(n:Nat):markL s (n+1)=markL s n++[s.mark n]:=by
 unfold markL;rw[List.range_succ,List.map_append];rfl
theorem zq31(s:EpS)(n:Nat):(markL s n).length=n:=by simp[markL]
theorem zqek{T:EpT}{m:EpM}{w:World}(h:EpRep T m w)(hN:T.N<=64):Calls Try.prog 20 #[.pointer (some ⟨T.db,0,none⟩)] w λe w'=>∃v,e=.returned v/\NumsI w (markL m.s T.N) v w':=by
 obtain⟨N,hNN⟩:∃N,T.N=N:=⟨_,rfl⟩;have hm:=zq8o h.hdr (by omega);have hd:=h.hdr;rw[hNN]at hm hd;have HR:=Lib.hid (And.intro h (And.intro hNN hN));rw[hNN];clear h hNN hN;have HM:=Lib.hid hm;have HD:=Lib.hid hd;clear hm hd
 go_enter Try.func20,Try.ntmps20
 go_wp2_with (fail)
 refine Calls.mono HM.out ?_;rintro e w' ⟨rfl,rfl⟩;clear HM
 go_wp2_with (fail)
 go_loopg [3,7] N (λk s3 s7 wr=>∃(j:Nat)(p:Option Addr)(C:Nat),k=N - j/\j<=N/\s7=.int .i64 j/\s3=.slice p j C/\NumsI w' (markL m.s j) (.slice p j C) wr)
 case atStart=>exact⟨0,none,0,rfl,Nat.zero_le _,rfl,rfl,Beyond.refl _,World.ownsRow_nil _ _ _ _⟩
 case round=>
  obtain⟨j,p,C,hk,hj,rfl,rfl,hI⟩:=hrel;have HI:=Lib.hid hI
  by_cases hlt:j<N
  . have hlt':(j:Int)<(N:Int):=by omega
    have hj0:(0:Int)<=j:=by omega
    have hjT:j<T.N:=by have:=HR.out.2.1;omega
    have hd:wr.cell? ⟨T.db,1,none⟩=some (.slice (some ⟨T.mb,0,none⟩) N N):=hI.be.cell HD.out;have HC:=Lib.hid (zq52 ⟨T.mb,j*3,none⟩ (m.s.mark j) wr (hI.be.cell (HR.out.1.cellM hjT)));obtain⟨tj,htj,hy0,hy1,hy2⟩:∃ti,Try.prog.info? 2=some ti/\ti.zero=some (.int .i64 0)/\ti.size=1/\ti.bytes=8:=⟨_,rfl,rfl,rfl,rfl⟩;have TJ:=Lib.hid (And.intro htj (And.intro hy0 (And.intro hy1 hy2)));have HB:=Lib.hid (And.intro hlt (And.intro HR.out.2.2 HR.out.2.1));have HK:=Lib.hid hk;clear htj hy0 hy1 hy2 hI hjT hlt hk
    go_wp2_with (fail)
    refine Calls.mono HC.out ?_;rintro e w2 ⟨rfl,rfl⟩
    go_wp2_with (at_builtin;go_loud (refine wpList_append_lies _ rfl (.tmp 10) (.tmp 19) 22 rfl w'.heap.size 2 tj (.int .i64 0) 1 8 (by kernel_rfl) TJ.out.1 TJ.out.2.1 TJ.out.2.2.1 TJ.out.2.2.2 rfl (by decide) _ j ((markL m.s j).map (Value.int .i64)) rfl (zq1d (by have:=HI.out.row;rw[zq31]at this;exact this) _) _ 1 1 [.int .i64 (m.s.mark j)] rfl rfl (zq22 rfl) (λu hu=>by simp only[List.mem_cons,List.not_mem_nil,or_false]at hu;subst hu;rfl) (by decide) (by simp only[maxLen];have:=HB.out;omega) (by have:=HB.out;omega) (by rw[zq3];have:=HI.out.be.1;omega) _ rfl ?next))
    case next=>
     intro g7 cap7 w7 hown7 hgrow7 hat7 hlt7;have L7:=Lib.hid (And.intro hown7 hgrow7);clear hown7 hgrow7 hat7 hlt7;go_wp2;go_roundg (N - (j+1))
     case measure=>have:=HK.out;have:=HB.out;omega
     case rel=>
      obtain⟨o7,q7⟩:=L7.out;refine⟨j+1,_,_,rfl,HB.out.1,congrArg (Value.int .i64) (by have:=HB.out;simp only[wrap64];omega),rfl,?_,?_⟩
      . have hb:=HI.out.be;have hz:=q7.size;rw[zq3]at hz;refine⟨by have:=hb.1;omega,λb hb2=>?_⟩;rw[q7.block b (by rw[zq3];have:=hb.1;omega) (λe=>by have:=(own_lt HI.out.row e.symm).2.1;omega),zq5,if_neg (by have:=hb.1;omega)];exact hb.2 b hb2
      . rw[zqei,List.length_append,List.map_append,zq31];exact o7
  . obtain rfl:j=N:=by omega
    clear hk hj hlt;go_wp2;go_ret;exact⟨_,rfl,HI.out⟩
def epL(s:EpS)(n:Nat):List Int:=s.e::markL s n
theorem zqd7{T:EpT}{m:EpM}{w:World}(h:EpRep T m w)(hN:T.N<=64):Calls Try.prog 34 #[.pointer (some ⟨T.db,0,none⟩)] w λe w'=>∃v,e=.returned v/\NumsI w (epL m.s T.N) v w':=by
 have HE:=Lib.hid (zqd4 h);have HR:=Lib.hid (And.intro h hN);obtain⟨ev,hev⟩:∃ev,m.s.e=ev:=⟨_,rfl⟩;rw[hev]at HE;clear h hN
 go_enter Try.func34,Try.ntmps34
 go_wp2_with (fail)
 refine Calls.mono HE.out ?_;rintro e w' ⟨rfl,rfl⟩;clear HE
 go_wp2_with (fail)
 have hB1:Beyond w' (w'.alloc (.cells #[.int .i64 ev] 2)):=Beyond.alloc _ _;have hm2:=zqek (w:=w'.alloc (.cells #[.int .i64 ev] 2)) ((zqm T).frame _ _ _ HR.out.1 λb hb=>hB1.2 b ((zqm T).lt _ _ _ HR.out.1 hb)) HR.out.2;refine Calls.mono hm2 ?_;rintro e w3 ⟨v,rfl,hI⟩;have hrow1:w3.ownsRow w'.heap.size 2 1 (.slice (some ⟨w'.heap.size,0,none⟩) 1 1) 1 [.int .i64 ev]:=by
  refine⟨rfl,.inr ⟨w'.heap.size,1,#[.int .i64 ev],rfl,Nat.le_refl _,?_,by decide,by decide,rfl,rfl⟩⟩;rw[hI.be.2 _ (by rw[zq3];omega)];exact zqo _ _
 obtain⟨p2,c2,rfl,_,hp0⟩:=zq1b hI.row;have hs:=hI.be.1;rw[zq3]at hs;have hlen:(markL m.s T.N).length=T.N:=zq31 _ _;obtain⟨ti,hti,hz,hz1,hz2⟩:∃ti,Try.prog.info? 2=some ti/\ti.zero=some (.int .i64 0)/\ti.size=1/\ti.bytes=8:=⟨_,rfl,rfl,rfl,rfl⟩;obtain⟨v',w4,hrun,ho,hw,hat,hkeep,_⟩:=app_wr (P:=Try.prog) w3 22 22 2 ti (.int .i64 0) 1 8 (by kernel_rfl) hti hz hz1 hz2 rfl (by decide) hrow1 (by omega) p2 (markL m.s T.N).length c2 ((markL m.s T.N).map (Value.int .i64)) (by simp) (λh0=>by
  rcases hI.row.2 with⟨hv,h1⟩|⟨g,cap,cur,hv,_,hg,h2,_,h4,h5⟩
  . omega
  . cases hv;refine⟨_,rfl,λj u hj=>?_⟩;have hjl:=(List.getElem?_eq_some_iff.1 hj).1;rw[Go.Proofs.add_at rfl,show 0+j=j from by omega];refine(zq0 hg).trans ?_;rw[<-h5,Nat.mul_one,List.getElem?_take]at hj;simp only[List.length_map]at hjl;rw[if_pos hjl,Array.getElem?_toList]at hj;exact hj) (by simp[Value.oneCell']) (by rw[hlen];simp only[maxLen];have:=HR.out.2;omega) (by rw[hlen];have:=HR.out.2;omega)
 obtain⟨p3,c3,rfl,-,-⟩:=zq1b ho;have HRUN:=Lib.hid hrun;have HO:RowKit.Hid (NumsI w' (epL m.s T.N) (.slice p3 (1+(markL m.s T.N).length) c3) w4):=Lib.hid (by
  refine⟨⟨by have:=hw.size;omega,λb hb=>?_⟩,?_⟩
  . rw[hw.old b (by omega) (λe=>by simp[Value.ownBlock]at e;omega),hI.be.2 b (by rw[zq3];omega)];exact hB1.2 b hb
  . unfold epL;rw[hev,List.length_cons,List.map_cons,Nat.add_comm];exact(Nat.add_comm 1 _▸ho))
 clear hrow1 hI hB1 hm2 hrun ho hw hat hkeep hs hlen hp0 hti hz hz1 hz2
 go_wp2_with (at_builtin;go_loud (refine zqm5 rfl (.tmp 5) (.tmp 7) 22 rfl HRUN.out ?_))
 go_ret;exact⟨_,rfl,HO.out⟩
def begE:List Int->Int
 |[]=>0
 |x::_=>min (max x 0) 4611686018427387904
theorem zq7f(x:Int)(l:List Int):(if 4611686018427387904<if x<0 then 0 else x then 4611686018427387904 else if x<0 then 0 else x)=begE (x::l):=by
 show _=min (max x 0) 4611686018427387904
 by_cases h:x<0
 . simp only[if_pos h];rw[if_neg (by omega)];omega
 . simp only[if_neg h]
   by_cases h2:4611686018427387904<x
   . rw[if_pos h2];omega
   . rw[if_neg h2];omega
theorem NewDom.setE {w w1:World}{db mb N:Nat}{e x:Int}{τ:Nat->Question->Nat}{d:Nat}(h:NewDom w db mb N e w1):NewDom w db mb N x ((re w1 τ d).setCell ⟨db,0,none⟩ (.int .i64 x)):=by
 have h1:=h.rep.dom;have h2:=h.rep.mem;have hne:db≠mb:=h.rep.ne;refine⟨⟨?_,λb hb=>?_⟩,h.lo,zq7t ?_ ?_⟩
 . show w.heap.size<=((re w1 τ d).setCell _ _).heap.size;rw[zqv];exact h.be.1
 . rw[zq8 _ _ _ _ (by have:=h.lo.1;show b≠db;omega)];exact h.be.2 b hb
 . exact(zqn (re w1 τ d) _ _ _ h1).trans rfl
 . exact(zq8 (re w1 τ d) _ _ _ (Ne.symm hne)).trans h2
theorem zqc9{start:List Int}{sp tp:Option Addr}{sC tl tC:Nat}(w:World)(hs:start≠[]->∃g off,sp=some ⟨g,off,none⟩/\w.cell? ⟨g,off,none⟩=some (.int .i64 (start.headD 0)))(htl:tl<=4611686018427387904):
 Calls Try.prog 31 #[.slice sp start.length sC,.slice tp tl tC] w λe w'=>∃db mb,e=.returned (.pointer (some ⟨db,0,none⟩))/\NewDom w db mb (min tl 64) (begE start) w':=by
 obtain⟨N,hN⟩:∃N,min tl 64=N:=⟨_,rfl⟩;have HN:=Lib.hid (zqcv N (by omega) w);have hmin:(tl<=64/\N=tl)\/(¬tl<=64/\N=64):=by omega
 have HS:=Lib.hid hs;rw[hN];clear hs hN;obtain⟨sl,hsl⟩:∃sl,start.length=sl:=⟨_,rfl⟩;rw[hsl];have HSL:=Lib.hid hsl;clear hsl
 go_enter Try.func31,Try.ntmps31
 rcases hmin with⟨hc,hNt⟩|⟨hc,hNt⟩
 . have hc':(tl:Int)<=64:=by omega
   subst hNt;clear hc
   go_wp2_with (fail)
   refine Calls.mono HN.out ?_;rintro e w' ⟨db,mb,rfl,hD⟩;have HD:=Lib.hid hD;clear HN hD;cases start with
   |nil=>
    have hs0:sl=0:=HSL.out.symm;subst hs0;go_wp2;go_ret;exact⟨_,_,rfl,HD.out⟩
   |cons x l=>
    have hs1:(0:Int)<(sl:Int):=by have:=HSL.out;simp only[List.length_cons]at this;omega
    obtain⟨g,off,rfl,hc⟩:=HS.out (by simp);have c0:w'.cell? ⟨g,off,none⟩=some (.int .i64 x):=HD.out.be.cell hc;clear HS hc
    go_wp2_with (fail)
    refine zq2u (k:=8) (C:=λw''=>∃n,w''=w'.drewN n) (by kernel_rfl) (by kernel_rfl) (by kernel_rfl) (by kernel_rfl) (by kernel_rfl) ⟨1,rfl⟩ ?_;simp only[List.take_succ_cons,List.take_zero]
    repeat (quiet_step (fail))
    refine wpQuiet_nil ?_;rintro w'' ⟨nq,rfl⟩;refine zq1c (i:=8) (by kernel_rfl) ?_;simp only[wpOp,al_gl,al_g0,al_g1];rw[if_pos (by rfl)];refine .inl ?_;go_simp;rw[zq7f x l];refine Calls.mono (zq6m ⟨db,0,none⟩ 0 (begE (x::l)) (w'.drewN nq) HD.out.rep.cellE (HD.out.rep.frzE 0)) ?_;rintro e w'' ⟨rfl,rfl⟩;refine zq1o (by kernel_rfl) ?_;go_wp2
    all_goals go_ret
    all_goals exact⟨db,rfl,mb,HD.out.setE (x:=begE (x::l)) (τ:=(w'.drewN nq).tape) (d:=(w'.drewN nq).drawn)⟩
 . have hc':(64:Int)<=(tl:Int):=by omega
   have hc2:¬(tl:Int)<=64:=by omega
   have hc3:¬(tl:Int)<64:=by omega
   have e64:((64:Nat):Int)=64:=rfl;subst hNt;clear hc
   go_wp2_with (fail)
   refine Calls.mono HN.out ?_;rintro e w' ⟨db,mb,rfl,hD⟩;have HD:=Lib.hid hD;clear HN hD;cases start with
   |nil=>
    have hs0:sl=0:=HSL.out.symm;subst hs0;go_wp2;go_ret;exact⟨_,_,rfl,HD.out⟩
   |cons x l=>
    have hs1:(0:Int)<(sl:Int):=by have:=HSL.out;simp only[List.length_cons]at this;omega
    obtain⟨g,off,rfl,hc⟩:=HS.out (by simp);have c0:w'.cell? ⟨g,off,none⟩=some (.int .i64 x):=HD.out.be.cell hc;clear HS hc
    go_wp2_with (fail)
    refine zq2u (k:=8) (C:=λw''=>∃n,w''=w'.drewN n) (by kernel_rfl) (by kernel_rfl) (by kernel_rfl) (by kernel_rfl) (by kernel_rfl) ⟨1,rfl⟩ ?_;simp only[List.take_succ_cons,List.take_zero]
    repeat (quiet_step (fail))
    refine wpQuiet_nil ?_;rintro w'' ⟨nq,rfl⟩;refine zq1c (i:=8) (by kernel_rfl) ?_;simp only[wpOp,al_gl,al_g0,al_g1];rw[if_pos (by rfl)];refine .inl ?_;go_simp;rw[zq7f x l];refine Calls.mono (zq6m ⟨db,0,none⟩ 0 (begE (x::l)) (w'.drewN nq) HD.out.rep.cellE (HD.out.rep.frzE 0)) ?_;rintro e w'' ⟨rfl,rfl⟩;refine zq1o (by kernel_rfl) ?_;go_wp2
    all_goals go_ret
    all_goals exact⟨db,rfl,mb,HD.out.setE (x:=begE (x::l)) (τ:=(w'.drewN nq).tape) (d:=(w'.drewN nq).drawn)⟩
noncomputable def eplT(n:Nat):Code:=tailN n (Try.f9.body.getD .skip)
theorem epl0:Try.f9.body.getD .skip=.seq (headC (eplT 0)) (.seq (headC (eplT 1)) (.seq (headC (eplT 2)) (eplT 3))):=by kernel_rfl
def zqz(start:List Int)(ops:Nat->List OpX)(N:Nat)(mo:Int)(sched:List Int):TSt (EpS×(Nat->List Ans)):=playT (λi=>opsP i (opE N i) (ops i)) N (min mo.toNat 1048576) sched (ep0 (begE start),λ_=>[])
theorem zq7v{Fin:Machine->Trace->Prop}(hFin:Back Try.prog Fin){n:Nat}(hn:0<n){RP:Nat->Option Obj}{w:World}{np Cn N Cs:Nat}{pp scp:Option Addr}{sp:Nat->Option Addr}{L Cp:Nat->Nat}{ops:Nat->List OpX}{sched:List Int}{mo:Int}{start:List Int}{stp:Option Addr}{stC:Nat}(hst:start≠[]->∃g off,stp=some ⟨g,off,none⟩/\w.cell? ⟨g,off,none⟩=some (.int .i64 (start.headD 0)))
 (hRP:∀b o,RP b=some o->w.heap[b]?=some o) (ho:OpsAt w RP pp np N sp L Cp ops) (hsl:sched.length<=4611686018427387904)
 (hs:sched≠[]->∃sb off,scp=some ⟨sb,off,none⟩/\∀j x,sched[j]?=some x->w.cell? ⟨sb,off+j,none⟩=some (.int .i64 x))
 {c:Frame} {cs:List Frame}
 (hmain:∀ab ov sv am w',PlayedR N w (zqz start ops N mo sched) (epL (zqz start ops N mo sched).s.1 N) ab ov sv am w'->
  J0 Try.prog Fin (n+N) (G (c.finish (.agg #[.slice (some ⟨ab,0,none⟩) N N,ov,sv,.bool (decide (0<leftN (zqz start ops N mo sched).ov N))])) cs) w'):
 J0 Try.prog Fin n (G (Frame.enter Try.prog 9 #[.slice stp start.length stC,.slice pp np Cn,.slice scp sched.length Cs,.int .i64 mo] .normal) (c::cs)) w:=by
 have hJ:=j0_JS hFin;have hC:=zq3x hFin;have e:Frame.enter Try.prog 9 #[.slice stp start.length stC,.slice pp np Cn,.slice scp sched.length Cs,.int .i64 mo] .normal=(bN 9).at (zqw Try.f9 #[.slice stp start.length stC,.slice pp np Cn,.slice scp sched.length Cs,.int .i64 mo]) [.code ((Try.f9.body).getD .skip)]:=by kernel_rfl
 have ea:zqw Try.f9 #[.slice stp start.length stC,.slice pp np Cn,.slice scp sched.length Cs,.int .i64 mo]=⟨#[.slice stp start.length stC,.slice pp np Cn,.slice scp sched.length Cs,.int .i64 mo,undef,undef,undef,undef,undef,undef,undef,undef,undef,undef,undef,undef,undef,undef,undef,undef,undef,undef,undef,undef],[]⟩:=by kernel_rfl
 rw[e,ea,epl0];clear e ea;have hm:=Lib.hid hmain;clear hmain;obtain⟨H,hH⟩:∃H,w.heap.size=H:=⟨_,rfl⟩;refine hJ.ctl (s:=n) (λw=>stepG_seq) ?_;refine zq3c hJ hC zq1s (by kernel_rfl) (λt w'=>t=#[.slice stp start.length stC,.slice pp np Cn,.slice scp sched.length Cs,.int .i64 mo,undef,undef,undef,undef,.pointer (some ⟨H,0,none⟩),undef,undef,undef,undef,undef,undef,undef,undef,undef,undef,undef,undef,undef,undef,undef]/\∃τ d,w'=re (w.alloc (.cells #[.slice none 0 0,.slice none 0 0,.slice none 0 0,.bool false] 29)) τ d) (λt w' τ d h=>⟨h.1,by obtain⟨τ',d',rfl⟩:=h.2;exact⟨τ,d,by rw[re_re]⟩⟩) (by decide) (λτ d=>?_) ?_
 . obtain⟨u0,hu0⟩:∃c,headC (eplT 0)=c:=⟨_,rfl⟩;have eu0:=hu0;rw[hu0];simp only[eplT,headC,tailN,Try.f9,al_od]at eu0;subst eu0;clear hu0;clear hs ho hRP;go_wp2;exact⟨rfl,rfl,τ,d,rfl⟩
 rintro t w' ⟨rfl,τ,d,rfl⟩;refine hJ.re' n _ _ τ d ?_;have hwa:(w.alloc (.cells #[.slice none 0 0,.slice none 0 0,.slice none 0 0,.bool false] 29)).heap.size=H+1:=by rw[zq3,hH]
 have hob:∀b,b<H->(w.alloc (.cells #[.slice none 0 0,.slice none 0 0,.slice none 0 0,.bool false] 29)).heap[b]?=w.heap[b]?:=λb hb=>by rw[zq5,if_neg (by omega)]
 have hzb:(w.alloc (.cells #[.slice none 0 0,.slice none 0 0,.slice none 0 0,.bool false] 29)).heap[H]?=some (.cells #[.slice none 0 0,.slice none 0 0,.slice none 0 0,.bool false] 29):=hH▸zqo w _;obtain⟨wa,hwae⟩:∃wa,w.alloc (.cells #[.slice none 0 0,.slice none 0 0,.slice none 0 0,.bool false] 29)=wa:=⟨_,rfl⟩;rw[hwae]at hwa hob hzb |-;clear hwae;refine hJ.ctl (s:=n) (λw=>stepG_seq) ?_;refine zq3c hJ hC zq1s (by kernel_rfl) (λt w'=>∃db mb,t=#[.slice stp start.length stC,.slice pp np Cn,.slice scp sched.length Cs,.int .i64 mo,undef,undef,undef,undef,.pointer (some ⟨H,0,none⟩),.pointer (some ⟨db,0,none⟩),undef,.slice stp start.length stC,.slice pp np Cn,.pointer (some ⟨db,0,none⟩),undef,undef,undef,undef,undef,undef,undef,undef,undef,undef]/\NewDom wa db mb N (begE start) w') (λt w' τ d⟨db,mb,h1,h2⟩=>⟨db,mb,h1,⟨h2.be.1,h2.be.2⟩,h2.lo,h2.rep.re τ d⟩) (by decide) (λτ d=>?_) ?_
 . obtain⟨u0,hu0⟩:∃c,headC (eplT 1)=c:=⟨_,rfl⟩;have eu0:=hu0;rw[hu0];simp only[eplT,headC,tailN,Try.f9,al_od]at eu0;subst eu0;clear hu0;have HM:=Lib.hid (zqc9 (start:=start) (sp:=stp) (sC:=stC) (tp:=pp) (tl:=np) (tC:=Cn) (re wa τ d) (λh0=>by
    obtain⟨g,off,e,h1⟩:=hst h0;exact⟨g,off,e,(zqu (hob g (by rw[<-hH];exact cell_lt h1))).trans h1⟩) ho.le)
   have HEQ:=Lib.hid ho.eq;obtain⟨sl,hsl9⟩:∃sl,start.length=sl:=⟨_,rfl⟩;rw[hsl9]at HM |-;clear hs ho hRP hob hzb hH hwa hsl hst hsl9
   go_wp2_with (fail)
   refine Calls.mono HM.out ?_;rintro e w' ⟨db,mb,rfl,hR⟩;rw[<-HEQ.out]at hR;have HR:RowKit.Hid (NewDom wa db mb N (begE start) w'):=Lib.hid ⟨⟨hR.be.1,hR.be.2⟩,hR.lo,hR.rep⟩;clear hR;go_wp2;exact⟨rfl,_,_,rfl,HR.out⟩
 rintro t wb ⟨db,mb,rfl,hR⟩;have hwb:H+1<=wb.heap.size:=by have:=hR.be.1;omega
 have hobb:∀b,b<H->wb.heap[b]?=w.heap[b]?:=λb hb=>(hR.be.2 b (by omega)).trans (hob b hb);have hzb2:wb.heap[H]?=some (.cells #[.slice none 0 0,.slice none 0 0,.slice none 0 0,.bool false] 29):=(hR.be.2 H (by omega)).trans hzb;have hlo:=hR.lo;rw[hwa]at hlo;clear hzb hob hwa;have hlt:∀b o,RP b=some o->b<H:=λb o h=>by rw[<-hH];exact zqc (hRP b o h)
 have hnf:∀b,(zqm (epT db mb N)).foot (epM0 (begE start)) b->H+1<=b:=λb hb=>by
  rcases hb with e|e|⟨i,_,e⟩
  . rw[e];exact hlo.1
  . rw[e];exact hlo.2
  . exact absurd rfl e
 have hB:BRep (zqm (epT db mb N)) RP ⟨epM0 (begE start),λ_ _=>none⟩ wb:=by
  refine⟨hR.rep,λi b o h=>(by cases h),λb o h=>(hobb b (hlt b o h)).trans (hRP b o h),λi b h=>absurd rfl h,λi j b _ h=>absurd rfl h,λb h hf=>?_,λi b _=>rfl⟩;cases ho:RP b with
  |none=>exact h ho
  |some o=>have:=hlt b o ho;have:=hnf b hf;omega
 have hOp:OpsAt wb RP pp np N sp L Cp ops:=by
  refine⟨ho.eq,ho.le,λh0=>?_,ho.row,ho.len,ho.op⟩;obtain⟨tb,to',e,h1⟩:=ho.at' h0;exact⟨tb,to',e,λi hi=>(zqu (hobb tb (by rw[<-hH];exact cell_lt (h1 i hi)))).trans (h1 i hi)⟩
 have hsc:sched≠[]->∃sb off,scp=some ⟨sb,off,none⟩/\¬(zqm (epT db mb N)).foot (epM0 (begE start)) sb/\∀j x,sched[j]?=some x->wb.cell? ⟨sb,off+j,none⟩=some (.int .i64 x):=λh0=>by
  obtain⟨sb,off,e,h2⟩:=hs h0;obtain⟨x,l,hsl⟩:=List.exists_cons_of_ne_nil h0;have hlt:sb<H:=by rw[<-hH];exact cell_lt (h2 0 x (by rw[hsl];rfl))
  exact⟨sb,off,e,λhf=>by have:=hnf sb hf;omega,λj x hj=>(zqu (hobb sb hlt)).trans (h2 j x hj)⟩
 have hN64:N<=64:=by have:=ho.eq;omega
 have hlen:=ho.len;clear ho hs hRP hlt hR hst;refine hJ.ctl (s:=n) (λw=>stepG_seq) ?_;obtain⟨u0,hu0⟩:∃c,headC (eplT 2)=c:=⟨_,rfl⟩;have eu0:=hu0;rw[hu0];simp only[eplT,headC,tailN,Try.f9,al_od]at eu0;subst eu0;clear hu0;refine hJ.ctl (s:=n) (λw=>stepG_region) ?_;have HX:=Lib.hid (And.intro hB (And.intro hOp (And.intro hsc (And.intro hnf (And.intro hobb (And.intro hzb2 hwb))))));have HE:=Lib.hid (And.intro hH (And.intro hN64 hlen));obtain⟨sl,hsl9⟩:∃sl,start.length=sl:=⟨_,rfl⟩;rw[hsl9];clear hB hOp hsc hnf hobb hzb2 hwb hH hlo hN64 hlen hsl9;refine zq11 (s:=n) (by decide) hJ (zq10 _) true (.inl rfl) 0 5 3 rfl rfl rfl (by rfl) ?_;intro τ d;simp only[List.drop_zero,List.take_succ_cons,List.take_zero];go_wp2;simp only[zql];refine hJ.re' n _ _ τ d ?_;refine zq1p (by decide) hJ (s:=n) rfl rfl (f:=32) (args:=#[.slice pp np Cn,.func (.func 33) #[.pointer (some ⟨db,0,none⟩)] #[],.slice scp sched.length Cs,.int .i64 mo]) (λτ d=>?_) (λτ d=>?_) ?_
 . simp[go_sem,execOp,Act.eval,resolve,Deferred.ofValue,invoke,callFunc,Try.func32,Try.f32]
 . intro e he;simp[go_sem,execOp,Act.eval,resolve,Deferred.ofValue,invoke,callFunc,Try.func32,Try.f32,Sem.runT_eq]at he
 obtain⟨hB,hOp,hsc,hnf,hobb,hzb2,hwb⟩:=HX.out;obtain⟨hH,hN64,hlen⟩:=HE.out;refine zqew hFin hn zq1s rowsM (oe:=oeE) (fn:=Try.f33) (cc:=(Try.f33.body).getD .skip) Try.func33 rfl rfl hB hOp hsl hsc (dop:=λi=>opE N i) (λi s hi h k=>Proc.Keep.deep (b:=0) (zq8x N (ops i) 0 (by rw[hlen i hi];simp only[mostT];omega)) (by
  have:=congrArg (λx=>x.2.length) h;show(s.1.th i).length<=0;exact Nat.le_of_eq this) k) (λro ab pr st cr rest EN i o op hro hi=>edo_turn ⟨rfl,rfl,rfl,hN64⟩ rfl hN64 ro pr st cr rest EN i hi o op) ?_
 intro ab v l' am w2 hO;rw[Frame.finish_at]
 walk_nrm
 have hTe:playT (λi=>opsP i (opE N i) (ops i)) N (min mo.toNat 1048576) sched ((zqm (epT db mb N)).st (epM0 (begE start)),λ_=>[])=zqz start ops N mo sched:=rfl;rw[hTe]at hO |-;obtain⟨pv',cv',rfl,_⟩:=zq1b hO.row;have hl':(zqz start ops N mo sched).s.1=l'.s:=hO.st.symm;have hze:w2.heap[H]?=some (.cells #[.slice none 0 0,.slice none 0 0,.slice none 0 0,.bool false] 29):=(hO.old H (by omega) (λh=>by have:=hnf H h;omega)).trans hzb2;generalize (zqz start ops N mo sched).ord.length=nv' at hO |-;have HO:=Lib.hid hO;have HZ:=Lib.hid (And.intro hze hl');obtain⟨stuck,hstuck⟩:∃x,decide (0<leftN (zqz start ops N mo sched).ov N)=x:=⟨_,rfl⟩;rw[hstuck];have HST:=Lib.hid hstuck;clear hstuck hO hze hl' hTe hB hOp hsc hnf hobb hzb2 hwb hH hN64 hlen;refine zq11 (s:=n+N) (by decide) hJ (zq10 _) false (.inr rfl) 6 2 0 rfl rfl rfl (by rfl) ?_;intro τ d;simp only[List.drop_succ_cons,List.drop_zero,List.take_succ_cons,List.take_zero];have HO2:=Lib.hid (HO.out.re τ d);have HZ2:RowKit.Hid ((re w2 τ d).heap[H]?=some (.cells #[.slice none 0 0,.slice none 0 0,.slice none 0 0,.bool false] 29)/\(zqz start ops N mo sched).s.1=l'.s):=Lib.hid HZ.out;clear HO HZ;generalize re w2 τ d=w3 at HO2 HZ2 |-;go_wp2;simp only[zql];refine hJ.ctl (s:=n+N) (λw=>stepG_region_end) ?_;have hT:=zqo w3 (.cells #[.slice (some ⟨ab,0,none⟩) N N,.slice pv' nv' cv',.slice none 0 0,.bool stuck] 29);have hoT:∀b,b<w3.heap.size->(w3.alloc (.cells #[.slice (some ⟨ab,0,none⟩) N N,.slice pv' nv' cv',.slice none 0 0,.bool stuck] 29)).heap[b]?=w3.heap[b]?:=λb hb=>by rw[zq5,if_neg (by omega)]
 have hsT:(w3.alloc (.cells #[.slice (some ⟨ab,0,none⟩) N N,.slice pv' nv' cv',.slice none 0 0,.bool stuck] 29)).heap.size=w3.heap.size+1:=zq3 _ _;generalize (w3.alloc (.cells #[.slice (some ⟨ab,0,none⟩) N N,.slice pv' nv' cv',.slice none 0 0,.bool stuck] 29))=w4 at hT hoT hsT |-;obtain⟨T,hTT⟩:∃T,w3.heap.size=T:=⟨_,rfl⟩;rw[hTT]at hT hoT hsT |-;have HT:=Lib.hid (And.intro hT (And.intro hoT (And.intro hsT hTT)));clear hT hoT hsT hTT;refine zq5r hJ hC zq1s (by kernel_rfl) (λv w'=>∃sv am,v=.agg #[.slice (some ⟨ab,0,none⟩) N N,.slice pv' nv' cv',sv,.bool stuck]/\PlayedR N w (zqz start ops N mo sched) (epL (zqz start ops N mo sched).s.1 N) ab (.slice pv' nv' cv') sv am w') (λv w' τ d⟨sv,am,h1,h2⟩=>⟨sv,am,h1,h2.re τ d⟩) rfl Try.func9 (λτ d=>?_) ?_
 . obtain⟨u0,hu0⟩:∃c,eplT 3=c:=⟨_,rfl⟩;have eu0:=hu0;rw[hu0];simp only[eplT,headC,tailN,Try.f9,al_od]at eu0;subst eu0;clear hu0;obtain⟨hT,hoT,hsT,hTT⟩:=HT.out;have hT':(re w4 τ d).heap[T]?=some (.cells #[.slice (some ⟨ab,0,none⟩) N N,.slice pv' nv' cv',.slice none 0 0,.bool stuck] 29):=hT;have hoT':∀b,b<T->(re w4 τ d).heap[b]?=w3.heap[b]?:=hoT;have hsT':(re w4 τ d).heap.size=T+1:=hsT;have hHl:H<T:=by rw[<-hTT];exact zqc HZ2.out.1
   have hall:=zqd7 (T:=epT db mb N) (m:=l') ((zqm (epT db mb N)).frame _ _ (re w4 τ d) HO2.out.rep λb hb=>hoT' b (by rw[<-hTT];exact(zqm (epT db mb N)).lt _ _ _ HO2.out.rep hb)) HE.out.2.1;rw[show(epT db mb N).N=N from rfl]at hall;generalize re w4 τ d=w5 at hT' hoT' hsT' hall |-;have HA:=Lib.hid hall;have HW:=Lib.hid (And.intro hT' (And.intro hoT' (And.intro hsT' (And.intro hTT hHl))));clear hT hoT hsT hTT hT' hoT' hsT' hall HT hHl hm
   go_wp2_with (fail)
   refine Calls.mono HA.out ?_;rintro e w6 ⟨sv,rfl,hI⟩;obtain⟨sp',sc',rfl,-,-⟩:=zq1b hI.row;obtain⟨sl,hsl'⟩:∃x,(epL l'.s N).length=x:=⟨_,rfl⟩;rw[hsl']at hI |-;have hI2:=Lib.hid (And.intro hI hsl');clear hsl';have b1:w6.heap[T]?=some (.cells #[.slice (some ⟨ab,0,none⟩) N N,.slice pv' nv' cv',.slice none 0 0,.bool stuck] 29):=(hI.be.2 T (by have:=HW.out.2.2.1;omega)).trans HW.out.1;have b0:w6.heap[H]?=some (.cells #[.slice none 0 0,.slice none 0 0,.slice none 0 0,.bool false] 29):=(hI.be.2 H (by have:=HW.out.2.2.1;have:=HW.out.2.2.2.2;omega)).trans ((HW.out.2.1 H HW.out.2.2.2.2).trans HZ2.out.1);have hne:¬(T=H):=by have:=HW.out.2.2.2.2;omega
   have hne2:¬(H=T):=by omega
   clear hI;have c0:=(zq0 (off:=0) b1).trans rfl;have c1:=(zq0 (off:=1) b1).trans rfl;have c2:=(zq0 (off:=2) b1).trans rfl;have c3:=(zq0 (off:=3) b1).trans rfl;have y2:=zq6 (off:=2) b1;have r0:=(zq0 (off:=0) b0).trans rfl;have r1:=(zq0 (off:=1) b0).trans rfl;have r2:=(zq0 (off:=2) b0).trans rfl;have r3:=(zq0 (off:=3) b0).trans rfl;have z0:=zq6 (off:=0) b0;have z1:=zq6 (off:=1) b0;have z2:=zq6 (off:=2) b0;have z3:=zq6 (off:=3) b0;have B0:=Lib.hid b0;have B1:=Lib.hid b1;clear b0 b1;go_wp2;clear c0 c1 c2 c3 y2 r0 r1 r2 r3 z0 z1 z2 z3;have b0:(w6.setCell ⟨T,2,none⟩ (.slice sp' sl sc')).heap[H]?=some (.cells #[.slice none 0 0,.slice none 0 0,.slice none 0 0,.bool false] 29):=by rw[zq8 _ _ _ _ hne2];exact B0.out
   have b1':=zqn _ H 0 (.slice (some ⟨ab,0,none⟩) N N) b0;have b2':=zqn _ H 1 (.slice pv' nv' cv') b1';have b3':=zqn _ H 2 (.slice sp' sl sc') b2';have b4':=zqn _ H 3 (.bool stuck) b3';have hext:∀x,x≠T->x≠H->(((((w6.setCell ⟨T,2,none⟩ (.slice sp' sl sc')).setCell ⟨H,0,none⟩ (.slice (some ⟨ab,0,none⟩) N N)).setCell ⟨H,1,none⟩ (.slice pv' nv' cv')).setCell ⟨H,2,none⟩ (.slice sp' sl sc')).setCell ⟨H,3,none⟩ (.bool stuck)).heap[x]?=w6.heap[x]?:=λx hx1 hx=>by
    rw[zq8 _ _ _ _ hx,zq8 _ _ _ _ hx,zq8 _ _ _ _ hx,zq8 _ _ _ _ hx,zq8 _ _ _ _ hx1]
   have hsz8:(((((w6.setCell ⟨T,2,none⟩ (.slice sp' sl sc')).setCell ⟨H,0,none⟩ (.slice (some ⟨ab,0,none⟩) N N)).setCell ⟨H,1,none⟩ (.slice pv' nv' cv')).setCell ⟨H,2,none⟩ (.slice sp' sl sc')).setCell ⟨H,3,none⟩ (.bool stuck)).heap.size=w6.heap.size:=by simp only[zqv]
   generalize (((((w6.setCell ⟨T,2,none⟩ (.slice sp' sl sc')).setCell ⟨H,0,none⟩ (.slice (some ⟨ab,0,none⟩) N N)).setCell ⟨H,1,none⟩ (.slice pv' nv' cv')).setCell ⟨H,2,none⟩ (.slice sp' sl sc')).setCell ⟨H,3,none⟩ (.bool stuck))=w8 at b4' hext hsz8 |-;clear b1' b2' b3' b0;have k0:=(zq0 (off:=0) b4').trans rfl;have k1:=(zq0 (off:=1) b4').trans rfl;have k2:=(zq0 (off:=2) b4').trans rfl;have k3:=(zq0 (off:=3) b4').trans rfl;obtain⟨_,hoT,hsT,hTT,hHl⟩:=HW.out;obtain⟨hI,hsl2⟩:=hI2.out;have hwl:=HE.out.1;obtain⟨hB,hOp,hsc,hnf,hobb,hzb2,hwb⟩:=HX.out;have hrow:w8.ownsRow w3.heap.size 2 1 (.slice sp' sl sc') (epL (zqz start ops N mo sched).s.1 N).length ((epL (zqz start ops N mo sched).s.1 N).map (Value.int .i64)):=by
    rw[HZ2.out.2,hsl2];have hrI:=hI.row;rw[hsl2]at hrI;have q:w8.ownsRow w5.heap.size 2 1 (.slice sp' sl sc') sl ((epL l'.s N).map (Value.int .i64)):=zqj hrI λg hg=>by
     have h1:=(own_lt hrI hg).2.1;exact hext g (by omega) (by omega)
    exact zq33 q (by omega)
   have hfin:PlayedR N w (zqz start ops N mo sched) (epL (zqz start ops N mo sched).s.1 N) ab (.slice pv' nv' cv') (.slice sp' sl sc') am w8:=by
    refine zqfd HO2.out HE.out.1 (by omega) hobb hnf (by have:=hI.be.1;omega) (λx hx hxH=>?_) hrow;rw[hext x (by omega) hxH,hI.be.2 x (by omega)];exact hoT x (by omega)
   refine⟨rfl,.agg #[.slice (some ⟨ab,0,none⟩) N N,.slice pv' nv' cv',.slice sp' sl sc',.bool stuck],?_,_,rfl,_,_,rfl,hfin⟩;simp only[results,Try.f9];simp[go_sem,k0,k1,k2,k3]
 . rintro v w' ⟨sv,am,rfl,h⟩;have h2:=hm.out _ _ sv am w' h;rw[HST.out]at h2;exact h2
noncomputable def awT(n:Nat):Code:=tailN n (Try.f7.body.getD .skip)
theorem aw0:Try.f7.body.getD .skip=.seq (headC (awT 0)) (.seq (headC (awT 1)) (awT 2)):=by kernel_rfl
def awOps(i:Nat):List OpX:=if i=0 then [⟨1,0,0,0⟩]else [⟨4,0,0,0⟩,⟨4,0,0,0⟩]
theorem aw_ops{w:World}{rb p0 p1:Nat}(hr:w.heap[rb]?=some (.cells #[.slice (some ⟨p0,0,none⟩) 1 1,.slice (some ⟨p1,0,none⟩) 2 2] 92))(h0:w.heap[p0]?=some (.cells #[.int .i64 1,.int .i64 0,.int .i64 0,.int .i64 0] 44))(h1:w.heap[p1]?=some (.cells #[.int .i64 4,.int .i64 0,.int .i64 0,.int .i64 0,.int .i64 4,.int .i64 0,.int .i64 0,.int .i64 0] 44)):
 OpsAt w (λb=>if b=p0\/b=p1 then w.heap[b]? else none) (some ⟨rb,0,none⟩) 2 2 (λi=>if i=0 then some ⟨p0,0,none⟩else some ⟨p1,0,none⟩) (λi=>if i=0 then 1 else 2) (λi=>if i=0 then 1 else 2) awOps:=by
 refine⟨rfl,by decide,λ_=>⟨rb,0,rfl,λi hi=>?_⟩,λi hi=>?_,λi hi=>?_,λi hi k' op hop=>?_⟩
 . rw[zq0 hr];obtain rfl |rfl:i=0\/i=1:=by omega
   . rfl
   . rfl
 . obtain rfl |rfl:i=0\/i=1:=by omega
   . exact⟨by decide,by decide,λh=>(by cases h)⟩
   . exact⟨by decide,by decide,λh=>(by cases h)⟩
 . obtain rfl |rfl:i=0\/i=1:=by omega
   . rfl
   . rfl
 . obtain rfl |rfl:i=0\/i=1:=by omega
   . refine⟨p0,0,_,_,_,rfl,by rw[if_pos (.inl rfl)];exact h0,λj hj=>?_⟩;obtain rfl:k'=0:=by have:=(List.getElem?_eq_some_iff.1 hop).1;simp[awOps]at this;omega
     simp[awOps]at hop;subst hop;obtain rfl |rfl |rfl |rfl:j=0\/j=1\/j=2\/j=3:=by omega
     all_goals rfl
   . refine⟨p1,0,_,_,_,rfl,by rw[if_pos (.inr rfl)];exact h1,λj hj=>?_⟩;obtain rfl |rfl:k'=0\/k'=1:=by have:=(List.getElem?_eq_some_iff.1 hop).1;simp[awOps]at this;omega
     all_goals
      simp[awOps]at hop;subst hop;obtain rfl |rfl |rfl |rfl:j=0\/j=1\/j=2\/j=3:=by omega
      all_goals rfl
theorem aw_a0:(zqz [] awOps 2 100 [0,1,1,1,1,0,1,1]).s.2 0=[⟨true,0,[]⟩]:=by kernel_rfl
theorem aw_a1:(zqz [] awOps 2 100 [0,1,1,1,1,0,1,1]).s.2 1=[⟨true,1,[]⟩,⟨true,0,[]⟩]:=by kernel_rfl
theorem aw_st:epL (zqz [] awOps 2 100 [0,1,1,1,1,0,1,1]).s.1 2=[1,1,0]:=by kernel_rfl
theorem aw_ord:(zqz [] awOps 2 100 [0,1,1,1,1,0,1,1]).ord.length=8:=by kernel_rfl
theorem aw_stk:decide (0<leftN (zqz [] awOps 2 100 [0,1,1,1,1,0,1,1]).ov 2)=false:=by kernel_rfl
theorem zqc8{Fin:Machine->Trace->Prop}(hFin:Back Try.prog Fin){n:Nat}(hn:0<n){w:World}{c:Frame}{cs:List Frame}(hmain:∀w',Beyond w w'->J0 Try.prog Fin (n+2) (G (c.finish (.bool true)) cs) w'):
 J0 Try.prog Fin n (G (Frame.enter Try.prog 7 #[] .normal) (c::cs)) w:=by
 have hJ:=j0_JS hFin;have hC:=zq3x hFin;have e:Frame.enter Try.prog 7 #[] .normal=(bN 7).at (zqw Try.f7 #[]) [.code ((Try.f7.body).getD .skip)]:=by kernel_rfl
 have ea:zqw Try.f7 #[]=⟨#[undef,undef,undef,undef,undef,undef,undef,undef,undef,undef,undef,undef,undef,undef,undef,undef,undef,undef,undef,undef,undef,undef,undef,undef,undef,undef,undef,undef,undef,undef,undef,undef,undef,undef,undef,undef,undef,undef,undef,undef,undef,undef,undef,undef,undef,undef,undef,undef,undef,undef,undef,undef,undef,undef,undef,undef,undef,undef,undef,undef,undef,undef,undef,undef,undef,undef,undef,undef,undef,undef,undef,undef,undef,undef,undef,undef,undef,undef,undef,undef,undef,undef,undef,undef,undef,undef,undef,undef,undef,undef,undef,undef,undef,undef],[]⟩:=by kernel_rfl
 rw[e,ea,aw0];clear e ea;have hm:=Lib.hid hmain;clear hmain;refine hJ.ctl (s:=n) (λw=>stepG_seq) ?_;refine zq3c hJ hC zq1s (by kernel_rfl) (λt w'=>t=#[.bool false,undef,undef,undef,undef,undef,undef,undef,undef,undef,undef,undef,undef,undef,undef,undef,undef,undef,undef,undef,undef,undef,undef,undef,undef,undef,undef,undef,undef,undef,undef,undef,undef,undef,undef,undef,undef,undef,undef,undef,undef,undef,undef,undef,undef,undef,undef,undef,undef,undef,undef,undef,undef,undef,undef,undef,undef,undef,undef,undef,undef,undef,undef,undef,undef,undef,undef,undef,undef,undef,undef,undef,undef,undef,undef,undef,undef,undef,undef,undef,undef,undef,undef,undef,undef,undef,undef,undef,undef,undef,undef,undef,undef,undef]/\∃τ d,w'=re w τ d) (λt w' τ d h=>⟨h.1,by obtain⟨τ',d',rfl⟩:=h.2;exact⟨τ,d,by rw[re_re]⟩⟩) (by decide) (λτ d=>?_) ?_
 . obtain⟨u0,hu0⟩:∃c,headC (awT 0)=c:=⟨_,rfl⟩;have eu0:=hu0;rw[hu0];simp only[awT,headC,tailN,Try.f7,al_od]at eu0;subst eu0;clear hu0;go_wp2;exact⟨rfl,rfl,τ,d,rfl⟩
 rintro t w' ⟨rfl,τ,d,rfl⟩;refine hJ.re' n _ _ τ d ?_;refine hJ.ctl (s:=n) (λw=>stepG_seq) ?_;obtain⟨u0,hu0⟩:∃c,headC (awT 1)=c:=⟨_,rfl⟩;have eu0:=hu0;rw[hu0];simp only[awT,headC,tailN,Try.f7,al_od]at eu0;subst eu0;clear hu0;refine hJ.ctl (s:=n) (λw=>stepG_region) ?_;refine zq11 (s:=n) (by decide) hJ (zq10 _) false (.inr rfl) 0 7 3 rfl rfl rfl (by rfl) ?_;intro τ d;simp only[List.drop_zero,List.take_succ_cons,List.take_zero];have HB0:=Lib.hid (Beyond.re w τ d);generalize re w τ d=v0 at HB0 |-;obtain⟨H,hH⟩:∃H,v0.heap.size=H:=⟨_,rfl⟩;have HH:=Lib.hid hH;go_wp2;simp only[zql];have HW:RowKit.Hid (Beyond v0 ((((v0.alloc (.cells #[.int .i64 1,.int .i64 0,.int .i64 0,.int .i64 0] 44)).alloc (.cells #[.int .i64 4,.int .i64 0,.int .i64 0,.int .i64 0,.int .i64 4,.int .i64 0,.int .i64 0,.int .i64 0] 44)).alloc (.cells #[.slice (some ⟨H,0,none⟩) 1 1,.slice (some ⟨H+1,0,none⟩) 2 2] 92)).alloc (.cells #[.int .i64 0,.int .i64 1,.int .i64 1,.int .i64 1,.int .i64 1,.int .i64 0,.int .i64 1,.int .i64 1] 3))/\((((v0.alloc (.cells #[.int .i64 1,.int .i64 0,.int .i64 0,.int .i64 0] 44)).alloc (.cells #[.int .i64 4,.int .i64 0,.int .i64 0,.int .i64 0,.int .i64 4,.int .i64 0,.int .i64 0,.int .i64 0] 44)).alloc (.cells #[.slice (some ⟨H,0,none⟩) 1 1,.slice (some ⟨H+1,0,none⟩) 2 2] 92)).alloc (.cells #[.int .i64 0,.int .i64 1,.int .i64 1,.int .i64 1,.int .i64 1,.int .i64 0,.int .i64 1,.int .i64 1] 3)).heap[H]?=some (.cells #[.int .i64 1,.int .i64 0,.int .i64 0,.int .i64 0] 44)/\((((v0.alloc (.cells #[.int .i64 1,.int .i64 0,.int .i64 0,.int .i64 0] 44)).alloc (.cells #[.int .i64 4,.int .i64 0,.int .i64 0,.int .i64 0,.int .i64 4,.int .i64 0,.int .i64 0,.int .i64 0] 44)).alloc (.cells #[.slice (some ⟨H,0,none⟩) 1 1,.slice (some ⟨H+1,0,none⟩) 2 2] 92)).alloc (.cells #[.int .i64 0,.int .i64 1,.int .i64 1,.int .i64 1,.int .i64 1,.int .i64 0,.int .i64 1,.int .i64 1] 3)).heap[H+1]?=some (.cells #[.int .i64 4,.int .i64 0,.int .i64 0,.int .i64 0,.int .i64 4,.int .i64 0,.int .i64 0,.int .i64 0] 44)/\((((v0.alloc (.cells #[.int .i64 1,.int .i64 0,.int .i64 0,.int .i64 0] 44)).alloc (.cells #[.int .i64 4,.int .i64 0,.int .i64 0,.int .i64 0,.int .i64 4,.int .i64 0,.int .i64 0,.int .i64 0] 44)).alloc (.cells #[.slice (some ⟨H,0,none⟩) 1 1,.slice (some ⟨H+1,0,none⟩) 2 2] 92)).alloc (.cells #[.int .i64 0,.int .i64 1,.int .i64 1,.int .i64 1,.int .i64 1,.int .i64 0,.int .i64 1,.int .i64 1] 3)).heap[H+1+1]?=some (.cells #[.slice (some ⟨H,0,none⟩) 1 1,.slice (some ⟨H+1,0,none⟩) 2 2] 92)/\((((v0.alloc (.cells #[.int .i64 1,.int .i64 0,.int .i64 0,.int .i64 0] 44)).alloc (.cells #[.int .i64 4,.int .i64 0,.int .i64 0,.int .i64 0,.int .i64 4,.int .i64 0,.int .i64 0,.int .i64 0] 44)).alloc (.cells #[.slice (some ⟨H,0,none⟩) 1 1,.slice (some ⟨H+1,0,none⟩) 2 2] 92)).alloc (.cells #[.int .i64 0,.int .i64 1,.int .i64 1,.int .i64 1,.int .i64 1,.int .i64 0,.int .i64 1,.int .i64 1] 3)).heap[H+1+1+1]?=some (.cells #[.int .i64 0,.int .i64 1,.int .i64 1,.int .i64 1,.int .i64 1,.int .i64 0,.int .i64 1,.int .i64 1] 3)):=by
  refine Lib.hid ⟨(((Beyond.alloc _ _).trans (Beyond.alloc _ _)).trans (Beyond.alloc _ _)).trans (Beyond.alloc _ _),?_,?_,?_,?_⟩
  . rw[<-hH];exact zqk (zqk (zqk (zqo _ _)))
  . refine zqk (zqk ?_);rw[zq5,if_pos (by rw[zq3,hH])]
  . refine zqk ?_;rw[zq5,if_pos (by simp only[zq3,hH])]
  . rw[zq5,if_pos (by simp only[zq3,hH])]
 generalize ((((v0.alloc (.cells #[.int .i64 1,.int .i64 0,.int .i64 0,.int .i64 0] 44)).alloc (.cells #[.int .i64 4,.int .i64 0,.int .i64 0,.int .i64 0,.int .i64 4,.int .i64 0,.int .i64 0,.int .i64 0] 44)).alloc (.cells #[.slice (some ⟨H,0,none⟩) 1 1,.slice (some ⟨H+1,0,none⟩) 2 2] 92)).alloc (.cells #[.int .i64 0,.int .i64 1,.int .i64 1,.int .i64 1,.int .i64 1,.int .i64 0,.int .i64 1,.int .i64 1] 3))=WA at HW |-;clear hH;refine zq1p (by decide) hJ (s:=n) rfl rfl (f:=9) (args:=#[.slice none 0 0,.slice (some ⟨H+1+1,0,none⟩) 2 2,.slice (some ⟨H+1+1+1,0,none⟩) 8 8,.int .i64 100]) (λτ d=>?_) (λτ d=>?_) ?_
 . simp[go_sem,execOp,Act.eval,resolve,Deferred.ofValue,invoke,callFunc,Try.func9,Try.f9]
 . intro e he;simp[go_sem,execOp,Act.eval,resolve,Deferred.ofValue,invoke,callFunc,Try.func9,Try.f9,Sem.runT_eq]at he
 refine zq7v hFin (n:=n) hn (RP:=λb=>if b=H\/b=H+1 then WA.heap[b]? else none) (start:=[]) (stp:=none) (stC:=0) (sched:=[0,1,1,1,1,0,1,1]) (ops:=awOps) (N:=2) (λh=>absurd rfl h) (λb o hb=>?_) (aw_ops HW.out.2.2.2.1 HW.out.2.1 HW.out.2.2.1) (by decide) (λ_=>⟨H+1+1+1,0,rfl,λj x hj=>?_⟩) ?_
 . split at hb
   . exact hb
   . cases hb
 . rw[zq0 HW.out.2.2.2.2,Nat.zero_add];have hlj:=(List.getElem?_eq_some_iff.1 hj).1;simp only[List.length_cons,List.length_nil]at hlj;obtain rfl |rfl |rfl |rfl |rfl |rfl |rfl |rfl:j=0\/j=1\/j=2\/j=3\/j=4\/j=5\/j=6\/j=7:=by omega
   all_goals(simp at hj;subst hj;rfl)
 intro ab ov sv am wp hR;rw[aw_stk];rw[Frame.finish_at]
 walk_nrm
 have hq1:=zq8a hR.orow;have hq2:=zq3i hR.srow;rw[aw_st]at hq2;obtain⟨op,oc,rfl,-⟩:=hq1;obtain⟨sp,sc,rfl,hsv⟩:=hq2;obtain⟨sb,so,rfl,hsc⟩:=hsv (by decide);have s0:=hsc 0 (by decide);have s1:=hsc 1 (by decide);have s2:=hsc 2 (by decide);have ha0:=zq4l hR.ans (i:=0) (by decide);have ha1:=zq4l hR.ans (i:=1) (by decide);rw[hR.ast,aw_a0]at ha0;rw[hR.ast,aw_a1]at ha1;obtain⟨a1,pa,ca,a2,a3⟩:=ha0;obtain⟨b1,pb,cb,b2,b3⟩:=ha1;obtain⟨ga,oa,rfl,a4⟩:=a3 (by simp);obtain⟨gb,ob',rfl,b4⟩:=b3 (by simp);obtain⟨b5,b6,_⟩:=b4 0 _ rfl;obtain⟨b7,b8,_⟩:=b4 1 _ rfl;rw[a2]at a1;rw[b2]at b1;simp only[List.length_map,aw_ord,List.length_cons,List.length_nil,Nat.zero_add,Nat.zero_mul,Nat.one_mul,Nat.reduceAdd,Nat.add_assoc,Nat.add_zero,List.getD_cons_zero,List.getD_cons_succ]at a1 b1 b5 b6 b7 b8 s0 s1 s2 |-;have hbw:Beyond w wp:=(HB0.out.trans HW.out.1).trans ⟨hR.size,hR.old⟩;have HF:RowKit.Hid (wp.cell? ⟨ab,0,none⟩=some (.slice (some ⟨ga,oa,none⟩) 1 ca)/\wp.cell? ⟨ab,1,none⟩=some (.slice (some ⟨gb,ob',none⟩) 2 cb)/\wp.cell? ⟨gb,ob',none⟩=some (.bool true)/\wp.cell? ⟨gb,ob'+1,none⟩=some (.int .i64 1)/\wp.cell? ⟨gb,ob'+3,none⟩=some (.bool true)/\wp.cell? ⟨gb,ob'+4,none⟩=some (.int .i64 0)/\wp.cell? ⟨sb,so,none⟩=some (.int .i64 1)/\wp.cell? ⟨sb,so+1,none⟩=some (.int .i64 1)/\wp.cell? ⟨sb,so+2,none⟩=some (.int .i64 0)):=Lib.hid (And.intro a1 (And.intro b1 (And.intro b5 (And.intro b6 (And.intro b7 (And.intro b8 (And.intro s0 (And.intro s1 s2))))))));have HBW:=Lib.hid hbw;clear hR a1 a2 a3 a4 b1 b2 b3 b4 b5 b6 b7 b8 s0 s1 s2 hsc hsv HW HB0 hbw;refine zq11 (s:=n+2) (by decide) hJ (zq10 _) false (.inr rfl) 8 2 0 rfl rfl rfl (by rfl) ?_;intro τ d;simp only[List.drop_succ_cons,List.drop_zero,List.take_succ_cons,List.take_zero];have HF2:RowKit.Hid ((re wp τ d).cell? ⟨ab,0,none⟩=some (.slice (some ⟨ga,oa,none⟩) 1 ca)/\(re wp τ d).cell? ⟨ab,1,none⟩=some (.slice (some ⟨gb,ob',none⟩) 2 cb)/\(re wp τ d).cell? ⟨gb,ob',none⟩=some (.bool true)/\(re wp τ d).cell? ⟨gb,ob'+1,none⟩=some (.int .i64 1)/\(re wp τ d).cell? ⟨gb,ob'+3,none⟩=some (.bool true)/\(re wp τ d).cell? ⟨gb,ob'+4,none⟩=some (.int .i64 0)/\(re wp τ d).cell? ⟨sb,so,none⟩=some (.int .i64 1)/\(re wp τ d).cell? ⟨sb,so+1,none⟩=some (.int .i64 1)/\(re wp τ d).cell? ⟨sb,so+2,none⟩=some (.int .i64 0)):=Lib.hid HF.out;have HBW2:=Lib.hid (HBW.out.trans (Beyond.re wp τ d));generalize re wp τ d=x0 at HF2 HBW2 |-;clear HF HBW;go_wp2;simp only[zql];refine hJ.ctl (s:=n+2) (λw=>stepG_region_end) ?_;have hT:=zqo x0 (.cells #[.slice (some ⟨ab,0,none⟩) 2 2,.slice op 8 oc,.slice (some ⟨sb,so,none⟩) 3 sc,.bool false] 29);have hbx:Beyond x0 (x0.alloc (.cells #[.slice (some ⟨ab,0,none⟩) 2 2,.slice op 8 oc,.slice (some ⟨sb,so,none⟩) 3 sc,.bool false] 29)):=Beyond.alloc _ _;generalize (x0.alloc (.cells #[.slice (some ⟨ab,0,none⟩) 2 2,.slice op 8 oc,.slice (some ⟨sb,so,none⟩) 3 sc,.bool false] 29))=y0 at hT hbx |-;obtain⟨T,hTT⟩:∃T,x0.heap.size=T:=⟨_,rfl⟩;rw[hTT]at hT |-;clear hTT;have HY:=Lib.hid (HBW2.out.trans hbx);obtain⟨a1,b1,b5,b6,b7,b8,s0,s1,s2⟩:=HF2.out;replace a1:=hbx.cell a1;replace b1:=hbx.cell b1;replace b5:=hbx.cell b5;replace b6:=hbx.cell b6;replace b7:=hbx.cell b7;replace b8:=hbx.cell b8;replace s0:=hbx.cell s0;replace s1:=hbx.cell s1;replace s2:=hbx.cell s2;have t0:=(zq0 (off:=0) hT).trans rfl;have t1:=(zq0 (off:=1) hT).trans rfl;have t2:=(zq0 (off:=2) hT).trans rfl;have t3:=(zq0 (off:=3) hT).trans rfl;have FF:=Lib.hid (And.intro a1 (And.intro b1 (And.intro b5 (And.intro b6 (And.intro b7 (And.intro b8 (And.intro s0 (And.intro s1 (And.intro s2 (And.intro t0 (And.intro t1 (And.intro t2 t3))))))))))));clear hT hbx HF2 HBW2 a1 b1 b5 b6 b7 b8 s0 s1 s2 t0 t1 t2 t3;refine zq5r hJ hC zq1s (by kernel_rfl) (λv w'=>v=.bool true/\Beyond y0 w') (λv w' τ d h=>⟨h.1,h.2.trans (Beyond.re _ _ _)⟩) rfl Try.func7 (λτ d=>?_) ?_
 . obtain⟨u0,hu0⟩:∃c,awT 2=c:=⟨_,rfl⟩;have eu0:=hu0;rw[hu0];simp only[awT,headC,tailN,Try.f7,al_od]at eu0;subst eu0;clear hu0 hm;obtain⟨a1,b1,b5,b6,b7,b8,s0,s1,s2,t0,t1,t2,t3⟩:=FF.out;clear FF;have hcl:∀a,(re y0 τ d).cell? a=y0.cell? a:=λa=>rfl;rw[<-hcl]at a1 b1 b5 b6 b7 b8 s0 s1 s2 t0 t1 t2 t3;clear hcl;have HR:RowKit.Hid (Beyond y0 (re y0 τ d)):=Lib.hid (Beyond.re _ _ _);generalize re y0 τ d=z0 at HR a1 b1 b5 b6 b7 b8 s0 s1 s2 t0 t1 t2 t3 |-;go_wp2;go_ret;exact⟨_,rfl,rfl,HR.out⟩
 . rintro v w' ⟨rfl,h⟩;exact hm.out _ (HY.out.trans h)
end Go.Proofs
namespace Go.Car
open Go
def skipN(N:Nat)(en:Nat->Bool)(y:Int):Prop:=y<0\/(N:Int)<=y\/en y.toNat=true
inductive PickR(l:List Int)(N:Nat)(en:Nat->Bool):Nat->Nat->Nat->Nat->Nat->Prop
 |list {a r k x:Nat} (hk:a<=k) (hx:l[k]?=some (x:Int)) (hN:x<N) (he:en x=false) (hs:∀j y,a<=j->j<k->l[j]?=some y->skipN N en y):PickR l N en a r x (k+1) r
 |round {a r x v a':Nat} (hs:∀j y,a<=j->l[j]?=some y->skipN N en y) (hr:r<=v) (hx:x=v % N) (hN:0<N) (he:en x=false) (hv:∀j,r<=j->j<v->en (j % N)=true) (ha:l.length<=a'):PickR l N en a r x a' (x+1)
theorem PickR.lt {l:List Int}{N a r x a' r':Nat}{en:Nat->Bool}(h:PickR l N en a r x a' r'):x<N/\en x=false:=by
 cases h with
 |list hk hx hN he hs=>exact⟨hN,he⟩
 |round hs hr hx hN he hv ha=>exact⟨by rw[hx];exact Nat.mod_lt _ hN,he⟩
section
variable {prog:Nat->List Cd} {N most:Nat}
theorem zq8f{ov:Nat->Bool}(h:leftN ov N=0){i:Nat}(hi:i<N):ov i=true:=by
 cases e:ov i with
 |true=>rfl
 |false=>have:=zq4z hi e;omega
theorem zqec{ov:Nat->Bool}{i:Nat}(hi:i<N)(e:ov i=false):0<leftN ov N:=by have:=zq4z hi e;omega
theorem zqlz{q j:Nat}(h:q+j<N):((upto N).drop q)[j]?=some ((q+j:Nat):Int):=by rw[List.getElem?_drop,zq4d h]
theorem zqbr{q j:Nat}{y:Int}(h:((upto N).drop q)[j]?=some y):y=((q+j:Nat):Int)/\q+j<N:=by
 have h2:=h;rw[List.getElem?_drop]at h2;have hlt:q+j<N:=by have:=(List.getElem?_eq_some_iff.1 h2).1;rw[zq5n]at this;exact this
 rw[zq4d hlt]at h2;exact⟨(Option.some.inj h2).symm,hlt⟩
end
end Go.Car
namespace Go.Car
open Go
end Go.Car
