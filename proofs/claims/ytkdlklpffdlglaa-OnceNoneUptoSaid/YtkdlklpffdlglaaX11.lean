/- YtkdlklpffdlglaaNone13: part 11 of the proof (the texts behind it, in order). -/
import Derived.Test.YtkdlklpffdlglaaX10
set_option maxHeartbeats 4000000
set_option maxRecDepth 100000
set_option linter.all false
namespace Go.Proofs
open Go Go.Conc Go.RowKit Go.Car
theorem zqdg{S1:Type}{i:Nat}{dop:OpX->Proc (S1×(Nat->List Ans)) Ans}{k:Nat}(h:∀op,(dop op).Deep k):∀l,(opsP i dop l).Deep k:=by
 intro l
 induction l with
 |nil=>exact Proc.Deep.ret _
 |cons op l ih=>exact(h op).bind λa=>(Proc.Deep.act _).bind λ_=>ih
section
variable {M1 S1:Type} {C:Core M1 S1} {RP:Nat->Option Obj} {l₀:M1} {w wa w1 w2:World} {N n most:Nat} {sp:Nat->Option Addr} {L Cp:Nat->Nat} {ob ib:Nat->Nat} {dv fv v:Value} {pr:Nat->Proc (S1×(Nat->List Ans)) Unit} {sched:List Int} {b:OSt (TM (M1×AnsM) (S1×(Nat->List Ans)))} {m':TM (M1×AnsM) (S1×(Nat->List Ans))} {g:Nat}
def mOps(l₀:M1)(room:Nat):TM (M1×AnsM) (S1×(Nat->List Ans)):=⟨⟨(l₀,ans0),λ_ _=>none⟩,λ_=>.ret (),room⟩
theorem ops_rep0{ro:Nat->Option Obj}{ab:Nat}{room:Nat}(h:BRep (zqi C (zqs tT ab N)) ro ⟨(l₀,ans0),λ_ _=>none⟩ w1):(thrOf (zqi C (zqs tT ab N)) ownA ro pr).Rep (mOps l₀ room) w1:=⟨h,λi=>trivial⟩
theorem zq4j{ro:Nat->Option Obj}{ab room x:Nat}(h:(thrOf (zqi C (zqs tT ab N)) ownA ro pr).foot (mOps l₀ room) x):C.foot l₀ x\/x=ab\/ro x≠none:=by
 rcases h with(h|h|⟨i,hi,h⟩)|⟨i,h⟩|h
 . exact .inl h
 . exact .inr (.inl h)
 . exact absurd rfl h
 . exact absurd rfl h
 . exact .inr (.inr h)
theorem ops_res(hR:DRes wa N dv sp L Cp N ob ib fv w1)(hb:BRep C RP ⟨l₀,λ_ _=>none⟩ wa){room:Nat}
 (ho:Over1 (thrOf (zqi C (zqs tT (wa.heap.size+1) N)) ownA (roOf RP wa.heap.size N ob ib w1) pr) N most sched (mOps l₀ room) w1 b m' v g w2):
 OpsRes C N l₀ wa (playT pr N most sched (C.st l₀,λ_=>[])) (wa.heap.size+1) v m'.bm.l.1 m'.bm.l.2 w2/\leftN b.ov N=leftN (playT pr N most sched (C.st l₀,λ_=>[])).ov N:=by
 obtain⟨hs,he⟩:=ran_T (m₀:=mOps l₀ room) rfl ho.ran;have hs0:(zqi C (zqs tT (wa.heap.size+1) N)).st (mOps (S1:=S1) l₀ room).bm.l=(C.st l₀,λ_=>[]):=rfl;rw[hs0]at hs;have hst:(C.st m'.bm.l.1,m'.bm.l.2.st)=(playT pr N most sched (C.st l₀,λ_=>[])).s:=he.trans hs.st;have hB:=ho.rep.1;have hsz:=hR.size;have hsz2:=ho.size;have hrl:∀x o,RP x=some o->x<wa.heap.size:=λx o h=>zqt (hb.rod x o h);have hrn:∀x,roOf RP wa.heap.size N ob ib w1 x≠none->RP x≠none\/wa.heap.size<=x:=λx h=>by
  cases hx:roOf RP wa.heap.size N ob ib w1 x with
  |none=>exact absurd hx h
  |some o=>
   rcases zq3o hx with h|⟨h,_⟩
   . exact .inl (by rw[h];simp)
   . right
     rcases h with h|h|⟨i,hi,h⟩
     . omega
     . omega
     . have:=hR.lo i hi;rcases h with h|h<;>omega
 have hfn:∀x,(thrOf (zqi C (zqs tT (wa.heap.size+1) N)) ownA (roOf RP wa.heap.size N ob ib w1) pr).foot m' x->roOf RP wa.heap.size N ob ib w1 x=none->C.foot l₀ x\/wa.heap.size<=x:=λx h hn=>by
  rcases ho.foot x h with h|h
  . rcases zq4j h with h|h|h
    . exact .inl h
    . exact .inr (by omega)
    . exact absurd hn h
  . exact .inr (by omega)
 have hcr:∀x,C.foot m'.bm.l.1 x->roOf RP wa.heap.size N ob ib w1 x=none:=λx h=>Classical.byContradiction λy=>hB.rol x y (.inl h);refine⟨⟨hB.core.1,congrArg Prod.fst hst,hB.core.2.1,congrArg Prod.snd hst,by omega,λx hx hf=>?_,λx hx=>hfn x (.inl (.inl hx)) (hcr x hx),by omega,λi x hi hx=>hfn x (.inl (.inr (.inr ⟨i,hi,hx⟩))) (Classical.byContradiction λy=>hB.rol x y (.inr (.inr ⟨i,hi,hx⟩))),λx hx=>?_,?_,λx hx=>?_⟩,?_⟩
 . by_cases hro:roOf RP wa.heap.size N ob ib w1 x=none
   . refine(ho.old x (by omega) λh=>?_).trans (hR.old x hx);rcases zq4j h with h|h|h
     . exact hf h
     . omega
     . exact h hro
   . cases hx2:roOf RP wa.heap.size N ob ib w1 x with
     |none=>exact absurd hx2 hro
     |some o=>
      rw[hB.rod x o hx2];rcases zq3o hx2 with h|⟨h,_⟩
      . exact(hb.rod x o h).symm
      . exfalso;rcases h with h|h|⟨i,hi,h⟩
        . omega
        . omega
        . have:=hR.lo i hi;rcases h with h|h<;>omega
 . have h:=hB.core.2.2 x hx;exact⟨λe=>h (.inl e),λi hi=>Classical.byContradiction λy=>h (.inr ⟨i,hi,y⟩)⟩
 . have:=ho.row;rw[hs.ord]at this;exact zq3l this (by omega)
 . have h:=(ho.rowf x hx).1;exact⟨λy=>h (.inl (.inl y)),λe=>h (.inl (.inr (.inl e))),λi hi=>Classical.byContradiction λy=>h (.inl (.inr (.inr ⟨i,hi,y⟩)))⟩
 . exact zq7a λi _=>by rw[hs.ov]
theorem OpsRes.ext {r:TSt (S1×(Nat->List Ans))}{ab:Nat}{l':M1}{am:AnsM}{w':World}(h:OpsRes C N l₀ wa r ab v l' am w2){H:Nat}(hw:w.heap.size=H)(hwa:wa.heap.size=H+1)(hoa:∀b,b<H->wa.heap[b]?=w.heap[b]?)(hl:∀b,C.foot l₀ b->b<H)(hsz:w2.heap.size<=w'.heap.size)(hold:∀x,x<w2.heap.size->x≠H->w'.heap[x]?=w2.heap[x]?):OpsRes C N l₀ w r ab v l' am w':=by
 have hs:=h.size;have hab:=h.abl;have hcn:∀b,C.foot l' b->b≠H:=λb hb e=>by
  rcases h.foot b hb with h2|h2
  . have:=hl b h2;omega
  . omega
 have han:∀i b,i<N->am.X i b≠none->b≠H:=λi b hi hb e=>by
  rcases h.ansn i b hi hb with h2|h2
  . have:=hl b h2;omega
  . omega
 refine⟨C.frame _ _ _ h.rep λb hb=>hold b (C.lt _ _ _ h.rep hb) (hcn b hb),h.st,⟨(hold ab (zqt h.ans.hd) (by omega)).trans h.ans.hd,h.ans.row,λi b o hi hb=>(hold b (zqt (h.ans.blk i b o hi hb)) (han i b hi (by rw[hb];simp))).trans (h.ans.blk i b o hi hb),h.ans.nab,h.ans.sep⟩,h.ast,by omega,λb hb hf=>(hold b (by omega) (by omega)).trans ((h.old b (by omega) hf).trans (hoa b (by omega))),λb hb=>(h.foot b hb).imp id (λx=>by omega),by omega,λi b hi hb=>(h.ansn i b hi hb).imp id (λx=>by omega),h.anf,?_,h.rowf⟩;refine zq3l (zq24 h.row λg hg=>hold g (own_lt h.row hg).2.2 ?_) (by omega);have:=(own_lt h.row hg).2.1;omega
end
theorem DRes.re {w w':World}{N n:Nat}{dv:Value}{sp:Nat->Option Addr}{L Cp:Nat->Nat}{ob ib:Nat->Nat}{fv:Value}(h:DRes w N dv sp L Cp n ob ib fv w')(τ:Nat->Question->Nat)(d:Nat):DRes w N dv sp L Cp n ob ib fv (Go.Car.re w' τ d):=h.of_heap rfl
theorem DRes.of_re {w w':World}{τ:Nat->Question->Nat}{d:Nat}{N n:Nat}{dv:Value}{sp:Nat->Option Addr}{L Cp:Nat->Nat}{ob ib:Nat->Nat}{fv:Value}(h:DRes (Go.Car.re w τ d) N dv sp L Cp n ob ib fv w'):DRes w N dv sp L Cp n ob ib fv w':=
 ⟨h.size,h.old,h.db,h.ab,h.hb,h.frow,h.obx,h.ibx,h.lo,h.inc⟩
theorem zqdi{w:World}{B N:Nat}{T:TypeId}{v:Value}{xs:List Value}(h:w.ownsRow B T 1 v N xs):∃p C,v=.slice p N C/\(v.ownBlock=p.map (·.block))/\(0<N->∃g,p=some ⟨g,0,none⟩/\v.ownBlock=some g/\∀i x,xs[i]?=some x->w.cell? ⟨g,i,none⟩=some x):=by
 rcases h.2 with⟨hv,h0⟩|⟨g,cap,cur,hv,hb,hh,h1,h2,h3,h4⟩
 . subst h0;exact⟨none,0,hv,by rw[hv];rfl,λh=>absurd h (Nat.lt_irrefl _)⟩
 . refine⟨_,cap,hv,by rw[hv];rfl,λ_=>⟨g,rfl,by rw[hv];rfl,λi x hx=>?_⟩⟩;rw[zq0 (off:=i) hh];have hi:i<xs.length:=(List.getElem?_eq_some_iff.1 hx).1;have hl:=h.1;rw[<-h4,List.getElem?_take]at hx;split at hx
   . simpa using hx
   . cases hx
theorem zqdh{Fin:Machine->Trace->Prop}(hFin:Back Try.prog Fin){n:Nat}(hn:0<n){A:FuncId->Bool}(hP:Plain Try.prog A)(hRS:RowsS Try.prog A){M1 S1:Type}{C:Core M1 S1}{RP:Nat->Option Obj}{l₀:M1}{w:World}
 {np Cn N Cs:Nat} {pp scp:Option Addr} {sp:Nat->Option Addr} {L Cp:Nat->Nat} {ops:Nat->List OpX} {sched:List Int} {mo:Int} {f:FuncId} {first caps:Array Value} {fn:Func} {cc:Code} (hf:Try.prog.funcs[f]?=some fn) (hb':fn.body=some cc) (hnm:(fn.name== "runtime.NumGoroutine")=false)
 (hb:BRep C RP ⟨l₀,λ_ _=>none⟩ w) (ho:OpsAt w RP pp np N sp L Cp ops) (hsl:sched.length<=4611686018427387904)
 (hs:sched≠[]->∃sb off,scp=some ⟨sb,off,none⟩/\¬C.foot l₀ sb/\∀j x,sched[j]?=some x->w.cell? ⟨sb,off+j,none⟩=some (.int .i64 x))
 {dop:Nat->OpX->Proc (S1×(Nat->List Ans)) Ans} (hdeep:∀i op k,(dop i op).Deep k)
 (hdo:∀(ro:Nat->Option Obj)(ab:Nat)(pr:Nat->Proc (S1×(Nat->List Ans)) Unit)(st:Nat)(cr:Frame)(rest:List Frame)(EN:List PanicEntry->Prop)(i:Nat)(o:List Ans)(op:OpX),(∀b x,RP b=some x->ro b=some x)->i<N->
  SpecR (zq2v hP hRS (zqi C (zqs tT ab N)) ownA ro pr 130 (.pointer (some ⟨st,0,none⟩)) cr rest NEnd EN i o) f (first++#[.iface 141 (.pointer (some ⟨st,0,none⟩)),.int .i64 i,op.val]++caps) (dop i op) (AnsV 2))
 {c:Frame} {cs:List Frame}
 (hmain:∀ab v l' am w',OpsRes C N l₀ w (playT (λi=>opsP i (dop i) (ops i)) N (min mo.toNat 1048576) sched (C.st l₀,λ_=>[])) ab v l' am w'->
  J0 Try.prog Fin (n+N) (G (c.finish (.agg #[.slice (some ⟨ab,0,none⟩) N N,v,.slice none 0 0,.bool (decide (0<leftN (playT (λi=>opsP i (dop i) (ops i)) N (min mo.toNat 1048576) sched (C.st l₀,λ_=>[])).ov N))])) cs) w'):
 J0 Try.prog Fin n (G (Frame.enter Try.prog 35 #[.slice pp np Cn,.func (.func f) first caps,.slice scp sched.length Cs,.int .i64 mo] .normal) (c::cs)) w:=by
 have hJ:=j0_JS hFin;have hC:=zq4c hFin;have e:Frame.enter Try.prog 35 #[.slice pp np Cn,.func (.func f) first caps,.slice scp sched.length Cs,.int .i64 mo] .normal=(bN 35).at (zqg Try.f35 #[.slice pp np Cn,.func (.func f) first caps,.slice scp sched.length Cs,.int .i64 mo]) [.code ((Try.f35.body).getD .skip)]:=by kernel_rfl
 have ea:zqg Try.f35 #[.slice pp np Cn,.func (.func f) first caps,.slice scp sched.length Cs,.int .i64 mo]=⟨#[.slice pp np Cn,.func (.func f) first caps,.slice scp sched.length Cs,.int .i64 mo,undef,undef,undef,undef,undef,undef,undef,undef,undef,undef,undef,undef,undef,undef,undef,undef,undef,undef,undef,undef,undef,undef,undef,undef,undef,undef,undef,undef],[]⟩:=by kernel_rfl
 rw[e,ea,ops0];clear e ea;have hm:=Lib.hid hmain;clear hmain;obtain⟨H,hH⟩:∃H,w.heap.size=H:=⟨_,rfl⟩;refine hJ.ctl (s:=n) (λw=>stepG_seq) ?_;refine zq1p hJ hC zq5k (by kernel_rfl) (λt w'=>t=#[.slice pp np Cn,.func (.func f) first caps,.slice scp sched.length Cs,.int .i64 mo,undef,undef,undef,undef,.pointer (some ⟨H,0,none⟩),undef,undef,undef,undef,undef,undef,undef,undef,undef,undef,undef,undef,undef,undef,undef,undef,undef,undef,undef,undef,undef,undef,undef]/\∃τ d,w'=re (w.alloc (.cells #[.slice none 0 0,.slice none 0 0,.slice none 0 0,.bool false] 29)) τ d) (λt w' τ d h=>⟨h.1,by obtain⟨τ',d',rfl⟩:=h.2;exact⟨τ,d,by rw[re_re]⟩⟩) (by decide) (λτ d=>?_) ?_
 . obtain⟨u0,hu0⟩:∃c,headC (opsT 0)=c:=⟨_,rfl⟩;have eu0:=hu0;rw[hu0];simp only[opsT,headC,tailN,Try.f35,al_od]at eu0;subst eu0;clear hu0 hdo hdeep hs ho hb hf hb' hnm;go_wp2;exact⟨rfl,rfl,τ,d,rfl⟩
 rintro t w' ⟨rfl,τ,d,rfl⟩;refine hJ.re' n _ _ τ d ?_;have hwa:(w.alloc (.cells #[.slice none 0 0,.slice none 0 0,.slice none 0 0,.bool false] 29)).heap.size=H+1:=by rw[zqh,hH]
 have hob:∀b,b<H->(w.alloc (.cells #[.slice none 0 0,.slice none 0 0,.slice none 0 0,.bool false] 29)).heap[b]?=w.heap[b]?:=λb hb=>by rw[zqd,if_neg (by omega)]
 have hzb:(w.alloc (.cells #[.slice none 0 0,.slice none 0 0,.slice none 0 0,.bool false] 29)).heap[H]?=some (.cells #[.slice none 0 0,.slice none 0 0,.slice none 0 0,.bool false] 29):=hH▸zq10 w _;obtain⟨wa,hwae⟩:∃wa,w.alloc (.cells #[.slice none 0 0,.slice none 0 0,.slice none 0 0,.bool false] 29)=wa:=⟨_,rfl⟩;rw[hwae]at hwa hob hzb |-;clear hwae;have hlw:∀b,C.foot l₀ b->b<H:=λb h=>by rw[<-hH];exact C.lt _ _ _ hb.core h
 have hba:BRep C RP ⟨l₀,λ_ _=>none⟩ wa:=hb.frame λb h=>hob b (by rw[<-hH];exact hb.lt h);have hat:0<np->∃tb to',pp=some ⟨tb,to',none⟩/\∀i,i<N->wa.cell? ⟨tb,to'+i,none⟩=some (.slice (sp i) (L i) (Cp i)):=λh0=>by
  obtain⟨tb,to',e,h1⟩:=ho.at' h0;exact⟨tb,to',e,λi hi=>(zq14 (hob tb (by rw[<-hH];exact cell_lt (h1 i hi)))).trans (h1 i hi)⟩
 have hs2:sched≠[]->∃sb off,scp=some ⟨sb,off,none⟩/\¬C.foot l₀ sb/\sb<H/\∀j x,sched[j]?=some x->wa.cell? ⟨sb,off+j,none⟩=some (.int .i64 x):=λh0=>by
  obtain⟨sb,off,e,h1',h2⟩:=hs h0;obtain⟨x,l,hsl⟩:=List.exists_cons_of_ne_nil h0;have hlt:sb<H:=by rw[<-hH];exact cell_lt (h2 0 x (by rw[hsl];rfl))
  exact⟨sb,off,e,h1',hlt,λj x hj=>(zq14 (hob sb hlt)).trans (h2 j x hj)⟩
 have hNe:=ho.eq;have hN64:N<=64:=by omega
 have hnp:=ho.le;have hrow:=ho.row;have hlen:=ho.len;have hop:=ho.op;clear ho hs hb;refine hJ.ctl (s:=n) (λw=>stepG_seq) ?_;refine zq1p hJ hC zq5k (by kernel_rfl) (λt w'=>∃ob ib fv,t=#[.slice pp np Cn,.func (.func f) first caps,.slice scp sched.length Cs,.int .i64 mo,undef,undef,undef,undef,.pointer (some ⟨H,0,none⟩),fv,.slice (some ⟨H+1+1,0,none⟩) N N,undef,undef,undef,.tuple #[fv,.slice (some ⟨H+1+1,0,none⟩) N N],.slice pp np Cn,.func (.func f) first caps,.tuple #[fv,.slice (some ⟨H+1+1,0,none⟩) N N],fv,.slice (some ⟨H+1+1,0,none⟩) N N,undef,undef,undef,undef,undef,undef,undef,undef,undef,undef,undef,undef]/\DRes wa N (.func (.func f) first caps) sp L Cp N ob ib fv w') (λt w' τ d h=>?_) (by decide) (λτ d=>?_) ?_
 . obtain⟨ob,ib,fv,h1,h2⟩:=h;exact⟨ob,ib,fv,h1,h2.re τ d⟩
 . obtain⟨u0,hu0⟩:∃c,headC (opsT 1)=c:=⟨_,rfl⟩;have eu0:=hu0;rw[hu0];simp only[opsT,headC,tailN,Try.f35,al_od]at eu0;subst eu0;clear hu0;have HM:=Lib.hid (zqbf (pp:=pp) (n:=np) (Cn:=Cn) (dv:=.func (.func f) first caps) (sp:=sp) (L:=L) (Cp:=Cp) ⟨_,_,_,rfl⟩ (re wa τ d) hnp (λi hi=>hrow i (by rw[hNe];exact hi)) (λh0=>by
    obtain⟨tb,to',e,h1⟩:=hat h0;exact⟨tb,to',e,λi hi=>h1 i (by rw[hNe];exact hi)⟩))
   rw[<-hNe]at HM;have HH:=Lib.hid (And.intro hH hwa);clear hs2 hat hlw hba hob hzb hH hwa hNe hN64 hnp hrow hlen hop hdo hdeep hf hb' hnm hsl
   go_wp2_with (fail)
   refine Calls.mono HM.out ?_;rintro e w' ⟨ob,ib,fv,rfl,hR⟩;have hR2:=Lib.hid hR.of_re;clear hR;rw[show(re wa τ d).heap.size=H+1 from HH.out.2];go_wp2;exact⟨rfl,ob,ib,fv,rfl,hR2.out⟩
 rintro t w1 ⟨ob,ib,fv,rfl,hR⟩;obtain⟨fp,Cf,rfl,hfo,hfp⟩:=zqdi hR.frow;refine hJ.ctl (s:=n) (λw=>stepG_seq) ?_;have hrep1:=ops_rep hR hba;obtain⟨u0,hu0⟩:∃c,headC (opsT 2)=c:=⟨_,rfl⟩;have eu0:=hu0;rw[hu0];simp only[opsT,headC,tailN,Try.f35,al_od]at eu0;subst eu0;clear hu0;refine hJ.ctl (s:=n) (λw=>stepG_region) ?_;have HR:=Lib.hid hR;have HP:=Lib.hid hrep1;have HX:=Lib.hid (And.intro hat (And.intro hs2 (And.intro hob (And.intro hzb (And.intro hwa (And.intro hlw (And.intro hba (And.intro hrow (And.intro hlen hop)))))))));have HA:=Lib.hid (And.intro hfo hfp);have HNE:=Lib.hid hNe;clear hNe;have HD:=Lib.hid (And.intro hdo (And.intro hdeep (And.intro hf (And.intro hb' hnm))));clear hR hrep1 hat hs2 hob hzb hwa hfo hfp hlw hba hrow hlen hop hdo hdeep hf hb' hnm;refine zqb (s:=n) (by decide) hJ (zq9 _) true (.inl rfl) 0 3 8 rfl rfl rfl (by rfl) ?_;intro τ d;simp only[List.drop_zero,List.take_succ_cons,List.take_zero];go_wp2;simp only[zq5];refine hJ.re' n _ _ τ d ?_;refine zqy (by decide) hJ (s:=n) rfl rfl (f:=22) (args:=#[.slice fp N Cf,.slice scp sched.length Cs,.int .i64 mo]) (λτ d=>?_) (λτ d=>?_) ?_
 . simp[go_sem,execOp,Act.eval,resolve,Deferred.ofValue,invoke,callFunc,Try.func22,Try.f22]
 . intro e he;simp[go_sem,execOp,Act.eval,resolve,Deferred.ofValue,invoke,callFunc,Try.func22,Try.f22,Sem.runT_eq]at he
 obtain⟨hat,hs2,hob,hzb,hwa,hlw,hba,hrow,hlen,hop⟩:=HX.out;obtain⟨hfo,hfp⟩:=HA.out;obtain⟨hdo,hdeep,hf,hb',hnm⟩:=HD.out;have hRo:∀i,i<N->DoRo (roOf RP wa.heap.size N ob ib w1) i N (wa.heap.size+1) (ob i) wa.heap.size (ib i) (wa.heap.size+2) (sp i) (min (L i) 65536) (Cp i) (ops i) f first caps:=λi hi=>ops_ro HR.out hba hN64 hlen hop hi
 have hfree:∀x,wa.heap.size+3<=x->w1.heap[x]?≠none->(∀i,i<N->x≠ob i/\x≠ib i)->¬(C.foot l₀ x\/x=wa.heap.size+1\/roOf RP wa.heap.size N ob ib w1 x≠none):=λx hx _ hne h=>by
  rcases h with h|h|h
  . have:=hlw x h;omega
  . omega
  . cases ho:roOf RP wa.heap.size N ob ib w1 x with
    |none=>exact h ho
    |some o=>
     rcases zq3o ho with h2|⟨h2,_⟩
     . have:=zqt (hba.rod x o h2);omega
     . rcases h2 with h2|h2|⟨i,hi,h2|h2⟩
       . omega
       . omega
       . exact(hne i hi).1 h2
       . exact(hne i hi).2 h2
 refine zqdn hFin (T:=thrOf (zqi C (zqs tT (wa.heap.size+1) N)) ownA (roOf RP wa.heap.size N ob ib w1) (λi=>opsP i (dop i) (ops i))) (m₀:=mOps l₀ (min mo.toNat 1048576+100)) (N:=N) (most:=min mo.toNat 1048576) (tv:=λi=>cloD wa.heap.size (ob i) (ib i)) (sched:=sched) hn (by have:=HNE.out;omega) rfl (ops_rep0 HP.out) (Nat.le_refl _) ?_ (λi hi=>?_) ?_ ?_
 . intro h0;obtain⟨g,e,hg,hc⟩:=hfp h0;refine⟨g,e,λhf=>?_,λi hi=>hc i _ (by simp[clsD,hi])⟩;obtain⟨⟨cc,hcc⟩,hlo,hlt⟩:=own_lt HR.out.frow hg;refine hfree g hlo (by rw[hcc];simp) (λi hi=>⟨λe=>?_,λe=>?_⟩) (zq4j hf)
   . exact zq3f hcc (HR.out.obx i hi) (by decide) e
   . exact zq3f hcc (HR.out.ibx i hi) (by decide) e
 . refine thr_runs hP hRS (fn:=Try.f84) (c:=(Try.f84.body).getD .skip) Try.func84 rfl rfl (λk=>zqdg (λop=>hdeep i op k) _) (λst cr rest EN s m w hA hown=>?_);exact zqbe hP hRS hf hb' hnm (hRo i hi) (λo op=>hdo _ _ _ st cr rest EN i o op (λb x h=>zq5l h) hi) s m w hA hown
 . refine⟨hsl,scp,Cs,rfl,λh0=>?_⟩;obtain⟨sb,off,e,h1',h2,h3⟩:=hs2 h0;refine⟨sb,off,e,λj x hj=>?_⟩;cases h1:RP sb with
   |some o=>exact .inr λm w h=>(zq14 ((h.1.rod sb o (zq5l h1)).trans (hba.rod sb o h1).symm)).trans (h3 j x hj)
   |none=>
   refine .inl ⟨(zq14 (HR.out.old sb (by omega))).trans (h3 j x hj),by have:=HR.out.size;omega,λhf=>?_⟩;rcases zq4j hf with h4|h4|h4
   . exact h1' h4
   . omega
   . cases ho:roOf RP wa.heap.size N ob ib w1 sb with
     |none=>exact h4 ho
     |some o=>
      rcases zq3o ho with h5|⟨h5,_⟩
      . rw[h1]at h5;cases h5
      . rcases h5 with h5|h5|⟨i,hi,h5⟩
        . omega
        . omega
        . have:=HR.out.lo i hi;rcases h5 with h5|h5<;>omega
 intro b m' v g capg w2 ho;obtain⟨hres,hleft⟩:=ops_res HR.out hba ho;have hvrow:=ho.row;clear ho;rw[Frame.finish_at]
 walk_nrm
 obtain⟨pv',cv',rfl,_⟩:=zq4k hvrow;clear hvrow;generalize b.ord.length=nv' at hres |-;have HO:=Lib.hid hres;rw[hleft];have hHw:=zqt hzb;clear hleft hres;obtain⟨stuck,hstuck⟩:∃x,decide (0<leftN (playT (λi=>opsP i (dop i) (ops i)) N (min mo.toNat 1048576) sched (C.st l₀,λ_=>[])).ov N)=x:=⟨_,rfl⟩;rw[hstuck];have HST:=Lib.hid hstuck;clear hstuck;refine zqb (s:=n+N) (by decide) hJ (zq9 _) true (.inl rfl) 4 7 0 rfl rfl rfl (by rfl) ?_;intro τ d;simp only[List.drop_succ_cons,List.drop_zero,List.take_succ_cons,List.take_zero];go_wp2;simp only[zq5];refine hJ.re' (n+N) _ _ τ d ?_;refine hJ.ctl (s:=n+N) (λw=>stepG_region_end) ?_;have hze:w2.heap[H]?=some (.cells #[.slice none 0 0,.slice none 0 0,.slice none 0 0,.bool false] 29):=(HO.out.old H hHw (λh=>by have:=hlw H h;omega)).trans hzb;refine zq4y hJ hC zq5k (by kernel_rfl) (λv w'=>v=.agg #[.slice (some ⟨H+1+1,0,none⟩) N N,.slice pv' nv' cv',.slice none 0 0,.bool stuck]/\∃l' am,OpsRes C N l₀ w (playT (λi=>opsP i (dop i) (ops i)) N (min mo.toNat 1048576) sched (C.st l₀,λ_=>[])) (H+1+1) (.slice pv' nv' cv') l' am w') (λv w' τ d⟨h1,l',am,h2⟩=>⟨h1,l',am,h2.re τ d⟩) rfl Try.func35 (λτ d=>?_) ?_
 . obtain⟨u0,hu0⟩:∃c,opsT 3=c:=⟨_,rfl⟩;have eu0:=hu0;rw[hu0];simp only[opsT,headC,tailN,Try.f35,al_od]at eu0;subst eu0;clear hu0;have HZ:=Lib.hid (And.intro hH (And.intro hwa (And.intro hob hlw)));have b0:(re w2 τ d).heap[H]?=some (.cells #[.slice none 0 0,.slice none 0 0,.slice none 0 0,.bool false] 29):=hze;have hre:=HO.out.re τ d;clear HO;generalize re w2 τ d=w3 at b0 hre |-;have HPR:=Lib.hid hre;clear hre hfree hRo hat hs2 hob hzb hwa hlw hba hrow hlen hop hfo hfp hdo hdeep hf hb' hnm hze hHw HX HA HD HP HR hH hsl hN64 hnp hm;have r0:=(zq0 (off:=0) b0).trans rfl;have r1:=(zq0 (off:=1) b0).trans rfl;have r2:=(zq0 (off:=2) b0).trans rfl;have r3:=(zq0 (off:=3) b0).trans rfl;have z0:=zqf (off:=0) b0;have z1:=zqf (off:=1) b0;have z2:=zqf (off:=2) b0;have z3:=zqf (off:=3) b0;have B0:=Lib.hid b0;clear b0;go_wp2;clear r0 r1 r2 r3 z0 z1 z2 z3;have b1':=zqu w3 H 0 (.slice (some ⟨H+1+1,0,none⟩) N N) B0.out;have b2':=zqu _ H 1 (.slice pv' nv' cv') b1';have b3':=zqu _ H 2 (.slice none 0 0) b2';have b4':=zqu _ H 3 (.bool stuck) b3';have hext:∀x,x<w3.heap.size->x≠H->((((w3.setCell ⟨H,0,none⟩ (.slice (some ⟨H+1+1,0,none⟩) N N)).setCell ⟨H,1,none⟩ (.slice pv' nv' cv')).setCell ⟨H,2,none⟩ (.slice none 0 0)).setCell ⟨H,3,none⟩ (.bool stuck)).heap[x]?=w3.heap[x]?:=λx _ hx=>by
    rw[zqn _ _ _ _ hx,zqn _ _ _ _ hx,zqn _ _ _ _ hx,zqn _ _ _ _ hx]
   have hsz8:((((w3.setCell ⟨H,0,none⟩ (.slice (some ⟨H+1+1,0,none⟩) N N)).setCell ⟨H,1,none⟩ (.slice pv' nv' cv')).setCell ⟨H,2,none⟩ (.slice none 0 0)).setCell ⟨H,3,none⟩ (.bool stuck)).heap.size=w3.heap.size:=by simp only[zq11]
   generalize ((((w3.setCell ⟨H,0,none⟩ (.slice (some ⟨H+1+1,0,none⟩) N N)).setCell ⟨H,1,none⟩ (.slice pv' nv' cv')).setCell ⟨H,2,none⟩ (.slice none 0 0)).setCell ⟨H,3,none⟩ (.bool stuck))=w8 at b4' hext hsz8 |-;clear b1' b2' b3';have k0:=(zq0 (off:=0) b4').trans rfl;have k1:=(zq0 (off:=1) b4').trans rfl;have k2:=(zq0 (off:=2) b4').trans rfl;have k3:=(zq0 (off:=3) b4').trans rfl;have hres:=HPR.out;rw[HZ.out.2.1]at hres;refine⟨rfl,.agg #[.slice (some ⟨H+1+1,0,none⟩) N N,.slice pv' nv' cv',.slice none 0 0,.bool stuck],?_,_,rfl,rfl,_,_,hres.ext HZ.out.1 HZ.out.2.1 HZ.out.2.2.1 HZ.out.2.2.2 (by omega) hext⟩;simp only[results,Try.f35];simp[go_sem,k0,k1,k2,k3]
 . rintro v w' ⟨rfl,l',am,h⟩;have h2:=hm.out _ _ l' am w' h;rw[HST.out]at h2;exact h2
section
variable {M2 S2 β:Type} {D:Core M2 S2} {ro:Nat->Option Obj} {i:Nat} {T:NumT}
theorem zq7w(Z:Alone Try.prog aM (zqi (zqq T) D) ro i β){I:Nums×S2->Prop}(hI:∀g g' s,I (g,s)->I (g',s))(hO:∀g g' s,Z.Oth (g,s) (g',s))(hl:∀c,c<T.N->T.len c=3){sv:Value}(hs:StepY (Z.sys I) 48 #[sv]):zq3y (Z.sys I) sv where
 base:=⟨hl,zq7p Z hI hO,hs⟩
 maker hc _ _ _ _ h3 h5:=zqcp Z ⟨hl,zq7p Z hI hO,hs⟩ hc h3 h5
end
theorem zqbd{T:NumT}{N ab vb pb Cp:Nat}{ps:Array Value}(hN:T.N<=64)(hl:∀c,c<T.N->T.len c=3)(ro:Nat->Option Obj)(hv:ro vb=some (.cells #[.slice (some ⟨pb,0,none⟩) T.N Cp] 108))(hp:ro pb=some (.cells ps 35))(hps:∀c,c<T.N->ps[c]?=some (.pointer (some ⟨T.ob c,0,none⟩)))
 (pr:Nat->Proc (Nums×(Nat->List Ans)) Unit) (st:Nat) (cr:Frame) (rest:List Frame) (EN:List PanicEntry->Prop) (i:Nat) (o:List Ans) (op:OpX):
 SpecR (zq2v zq15 rowsM (zqi (zqq T) (zqs tT ab N)) ownA ro pr 130 (.pointer (some ⟨st,0,none⟩)) cr rest NEnd EN i o) 63 (#[]++#[.iface 141 (.pointer (some ⟨st,0,none⟩)),.int .i64 i,op.val]++#[.pointer (some ⟨vb,0,none⟩)]) (doerP T.N op) (AnsV 2):=
 zqbc _ (I:=λs=>ownA i s=o) (zq7w _ (λg g' s h=>h) (λg g' s j _=>rfl) hl (zqhc _ (thr_step zq15 rowsM o))) hv hp hps hN (i:Int) op
section
variable {S2:Type}
theorem tickN_deep{k:Nat}:(Proc.tick:Proc (Nums×S2) Unit).Deep k:=(Proc.Deep.ret _).then
theorem zq23{α:Type}{k:Nat}(f:Nums->Nums×α):(onN f:Proc (Nums×S2) α).Deep k:=Proc.Deep.act _
theorem zq55(k c:Nat):(getP c:Proc (Nums×S2) (Int×Bool)).Deep k:=by
 unfold getP;refine(tickN_deep.bind λ_=>zq23 _).bind λx=>?_;split
 . exact(tickN_deep.bind λ_=>zq23 _).bind λ_=>Proc.Deep.ret _
 . exact Proc.Deep.ret _
theorem zq6z(k c:Nat)(v:Int):(finP c v:Proc (Nums×S2) Unit).Deep k:=(tickN_deep.bind λ_=>zq23 _).bind λ_=>tickN_deep.bind λ_=>zq23 _
theorem zqej(k c:Nat)(v:Int):(setP c v:Proc (Nums×S2) (Int×Bool)).Deep k:=by
 unfold setP;refine(tickN_deep.bind λ_=>zq23 _).bind λx=>?_;split
 . exact(zq6z _ _ _).bind λ_=>Proc.Deep.ret _
 . exact(zq55 _ _).bind λ_=>Proc.Deep.ret _
theorem zq5e(k c:Nat){mk:Proc (Nums×S2) (Int×Bool)}(hm:mk.Deep k):∀n,(makeL c mk n:Proc (Nums×S2) (Int×Int)).Deep k
 |0=>Proc.Deep.ret _
 |n+1=>by
  unfold makeL;refine(zq55 _ _).bind λx=>?_;split
  . exact Proc.Deep.ret _
  . refine(tickN_deep.bind λ_=>zq23 _).bind λb=>?_;split
    . refine(tickN_deep.bind λ_=>zq23 _).bind λ_=>hm.bind λv=>?_;split
      . exact(zq6z _ _ _).bind λ_=>Proc.Deep.ret _
      . exact(tickN_deep.bind λ_=>zq23 _).bind λ_=>Proc.Deep.ret _
    . exact zq5e k c hm n
theorem zqdb(k c:Nat)(op:OpX):(onceP c op:Proc (Nums×S2) Ans).Deep k:=by
 unfold onceP
 repeat' split
 . exact(zq55 _ _).bind λ_=>Proc.Deep.ret _
 . exact(zqej _ _ _).bind λ_=>Proc.Deep.ret _
 . exact(zq5e _ _ (tickN_deep.bind λ_=>zq23 _) _).bind λ_=>Proc.Deep.ret _
 . exact(zq5e _ _ (Proc.Deep.ret _) _).bind λ_=>Proc.Deep.ret _
 . exact Proc.Deep.ret _
theorem zqba(k N:Nat)(op:OpX):(doerP N op:Proc (Nums×S2) Ans).Deep k:=by
 unfold doerP;split
 . exact Proc.Deep.ret _
 . exact zqdb _ _ _
end
theorem zq5j(w:World):Calls Try.prog 13 #[] w λe w'=>e=.returned (.pointer (some ⟨w.heap.size,0,none⟩))/\w'=w.alloc (.cells #[.int .i64 0,.int .i64 0,.int .i64 0] 43):=by
 go_enter Try.func13,Try.ntmps13
 go_wp2;go_ret;exact⟨rfl,rfl⟩
theorem zqdj{w:World}{b:Nat}{s v c:Int}(h0:w.cell? ⟨b,0,none⟩=some (.int .i64 s))(h1:w.cell? ⟨b,1,none⟩=some (.int .i64 v))(h2:w.cell? ⟨b,2,none⟩=some (.int .i64 c)):
 Calls Try.prog 15 #[.pointer (some ⟨b,0,none⟩)] w λe w'=>e=.returned (.tuple #[.int .i64 s,.int .i64 v,.int .i64 c])/\∃n,w'=w.drewN n:=by
 have key:∀(j:Nat)(x:Int),w.cell? ⟨b,j,none⟩=some (.int .i64 x)->∀W:World,(∀a,W.cell? a=w.cell? a)->Calls Try.prog 47 #[.pointer (some ⟨b,j,none⟩)] W λe w'=>e=.returned (.int .i64 x)/\∃n,w'=W.drewN n:=λj x h W hW=>Calls.mono (zq5c _ x W ((hW _).trans h)) (by rintro e w' ⟨rfl,rfl⟩;exact⟨rfl,0,rfl⟩);have L0:=Lib.hid (key 0 s h0);have L1:=Lib.hid (key 1 v h1);have L2:=Lib.hid (key 2 c h2);clear key h0 h1 h2
 go_enter Try.func15,Try.ntmps15
 go_wp2_with (fail)
 go_quiet (first|(go_at_call 47;exact Calls.quiet_of (L0.out _ (λa=>rfl)))|(go_at_call 47;exact Calls.quiet_of (L1.out _ (λa=>rfl)))|(go_at_call 47;exact Calls.quiet_of (L2.out _ (λa=>rfl))))
 go_wp2;refine bodyPost_ret (v:=.tuple #[.int .i64 s,.int .i64 v,.int .i64 c]) ?_ rfl ⟨rfl,_,rfl⟩;simp only[results,Try.f15];simp[go_sem]
section
variable {Ml S α:Type} {C:Core Ml S} {ro:Nat->Option Obj} {i:Nat}
theorem oskip{main:Bool}{Kc:Addr->Option Value}{J:Goroutine->World->Prop}(hJ:JS Try.prog main Kc (λ(_:Unit)=>J))(hC:CalmJ Try.prog main (λ(_:Unit)=>J))(m₀:BM Ml)(w₀:World)(T:S×Option α×Nat)(K:Unit->Proc S α)(s:(zq25 zq15 hJ hC C ro i 0 m₀ w₀ T).γ)(B:Nat->Option Obj)(w:World)(h:(zq25 zq15 hJ hC C ro i 0 m₀ w₀ T).AtB B s w (Proc.tick.bind K)):(zq25 zq15 hJ hC C ro i 0 m₀ w₀ T).AtB B s w (K ()):=by
 obtain⟨m,h1,h2,h3⟩:=h;exact⟨m,h1,LoneAt.skip h2,h3⟩
theorem zqdl{main:Bool}{Kc:Addr->Option Value}{J:Goroutine->World->Prop}(hJ:JS Try.prog main Kc (λ(_:Unit)=>J))(hC:CalmJ Try.prog main (λ(_:Unit)=>J))(m₀:BM Ml)(w₀:World)(T:S×Option α×Nat):
 StepY (zq25 zq15 hJ hC C ro i 0 m₀ w₀ T) 48 #[.nilIface]:=by
 obtain⟨Y,hY⟩:∃Y,zq25 zq15 hJ hC C ro i 0 m₀ w₀ T=Y:=⟨_,rfl⟩;have hskip:∀(K:Unit->Proc S α)(s:Y.γ)(B:Nat->Option Obj)(w:World),Y.AtB B s w (Proc.tick.bind K)->Y.AtB B s w (K ()):=by
  subst hY;rintro K s B w ⟨m,h1,h2,h3⟩;exact⟨m,h1,LoneAt.skip h2,h3⟩
 rw[hY];clear hY;intro K s m w hA;refine BodyY.calls ⟨_,_,Try.func48,rfl,?_⟩;simp only[zqg,Try.ntmps48,List.size_toArray,List.length_cons,List.length_nil,Nat.reduceAdd,Nat.reduceSub,Array.replicate_succ,Array.replicate_zero,List.push_toArray,List.append_toArray,List.nil_append,List.cons_append];have hA:Y.AtB (m.box i) s w (Proc.tick.bind K):=⟨m,rfl,hA⟩;obtain⟨B,hB0⟩:∃B,m.box i=B:=⟨_,rfl⟩;rw[hB0]at hA |-;clear hB0;apply YSys.seq0 hA (by kernel_rfl)
 . intro wc hB;go_wp2;exact⟨rfl,Ext1.refl _,rfl⟩
 intro w hA;refine zqr Y.jc rfl ?_;rw[if_neg (by decide)];refine zq1i Y.jc ?_;have h:=hskip K s B w hA;exact⟨rfl,.inl ⟨_,resultsC_none rfl _,(),h.choose,rfl,h.choose_spec⟩⟩
end
def zq37(kb:Nat):Core Nat Unit where
 foot _ b:=b=kb
 Rep n w:=w.heap[kb]?=some (.cells #[.int .i64 (wrap64 n)] 46)
 st _:=()
 frame n w w' h hs:=(hs kb rfl).trans h
 lt n w b h hb:=by subst hb;exact zqt h
 pin n:=n
theorem zq7t(n:Nat)(st:Nat)(w:World):(Go.method (n+1) 44 (.pointer (some ⟨st,0,none⟩)) "Step").run Try.prog w=.ok (124,.pointer (some ⟨st,0,none⟩)) w:=by kernel_rfl
theorem zq7u(n:Nat)(st:Nat)(w:World)(es:Array Event):(Go.method (n+1) 44 (.pointer (some ⟨st,0,none⟩)) "Step").events Try.prog w es=es:=by kernel_rfl
section
variable {Ml S β:Type} {C:Core Ml S} {ro:Nat->Option Obj} {i:Nat}
theorem zqdm(Y:YSys Try.prog aM C ro i β){st:Nat}(h:StepY Y 124 #[.pointer (some ⟨st,0,none⟩)]):StepY Y 48 #[.iface 44 (.pointer (some ⟨st,0,none⟩))]:=by
 intro K s m w hA;refine BodyY.calls ⟨_,_,Try.func48,rfl,?_⟩;simp only[zqg,Try.ntmps48,List.size_toArray,List.length_cons,List.length_nil,Nat.reduceAdd,Nat.reduceSub,Array.replicate_succ,Array.replicate_zero,List.push_toArray,List.append_toArray,List.nil_append,List.cons_append];have hA:Y.AtB (m.box i) s w (Proc.tick.bind K):=⟨m,rfl,hA⟩;obtain⟨B,hB0⟩:∃B,m.box i=B:=⟨_,rfl⟩;rw[hB0]at hA |-;clear hB0;apply YSys.seq0 hA (by kernel_rfl)
 . intro wc hB;go_wp2;exact⟨rfl,Ext1.refl _,rfl⟩
 intro w hA;refine zqr Y.jc rfl ?_;rw[if_pos rfl];refine zqv Y.jc ?_;apply YSys.callS 0 1 0 hA h rfl rfl rfl (by rfl) rfl rfl rfl
 . intro wc hB X hX;have HX:=Lib.hid hX;clear hX;go_wp2;exact HX.out _ (Ext1.refl _)
 . intro w;simp[go_sem,execOp,Act.eval,resolve,Deferred.ofValue,invoke,callFunc,zq7t,zq7u,Try.func124,Try.f124]
 . intro w;simp[go_sem,execOp,Act.eval,resolve,Deferred.ofValue,invoke,callFunc,zq7t,zq7u,Try.func124,Try.f124]
 . intro s' ch w' h;exact⟨rfl,h⟩
 intro s w hA;refine zq18 Y.jc ?_;exact⟨rfl,.inl ⟨_,resultsC_none rfl _,(),hA.choose,rfl,hA.choose_spec⟩⟩
end
theorem zqdt(n:Nat):IntKind.i64.wrap (wrap64 (n:Int)+1)=wrap64 ((n+1:Nat):Int):=by
 rw[IntKind.wrap_i64];simp only[wrap64]<;>omega
theorem zqd7{kb n:Nat}(w:World)(h:w.heap[kb]?=some (.cells #[.int .i64 (wrap64 n)] 46)):
 Calls Try.prog 124 #[.pointer (some ⟨kb,0,none⟩)] w λe w'=>e=.returned (.tuple #[])/\w'.heap[kb]?=some (.cells #[.int .i64 (wrap64 ((n+1:Nat):Int))] 46)/\w'.heap.size=w.heap.size/\∀b,b≠kb->w'.heap[b]?=w.heap[b]?:=by
 have c0:w.cell? ⟨kb,0,none⟩=some (.int .i64 (wrap64 n)):=(zq0 (off:=0) h).trans rfl;have z0:w.frozen? ⟨kb,0,none⟩=false:=zqf h;obtain⟨q,hq⟩:∃q,wrap64 ((n+1:Nat):Int)=q:=⟨_,rfl⟩;have hw:=(zqdt n).trans hq;obtain⟨p,hp⟩:∃p,wrap64 (n:Int)=p:=⟨_,rfl⟩;rw[hp]at c0 hw h;rw[hq];have HB:=Lib.hid h;clear h hq hp
 go_enter Try.func124,Try.ntmps124
 go_wp2
 go_end0
 refine⟨rfl,?_,zq11 _ _ _,λb hb=>zqn _ _ _ _ hb⟩;rw[zqu _ _ _ _ HB.out];rfl
theorem zq7q{T0:NumT}{kb:Nat}{ro:Nat->Option Obj}{i:Nat}{α:Type}{main:Bool}{Kc:Addr->Option Value}{J:Goroutine->World->Prop}(hJ:JS Try.prog main Kc (λ(_:Unit)=>J))(hC:CalmJ Try.prog main (λ(_:Unit)=>J))(m₀:BM (Nums×Nat))(w₀:World)(T:(Nums×Unit)×Option α×Nat):
 StepY (zq25 zq15 hJ hC (zqi (zqq T0) (zq37 kb)) ro i 1 m₀ w₀ T) 124 #[.pointer (some ⟨kb,0,none⟩)]:=by
 intro K s m w hA;obtain⟨hL,_⟩:=hA;obtain⟨⟨lc,n⟩,bx⟩:=m;have hrep:=hL.rep;have hk:w.heap[kb]?=some (.cells #[.int .i64 (wrap64 n)] 46):=hrep.core.2.1;intro cl cs h1 _;refine zq6h (J:=λ(_:Unit)=>J) (s:=()) hJ hC zq15 Try.func124 rfl (by kernel_rfl) (R:=λv w'=>v=.tuple #[]/\w'.heap[kb]?=some (.cells #[.int .i64 (wrap64 ((n+1:Nat):Int))] 46)/\w'.heap.size=w.heap.size/\∀b,b≠kb->w'.heap[b]?=w.heap[b]?) (λv w' τ d h=>h) (λτ d=>?_) ?_
 . refine Calls.mono (zqd7 (re w τ d) hk) ?_;rintro e w' ⟨rfl,h⟩;exact⟨_,rfl,rfl,h⟩
 . rintro v w' ⟨rfl,g1,g2,g3⟩;refine h1 s _ w' ⟨(),⟨(lc,n+1),bx⟩,rfl,rfl,?_,trivial⟩;refine LoneAt.count hL rfl rfl (λb=>Iff.rfl) ?_ (Nat.le_of_eq g2.symm) λb _ hf=>g3 b λe=>hf (.inr e);have hnk:∀b,(zqq T0).foot lc b->b≠kb:=λb hb e=>hrep.core.2.2 b hb e;refine⟨⟨(zqq T0).frame _ _ _ hrep.core.1 λb hb=>g3 b (hnk b hb),g1,hrep.core.2.2⟩,λj b o hb=>?_,λb o hb=>?_,hrep.apart,hrep.own,hrep.rol,hrep.rob⟩
   . exact(g3 b λe=>hrep.apart j b (by rw[hb];simp) (.inr e)).trans (hrep.box j b o hb)
   . exact(g3 b λe=>hrep.rol b (by rw[hb];simp) (.inr e)).trans (hrep.rod b o hb)
theorem zqdk{T0:NumT}{kb:Nat}{ro:Nat->Option Obj}{i:Nat}{α:Type}{main:Bool}{Kc:Addr->Option Value}{J:Goroutine->World->Prop}(hJ:JS Try.prog main Kc (λ(_:Unit)=>J))(hC:CalmJ Try.prog main (λ(_:Unit)=>J))(m₀:BM (Nums×Nat))(w₀:World)(T:(Nums×Unit)×Option α×Nat):
 StepY (zq25 zq15 hJ hC (zqi (zqq T0) (zq37 kb)) ro i 1 m₀ w₀ T) 48 #[.iface 44 (.pointer (some ⟨kb,0,none⟩))]:=
 zqdm _ (zq7q hJ hC m₀ w₀ T)
def OStp{Ml S β:Type}{C:Core Ml S}{ro:Nat->Option Obj}{i:Nat}(Y:YSys Try.prog aM C ro i β)(kb:Nat):Bool->Prop
 |true=>StepY Y 124 #[.pointer (some ⟨kb,0,none⟩)]
 |false=>∀(K:Unit->Proc S β)(s:Y.γ)(B:Nat->Option Obj)(w:World),Y.AtB B s w (Proc.tick.bind K)->Y.AtB B s w (K ())
def oneT(ob:Nat):NumT:=⟨1,λ_=>ob,λ_=>3,λ_=>43⟩
structure OAft(ob kb:Nat)(g:Nums)(n:Nat)(w w':World):Prop where
 rep:NumRep (oneT ob) g w'
 cnt:w'.heap[kb]?=some (.cells #[.int .i64 (wrap64 (n:Int))] 46)
 size:w.heap.size<=w'.heap.size
 old:∀b,b<w.heap.size->b≠ob->b≠kb->w'.heap[b]?=w.heap[b]?
def svOf(kb:Nat):Bool->Value
 |true=>.iface 44 (.pointer (some ⟨kb,0,none⟩))
 |false=>.nilIface
def cfOf:Bool->Nat
 |true=>1
 |false=>0
section
variable {M2 S2 β:Type} {D:Core M2 S2} {ro:Nat->Option Obj} {i:Nat} {T:NumT}
theorem zqcv(Y:YSys Try.prog aM (zqi (zqq T) D) ro i β){B:Nat->Option Obj}{vb:Nat}{v:Int}(hv:B vb=some (.cells #[.int .i64 v] 2))(sv:Value):SpecAt Y B 24 (#[]++#[sv]++#[.pointer (some ⟨vb,0,none⟩)]) (Proc.ret (v,true)) pairV:=by
 refine SpecAt.of Try.func24 rfl ?_;intro K s w hK hA;simp only[zqg,Try.ntmps24,List.size_toArray,List.length_cons,List.length_nil,Nat.reduceAdd,Nat.reduceSub,Array.replicate_succ,Array.replicate_zero,List.push_toArray,List.append_toArray,List.nil_append,List.cons_append];apply YSys.seq0 hA (by kernel_rfl)
 . intro wc hB;go_wp2;exact⟨rfl,Ext1.refl _,rfl⟩
 intro w hA;apply YSys.seq0 hA (by kernel_rfl)
 . intro wc hB;have c0:wc.cell? ⟨vb,0,none⟩=some (.int .i64 v):=(zq0 (off:=0) (hB.own.box _ _ hv)).trans rfl;go_wp2;exact⟨rfl,Ext1.refl _,rfl⟩
 intro w hA;refine zqz Y.jc ?_;exact⟨rfl,.inl ⟨_,resultsC_tmp2 rfl _,(v,true),rfl,hA⟩⟩
end
theorem once_K{main:Bool}{Kc:Addr->Option Value}{J:Goroutine->World->Prop}(hJ:JS Try.prog main Kc (λ(_:Unit)=>J))(hC:CalmJ Try.prog main (λ(_:Unit)=>J)){ob kb c:Nat}{g:Nums}{w:World}(ct:Bool){α:Type}{f:FuncId}{args:Array Value}{p:Proc (Nums×Unit) α}{val:α->Value}{B:Nat->Option Obj}{a:α}(hrep:NumRep (oneT ob) g w)(hk:w.heap[kb]?=some (.cells #[.int .i64 (wrap64 (c:Int))] 46))(hne:kb≠ob)
 (hB:∀b o,B b=some o->w.heap[b]?=some o/\b≠ob/\b≠kb)
 (hspec:∀(Z:Alone Try.prog aM (zqi (zqq (oneT ob)) (zq37 kb)) (λ_=>none) 0 α)(I:Nums×Unit->Prop),zq3y (Z.sys I) (svOf kb ct)->OStp (Z.sys I) kb ct->SpecAt (Z.sys I) B f args p val)
 (hT:(p.run (g,())).2.1=some a) {cl:Frame} {cs:List Frame}
 (hq:∀w',OAft ob kb (p.run (g,())).1.1 (c+cfOf ct*(p.run (g,())).2.2) w w'->J (G (cl.finish (val a)) cs) w'):J (G (Frame.enter Try.prog f args .normal) (cl::cs)) w:=by
 have hno:∀j,j≠0->(λj:Nat=>if j=0 then B else λ_=>none) j=λ_=>none:=λj hj=>if_neg hj;have hbox:∀j b o,(λj:Nat=>if j=0 then B else λ_=>none) j b=some o->B b=some o:=λj b o h=>by
  by_cases e:j=0
  . simpa[e]using h
  . rw[hno j e]at h;cases h
 have hbn:∀j b,(λj:Nat=>if j=0 then B else λ_=>none) j b≠none->∃o,B b=some o:=λj b h=>by
  cases ho:(λj:Nat=>if j=0 then B else λ_=>none) j b with
  |none=>exact absurd ho h
  |some o=>exact⟨o,hbox j b o ho⟩
 have hfoot:∀b,(zqi (zqq (oneT ob)) (zq37 kb)).foot (g,c) b->b=ob\/b=kb:=λb hb=>hb.elim (λ⟨_,_,e⟩=>.inl e) (λe=>.inr e);refine zqeg (J:=J) (C:=zqi (zqq (oneT ob)) (zq37 kb)) (ro:=λ_=>none) (i:=0) (p:=p) (m₀:=⟨(g,c),λj=>if j=0 then B else λ_=>none⟩) (val:=val) zq15 hJ hC ⟨⟨hrep,hk,λb hb he=>?_⟩,λi b o h=>(hB b o (hbox i b o h)).1,λb o h=>(by cases h),λi b h hf=>?_,λi j b hij h=>?_,λb h=>absurd rfl h,λi b h=>absurd rfl h⟩ ⟨a,hT⟩ (cfOf ct) ?_ ?_
 . obtain⟨_,_,e⟩:=hb;exact hne (he.symm.trans e)
 . obtain⟨o,ho⟩:=hbn i b h;obtain⟨_,h1,h2⟩:=hB b o ho;exact(hfoot b hf).elim h1 h2
 . by_cases e:i=0
   . exact congrFun (hno j λx=>hij (e.trans x.symm)) b
   . exact absurd (congrFun (hno i e) b) h
 . refine hspec _ _ (zq7w _ (λ_ _ _ _=>trivial) (λ_ _ _=>trivial) (λ_ _=>rfl) ?_) ?_
   . cases ct with
     |true=>exact zqdk _ _ _ _ _
     |false=>exact zqdl _ _ _ _ _
   . cases ct with
     |true=>exact zq7q _ _ _ _ _
     |false=>exact oskip _ _ _ _ _
 . intro a' m' w' hbx hL;obtain⟨n',g1,_,g3⟩:=hL.run;have hst:(zqi (zqq (oneT ob)) (zq37 kb)).st (g,c)=(g,()):=rfl;rw[hst]at g1 g3;simp only[Tree.run,Prod.mk.injEq]at g1;obtain⟨g1,g2,rfl⟩:=g1;have e1:a'=a:=Option.some.inj (g2.trans hT);subst e1;have e2:m'.l.1=(p.run (g,())).1.1:=congrArg Prod.fst g1;have e3:m'.l.2=c+cfOf ct*(p.run (g,())).2.2:=by
    have:m'.l.2+cfOf ct*0=c+cfOf ct*(p.run (g,())).2.2:=g3;omega
   refine hq w' ⟨e2▸hL.rep.core.1,e3▸hL.rep.core.2.1,hL.size,λb hb h6 h7=>?_⟩
   by_cases hBb:∃o,B b=some o
   . obtain⟨o,ho⟩:=hBb;rw[hL.rep.box 0 b o (by rw[hbx];simpa using ho),(hB b o ho).1]
   . refine hL.old b hb ?_;rintro(h9|⟨i,h9⟩|h9)
     . exact(hfoot b h9).elim h6 h7
     . exact hBb (hbn i b h9)
     . exact absurd rfl h9
theorem zqct(v:Int)(n:Nat):((makeL (S2:=Unit) 0 (Proc.ret (v,true)) (n+1)).run ((λ_ _=>0),())).2.1=some (v,0):=by rfl
theorem nmake_st(v:Int)(n:Nat):((makeL (S2:=Unit) 0 (Proc.ret (v,true)) (n+1)).run ((λ_ _=>0),())).1.1 0 0=2:=by rfl
theorem zqcu(v:Int)(n:Nat):((makeL (S2:=Unit) 0 (Proc.ret (v,true)) (n+1)).run ((λ_ _=>0),())).1.1 0 1=v:=by rfl
theorem nget_run{g:Nums}{v:Int}(h0:g 0 0=2)(h1:g 0 1=v):((getP (S2:=Unit) 0).run (g,())).2.1=some (v,true):=by
 have e:(getP (S2:=Unit) 0).run (g,())=((if g 0 0=2 then(Proc.tick.bind λ_=>onN (getN 0 1)).bind λv=>Proc.ret (v,true)else Proc.ret (0,false):Proc (Nums×Unit) (Int×Bool)).run (g,()) |> λx=>(x.1,x.2.1,x.2.2+1)):=rfl;rw[e,if_pos h0,<-h1];rfl
structure PlayedR{S1:Type}(N:Nat)(w:World)(r:TSt (S1×(Nat->List Ans)))(st:List Int)(ab:Nat)(ov sv:Value)(am:AnsM)(w':World):Prop where
 size:w.heap.size<=w'.heap.size
 old:∀b,b<w.heap.size->w'.heap[b]?=w.heap[b]?
 ans:zq2z tT ab N am w'
 ast:am.st=r.s.2
 abl:w.heap.size<=ab
 ansn:∀i b,i<N->am.X i b≠none->w.heap.size<=b
 orow:w'.ownsRow w.heap.size 3 1 ov r.ord.length (r.ord.map λ(i:Nat)=>.int .i64 i)
 srow:w'.ownsRow w.heap.size 2 1 sv st.length (st.map (Value.int .i64))
 rowf:∀x,ov.ownBlock=some x->x≠ab/\∀i,i<N->am.X i x=none
 srowf:∀x,sv.ownBlock=some x->x≠ab/\(∀i,i<N->am.X i x=none)/\ov.ownBlock≠some x
theorem PlayedR.re {S1:Type}{N:Nat}{w w':World}{r:TSt (S1×(Nat->List Ans))}{st:List Int}{ab:Nat}{ov sv:Value}{am:AnsM}(h:PlayedR N w r st ab ov sv am w')(τ:Nat->Question->Nat)(d:Nat):PlayedR N w r st ab ov sv am (Go.Car.re w' τ d):=
 ⟨h.size,h.old,⟨h.ans.hd,h.ans.row,h.ans.blk,h.ans.nab,h.ans.sep⟩,h.ast,h.abl,h.ansn,h.orow,h.srow,h.rowf,h.srowf⟩
theorem zqdz{M1 S1:Type}{C:Core M1 S1}{N H:Nat}{l₀ l':M1}{w wb w2 w':World}{r:TSt (S1×(Nat->List Ans))}{ab:Nat}{v sv:Value}{am:AnsM}{st:List Int}(h:OpsRes C N l₀ wb r ab v l' am w2)(hw:w.heap.size=H)(hwb:H+1<=wb.heap.size)(hob:∀b,b<H->wb.heap[b]?=w.heap[b]?)
 (hl:∀b,C.foot l₀ b->H+1<=b) (hsz:w2.heap.size<=w'.heap.size) (hold:∀x,x<w2.heap.size->x≠H->w'.heap[x]?=w2.heap[x]?) (hs:w'.ownsRow w2.heap.size 2 1 sv st.length (st.map (Value.int .i64))):PlayedR N w r st ab v sv am w':=by
 have h1:=h.size;have h2:=h.abl;have han:∀i b,i<N->am.X i b≠none->H+1<=b:=λi b hi hb=>(h.ansn i b hi hb).elim (hl b) (λx=>by omega);refine⟨by omega,λb hb=>(hold b (by omega) (by omega)).trans ((h.old b (by omega) λx=>by have:=hl b x;omega).trans (hob b (by omega))),⟨(hold ab (zqt h.ans.hd) (by omega)).trans h.ans.hd,h.ans.row,λi b o hi hb=>(hold b (zqt (h.ans.blk i b o hi hb)) (by have:=han i b hi (by rw[hb];simp);omega)).trans (h.ans.blk i b o hi hb),h.ans.nab,h.ans.sep⟩,h.ast,by omega,λi b hi hb=>by have:=han i b hi hb;omega,?_,zq3l hs (by omega),λx hx=>(h.rowf x hx).2,λx hx=>?_⟩
 . refine zq3l (zq24 h.row λg hg=>hold g (own_lt h.row hg).2.2 ?_) (by omega);have:=(own_lt h.row hg).2.1;omega
 . have h3:=(own_lt hs hx).2.1;refine⟨?_,λi hi=>?_,λe=>?_⟩
   . have:=zqt h.ans.hd;omega
   . cases ho:am.X i x with
     |none=>rfl
     |some o=>have:=zqt (h.ans.blk i x o hi ho);omega
   . have:=(own_lt h.row e).2.2;omega
end Go.Proofs
namespace Go.Car
open Go Go.Conc Go.RowKit
theorem hao(w:World)(o:Obj)(b:Nat)(h:b<w.heap.size):(w.alloc o).heap[b]?=w.heap[b]?:=by first|exact heap_alloc_old w o b h|exact heap_alloc_old w o h
structure Wr(X:Nat->Prop)(w w':World):Prop where
 size:w.heap.size<=w'.heap.size
 shp:∀(b:Nat)(c:Array Value)(T:TypeId),w.heap[b]?=some (.cells c T)->∃c',w'.heap[b]?=some (.cells c' T)/\c'.size=c.size
 old:∀b,b<w.heap.size->¬X b->w'.heap[b]?=w.heap[b]?
section
variable {X:Nat->Prop} {w w' w'':World}
theorem Wr.refl (X:Nat->Prop)(w:World):Wr X w w:=⟨Nat.le_refl _,λb c T h=>⟨c,h,rfl⟩,λ_ _ _=>rfl⟩
end
section
variable {P:Program}
theorem app_wr(w:World)(t ty e:TypeId)(i:TypeInfo)(z:Value)(size bytes:Nat)(ht:P.underlying t=some (.slice e))(hi:P.info? e=some i)(hz:i.zero=some z)(hsize:i.size=size)(hby:i.bytes=bytes)(hzs:z.cells.size=size)(hsz:0<size)
 {v:Value} {n:Nat} {xs:List Value} {B:Nat} (hown:w.ownsRow B e size v n xs) (hB:B<=w.heap.size) (pa:Option Addr) (m c:Nat) (news:List Value) (hl:news.length=m*size) (hnews:0<m->∃a,pa=some a/\∀j u,news[j]?=some u->w.cell? (a.add j)=some u) (h1:∀u∈news,u.oneCell'=true)
 (h63:n+m<=maxLen) (hbytes:(n+m)*bytes<=140737488355328):
 ∃v' w',(Builtin.append_ #[t,t] ty #[v,.slice pa m c]).run P w=.ok v' w'/\w'.ownsRow B e size v' (n+m) (xs++news)/\Wr (λb=>v.ownBlock=some b) w w'/\(v'.ownBlock=v.ownBlock\/v'.ownBlock=some w.heap.size)/\
  (∀g o,v.ownBlock=some g->o<n*size->w'.cell? ⟨g,o,none⟩=w.cell? ⟨g,o,none⟩)/\(m=0->w'=w/\v'=v):=by
 subst hsize;subst hby
 have hsmall:n+m<=9223372036854775807:=by simp only[maxLen]at h63;omega
 by_cases hm:m=0
 . subst hm;have hn:news=[]:=List.eq_nil_of_length_eq_zero (by simpa using hl);subst hn;refine⟨v,w,?_,by simpa using hown,Wr.refl _ _,.inl rfl,λ_ _ _ _=>rfl,λ_=>⟨rfl,rfl⟩⟩;rcases hown.2 with⟨rfl,rfl⟩|⟨g,cap,cur,rfl,hbg,hg,hnc,hcm,hcs,htake⟩
   . cases pa<;>simp[Builtin.append_,run_underlying ht,sizeOf,typeInfo,hi,Builtin.lenOf,Builtin.firstCells,loadCells,loadCellsFrom,storeCells]
   . cases pa<;>simp[Builtin.append_,run_underlying ht,sizeOf,typeInfo,hi,Builtin.lenOf,Builtin.firstCells,loadCells,loadCellsFrom,storeCells,hnc]
 . obtain⟨a,rfl,hnw⟩:=hnews (Nat.pos_of_ne_zero hm);clear hnews;rcases hown.2 with⟨rfl,rfl⟩|⟨g,cap,cur,rfl,hbg,hg,hnc,hcm,hcs,htake⟩
   . obtain⟨g,cap,w',hr,h2,h3,h4,_⟩:=run_append_lies (P:=P) w t ty B e i z i.size i.bytes ht hi hz rfl rfl hzs hsz _ 0 xs hown a m c news hl hnw h1 (Nat.pos_of_ne_zero hm) h63 hbytes hB _ rfl;have same:∀b,b<w.heap.size->w'.heap[b]?=w.heap[b]?:=λb hb=>h3.block b hb (by simp[Value.ownBlock]);refine⟨_,_,hr,h2,⟨h3.size,λb c T hb=>⟨c,(same b (zqe hb)).trans hb,rfl⟩,λb hb _=>same b hb⟩,?_,λg o h=>(by simp[Value.ownBlock]at h),λh=>absurd h hm⟩;rcases h4 with h|h
     . simp[Value.ownBlock]at h
     . exact .inr (by simp[Value.ownBlock,h])
   . have hlen:(xs++news).length=(n+m)*i.size:=by rw[List.length_append,hown.1,hl,Nat.add_mul]
     by_cases hroom:n+m<=cap
     . have hfit:n*i.size+news.length<=cur.size:=by rw[hl,hcs,<-Nat.add_mul];exact Nat.mul_le_mul_right _ hroom
       have hr:=run_append_room (P:=P) w t ty e i ht hi g n cap cur hg a m c news hl hnw h1 hroom hfit;have hsz2:(cur.toList.take (n*i.size)++news++cur.toList.drop (n*i.size+news.length)).toArray.size=cur.size:=by
        simp only[List.size_toArray,List.length_append,List.length_take,List.length_drop,Array.length_toList];omega
       have hh:=setRow_heap w g cur (cur.toList.take (n*i.size)++news++cur.toList.drop (n*i.size+news.length)).toArray e (0,0) hg;refine⟨_,_,hr,⟨hlen,.inr ⟨g,cap,_,rfl,hbg,hh,hroom,hcm,by rw[hsz2,hcs],?_⟩⟩,⟨by simp,λb c T hb=>?_,λb _ hx=>setRow_other w g b _ (λe=>hx (by simp[Value.ownBlock,e]))⟩,.inl rfl,λg2 o h ho=>?_,λh=>absurd h hm⟩
       . rw[htake,<-hlen];exact List.take_left
       . by_cases e2:b=g
         . subst e2;have:=hg.symm.trans hb;simp only[al_oi,Obj.cells.injEq]at this;obtain⟨rfl,rfl,-⟩:=this;exact⟨_,hh,hsz2⟩
         . exact⟨c,(setRow_other w g b _ e2).trans hb,rfl⟩
       . simp only[Value.ownBlock,al_oi]at h;subst h;rw[zq0 hg];rw[zq0 hh,al_gl,List.append_assoc,List.getElem?_append_left (by rw[List.length_take,Array.length_toList];omega),List.getElem?_take,if_pos ho,Array.getElem?_toList]
     . have holds:∀j u,xs[j]?=some u->w.cell? ((⟨g,0,none⟩:Addr).add j)=some u:=hown.cells (g:=g) rfl;have hr:=run_append_grow (P:=P) w t ty e i z ht hi hz ⟨g,0,none⟩ n cap xs hown.1 holds a m c news hl hnw (by omega) (by omega) (growslice_fits (by omega) hbytes);have hge:=grownCap_ge w (n+m) cap e;have hcm':grownCap w (n+m) cap e<=maxLen:=grownCap_le_maxLen w (n+m) cap e h63;refine⟨_,_,hr,⟨hlen,.inr ⟨w.heap.size,_,_,rfl,hB,heap_alloc_new w.drew _,hge,hcm',?_,?_⟩⟩,⟨by simp,λb c T hb=>⟨c,(hao w.drew _ b (zqe hb)).trans hb,rfl⟩,λb hb _=>hao w.drew _ b hb⟩,.inr rfl,λg2 o h _=>?_,λh=>absurd h hm⟩
       . simp only[Array.size_append,List.size_toArray,size_zeroCells,hzs,hown.1,hl,<-Nat.add_mul];congr 1;omega
       . simp only[Array.toList_append,List.append_assoc];rw[<-List.append_assoc,<-hlen];exact List.take_left
       . simp only[Value.ownBlock,al_oi]at h;subst h;exact zq14 (hao w.drew _ g (zqe hg))
theorem zqjs{ops:Array Oper}{rest:List Oper}{o:Oper}{a:Act}{Q:Exit->Act->World->Prop}{w w':World}{v:Value}(hgd:o.guard=none)(s x:Operand)(t:TypeId)
 (ho:o.op=.call {callee:=.builtin .append,args:=#[s,x],argTypes:=#[t,t]}) (hr:(Builtin.append_ #[t,t] o.type #[a.eval s,a.eval x]).run P w=.ok v w') (h:wpList P ops Q rest (a.put o.dst v) w'):wpList P ops Q (o::rest) a w:=
 wpList_plain hgd λ_ hK=>by
  unfold Oper.wp execOp;simp only[ho,resolve,invoke,builtin,Sem.run_bind,Sem.run_pure,Result.andThen_ok,List.map_toArray,List.map_cons,List.map_nil,hr];exact hK _ _ h
end
end Go.Car
namespace Go.Proofs
open Go Go.Conc Go.RowKit Go.Car
structure NumsI(w0:World)(l:List Int)(v:Value)(w:World):Prop where
 be:Beyond w0 w
 row:w.ownsRow w0.heap.size 2 1 v l.length (l.map (Value.int .i64))
theorem zqd6{w0 w:World}{l:List Int}{v:Value}(h:NumsI w0 l v w)(hl:l.length<=1048576)(a b c:Int):
 ∃p C w2,(Builtin.append_ #[27,27] 27 #[v,.slice (some ⟨w.heap.size,0,none⟩) 3 3]).run Try.prog (w.alloc (.cells #[.int .i64 a,.int .i64 b,.int .i64 c] 2))=.ok (.slice p (l.length+3) C) w2/\NumsI w0 (l++[a,b,c]) (.slice p (l.length+3) C) w2:=by
 obtain⟨ti,hti,hz,hz1,hz2⟩:∃ti,Try.prog.info? 2=some ti/\ti.zero=some (.int .i64 0)/\ti.size=1/\ti.bytes=8:=⟨_,rfl,rfl,rfl,rfl⟩;have hr:(w.alloc (.cells #[.int .i64 a,.int .i64 b,.int .i64 c] 2)).ownsRow w0.heap.size 2 1 v l.length (l.map (Value.int .i64)):=zq3r h.row _;have hs:=zqh w (.cells #[.int .i64 a,.int .i64 b,.int .i64 c] 2);have hb0:=h.be.1;obtain⟨v',w',hrun,ho,hw,hat,hkeep,_⟩:=app_wr (P:=Try.prog) (w.alloc (.cells #[.int .i64 a,.int .i64 b,.int .i64 c] 2)) 27 27 2 ti (.int .i64 0) 1 8 (by kernel_rfl) hti hz hz1 hz2 rfl (by decide) hr (by omega) (some ⟨w.heap.size,0,none⟩) 3 3 [.int .i64 a,.int .i64 b,.int .i64 c] rfl (λ_=>⟨_,rfl,λj u hj=>news_new (T:=2) rfl j u (by simpa using hj)⟩) (by simp[Value.oneCell']) (by simp only[maxLen];omega) (by omega);obtain⟨p,C,rfl,-,-⟩:=zq4k ho;refine⟨p,C,w',hrun,⟨by have:=hw.size;omega,λx hx=>?_⟩,by rw[List.length_append,List.map_append];exact ho⟩;exact(hw.old x (by omega) λhv=>by have:=(own_lt h.row hv).2.1;omega).trans (((Beyond.alloc w _).2 x (by omega)).trans (h.be.2 x hx))
def numL(g:Nums)(n:Nat):List Int:=(List.range n).flatMap λc=>[g c 0,g c 1,g c 2]
theorem zq7o(g:Nums)(n:Nat):numL g (n+1)=numL g n++[g n 0,g n 1,g n 2]:=by
 unfold numL;rw[List.range_succ,List.flatMap_append];simp
theorem zq5g(g:Nums):∀n,(numL g n).length=3*n
 |0=>rfl
 |n+1=>by rw[zq7o,List.length_append,zq5g g n];simp;omega
theorem zqem{w:World}{T:NumT}{g:Nums}(hR:NumRep T g w)(hlen:∀c,c<T.N->T.len c=3)(hN:T.N<=64){pb Cp:Nat}{ps:Array Value}(hp:w.heap[pb]?=some (.cells ps 35))(hps:∀c,c<T.N->ps[c]?=some (.pointer (some ⟨T.ob c,0,none⟩))):
 Calls Try.prog 36 #[.slice (some ⟨pb,0,none⟩) T.N Cp] w λe w'=>∃v,e=.returned v/\NumsI w (numL g T.N) v w':=by
 obtain⟨N,hNN⟩:∃N,T.N=N:=⟨_,rfl⟩;have HR:=Lib.hid (And.intro hR (And.intro hlen (And.intro hN (And.intro hp (And.intro hps hNN)))));rw[hNN];clear hR hlen hN hp hps hNN
 go_enter Try.func36,Try.ntmps36
 go_wp2_with (fail)
 go_loopg [3,11] N (λk s3 s11 wr=>∃(j:Nat)(p:Option Addr)(C:Nat),k=N - j/\j<=N/\s11=.int .i64 j/\s3=.slice p (3*j) C/\NumsI w (numL g j) (.slice p (3*j) C) wr)
 case atStart=>exact⟨0,none,0,rfl,Nat.zero_le _,rfl,rfl,Beyond.refl _,World.ownsRow_nil _ _ _ _⟩
 case round=>
  obtain⟨j,p,C,hk,hj,rfl,rfl,hI⟩:=hrel;have HI:=Lib.hid hI
  by_cases hlt:j<N
  . have hlt':(j:Int)<(N:Int):=by omega
    have hj0:(0:Int)<=j:=by omega
    have hj64:(j:Int)<64:=by have:=HR.out.2.2.1;have:=HR.out.2.2.2.2.2;omega
    have hjT:j<T.N:=by have:=HR.out.2.2.2.2.2;omega
    have cp:wr.cell? ⟨pb,j,none⟩=some (.pointer (some ⟨T.ob j,0,none⟩)):=hI.be.cell ((zq0 HR.out.2.2.2.1).trans (HR.out.2.2.2.2.1 j hjT));have hl3:=HR.out.2.1 j hjT;have HC:=Lib.hid (zqdj (hI.be.cell (HR.out.1.cell hjT (j:=0) (by omega))) (hI.be.cell (HR.out.1.cell hjT (j:=1) (by omega))) (hI.be.cell (HR.out.1.cell hjT (j:=2) (by omega))));clear hl3 hI
    go_wp2_with (fail)
    refine Calls.mono HC.out ?_;rintro e w' ⟨rfl,n,rfl⟩;have hI2:NumsI w (numL g j) (.slice p (3*j) C) (wr.drewN n):=⟨HI.out.be.trans ⟨Nat.le_refl _,λ_ _=>rfl⟩,zq24 HI.out.row λ_ _=>rfl⟩;clear cp;generalize wr.drewN n=w5 at hI2 |-;obtain⟨p2,C2,w2,r,hI3⟩:=zqd6 (w0:=w) (w:=w5) (l:=numL g j) hI2 (by rw[zq5g];have:=HR.out.2.2.1;omega) (g j 0) (g j 1) (g j 2);rw[zq5g]at r hI3;rw[<-zq7o]at hI3;have H3:=Lib.hid hI3;clear hI2 hI3
    go_wp2_with (at_builtin;go_loud (refine zqjs rfl (.tmp 21) (.tmp 25) 27 rfl r ?_))
    go_roundg (N - (j+1))
    case measure=>omega
    case rel=>exact⟨j+1,p2,C2,rfl,by omega,(by first|rfl |(congr 1;unfold wrap64;omega)),by rw[show 3*(j+1)=3*j+3 by omega],by rw[show 3*(j+1)=3*j+3 by omega];exact H3.out⟩
  . obtain rfl:N=j:=by omega
    clear hk hj hlt;go_wp2;go_ret;exact⟨_,rfl,HI.out⟩
def onceN(cells:Int):Nat:=(min (max cells 1) 64).toNat
theorem zq7v(c:Int):0<onceN c/\onceN c<=64:=by unfold onceN;omega
def zq2e(ob:Nat->Nat)(j:Nat):List Value:=(List.range j).map λc=>.pointer (some ⟨ob c,0,none⟩)
structure zq3b(w0:World)(vb j:Nat)(ob:Nat->Nat)(v:Value)(w:World):Prop where
 be:Beyond w0 w
 vbk:w.heap[vb]?=some (.cells #[v] 108)
 row:w.ownsRow w0.heap.size 35 1 v j (zq2e ob j)
 blk:∀c,c<j->w.heap[ob c]?=some (.cells #[.int .i64 0,.int .i64 0,.int .i64 0] 43)
 lo:∀c,c<j->w0.heap.size<=ob c
 inj:∀c d,c<j->d<j->ob c=ob d->c=d
 vlo:w0.heap.size<=vb
theorem zqdc{w0 wr W w2:World}{vb j q g cap C:Nat}{p:Option Addr}{ob:Nat->Nat}(h:zq3b w0 vb j ob (.slice p j C) wr)(hq:wr.heap.size=q)
 (hW:W.heap=((wr.alloc (.cells #[.int .i64 0,.int .i64 0,.int .i64 0] 43)).alloc (.cells #[.pointer (some ⟨q,0,none⟩)] 35)).heap)
 (hrow:w2.ownsRow w0.heap.size 35 1 (.slice (some ⟨g,0,none⟩) (j+1) cap) (j+1) (zq2e ob j++[.pointer (some ⟨q,0,none⟩)])) (hgr:W.grownBy w2 (Value.slice p j C).ownBlock):
 zq3b w0 vb (j+1) (upd' ob j q) (.slice (some ⟨g,0,none⟩) (j+1) cap) (w2.setCell ⟨vb,0,none⟩ (.slice (some ⟨g,0,none⟩) (j+1) cap)):=by
 have a0:∀b o,wr.heap[b]?=some o->W.heap[b]?=some o:=λb o hb=>by rw[hW];exact zqk (zqk hb)
 have aq:W.heap[q]?=some (.cells #[.int .i64 0,.int .i64 0,.int .i64 0] 43):=by rw[hW,<-hq];exact zqk (zq10 _ _)
 have hsz:W.heap.size=q+2:=by rw[hW,zqh,zqh,hq]
 have keep:∀b o,W.heap[b]?=some o->(Value.slice p j C).ownBlock≠some b->w2.heap[b]?=some o:=λb o hb hn=>(hgr.block b (zqt hb) (λe=>hn e.symm)).trans hb;have set1:∀b o,w2.heap[b]?=some o->b≠vb->(w2.setCell ⟨vb,0,none⟩ (.slice (some ⟨g,0,none⟩) (j+1) cap)).heap[b]?=some o:=λb o hb hn=>(zqn _ _ _ _ hn).trans hb;have hv2:w2.heap[vb]?=some (.cells #[.slice p j C] 108):=keep _ _ (a0 _ _ h.vbk) (zq3k h.row h.vbk (by decide));have hb0:=h.be.1;refine⟨⟨?_,λb hb=>?_⟩,?_,?_,λc hc=>?_,λc hc=>?_,λc d hc hd e=>?_,h.vlo⟩
 . rw[zq11];have:=hgr.size;omega
 . rw[zqn _ _ _ _ (show b≠vb by have:=h.vlo;omega)];refine(hgr.block b (by omega) (λe=>?_)).trans ?_
   . have:=(own_lt h.row e.symm).2.1;omega
   . rw[hW,zqd,if_neg (by rw[zqh];omega),zqd,if_neg (by omega)];exact h.be.2 b hb
 . exact zqu _ _ _ _ hv2
 . have e:zq2e (upd' ob j q) (j+1)=zq2e ob j++[.pointer (some ⟨q,0,none⟩)]:=by
    unfold zq2e;rw[List.range_succ,List.map_append];congr 1
    . refine List.map_congr_left λc hc=>?_;rw[zq17 _ _ (by have:=List.mem_range.1 hc;omega)]
    . simp
   rw[e];exact zq24 hrow λg' hg'=>zqn _ _ _ _ λe2=>zq3k hrow hv2 (by decide) (by rw[hg',show g'=vb from e2])
 . by_cases e:c=j
   . subst e;rw[upd'_same];refine set1 _ _ (keep _ _ aq λe=>?_) λe=>?_
     . have:=(own_lt h.row e).2.2;omega
     . have:=zqt h.vbk;omega
   . rw[zq17 _ _ e];have hb:=h.blk c (by omega);exact set1 _ _ (keep _ _ (a0 _ _ hb) (zq3k h.row hb (by decide))) λe2=>by rw[e2]at hb;exact absurd (zq57 hb h.vbk) (by decide)
 . by_cases e:c=j
   . subst e;rw[upd'_same];omega
   . rw[zq17 _ _ e];exact h.lo c (by omega)
 . by_cases e1:c=j
   . by_cases e2:d=j
     . omega
     . subst e1;rw[upd'_same,zq17 _ _ e2]at e;have:=zqt (h.blk d (by omega));omega
   . by_cases e2:d=j
     . subst e2;rw[upd'_same,zq17 _ _ e1]at e;have:=zqt (h.blk c (by omega));omega
     . rw[zq17 _ _ e1,zq17 _ _ e2]at e;exact h.inj c d (by omega) (by omega) e
structure NewOnces(w:World)(T:NumT)(vb pb Cp:Nat)(ps:Array Value)(w':World):Prop where
 be:Beyond w w'
 rep:NumRep T (λ_ _=>0) w'
 len:∀c,c<T.N->T.len c=3
 lo:∀c,c<T.N->w.heap.size<=T.ob c
 vlo:w.heap.size<=vb
 plo:w.heap.size<=pb
 vbk:w'.heap[vb]?=some (.cells #[.slice (some ⟨pb,0,none⟩) T.N Cp] 108)
 pbk:w'.heap[pb]?=some (.cells ps 35)
 ps':∀c,c<T.N->ps[c]?=some (.pointer (some ⟨T.ob c,0,none⟩))
 sep:∀c,c<T.N->vb≠T.ob c/\pb≠T.ob c
theorem NewOnces.re {w w':World}{T:NumT}{vb pb Cp:Nat}{ps:Array Value}(h:NewOnces w T vb pb Cp ps w')(τ:Nat->Question->Nat)(d:Nat):NewOnces w T vb pb Cp ps (Go.Car.re w' τ d):=⟨h.be,⟨h.rep.blk,h.rep.inj⟩,h.len,h.lo,h.vlo,h.plo,h.vbk,h.pbk,h.ps',h.sep⟩
theorem NewOnces.of_re {w w':World}{T:NumT}{vb pb Cp:Nat}{ps:Array Value}{τ:Nat->Question->Nat}{d:Nat}(h:NewOnces (Go.Car.re w τ d) T vb pb Cp ps w'):NewOnces w T vb pb Cp ps w':=⟨h.be,h.rep,h.len,h.lo,h.vlo,h.plo,h.vbk,h.pbk,h.ps',h.sep⟩
theorem zqde{w w':World}{vb j:Nat}{ob:Nat->Nat}{v:Value}(h:zq3b w vb j ob v w')(hj:0<j):∃pb Cp ps,v=.slice (some ⟨pb,0,none⟩) j Cp/\NewOnces w ⟨j,ob,λ_=>3,λ_=>43⟩ vb pb Cp ps w':=by
 rcases h.row.2 with⟨_,h0⟩|⟨g,cap,cur,rfl,hb,hg,h1,h2,h3,h4⟩
 . omega
 refine⟨g,cap,cur,rfl,h.be,⟨λc hc=>?_,h.inj⟩,λ_ _=>rfl,h.lo,h.vlo,hb,h.vbk,hg,λc hc=>?_,λc hc=>⟨?_,?_⟩⟩
 . exact h.blk c hc
 . have hc':c<j:=hc;have:(cur.toList.take (j*1))[c]?=some (Value.pointer (some ⟨ob c,0,none⟩)):=by
    rw[h4];unfold zq2e;simp[hc']
   rw[List.getElem?_take,if_pos (by omega)]at this;simpa using this
 . exact zq3f h.vbk (h.blk c hc) (by decide)
 . exact zq3f hg (h.blk c hc) (by decide)
theorem zqbb(cells:Int)(w:World):Calls Try.prog 34 #[.int .i64 cells] w λe w'=>∃T vb pb Cp ps,T.N=onceN cells/\NewOnces w T vb pb Cp ps w'/\e=.returned (.tuple #[.slice (some ⟨pb,0,none⟩) T.N Cp,.func (.func 63) #[] #[.pointer (some ⟨vb,0,none⟩)]]):=by
 obtain⟨H,hH⟩:∃H,w.heap.size=H:=⟨_,rfl⟩;obtain⟨N,hNN⟩:∃N,onceN cells=N:=⟨_,rfl⟩;have hN:0<N/\N<=64:=hNN▸zq7v cells;rw[hNN];obtain⟨m,hM⟩:∃m:Int,(if cells<1 then 1 else cells)=m:=⟨_,rfl⟩;have hNi:(if(64:Int)<m then 64 else m)=(N:Int):=by
  rw[<-hM];unfold onceN at hNN;split<;>split<;>omega
 have HH:=Lib.hid (And.intro hH hNN);have HN:=Lib.hid hN;have hI0:zq3b w H 0 (λ_=>0) (.slice none 0 0) (w.alloc (.cells #[.slice none 0 0] 108)):=
  ⟨Beyond.alloc _ _,by rw[<-hH];exact zq10 _ _,World.ownsRow_nil _ _ _ _,λc hc=>absurd hc (Nat.not_lt_zero _),λc hc=>absurd hc (Nat.not_lt_zero _),λc d hc=>absurd hc (Nat.not_lt_zero _),by omega⟩
 have HI0:=Lib.hid hI0;clear hNN hN hI0
 go_enter Try.func34,Try.ntmps34
 go_wp2_with (fail)
 clear hM hNi hH
 go_loopg [8] N (λk s8 wr=>∃(j:Nat)(p:Option Addr)(C:Nat)(ob:Nat->Nat),k=N - j/\j<=N/\s8=.int .i64 j/\zq3b w H j ob (.slice p j C) wr)
 case atStart=>exact⟨0,none,0,_,rfl,Nat.zero_le _,rfl,HI0.out⟩
 case round=>
  obtain⟨j,p,C,ob,hk,hj,rfl,hI⟩:=hrel;have HI:=Lib.hid hI
  by_cases hlt:j<N
  . have hlt':(j:Int)<(N:Int):=by omega
    have hj0:(0:Int)<=j:=by omega
    have hj64:(j:Int)<64:=by have:=HN.out;omega
    have c4:=(zq0 (off:=0) hI.vbk).trans rfl;have f4:=zqf (off:=0) hI.vbk;have c4a:∀o1:Obj,(wr.alloc o1).cell? ⟨H,0,none⟩=some (.slice p j C):=λo1=>(zq0 (zqk (o:=o1) hI.vbk)).trans rfl;have c4b:∀o1 o2:Obj,((wr.alloc o1).alloc o2).cell? ⟨H,0,none⟩=some (.slice p j C):=λo1 o2=>(zq0 (zqk (o:=o2) (zqk (o:=o1) hI.vbk))).trans rfl;obtain⟨q,hq⟩:∃q,wr.heap.size=q:=⟨_,rfl⟩;have HQ:=Lib.hid hq;have hsz0:w.heap.size<=wr.heap.size:=hI.be.1;have HRW:∀o1 o2:Obj,((wr.alloc o1).alloc o2).ownsRow w.heap.size 35 1 (.slice p j C) j (zq2e ob j):=λo1 o2=>zq3r (zq3r hI.row _) _;have HRX:=Lib.hid (And.intro HRW hsz0);have ON:=Lib.hid zq5j;have hvk:∀(o1 o2:Obj)w2,(((wr.alloc o1).alloc o2).drew).grownBy w2 (Value.slice p j C).ownBlock->w2.heap[H]?=some (.cells #[.slice p j C] 108):=λo1 o2 w2 hg=>by
     have h1:=zqk (o:=o2) (zqk (o:=o1) hI.vbk);exact(hg.block H (zqt h1) (λe=>zq3k hI.row hI.vbk (by decide) e.symm)).trans h1
    have HVK:=Lib.hid hvk;clear hI HRW hsz0 hvk
    go_wp2_with (fail)
    have HKJ:=Lib.hid (And.intro hk hj64);clear hlt' hj0 hj64 hk hj;obtain⟨ti,hti,hz,hz1,hz2⟩:∃ti,Try.prog.info? 35=some ti/\ti.zero=some (.pointer none)/\ti.size=1/\ti.bytes=8:=⟨_,rfl,rfl,rfl,rfl⟩;have HT:=Lib.hid (And.intro hti (And.intro hz (And.intro hz1 hz2)));clear hti hz hz1 hz2;have hund:Try.prog.underlying 108=some (.slice 35):=by kernel_rfl
    have HU:=Lib.hid hund;clear hund;have hnw:∀o1:Obj,∀jj u,[Value.pointer (some ⟨q,0,none⟩)][jj]?=some u->((wr.alloc o1).alloc (.cells #[.pointer (some ⟨q,0,none⟩)] 35)).drew.cell? ((⟨q+1,0,none⟩:Addr).add jj)=some u:=λo1 jj u hj=>zq5i (w:=wr.alloc o1) (T:=35) (B:=q+1) (by rw[zqh,HQ.out]) jj u hj;have HNW:=Lib.hid hnw;clear hnw
    go_region_law (first
     |(go_simp;go_at_call 13;refine Calls.mono (ON.out _) ?_;rintro e w' ⟨rfl,rfl⟩)
     |(refine step_append_lies _ rfl (.tmp 10) (.tmp 12) 108 rfl w.heap.size 35 ti (.pointer none) 1 8 HU.out HT.out.1 HT.out.2.1 HT.out.2.2.1 HT.out.2.2.2 rfl Nat.one_pos (.slice p j C) j (zq2e ob j) rfl (HRX.out.1 _ _) ⟨q+1,0,none⟩ 1 1 [.pointer (some ⟨q,0,none⟩)] rfl rfl (HNW.out _) ?_ Nat.one_pos ?_ ?_ ?_ (q+2) ?_ ?_
       . intro u hu;rw[List.mem_singleton.1 hu];rfl
       . have:=HN.out;simp only[maxLen];omega
       . have:=HN.out;omega
       . have:=HRX.out.2;have:=HQ.out;show _<=((wr.alloc _).alloc _).heap.size;rw[zqh,zqh];omega
       . show((wr.alloc _).alloc _).heap.size=_;rw[zqh,zqh,HQ.out]
       intro g cap w2 k1 k2 k3 k4;have HK:=Lib.hid (And.intro k1 k2);have cS:=(zq0 (off:=0) (HVK.out _ _ _ k2)).trans rfl;have fS:=zqf (off:=0) (HVK.out _ _ _ k2);clear k1 k2 k3 k4))
    all_goals(
     go_wp2_with (fail)
     go_roundg (N - (j+1))
     case measure=>have:=HKJ.out.1;omega
     case rel=>have hj64:=HKJ.out.2;exact⟨j+1,_,_,upd' ob j q,rfl,by omega,(by first|rfl |(congr 1;unfold wrap64;omega)),zqdc HI.out HQ.out (by rfl) HK.out.1 HK.out.2⟩)
  . obtain rfl:N=j:=by omega
    clear hk hj hlt;obtain⟨pb,Cp,ps,e,hnew⟩:=zqde hI (by have:=HN.out;omega);have c4:=(zq0 (off:=0) hI.vbk).trans rfl;rw[e]at c4;have HW:=Lib.hid (And.intro hnew e);clear hI hnew e;go_wp2;refine bodyPost_ret (v:=.tuple #[.slice (some ⟨pb,0,none⟩) N Cp,.func (.func 63) #[] #[.pointer (some ⟨H,0,none⟩)]]) ?_ rfl ⟨_,_,_,_,_,rfl,HW.out.1,rfl⟩;simp only[results,Try.f34];simp[go_sem]
noncomputable def oplT(n:Nat):Code:=tailN n (Try.f11.body.getD .skip)
theorem opl0:Try.f11.body.getD .skip=.seq (headC (oplT 0)) (.seq (headC (oplT 1)) (.seq (headC (oplT 2)) (oplT 3))):=by kernel_rfl
def onceT(NC:Nat)(ops:Nat->List OpX)(N:Nat)(mo:Int)(sched:List Int):TSt (Nums×(Nat->List Ans)):=playT (λi=>opsP i (doerP NC) (ops i)) N (min mo.toNat 1048576) sched (λ_ _=>0,λ_=>[])
theorem zqdd{Fin:Machine->Trace->Prop}(hFin:Back Try.prog Fin){n:Nat}(hn:0<n){RP:Nat->Option Obj}{w:World}{np Cn N Cs:Nat}{pp scp:Option Addr}{sp:Nat->Option Addr}{L Cp:Nat->Nat}{ops:Nat->List OpX}{sched:List Int}{mo cells:Int}
 (hRP:∀b o,RP b=some o->w.heap[b]?=some o) (ho:OpsAt w RP pp np N sp L Cp ops) (hsl:sched.length<=4611686018427387904)
 (hs:sched≠[]->∃sb off,scp=some ⟨sb,off,none⟩/\∀j x,sched[j]?=some x->w.cell? ⟨sb,off+j,none⟩=some (.int .i64 x))
 {c:Frame} {cs:List Frame}
 (hmain:∀ab ov sv am w',PlayedR N w (onceT (onceN cells) ops N mo sched) (numL (onceT (onceN cells) ops N mo sched).s.1 (onceN cells)) ab ov sv am w'->
  J0 Try.prog Fin (n+N) (G (c.finish (.agg #[.slice (some ⟨ab,0,none⟩) N N,ov,sv,.bool (decide (0<leftN (onceT (onceN cells) ops N mo sched).ov N))])) cs) w'):
 J0 Try.prog Fin n (G (Frame.enter Try.prog 11 #[.int .i64 cells,.slice pp np Cn,.slice scp sched.length Cs,.int .i64 mo] .normal) (c::cs)) w:=by
 have hJ:=j0_JS hFin;have hC:=zq4c hFin;have e:Frame.enter Try.prog 11 #[.int .i64 cells,.slice pp np Cn,.slice scp sched.length Cs,.int .i64 mo] .normal=(bN 11).at (zqg Try.f11 #[.int .i64 cells,.slice pp np Cn,.slice scp sched.length Cs,.int .i64 mo]) [.code ((Try.f11.body).getD .skip)]:=by kernel_rfl
 have ea:zqg Try.f11 #[.int .i64 cells,.slice pp np Cn,.slice scp sched.length Cs,.int .i64 mo]=⟨#[.int .i64 cells,.slice pp np Cn,.slice scp sched.length Cs,.int .i64 mo,undef,undef,undef,undef,undef,undef,undef,undef,undef,undef,undef,undef,undef,undef,undef,undef,undef,undef,undef,undef,undef,undef],[]⟩:=by kernel_rfl
 rw[e,ea,opl0];clear e ea;have hm:=Lib.hid hmain;clear hmain;obtain⟨H,hH⟩:∃H,w.heap.size=H:=⟨_,rfl⟩;refine hJ.ctl (s:=n) (λw=>stepG_seq) ?_;refine zq1p hJ hC zq15 (by kernel_rfl) (λt w'=>t=#[.int .i64 cells,.slice pp np Cn,.slice scp sched.length Cs,.int .i64 mo,undef,undef,undef,undef,.pointer (some ⟨H,0,none⟩),undef,undef,undef,undef,undef,undef,undef,undef,undef,undef,undef,undef,undef,undef,undef,undef,undef]/\∃τ d,w'=re (w.alloc (.cells #[.slice none 0 0,.slice none 0 0,.slice none 0 0,.bool false] 29)) τ d) (λt w' τ d h=>⟨h.1,by obtain⟨τ',d',rfl⟩:=h.2;exact⟨τ,d,by rw[re_re]⟩⟩) (by decide) (λτ d=>?_) ?_
 . obtain⟨u0,hu0⟩:∃c,headC (oplT 0)=c:=⟨_,rfl⟩;have eu0:=hu0;rw[hu0];simp only[oplT,headC,tailN,Try.f11,al_od]at eu0;subst eu0;clear hu0;clear hs ho hRP;go_wp2;exact⟨rfl,rfl,τ,d,rfl⟩
 rintro t w' ⟨rfl,τ,d,rfl⟩;refine hJ.re' n _ _ τ d ?_;have hwa:(w.alloc (.cells #[.slice none 0 0,.slice none 0 0,.slice none 0 0,.bool false] 29)).heap.size=H+1:=by rw[zqh,hH]
 have hob:∀b,b<H->(w.alloc (.cells #[.slice none 0 0,.slice none 0 0,.slice none 0 0,.bool false] 29)).heap[b]?=w.heap[b]?:=λb hb=>by rw[zqd,if_neg (by omega)]
 have hzb:(w.alloc (.cells #[.slice none 0 0,.slice none 0 0,.slice none 0 0,.bool false] 29)).heap[H]?=some (.cells #[.slice none 0 0,.slice none 0 0,.slice none 0 0,.bool false] 29):=hH▸zq10 w _;obtain⟨wa,hwae⟩:∃wa,w.alloc (.cells #[.slice none 0 0,.slice none 0 0,.slice none 0 0,.bool false] 29)=wa:=⟨_,rfl⟩;rw[hwae]at hwa hob hzb |-;clear hwae;refine hJ.ctl (s:=n) (λw=>stepG_seq) ?_;refine zq1p hJ hC zq15 (by kernel_rfl) (λt w'=>∃TN vb pb Cp ps,t=#[.int .i64 cells,.slice pp np Cn,.slice scp sched.length Cs,.int .i64 mo,undef,undef,undef,undef,.pointer (some ⟨H,0,none⟩),.slice (some ⟨pb,0,none⟩) (onceN cells) Cp,.func (.func 63) #[] #[.pointer (some ⟨vb,0,none⟩)],undef,.tuple #[.slice (some ⟨pb,0,none⟩) (onceN cells) Cp,.func (.func 63) #[] #[.pointer (some ⟨vb,0,none⟩)]],.int .i64 cells,.tuple #[.slice (some ⟨pb,0,none⟩) (onceN cells) Cp,.func (.func 63) #[] #[.pointer (some ⟨vb,0,none⟩)]],.slice (some ⟨pb,0,none⟩) (onceN cells) Cp,.func (.func 63) #[] #[.pointer (some ⟨vb,0,none⟩)],undef,undef,undef,undef,undef,undef,undef,undef,undef]/\TN.N=onceN cells/\NewOnces wa TN vb pb Cp ps w') (λt w' τ d h=>by obtain⟨TN,vb,pb,Cp,ps,h1,h2,h3⟩:=h;exact⟨TN,vb,pb,Cp,ps,h1,h2,h3.re τ d⟩) (by decide) (λτ d=>?_) ?_
 . obtain⟨u0,hu0⟩:∃c,headC (oplT 1)=c:=⟨_,rfl⟩;have eu0:=hu0;rw[hu0];simp only[oplT,headC,tailN,Try.f11,al_od]at eu0;subst eu0;clear hu0;have HM:=Lib.hid (zqbb cells (re wa τ d));clear hs ho hRP hob hzb hH hwa hsl
   go_wp2_with (fail)
   refine Calls.mono HM.out ?_;rintro e w' ⟨TN,vb,pb,Cp,ps,hN,hR,rfl⟩;rw[hN];have HR:RowKit.Hid (TN.N=onceN cells/\NewOnces wa TN vb pb Cp ps w'):=Lib.hid ⟨hN,hR.of_re⟩;clear hR hN;go_wp2;exact⟨rfl,_,_,_,_,_,rfl,HR.out⟩
 rintro t wb ⟨TN,vb,pb,Cq,ps,rfl,hTN,hR⟩;have hNN:=zq7v cells;have hwb:H+1<=wb.heap.size:=by have:=hR.be.1;omega
 have hobb:∀b,b<H->wb.heap[b]?=w.heap[b]?:=λb hb=>(hR.be.2 b (by omega)).trans (hob b hb);have hzb2:wb.heap[H]?=some (.cells #[.slice none 0 0,.slice none 0 0,.slice none 0 0,.bool false] 29):=(hR.be.2 H (by omega)).trans hzb;have hlo:=hR.lo;have hvl:=hR.vlo;have hpl:=hR.plo;rw[hwa]at hlo hvl hpl;clear hzb hob hwa;have hlt:∀b o,RP b=some o->b<H:=λb o h=>by rw[<-hH];exact zqt (hRP b o h)
 have hnf:∀b,(zqq TN).foot (λ_ _=>0) b->H+1<=b:=λb⟨x,hx,hb⟩=>by have:=hlo x hx;omega
 obtain⟨RQ,hRQ⟩:∃RQ:Nat->Option Obj,RQ=λb=>if b=vb then some (.cells #[.slice (some ⟨pb,0,none⟩) TN.N Cq] 108)else if b=pb then some (.cells ps 35)else RP b:=⟨_,rfl⟩
 have hpv:pb≠vb:=zq3f hR.pbk hR.vbk (by decide);have hqv:RQ vb=some (.cells #[.slice (some ⟨pb,0,none⟩) TN.N Cq] 108):=by rw[hRQ];simp
 have hqp:RQ pb=some (.cells ps 35):=by rw[hRQ];simp[hpv]
 have hqr:∀b o,RP b=some o->RQ b=some o:=λb o h=>by
  have:=hlt b o h;rw[hRQ];simp only;rw[if_neg (by omega),if_neg (by omega)];exact h
 have hqw:∀b o,RQ b=some o->(b=vb\/b=pb\/b<H)/\wb.heap[b]?=some o:=λb o h=>by
  rw[hRQ]at h;simp only at h;split at h
  . rename_i e;cases h;subst e;exact⟨.inl rfl,hR.vbk⟩
  . split at h
    . rename_i e;cases h;subst e;exact⟨.inr (.inl rfl),hR.pbk⟩
    . exact⟨.inr (.inr (hlt b o h)),(hobb b (hlt b o h)).trans (hRP b o h)⟩
 have hB:BRep (zqq TN) RQ ⟨λ_ _=>0,λ_ _=>none⟩ wb:=by
  refine⟨hR.rep,λi b o h=>(by cases h),λb o h=>(hqw b o h).2,λi b h=>absurd rfl h,λi j b _ h=>absurd rfl h,λb h hf=>?_,λi b _=>rfl⟩;cases ho:RQ b with
  |none=>exact h ho
  |some o=>
   obtain⟨x,hx,hb⟩:=hf;have h1:=hR.sep x hx;have h2:=hlo x hx;rcases(hqw b o ho).1 with e|e|e
   . exact h1.1 (by rw[<-e];exact hb)
   . exact h1.2 (by rw[<-e];exact hb)
   . omega
 have hOp:OpsAt wb RQ pp np N sp L Cp ops:=by
  refine⟨ho.eq,ho.le,λh0=>?_,ho.row,ho.len,λi hi k op hk=>?_⟩
  . obtain⟨tb,to',e,h1⟩:=ho.at' h0;exact⟨tb,to',e,λi hi=>(zq14 (hobb tb (by rw[<-hH];exact cell_lt (h1 i hi)))).trans (h1 i hi)⟩
  . obtain⟨g,off,cur,e,fr,h1,h2,h3⟩:=ho.op i hi k op hk;exact⟨g,off,cur,e,fr,h1,hqr _ _ h2,h3⟩
 have hsc:sched≠[]->∃sb off,scp=some ⟨sb,off,none⟩/\¬(zqq TN).foot (λ_ _=>0) sb/\∀j x,sched[j]?=some x->wb.cell? ⟨sb,off+j,none⟩=some (.int .i64 x):=λh0=>by
  obtain⟨sb,off,e,h2⟩:=hs h0;obtain⟨x,l,hsl⟩:=List.exists_cons_of_ne_nil h0;have hlt:sb<H:=by rw[<-hH];exact cell_lt (h2 0 x (by rw[hsl];rfl))
  exact⟨sb,off,e,λhf=>by have:=hnf sb hf;omega,λj x hj=>(zq14 (hobb sb hlt)).trans (h2 j x hj)⟩
 have hpn:¬(zqq TN).foot (λ_ _=>0) pb:=λ⟨x,hx,hb⟩=>(hR.sep x hx).2 hb
 have hpw:=hR.pbk;have hps:=hR.ps';have hln:=hR.len;clear ho hs hRP hlt hR;refine hJ.ctl (s:=n) (λw=>stepG_seq) ?_;obtain⟨u0,hu0⟩:∃c,headC (oplT 2)=c:=⟨_,rfl⟩;have eu0:=hu0;rw[hu0];simp only[oplT,headC,tailN,Try.f11,al_od]at eu0;subst eu0;clear hu0;refine hJ.ctl (s:=n) (λw=>stepG_region) ?_;have HX:=Lib.hid (And.intro hB (And.intro hOp (And.intro hsc (And.intro hnf (And.intro hobb (And.intro hzb2 hwb))))));have HE:=Lib.hid (And.intro hTN (And.intro hH (And.intro hpw (And.intro hps (And.intro hln (And.intro hpn (And.intro hqv (And.intro hqp hNN))))))));clear hB hOp hsc hnf hobb hzb2 hwb hH hpw hps hln hpn hqv hqp hRQ hqr hqw hlo hvl hpl hTN hpv hNN;refine zqb (s:=n) (by decide) hJ (zq9 _) true (.inl rfl) 0 4 3 rfl rfl rfl (by rfl) ?_;intro τ d;simp only[List.drop_zero,List.take_succ_cons,List.take_zero];go_wp2;simp only[zq5];refine hJ.re' n _ _ τ d ?_;refine zqy (by decide) hJ (s:=n) rfl rfl (f:=35) (args:=#[.slice pp np Cn,.func (.func 63) #[] #[.pointer (some ⟨vb,0,none⟩)],.slice scp sched.length Cs,.int .i64 mo]) (λτ d=>?_) (λτ d=>?_) ?_
 . simp[go_sem,execOp,Act.eval,resolve,Deferred.ofValue,invoke,callFunc,Try.func35,Try.f35]
 . intro e he;simp[go_sem,execOp,Act.eval,resolve,Deferred.ofValue,invoke,callFunc,Try.func35,Try.f35,Sem.runT_eq]at he
 obtain⟨hB,hOp,hsc,hnf,hobb,hzb2,hwb⟩:=HX.out;obtain⟨hTN,hH,hpw,hps,hln,hpn,hqv,hqp,hNN⟩:=HE.out;refine zqdh hFin hn zq15 rowsM (fn:=Try.f63) (cc:=(Try.f63.body).getD .skip) Try.func63 rfl rfl hB hOp hsl hsc (dop:=λ_=>doerP TN.N) (λi op k=>zqba _ _ _) (λro ab pr st cr rest EN i o op hro _=>zqbd (by omega) hln ro (hro _ _ hqv) (hro _ _ hqp) hps pr st cr rest EN i o op) ?_;intro ab v l' am w2 hO;rw[Frame.finish_at]
 walk_nrm
 have hTe:playT (λi=>opsP i (doerP TN.N) (ops i)) N (min mo.toNat 1048576) sched ((zqq TN).st (λ_ _=>0),λ_=>[])=onceT (onceN cells) ops N mo sched:=by
  unfold onceT;rw[hTN];rfl
 rw[hTe]at hO |-;obtain⟨pv',cv',rfl,_⟩:=zq4k hO.row;have hl':(onceT (onceN cells) ops N mo sched).s.1=l':=hO.st.symm;have hze:w2.heap[H]?=some (.cells #[.slice none 0 0,.slice none 0 0,.slice none 0 0,.bool false] 29):=(hO.old H (by omega) (λh=>by have:=hnf H h;omega)).trans hzb2;have hpe:w2.heap[pb]?=some (.cells ps 35):=(hO.old pb (zqt hpw) hpn).trans hpw;generalize (onceT (onceN cells) ops N mo sched).ord.length=nv' at hO |-;have HO:=Lib.hid hO;have HZ:=Lib.hid (And.intro hze (And.intro hl' hpe));obtain⟨stuck,hstuck⟩:∃x,decide (0<leftN (onceT (onceN cells) ops N mo sched).ov N)=x:=⟨_,rfl⟩;rw[hstuck];have HST:=Lib.hid hstuck;clear hstuck hO hze hl' hpe hTe hB hOp hsc hnf hobb hzb2 hwb hTN hH hpw hps hln hpn hqv hqp hNN;refine zqb (s:=n+N) (by decide) hJ (zq9 _) false (.inr rfl) 5 2 0 rfl rfl rfl (by rfl) ?_;intro τ d;simp only[List.drop_succ_cons,List.drop_zero,List.take_succ_cons,List.take_zero];have HO2:=Lib.hid (HO.out.re τ d);have HZ2:RowKit.Hid ((re w2 τ d).heap[H]?=some (.cells #[.slice none 0 0,.slice none 0 0,.slice none 0 0,.bool false] 29)/\(onceT (onceN cells) ops N mo sched).s.1=l'/\(re w2 τ d).heap[pb]?=some (.cells ps 35)):=Lib.hid HZ.out;clear HO HZ;generalize re w2 τ d=w3 at HO2 HZ2 |-;go_wp2;simp only[zq5];refine hJ.ctl (s:=n+N) (λw=>stepG_region_end) ?_;have hT:=zq10 w3 (.cells #[.slice (some ⟨ab,0,none⟩) N N,.slice pv' nv' cv',.slice none 0 0,.bool stuck] 29);have hoT:∀b,b<w3.heap.size->(w3.alloc (.cells #[.slice (some ⟨ab,0,none⟩) N N,.slice pv' nv' cv',.slice none 0 0,.bool stuck] 29)).heap[b]?=w3.heap[b]?:=λb hb=>by rw[zqd,if_neg (by omega)]
 have hsT:(w3.alloc (.cells #[.slice (some ⟨ab,0,none⟩) N N,.slice pv' nv' cv',.slice none 0 0,.bool stuck] 29)).heap.size=w3.heap.size+1:=zqh _ _;generalize (w3.alloc (.cells #[.slice (some ⟨ab,0,none⟩) N N,.slice pv' nv' cv',.slice none 0 0,.bool stuck] 29))=w4 at hT hoT hsT |-;obtain⟨T,hTT⟩:∃T,w3.heap.size=T:=⟨_,rfl⟩;rw[hTT]at hT hoT hsT |-;have HT:=Lib.hid (And.intro hT (And.intro hoT (And.intro hsT hTT)));clear hT hoT hsT hTT;refine zq4y hJ hC zq15 (by kernel_rfl) (λv w'=>∃sv am,v=.agg #[.slice (some ⟨ab,0,none⟩) N N,.slice pv' nv' cv',sv,.bool stuck]/\PlayedR N w (onceT (onceN cells) ops N mo sched) (numL (onceT (onceN cells) ops N mo sched).s.1 (onceN cells)) ab (.slice pv' nv' cv') sv am w') (λv w' τ d⟨sv,am,h1,h2⟩=>⟨sv,am,h1,h2.re τ d⟩) rfl Try.func11 (λτ d=>?_) ?_
 . obtain⟨u0,hu0⟩:∃c,oplT 3=c:=⟨_,rfl⟩;have eu0:=hu0;rw[hu0];simp only[oplT,headC,tailN,Try.f11,al_od]at eu0;subst eu0;clear hu0;obtain⟨hT,hoT,hsT,hTT⟩:=HT.out;have hT':(re w4 τ d).heap[T]?=some (.cells #[.slice (some ⟨ab,0,none⟩) N N,.slice pv' nv' cv',.slice none 0 0,.bool stuck] 29):=hT;have hoT':∀b,b<T->(re w4 τ d).heap[b]?=w3.heap[b]?:=hoT;have hsT':(re w4 τ d).heap.size=T+1:=hsT;have hHl:H<T:=by rw[<-hTT];exact zqt HZ2.out.1
   have hpT:(re w4 τ d).heap[pb]?=some (.cells ps 35):=(hoT' pb (by rw[<-hTT];exact zqt HZ2.out.2.2)).trans HZ2.out.2.2;have hall:=zqem (T:=TN) ((zqq TN).frame _ _ _ HO2.out.rep λb hb=>hoT' b (by rw[<-hTT];exact(zqq TN).lt _ _ _ HO2.out.rep hb)) HE.out.2.2.2.2.1 (by have:=HE.out.1;have:=HE.out.2.2.2.2.2.2.2.2;omega) (Cp:=Cq) hpT HE.out.2.2.2.1;rw[HE.out.1]at hall;generalize re w4 τ d=w5 at hT' hoT' hsT' hall |-;have HA:=Lib.hid hall;have HW:=Lib.hid (And.intro hT' (And.intro hoT' (And.intro hsT' (And.intro hTT hHl))));clear hT hoT hsT hTT hT' hoT' hsT' hpT hall HT hHl hm
   go_wp2_with (fail)
   refine Calls.mono HA.out ?_;rintro e w6 ⟨sv,rfl,hI⟩;obtain⟨sp',sc',rfl,-,-⟩:=zq4k hI.row;obtain⟨sl,hsl'⟩:∃x,(numL l' (onceN cells)).length=x:=⟨_,rfl⟩;rw[hsl']at hI |-;have hI2:=Lib.hid (And.intro hI hsl');clear hsl';have b1:w6.heap[T]?=some (.cells #[.slice (some ⟨ab,0,none⟩) N N,.slice pv' nv' cv',.slice none 0 0,.bool stuck] 29):=(hI.be.2 T (by have:=HW.out.2.2.1;omega)).trans HW.out.1;have b0:w6.heap[H]?=some (.cells #[.slice none 0 0,.slice none 0 0,.slice none 0 0,.bool false] 29):=(hI.be.2 H (by have:=HW.out.2.2.1;have:=HW.out.2.2.2.2;omega)).trans ((HW.out.2.1 H HW.out.2.2.2.2).trans HZ2.out.1);have hne:¬(T=H):=by have:=HW.out.2.2.2.2;omega
   have hne2:¬(H=T):=by omega
   clear hI;have c0:=(zq0 (off:=0) b1).trans rfl;have c1:=(zq0 (off:=1) b1).trans rfl;have c2:=(zq0 (off:=2) b1).trans rfl;have c3:=(zq0 (off:=3) b1).trans rfl;have y2:=zqf (off:=2) b1;have r0:=(zq0 (off:=0) b0).trans rfl;have r1:=(zq0 (off:=1) b0).trans rfl;have r2:=(zq0 (off:=2) b0).trans rfl;have r3:=(zq0 (off:=3) b0).trans rfl;have z0:=zqf (off:=0) b0;have z1:=zqf (off:=1) b0;have z2:=zqf (off:=2) b0;have z3:=zqf (off:=3) b0;have B0:=Lib.hid b0;have B1:=Lib.hid b1;clear b0 b1;go_wp2;clear c0 c1 c2 c3 y2 r0 r1 r2 r3 z0 z1 z2 z3;have b0:(w6.setCell ⟨T,2,none⟩ (.slice sp' sl sc')).heap[H]?=some (.cells #[.slice none 0 0,.slice none 0 0,.slice none 0 0,.bool false] 29):=by rw[zqn _ _ _ _ hne2];exact B0.out
   have b1':=zqu _ H 0 (.slice (some ⟨ab,0,none⟩) N N) b0;have b2':=zqu _ H 1 (.slice pv' nv' cv') b1';have b3':=zqu _ H 2 (.slice sp' sl sc') b2';have b4':=zqu _ H 3 (.bool stuck) b3';have hext:∀x,x≠T->x≠H->(((((w6.setCell ⟨T,2,none⟩ (.slice sp' sl sc')).setCell ⟨H,0,none⟩ (.slice (some ⟨ab,0,none⟩) N N)).setCell ⟨H,1,none⟩ (.slice pv' nv' cv')).setCell ⟨H,2,none⟩ (.slice sp' sl sc')).setCell ⟨H,3,none⟩ (.bool stuck)).heap[x]?=w6.heap[x]?:=λx hx1 hx=>by
    rw[zqn _ _ _ _ hx,zqn _ _ _ _ hx,zqn _ _ _ _ hx,zqn _ _ _ _ hx,zqn _ _ _ _ hx1]
   have hsz8:(((((w6.setCell ⟨T,2,none⟩ (.slice sp' sl sc')).setCell ⟨H,0,none⟩ (.slice (some ⟨ab,0,none⟩) N N)).setCell ⟨H,1,none⟩ (.slice pv' nv' cv')).setCell ⟨H,2,none⟩ (.slice sp' sl sc')).setCell ⟨H,3,none⟩ (.bool stuck)).heap.size=w6.heap.size:=by simp only[zq11]
   generalize (((((w6.setCell ⟨T,2,none⟩ (.slice sp' sl sc')).setCell ⟨H,0,none⟩ (.slice (some ⟨ab,0,none⟩) N N)).setCell ⟨H,1,none⟩ (.slice pv' nv' cv')).setCell ⟨H,2,none⟩ (.slice sp' sl sc')).setCell ⟨H,3,none⟩ (.bool stuck))=w8 at b4' hext hsz8 |-;clear b1' b2' b3' b0;have k0:=(zq0 (off:=0) b4').trans rfl;have k1:=(zq0 (off:=1) b4').trans rfl;have k2:=(zq0 (off:=2) b4').trans rfl;have k3:=(zq0 (off:=3) b4').trans rfl;obtain⟨_,hoT,hsT,hTT,hHl⟩:=HW.out;obtain⟨hI,hsl2⟩:=hI2.out;have hwl:=HE.out.1;obtain⟨hB,hOp,hsc,hnf,hobb,hzb2,hwb⟩:=HX.out;have hrow:w8.ownsRow w3.heap.size 2 1 (.slice sp' sl sc') (numL (onceT (onceN cells) ops N mo sched).s.1 (onceN cells)).length ((numL (onceT (onceN cells) ops N mo sched).s.1 (onceN cells)).map (Value.int .i64)):=by
    rw[HZ2.out.2.1,hsl2];have hrI:=hI.row;rw[hsl2]at hrI;have q:w8.ownsRow w5.heap.size 2 1 (.slice sp' sl sc') sl ((numL l' (onceN cells)).map (Value.int .i64)):=zq24 hrI λg hg=>by
     have h1:=(own_lt hrI hg).2.1;exact hext g (by omega) (by omega)
    exact zq3l q (by omega)
   have hfin:PlayedR N w (onceT (onceN cells) ops N mo sched) (numL (onceT (onceN cells) ops N mo sched).s.1 (onceN cells)) ab (.slice pv' nv' cv') (.slice sp' sl sc') am w8:=by
    refine zqdz HO2.out HE.out.2.1 (by omega) hobb hnf (by have:=hI.be.1;omega) (λx hx hxH=>?_) hrow;rw[hext x (by omega) hxH,hI.be.2 x (by omega)];exact hoT x (by omega)
   refine⟨rfl,.agg #[.slice (some ⟨ab,0,none⟩) N N,.slice pv' nv' cv',.slice sp' sl sc',.bool stuck],?_,_,rfl,_,_,rfl,hfin⟩;simp only[results,Try.f11];simp[go_sem,k0,k1,k2,k3]
 . rintro v w' ⟨sv,am,rfl,h⟩;have h2:=hm.out _ _ sv am w' h;rw[HST.out]at h2;exact h2
theorem zq5a{w:World}{B:Nat}{T:TypeId}{v:Value}{l:List Int}(h:w.ownsRow B T 1 v l.length (l.map (Value.int .i64))):zq3w w v l:=by
 rcases h.2 with⟨hv,h0⟩|⟨g,cap,cur,hv,hb,hh,h1,h2,h3,h4⟩
 . exact⟨none,0,by rw[hv,h0],λhne=>absurd (List.length_eq_zero_iff.1 h0) hne⟩
 . refine⟨_,cap,hv,λ_=>⟨g,0,rfl,λi hi=>?_⟩⟩;rw[zq0 hh,Nat.zero_add];have e:(l.map (Value.int .i64))[i]?=some (.int .i64 (l.getD i 0)):=by simp[hi]
   rw[<-h4,List.getElem?_take,if_pos (by omega)]at e;simpa using e
theorem zqc8{w:World}{B:Nat}{T:TypeId}{v:Value}{l:List Nat}(h:w.ownsRow B T 1 v l.length (l.map λ(i:Nat)=>.int .i64 i)):zq3w w v (l.map λ(i:Nat)=>(i:Int)):=by
 refine zq5a (B:=B) (T:=T) ?_;rw[List.length_map,List.map_map];exact h
theorem zqe7{X:Nat->Option Obj}{T:TypeId}{v:Value}{l:List Int}{w:World}(h:RowB X T 1 v l.length (l.map (Value.int .i64)))(hX:∀b o,X b=some o->w.heap[b]?=some o):zq3w w v l:=zq5a (h.own hX)
theorem ansL_get{tI:TypeId}{X:Nat->Option Obj}{l:List Ans}{cs:List Value}(h:AnsL tI X l cs):∀{i:Nat}{a:Ans},l[i]?=some a->∃Y sl,cs[i*3]?=some (.bool a.ok)/\cs[i*3+1]?=some (.int .i64 a.n)/\cs[i*3+2]?=some sl/\RowB Y tI 1 sl a.l.length (a.l.map (Value.int .i64))/\∀b o,Y b=some o->X b=some o:=by
 induction h with
 |nil=>intro i a hi;simp at hi
 |snoc h ha hd ih=>
  rename_i X Y l cs cs' a';intro i a hi;have hlen:=h.len;rcases Nat.lt_or_ge i l.length with hlt|hge
  . rw[List.getElem?_append_left hlt]at hi;obtain⟨Z,sl,h1,h2,h3,h4,h5⟩:=ih hi;refine⟨Z,sl,?_,?_,?_,h4,λb o hb=>?_⟩
    . rw[List.getElem?_append_left (by omega)];exact h1
    . rw[List.getElem?_append_left (by omega)];exact h2
    . rw[List.getElem?_append_left (by omega)];exact h3
    . have h6:=h5 b o hb;unfold orB;cases hY:Y b with
      |none=>simp[h6]
      |some y=>have:=hd b (by rw[hY];simp);rw[this]at h6;cases h6
  . have e:i=l.length:=by
     have:=(List.getElem?_eq_some_iff.1 hi).1;simp at this;omega
    subst e;simp at hi;subst hi;obtain⟨sl,rfl,hr⟩:=ha;refine⟨Y,sl,?_,?_,?_,hr,λb o hb=>by simp[orB,hb]⟩
    . rw[List.getElem?_append_right (by omega),hlen];simp
    . rw[List.getElem?_append_right (by omega),hlen];simp
    . rw[List.getElem?_append_right (by omega),hlen];simp
theorem ansR_at{tA tI:TypeId}{X:Nat->Option Obj}{hv:Value}{l:List Ans}{w:World}(h:AnsR tA tI X hv l)(hX:∀b o,X b=some o->w.heap[b]?=some o):AnsAt w hv l:=by
 obtain⟨Xr,XL,cs,hr,hL,rfl,hd⟩:=h;rcases hr.2 with⟨hv,h0,_⟩|⟨g,cap,cur,rfl,rfl,h1,h2,h3,h4⟩
 . exact⟨none,0,by rw[hv,h0],λhne=>absurd (List.length_eq_zero_iff.1 h0) hne⟩
 . refine⟨_,cap,rfl,λ_=>⟨g,0,rfl,λi a hi=>?_⟩⟩;have hg:w.heap[g]?=some (.cells cur tA (0,0)):=hX g _ (by simp[orB]);obtain⟨Y,sl,e1,e2,e3,e4,e5⟩:=ansL_get hL hi;have hil:=(List.getElem?_eq_some_iff.1 hi).1;have get:∀{j:Nat}{v:Value},j<l.length*3->cs[j]?=some v->w.cell? ⟨g,0+j,none⟩=some v:=λ{j v}hj e=>by
    rw[zq0 hg,Nat.zero_add];rw[<-h4,List.getElem?_take,if_pos hj]at e;simpa using e
   refine⟨get (by omega) e1,?_,sl,?_,zqe7 e4 λb o hb=>hX b o ?_⟩
   . exact get (by omega) e2
   . exact get (by omega) e3
   . have h6:=e5 b o hb
     by_cases hbg:b=g
     . subst hbg;have:=hd b (by simp);rw[this]at h6;cases h6
     . simp[orB,hbg,h6]
theorem zq6g{ab N:Nat}{m:AnsM}{w:World}(h:zq2z tT ab N m w){i:Nat}(hi:i<N):w.cell? ⟨ab,i,none⟩=some (m.hv i)/\AnsAt w (m.hv i) (m.st i):=by
 refine⟨(zq0 h.hd).trans ?_,ansR_at (h.row i hi) λb o hb=>h.blk i b o hi hb⟩;simp[hi]
noncomputable def seT(n:Nat):Code:=tailN n (Try.f9.body.getD .skip)
theorem se0:Try.f9.body.getD .skip=.seq (headC (seT 0)) (.seq (headC (seT 1)) (seT 2)):=by kernel_rfl
theorem zqcr(w:World):Calls Try.prog 31 #[] w λe w'=>e=.returned (.pointer (some ⟨w.heap.size,0,none⟩))/\∃o,w'=w.alloc o:=by
 go_enter Try.func31,Try.ntmps31
 go_wp2;go_ret;exact⟨rfl,_,rfl⟩
theorem zqcs(w:World):Calls Try.prog 32 #[.nilFunc] w λe w'=>e=.returned (.pointer (some ⟨w.heap.size,0,none⟩))/\∃o,w'=w.alloc o:=by
 go_enter Try.func32,Try.ntmps32
 go_wp2;go_ret;exact⟨rfl,_,rfl⟩
def seOps(i:Nat):List OpX:=if i=0 then [⟨2,0,7,0⟩]else [⟨2,0,9,0⟩]
theorem se_ops{w:World}{rb p0 p1:Nat}(hr:w.heap[rb]?=some (.cells #[.slice (some ⟨p0,0,none⟩) 1 1,.slice (some ⟨p1,0,none⟩) 1 1] 32))(h0:w.heap[p0]?=some (.cells #[.int .i64 2,.int .i64 0,.int .i64 7,.int .i64 0] 34))(h1:w.heap[p1]?=some (.cells #[.int .i64 2,.int .i64 0,.int .i64 9,.int .i64 0] 34)):
 OpsAt w (λb=>if b=p0\/b=p1 then w.heap[b]? else none) (some ⟨rb,0,none⟩) 2 2 (λi=>if i=0 then some ⟨p0,0,none⟩else some ⟨p1,0,none⟩) (λ_=>1) (λ_=>1) seOps:=by
 refine⟨rfl,by decide,λ_=>⟨rb,0,rfl,λi hi=>?_⟩,λi hi=>?_,λi hi=>?_,λi hi k' op hop=>?_⟩
 . rw[zq0 hr];obtain rfl |rfl:i=0\/i=1:=by omega
   . rfl
   . rfl
 . obtain rfl |rfl:i=0\/i=1:=by omega
   . exact⟨by decide,by decide,λh=>(by cases h)⟩
   . exact⟨by decide,by decide,λh=>(by cases h)⟩
 . obtain rfl |rfl:i=0\/i=1:=by omega
   . rfl
   . rfl
 . obtain rfl |rfl:i=0\/i=1:=by omega
   . refine⟨p0,0,_,_,_,rfl,by rw[if_pos (.inl rfl)];exact h0,λj hj=>?_⟩;obtain rfl:k'=0:=by have:=(List.getElem?_eq_some_iff.1 hop).1;simp[seOps]at this;omega
     simp[seOps]at hop;subst hop;obtain rfl |rfl |rfl |rfl:j=0\/j=1\/j=2\/j=3:=by omega
     all_goals rfl
   . refine⟨p1,0,_,_,_,rfl,by rw[if_pos (.inr rfl)];exact h1,λj hj=>?_⟩;obtain rfl:k'=0:=by have:=(List.getElem?_eq_some_iff.1 hop).1;simp[seOps]at this;omega
     simp[seOps]at hop;subst hop;obtain rfl |rfl |rfl |rfl:j=0\/j=1\/j=2\/j=3:=by omega
     all_goals rfl
theorem se_a0:(onceT 1 seOps 2 100 [0,1,1,0,0]).s.2 0=[⟨true,7,[]⟩]:=by kernel_rfl
theorem se_a1:(onceT 1 seOps 2 100 [0,1,1,0,0]).s.2 1=[⟨false,0,[]⟩]:=by kernel_rfl
theorem se_st:numL (onceT 1 seOps 2 100 [0,1,1,0,0]).s.1 1=[2,7,0]:=by kernel_rfl
theorem se_ord:(onceT 1 seOps 2 100 [0,1,1,0,0]).ord.length=5:=by kernel_rfl
theorem se_stk:decide (0<leftN (onceT 1 seOps 2 100 [0,1,1,0,0]).ov 2)=false:=by kernel_rfl
theorem zqek{Fin:Machine->Trace->Prop}(hFin:Back Try.prog Fin){n:Nat}(hn:0<n){w:World}{c:Frame}{cs:List Frame}(hmain:∀w',Beyond w w'->J0 Try.prog Fin (n+2) (G (c.finish (.bool true)) cs) w'):
 J0 Try.prog Fin n (G (Frame.enter Try.prog 9 #[] .normal) (c::cs)) w:=by
 have hJ:=j0_JS hFin;have hC:=zq4c hFin;have e:Frame.enter Try.prog 9 #[] .normal=(bN 9).at (zqg Try.f9 #[]) [.code ((Try.f9.body).getD .skip)]:=by kernel_rfl
 have ea:zqg Try.f9 #[]=⟨#[undef,undef,undef,undef,undef,undef,undef,undef,undef,undef,undef,undef,undef,undef,undef,undef,undef,undef,undef,undef,undef,undef,undef,undef,undef,undef,undef,undef,undef,undef,undef,undef,undef,undef,undef,undef,undef,undef,undef,undef,undef,undef,undef,undef,undef,undef,undef,undef,undef,undef,undef,undef,undef,undef,undef,undef,undef,undef,undef,undef,undef,undef,undef,undef,undef,undef,undef,undef,undef,undef,undef,undef,undef,undef,undef,undef,undef,undef,undef,undef,undef,undef,undef,undef,undef,undef,undef,undef,undef,undef,undef,undef,undef,undef,undef,undef,undef,undef,undef,undef,undef,undef,undef,undef,undef,undef,undef,undef,undef],[]⟩:=by kernel_rfl
 rw[e,ea,se0];clear e ea;have hm:=Lib.hid hmain;clear hmain;refine hJ.ctl (s:=n) (λw=>stepG_seq) ?_;refine zq1p hJ hC zq15 (by kernel_rfl) (λt w'=>t=#[.bool false,undef,undef,undef,undef,undef,undef,undef,undef,undef,undef,undef,undef,undef,undef,undef,undef,undef,undef,undef,undef,undef,undef,undef,undef,undef,undef,undef,undef,undef,undef,undef,undef,undef,undef,undef,undef,undef,undef,undef,undef,undef,undef,undef,undef,undef,undef,undef,undef,undef,undef,undef,undef,undef,undef,undef,undef,undef,undef,undef,undef,undef,undef,undef,undef,undef,undef,undef,undef,undef,undef,undef,undef,undef,undef,undef,undef,undef,undef,undef,undef,undef,undef,undef,undef,undef,undef,undef,undef,undef,undef,undef,undef,undef,undef,undef,undef,undef,undef,undef,undef,undef,undef,undef,undef,undef,undef,undef,undef]/\∃τ d,w'=re w τ d) (λt w' τ d h=>⟨h.1,by obtain⟨τ',d',rfl⟩:=h.2;exact⟨τ,d,by rw[re_re]⟩⟩) (by decide) (λτ d=>?_) ?_
 . obtain⟨u0,hu0⟩:∃c,headC (seT 0)=c:=⟨_,rfl⟩;have eu0:=hu0;rw[hu0];simp only[seT,headC,tailN,Try.f9,al_od]at eu0;subst eu0;clear hu0;go_wp2;exact⟨rfl,rfl,τ,d,rfl⟩
 rintro t w' ⟨rfl,τ,d,rfl⟩;refine hJ.re' n _ _ τ d ?_;refine hJ.ctl (s:=n) (λw=>stepG_seq) ?_;obtain⟨u0,hu0⟩:∃c,headC (seT 1)=c:=⟨_,rfl⟩;have eu0:=hu0;rw[hu0];simp only[seT,headC,tailN,Try.f9,al_od]at eu0;subst eu0;clear hu0;refine hJ.ctl (s:=n) (λw=>stepG_region) ?_;refine zqb (s:=n) (by decide) hJ (zq9 _) false (.inr rfl) 0 6 3 rfl rfl rfl (by rfl) ?_;intro τ d;simp only[List.drop_zero,List.take_succ_cons,List.take_zero];have HB0:=Lib.hid (Beyond.re w τ d);generalize re w τ d=v0 at HB0 |-;obtain⟨H,hH⟩:∃H,v0.heap.size=H:=⟨_,rfl⟩;have HH:=Lib.hid hH;go_wp2;simp only[zq5];have HW:RowKit.Hid (Beyond v0 (((((v0.alloc (.cells #[.int .i64 2,.int .i64 0,.int .i64 7,.int .i64 0] 34)).alloc (.cells #[.int .i64 2,.int .i64 0,.int .i64 9,.int .i64 0] 34)).alloc (.cells #[.slice (some ⟨H,0,none⟩) 1 1,.slice (some ⟨H+1,0,none⟩) 1 1] 32)).alloc (.cells #[.int .i64 0,.int .i64 1,.int .i64 1,.int .i64 0,.int .i64 0] 3)))/\(((((v0.alloc (.cells #[.int .i64 2,.int .i64 0,.int .i64 7,.int .i64 0] 34)).alloc (.cells #[.int .i64 2,.int .i64 0,.int .i64 9,.int .i64 0] 34)).alloc (.cells #[.slice (some ⟨H,0,none⟩) 1 1,.slice (some ⟨H+1,0,none⟩) 1 1] 32)).alloc (.cells #[.int .i64 0,.int .i64 1,.int .i64 1,.int .i64 0,.int .i64 0] 3))).heap[H]?=some (.cells #[.int .i64 2,.int .i64 0,.int .i64 7,.int .i64 0] 34)/\(((((v0.alloc (.cells #[.int .i64 2,.int .i64 0,.int .i64 7,.int .i64 0] 34)).alloc (.cells #[.int .i64 2,.int .i64 0,.int .i64 9,.int .i64 0] 34)).alloc (.cells #[.slice (some ⟨H,0,none⟩) 1 1,.slice (some ⟨H+1,0,none⟩) 1 1] 32)).alloc (.cells #[.int .i64 0,.int .i64 1,.int .i64 1,.int .i64 0,.int .i64 0] 3))).heap[H+1]?=some (.cells #[.int .i64 2,.int .i64 0,.int .i64 9,.int .i64 0] 34)/\(((((v0.alloc (.cells #[.int .i64 2,.int .i64 0,.int .i64 7,.int .i64 0] 34)).alloc (.cells #[.int .i64 2,.int .i64 0,.int .i64 9,.int .i64 0] 34)).alloc (.cells #[.slice (some ⟨H,0,none⟩) 1 1,.slice (some ⟨H+1,0,none⟩) 1 1] 32)).alloc (.cells #[.int .i64 0,.int .i64 1,.int .i64 1,.int .i64 0,.int .i64 0] 3))).heap[H+1+1]?=some (.cells #[.slice (some ⟨H,0,none⟩) 1 1,.slice (some ⟨H+1,0,none⟩) 1 1] 32)/\(((((v0.alloc (.cells #[.int .i64 2,.int .i64 0,.int .i64 7,.int .i64 0] 34)).alloc (.cells #[.int .i64 2,.int .i64 0,.int .i64 9,.int .i64 0] 34)).alloc (.cells #[.slice (some ⟨H,0,none⟩) 1 1,.slice (some ⟨H+1,0,none⟩) 1 1] 32)).alloc (.cells #[.int .i64 0,.int .i64 1,.int .i64 1,.int .i64 0,.int .i64 0] 3))).heap[H+1+1+1]?=some (.cells #[.int .i64 0,.int .i64 1,.int .i64 1,.int .i64 0,.int .i64 0] 3)):=by
  refine Lib.hid ⟨(((Beyond.alloc _ _).trans (Beyond.alloc _ _)).trans (Beyond.alloc _ _)).trans (Beyond.alloc _ _),?_,?_,?_,?_⟩
  . rw[<-hH];exact zqk (zqk (zqk (zq10 _ _)))
  . refine zqk (zqk ?_);rw[zqd,if_pos (by rw[zqh,hH])]
  . refine zqk ?_;rw[zqd,if_pos (by simp only[zqh,hH])]
  . rw[zqd,if_pos (by simp only[zqh,hH])]
 generalize (((((v0.alloc (.cells #[.int .i64 2,.int .i64 0,.int .i64 7,.int .i64 0] 34)).alloc (.cells #[.int .i64 2,.int .i64 0,.int .i64 9,.int .i64 0] 34)).alloc (.cells #[.slice (some ⟨H,0,none⟩) 1 1,.slice (some ⟨H+1,0,none⟩) 1 1] 32)).alloc (.cells #[.int .i64 0,.int .i64 1,.int .i64 1,.int .i64 0,.int .i64 0] 3)))=WA at HW |-;clear hH;refine zqy (by decide) hJ (s:=n) rfl rfl (f:=11) (args:=#[.int .i64 1,.slice (some ⟨H+1+1,0,none⟩) 2 2,.slice (some ⟨H+1+1+1,0,none⟩) 5 5,.int .i64 100]) (λτ d=>?_) (λτ d=>?_) ?_
 . simp[go_sem,execOp,Act.eval,resolve,Deferred.ofValue,invoke,callFunc,Try.func11,Try.f11]
 . intro e he;simp[go_sem,execOp,Act.eval,resolve,Deferred.ofValue,invoke,callFunc,Try.func11,Try.f11,Sem.runT_eq]at he
 refine zqdd hFin (n:=n) hn (RP:=λb=>if b=H\/b=H+1 then WA.heap[b]? else none) (sched:=[0,1,1,0,0]) (ops:=seOps) (N:=2) (λb o hb=>?_) (se_ops HW.out.2.2.2.1 HW.out.2.1 HW.out.2.2.1) (by decide) (λ_=>⟨H+1+1+1,0,rfl,λj x hj=>?_⟩) ?_
 . split at hb
   . exact hb
   . cases hb
 . rw[zq0 HW.out.2.2.2.2,Nat.zero_add];have hlj:=(List.getElem?_eq_some_iff.1 hj).1;simp only[List.length_cons,List.length_nil]at hlj;obtain rfl |rfl |rfl |rfl |rfl:j=0\/j=1\/j=2\/j=3\/j=4:=by omega
   all_goals(simp at hj;subst hj;rfl)
 rw[show onceN 1=1 by rfl];intro ab ov sv am wp hR;rw[se_stk];rw[Frame.finish_at]
 walk_nrm
 have hq1:=zqc8 hR.orow;have hq2:=zq5a hR.srow;rw[se_st]at hq2;obtain⟨op,oc,rfl,-⟩:=hq1;obtain⟨sp,sc,rfl,hsv⟩:=hq2;obtain⟨sb,so,rfl,hsc⟩:=hsv (by decide);have s0:=hsc 0 (by decide);have s1:=hsc 1 (by decide);have ha0:=zq6g hR.ans (i:=0) (by decide);have ha1:=zq6g hR.ans (i:=1) (by decide);rw[hR.ast,se_a0]at ha0;rw[hR.ast,se_a1]at ha1;obtain⟨a1,pa,ca,a2,a3⟩:=ha0;obtain⟨b1,pb,cb,b2,b3⟩:=ha1;obtain⟨ga,oa,rfl,a4⟩:=a3 (by simp);obtain⟨gb,ob',rfl,b4⟩:=b3 (by simp);obtain⟨a5,a6,_⟩:=a4 0 _ rfl;obtain⟨b5,b6,_⟩:=b4 0 _ rfl;rw[a2]at a1;rw[b2]at b1;simp only[List.length_map,se_ord,List.length_cons,List.length_nil,Nat.zero_add,Nat.zero_mul,Nat.add_zero,List.getD_cons_zero,List.getD_cons_succ]at a1 b1 a5 a6 b5 b6 s0 s1 |-;have hbw:Beyond w wp:=(HB0.out.trans HW.out.1).trans ⟨hR.size,hR.old⟩;have HF:=Lib.hid (And.intro a1 (And.intro a5 (And.intro a6 (And.intro b1 (And.intro b5 (And.intro b6 (And.intro s0 s1)))))));have HBW:=Lib.hid hbw;clear hR a1 a2 a3 a4 a5 a6 b1 b2 b3 b4 b5 b6 s0 s1 hsc hsv HW HB0 hbw;refine zqb (s:=n+2) (by decide) hJ (zq9 _) false (.inr rfl) 7 2 0 rfl rfl rfl (by rfl) ?_;intro τ d;simp only[List.drop_succ_cons,List.drop_zero,List.take_succ_cons,List.take_zero];have HF2:RowKit.Hid ((re wp τ d).cell? ⟨ab,0,none⟩=some (.slice (some ⟨ga,oa,none⟩) 1 ca)/\(re wp τ d).cell? ⟨ga,oa,none⟩=some (.bool true)/\(re wp τ d).cell? ⟨ga,oa+1,none⟩=some (.int .i64 7)/\(re wp τ d).cell? ⟨ab,1,none⟩=some (.slice (some ⟨gb,ob',none⟩) 1 cb)/\(re wp τ d).cell? ⟨gb,ob',none⟩=some (.bool false)/\(re wp τ d).cell? ⟨gb,ob'+1,none⟩=some (.int .i64 0)/\(re wp τ d).cell? ⟨sb,so,none⟩=some (.int .i64 2)/\(re wp τ d).cell? ⟨sb,so+1,none⟩=some (.int .i64 7)):=Lib.hid HF.out;have HBW2:=Lib.hid (HBW.out.trans (Beyond.re wp τ d));generalize re wp τ d=x0 at HF2 HBW2 |-;clear HF HBW;go_wp2;simp only[zq5];refine hJ.ctl (s:=n+2) (λw=>stepG_region_end) ?_;have hT:=zq10 x0 (.cells #[.slice (some ⟨ab,0,none⟩) 2 2,.slice op 5 oc,.slice (some ⟨sb,so,none⟩) 3 sc,.bool false] 29);have hbx:Beyond x0 (x0.alloc (.cells #[.slice (some ⟨ab,0,none⟩) 2 2,.slice op 5 oc,.slice (some ⟨sb,so,none⟩) 3 sc,.bool false] 29)):=Beyond.alloc _ _;generalize (x0.alloc (.cells #[.slice (some ⟨ab,0,none⟩) 2 2,.slice op 5 oc,.slice (some ⟨sb,so,none⟩) 3 sc,.bool false] 29))=y0 at hT hbx |-;obtain⟨T,hTT⟩:∃T,x0.heap.size=T:=⟨_,rfl⟩;rw[hTT]at hT |-;clear hTT;have HY:=Lib.hid (HBW2.out.trans hbx);obtain⟨a1,a5,a6,b1,b5,b6,s0,s1⟩:=HF2.out;replace a1:=hbx.cell a1;replace a5:=hbx.cell a5;replace a6:=hbx.cell a6;replace b1:=hbx.cell b1;replace b5:=hbx.cell b5;replace b6:=hbx.cell b6;replace s0:=hbx.cell s0;replace s1:=hbx.cell s1;have t0:=(zq0 (off:=0) hT).trans rfl;have t1:=(zq0 (off:=1) hT).trans rfl;have t2:=(zq0 (off:=2) hT).trans rfl;have t3:=(zq0 (off:=3) hT).trans rfl;have FF:=Lib.hid (And.intro a1 (And.intro a5 (And.intro a6 (And.intro b1 (And.intro b5 (And.intro b6 (And.intro s0 (And.intro s1 (And.intro t0 (And.intro t1 (And.intro t2 t3)))))))))));clear hT hbx HF2 HBW2 a1 a5 a6 b1 b5 b6 s0 s1 t0 t1 t2 t3;refine zq4y hJ hC zq15 (by kernel_rfl) (λv w'=>v=.bool true/\Beyond y0 w') (λv w' τ d h=>⟨h.1,h.2.trans (Beyond.re _ _ _)⟩) rfl Try.func9 (λτ d=>?_) ?_
 . obtain⟨u0,hu0⟩:∃c,seT 2=c:=⟨_,rfl⟩;have eu0:=hu0;rw[hu0];simp only[seT,headC,tailN,Try.f9,al_od]at eu0;subst eu0;clear hu0 hm;obtain⟨a1,a5,a6,b1,b5,b6,s0,s1,t0,t1,t2,t3⟩:=FF.out;clear FF;have hcl:∀a,(re y0 τ d).cell? a=y0.cell? a:=λa=>rfl;rw[<-hcl]at a1 a5 a6 b1 b5 b6 s0 s1 t0 t1 t2 t3;clear hcl;have HR:RowKit.Hid (Beyond y0 (re y0 τ d)):=Lib.hid (Beyond.re _ _ _);generalize re y0 τ d=z0 at HR a1 a5 a6 b1 b5 b6 s0 s1 t0 t1 t2 t3 |-;have a1x:∀p q r:Obj,(((z0.alloc p).alloc q).alloc r).cell? ⟨ab,0,none⟩=some (.slice (some ⟨ga,oa,none⟩) 1 ca):=λp q r=>(((Beyond.alloc z0 p).trans (Beyond.alloc _ q)).trans (Beyond.alloc _ r)).cell a1;have a5x:∀p q r:Obj,(((z0.alloc p).alloc q).alloc r).cell? ⟨ga,oa,none⟩=some (.bool true):=λp q r=>(((Beyond.alloc z0 p).trans (Beyond.alloc _ q)).trans (Beyond.alloc _ r)).cell a5;have a6x:∀p q r:Obj,(((z0.alloc p).alloc q).alloc r).cell? ⟨ga,oa+1,none⟩=some (.int .i64 7):=λp q r=>(((Beyond.alloc z0 p).trans (Beyond.alloc _ q)).trans (Beyond.alloc _ r)).cell a6;have b1x:∀p q r:Obj,(((z0.alloc p).alloc q).alloc r).cell? ⟨ab,1,none⟩=some (.slice (some ⟨gb,ob',none⟩) 1 cb):=λp q r=>(((Beyond.alloc z0 p).trans (Beyond.alloc _ q)).trans (Beyond.alloc _ r)).cell b1;have b5x:∀p q r:Obj,(((z0.alloc p).alloc q).alloc r).cell? ⟨gb,ob',none⟩=some (.bool false):=λp q r=>(((Beyond.alloc z0 p).trans (Beyond.alloc _ q)).trans (Beyond.alloc _ r)).cell b5;have b6x:∀p q r:Obj,(((z0.alloc p).alloc q).alloc r).cell? ⟨gb,ob'+1,none⟩=some (.int .i64 0):=λp q r=>(((Beyond.alloc z0 p).trans (Beyond.alloc _ q)).trans (Beyond.alloc _ r)).cell b6;have s0x:∀p q r:Obj,(((z0.alloc p).alloc q).alloc r).cell? ⟨sb,so,none⟩=some (.int .i64 2):=λp q r=>(((Beyond.alloc z0 p).trans (Beyond.alloc _ q)).trans (Beyond.alloc _ r)).cell s0;have s1x:∀p q r:Obj,(((z0.alloc p).alloc q).alloc r).cell? ⟨sb,so+1,none⟩=some (.int .i64 7):=λp q r=>(((Beyond.alloc z0 p).trans (Beyond.alloc _ q)).trans (Beyond.alloc _ r)).cell s1;have t0x:∀p q r:Obj,(((z0.alloc p).alloc q).alloc r).cell? ⟨T,0,none⟩=some (.slice (some ⟨ab,0,none⟩) 2 2):=λp q r=>(((Beyond.alloc z0 p).trans (Beyond.alloc _ q)).trans (Beyond.alloc _ r)).cell t0;have t1x:∀p q r:Obj,(((z0.alloc p).alloc q).alloc r).cell? ⟨T,1,none⟩=some (.slice op 5 oc):=λp q r=>(((Beyond.alloc z0 p).trans (Beyond.alloc _ q)).trans (Beyond.alloc _ r)).cell t1;have t2x:∀p q r:Obj,(((z0.alloc p).alloc q).alloc r).cell? ⟨T,2,none⟩=some (.slice (some ⟨sb,so,none⟩) 3 sc):=λp q r=>(((Beyond.alloc z0 p).trans (Beyond.alloc _ q)).trans (Beyond.alloc _ r)).cell t2;have t3x:∀p q r:Obj,(((z0.alloc p).alloc q).alloc r).cell? ⟨T,3,none⟩=some (.bool false):=λp q r=>(((Beyond.alloc z0 p).trans (Beyond.alloc _ q)).trans (Beyond.alloc _ r)).cell t3
   go_wp2_with (fail)
   refine Calls.mono (zq5j _) ?_;rintro e w' ⟨rfl,rfl⟩
   go_wp2_with (fail)
   refine Calls.mono (zqcr _) ?_;rintro e w' ⟨rfl,o2,rfl⟩
   go_wp2_with (fail)
   refine Calls.mono (zqcs _) ?_;rintro e w' ⟨rfl,o3,rfl⟩;go_wp2;go_ret;exact⟨_,rfl,rfl,HR.out.trans (((Beyond.alloc _ _).trans (Beyond.alloc _ _)).trans (Beyond.alloc _ _))⟩
 . rintro v w' ⟨rfl,h⟩;exact hm.out _ (HY.out.trans h)
end Go.Proofs
