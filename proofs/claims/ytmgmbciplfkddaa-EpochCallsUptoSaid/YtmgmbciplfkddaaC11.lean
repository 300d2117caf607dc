/- YtmgmbciplfkddaaECal13: part 11 of the proof (the texts behind it, in order). -/
import Derived.Test.YtmgmbciplfkddaaC10
set_option maxHeartbeats 4000000
set_option maxRecDepth 100000
set_option linter.all false
namespace Go.Proofs
open Go Go.Conc Go.RowKit Go.Car
theorem zqez{Fin:Machine->Trace->Prop}(hFin:Back Try.prog Fin){n:Nat}(hn:0<n){A:FuncId->Bool}(hP:Plain Try.prog A)(hRS:RowsS Try.prog A){M1 S1 O1:Type}{oe:Nat->S1->O1}{C:Core M1 S1}{RP:Nat->Option Obj}{l₀:M1}{w:World}
 {np Cn N Cs:Nat} {pp scp:Option Addr} {sp:Nat->Option Addr} {L Cp:Nat->Nat} {ops:Nat->List OpX} {sched:List Int} {mo:Int} {f:FuncId} {first caps:Array Value} {fn:Func} {cc:Code} (hf:Try.prog.funcs[f]?=some fn) (hb':fn.body=some cc) (hnm:(fn.name== "runtime.NumGoroutine")=false)
 (hb:BRep C RP ⟨l₀,λ_ _=>none⟩ w) (ho:OpsAt w RP pp np N sp L Cp ops) (hsl:sched.length<=4611686018427387904)
 (hs:sched≠[]->∃sb off,scp=some ⟨sb,off,none⟩/\¬C.foot l₀ sb/\∀j x,sched[j]?=some x->w.cell? ⟨sb,off+j,none⟩=some (.int .i64 x))
 {dop:Nat->OpX->Proc (S1×(Nat->List Ans)) Ans} (hdeep:∀i s,i<N->ownE oe i s=ownE oe i (C.st l₀,λ_=>([]:List Ans))->∀k,(opsP i (dop i) (ops i)).DeepO (ownE oe i) k s)
 (hdo:∀(ro:Nat->Option Obj)(ab:Nat)(pr:Nat->Proc (S1×(Nat->List Ans)) Unit)(st:Nat)(cr:Frame)(rest:List Frame)(EN:List PanicEntry->Prop)(i:Nat)(o:List Ans)(op:OpX),(∀b x,RP b=some x->ro b=some x)->i<N->
  SpecR (zq3a hP hRS (zqf C (zq10 tT ab N)) (ownE oe) ro pr 81 (.pointer (some ⟨st,0,none⟩)) cr rest NEnd EN i (λs=>s.2 i=o)) f (first++#[.iface 150 (.pointer (some ⟨st,0,none⟩)),.int .i64 i,op.val]++caps) (dop i op) (AnsV 2))
 {c:Frame} {cs:List Frame}
 (hmain:∀ab v l' am w',OpsRes C N l₀ w (playT (λi=>opsP i (dop i) (ops i)) N (min mo.toNat 1048576) sched (C.st l₀,λ_=>[])) ab v l' am w'->
  J0 Try.prog Fin (n+N) (G (c.finish (.agg #[.slice (some ⟨ab,0,none⟩) N N,v,.slice none 0 0,.bool (decide (0<leftN (playT (λi=>opsP i (dop i) (ops i)) N (min mo.toNat 1048576) sched (C.st l₀,λ_=>[])).ov N))])) cs) w'):
 J0 Try.prog Fin n (G (Frame.enter Try.prog 32 #[.slice pp np Cn,.func (.func f) first caps,.slice scp sched.length Cs,.int .i64 mo] .normal) (c::cs)) w:=by
 have hJ:=j0_JS hFin;have hC:=zq22 hFin;have e:Frame.enter Try.prog 32 #[.slice pp np Cn,.func (.func f) first caps,.slice scp sched.length Cs,.int .i64 mo] .normal=(bN 32).at (zqo Try.f32 #[.slice pp np Cn,.func (.func f) first caps,.slice scp sched.length Cs,.int .i64 mo]) [.code ((Try.f32.body).getD .skip)]:=by kernel_rfl
 have ea:zqo Try.f32 #[.slice pp np Cn,.func (.func f) first caps,.slice scp sched.length Cs,.int .i64 mo]=⟨#[.slice pp np Cn,.func (.func f) first caps,.slice scp sched.length Cs,.int .i64 mo,undef,undef,undef,undef,undef,undef,undef,undef,undef,undef,undef,undef,undef,undef,undef,undef,undef,undef,undef,undef,undef,undef,undef,undef,undef,undef,undef,undef],[]⟩:=by kernel_rfl
 rw[e,ea,ops0];clear e ea;have hm:=Lib.hid hmain;clear hmain;obtain⟨H,hH⟩:∃H,w.heap.size=H:=⟨_,rfl⟩;refine hJ.ctl (s:=n) (λw=>stepG_seq) ?_;refine zq19 hJ hC zq68 (by kernel_rfl) (λt w'=>t=#[.slice pp np Cn,.func (.func f) first caps,.slice scp sched.length Cs,.int .i64 mo,undef,undef,undef,undef,.pointer (some ⟨H,0,none⟩),undef,undef,undef,undef,undef,undef,undef,undef,undef,undef,undef,undef,undef,undef,undef,undef,undef,undef,undef,undef,undef,undef,undef]/\∃τ d,w'=re (w.alloc (.cells #[.slice none 0 0,.slice none 0 0,.slice none 0 0,.bool false] 29)) τ d) (λt w' τ d h=>⟨h.1,by obtain⟨τ',d',rfl⟩:=h.2;exact⟨τ,d,by rw[re_re]⟩⟩) (by decide) (λτ d=>?_) ?_
 . obtain⟨u0,hu0⟩:∃c,headC (opsT 0)=c:=⟨_,rfl⟩;have eu0:=hu0;rw[hu0];simp only[opsT,headC,tailN,Try.f32,al_od]at eu0;subst eu0;clear hu0 hdo hdeep hs ho hb hf hb' hnm;go_wp2;exact⟨rfl,rfl,τ,d,rfl⟩
 rintro t w' ⟨rfl,τ,d,rfl⟩;refine hJ.re' n _ _ τ d ?_;have hwa:(w.alloc (.cells #[.slice none 0 0,.slice none 0 0,.slice none 0 0,.bool false] 29)).heap.size=H+1:=by rw[zq3,hH]
 have hob:∀b,b<H->(w.alloc (.cells #[.slice none 0 0,.slice none 0 0,.slice none 0 0,.bool false] 29)).heap[b]?=w.heap[b]?:=λb hb=>by rw[zq6,if_neg (by omega)]
 have hzb:(w.alloc (.cells #[.slice none 0 0,.slice none 0 0,.slice none 0 0,.bool false] 29)).heap[H]?=some (.cells #[.slice none 0 0,.slice none 0 0,.slice none 0 0,.bool false] 29):=hH▸zqn w _;obtain⟨wa,hwae⟩:∃wa,w.alloc (.cells #[.slice none 0 0,.slice none 0 0,.slice none 0 0,.bool false] 29)=wa:=⟨_,rfl⟩;rw[hwae]at hwa hob hzb |-;clear hwae;have hlw:∀b,C.foot l₀ b->b<H:=λb h=>by rw[<-hH];exact C.lt _ _ _ hb.core h
 have hba:BRep C RP ⟨l₀,λ_ _=>none⟩ wa:=hb.frame λb h=>hob b (by rw[<-hH];exact hb.lt h);have hat:0<np->∃tb to',pp=some ⟨tb,to',none⟩/\∀i,i<N->wa.cell? ⟨tb,to'+i,none⟩=some (.slice (sp i) (L i) (Cp i)):=λh0=>by
  obtain⟨tb,to',e,h1⟩:=ho.at' h0;exact⟨tb,to',e,λi hi=>(zq18 (hob tb (by rw[<-hH];exact cell_lt (h1 i hi)))).trans (h1 i hi)⟩
 have hs2:sched≠[]->∃sb off,scp=some ⟨sb,off,none⟩/\¬C.foot l₀ sb/\sb<H/\∀j x,sched[j]?=some x->wa.cell? ⟨sb,off+j,none⟩=some (.int .i64 x):=λh0=>by
  obtain⟨sb,off,e,h1',h2⟩:=hs h0;obtain⟨x,l,hsl⟩:=List.exists_cons_of_ne_nil h0;have hlt:sb<H:=by rw[<-hH];exact cell_lt (h2 0 x (by rw[hsl];rfl))
  exact⟨sb,off,e,h1',hlt,λj x hj=>(zq18 (hob sb hlt)).trans (h2 j x hj)⟩
 have hNe:=ho.eq;have hN64:N<=64:=by omega
 have hnp:=ho.le;have hrow:=ho.row;have hlen:=ho.len;have hop:=ho.op;clear ho hs hb;refine hJ.ctl (s:=n) (λw=>stepG_seq) ?_;refine zq19 hJ hC zq68 (by kernel_rfl) (λt w'=>∃ob ib fv,t=#[.slice pp np Cn,.func (.func f) first caps,.slice scp sched.length Cs,.int .i64 mo,undef,undef,undef,undef,.pointer (some ⟨H,0,none⟩),fv,.slice (some ⟨H+1+1,0,none⟩) N N,undef,undef,undef,.tuple #[fv,.slice (some ⟨H+1+1,0,none⟩) N N],.slice pp np Cn,.func (.func f) first caps,.tuple #[fv,.slice (some ⟨H+1+1,0,none⟩) N N],fv,.slice (some ⟨H+1+1,0,none⟩) N N,undef,undef,undef,undef,undef,undef,undef,undef,undef,undef,undef,undef]/\DRes wa N (.func (.func f) first caps) sp L Cp N ob ib fv w') (λt w' τ d h=>?_) (by decide) (λτ d=>?_) ?_
 . obtain⟨ob,ib,fv,h1,h2⟩:=h;exact⟨ob,ib,fv,h1,h2.re τ d⟩
 . obtain⟨u0,hu0⟩:∃c,headC (opsT 1)=c:=⟨_,rfl⟩;have eu0:=hu0;rw[hu0];simp only[opsT,headC,tailN,Try.f32,al_od]at eu0;subst eu0;clear hu0;have HM:=Lib.hid (zqd0 (pp:=pp) (n:=np) (Cn:=Cn) (dv:=.func (.func f) first caps) (sp:=sp) (L:=L) (Cp:=Cp) ⟨_,_,_,rfl⟩ (re wa τ d) hnp (λi hi=>hrow i (by rw[hNe];exact hi)) (λh0=>by
    obtain⟨tb,to',e,h1⟩:=hat h0;exact⟨tb,to',e,λi hi=>h1 i (by rw[hNe];exact hi)⟩))
   rw[<-hNe]at HM;have HH:=Lib.hid (And.intro hH hwa);clear hs2 hat hlw hba hob hzb hH hwa hNe hN64 hnp hrow hlen hop hdo hdeep hf hb' hnm hsl
   go_wp2_with (fail)
   refine Calls.mono HM.out ?_;rintro e w' ⟨ob,ib,fv,rfl,hR⟩;have hR2:=Lib.hid hR.of_re;clear hR;rw[show(re wa τ d).heap.size=H+1 from HH.out.2];go_wp2;exact⟨rfl,ob,ib,fv,rfl,hR2.out⟩
 rintro t w1 ⟨ob,ib,fv,rfl,hR⟩;obtain⟨fp,Cf,rfl,hfo,hfp⟩:=zqf1 hR.frow;refine hJ.ctl (s:=n) (λw=>stepG_seq) ?_;have hrep1:=ops_rep hR hba;obtain⟨u0,hu0⟩:∃c,headC (opsT 2)=c:=⟨_,rfl⟩;have eu0:=hu0;rw[hu0];simp only[opsT,headC,tailN,Try.f32,al_od]at eu0;subst eu0;clear hu0;refine hJ.ctl (s:=n) (λw=>stepG_region) ?_;have HR:=Lib.hid hR;have HP:=Lib.hid hrep1;have HX:=Lib.hid (And.intro hat (And.intro hs2 (And.intro hob (And.intro hzb (And.intro hwa (And.intro hlw (And.intro hba (And.intro hrow (And.intro hlen hop)))))))));have HA:=Lib.hid (And.intro hfo hfp);have HNE:=Lib.hid hNe;clear hNe;have HD:=Lib.hid (And.intro hdo (And.intro hdeep (And.intro hf (And.intro hb' hnm))));clear hR hrep1 hat hs2 hob hzb hwa hfo hfp hlw hba hrow hlen hop hdo hdeep hf hb' hnm;refine zqw (s:=n) (by decide) hJ (zqt _) true (.inl rfl) 0 3 8 rfl rfl rfl (by rfl) ?_;intro τ d;simp only[List.drop_zero,List.take_succ_cons,List.take_zero];go_wp2;simp only[zqi];refine hJ.re' n _ _ τ d ?_;refine zq1g (by decide) hJ (s:=n) rfl rfl (f:=54) (args:=#[.slice fp N Cf,.slice scp sched.length Cs,.int .i64 mo]) (λτ d=>?_) (λτ d=>?_) ?_
 . simp[go_sem,execOp,Act.eval,resolve,Deferred.ofValue,invoke,callFunc,Try.func54,Try.f54]
 . intro e he;simp[go_sem,execOp,Act.eval,resolve,Deferred.ofValue,invoke,callFunc,Try.func54,Try.f54,Sem.runT_eq]at he
 obtain⟨hat,hs2,hob,hzb,hwa,hlw,hba,hrow,hlen,hop⟩:=HX.out;obtain⟨hfo,hfp⟩:=HA.out;obtain⟨hdo,hdeep,hf,hb',hnm⟩:=HD.out;have hRo:∀i,i<N->DoRo (roOf RP wa.heap.size N ob ib w1) i N (wa.heap.size+1) (ob i) wa.heap.size (ib i) (wa.heap.size+2) (sp i) (min (L i) 65536) (Cp i) (ops i) f first caps:=λi hi=>ops_ro HR.out hba hN64 hlen hop hi
 have hfree:∀x,wa.heap.size+3<=x->w1.heap[x]?≠none->(∀i,i<N->x≠ob i/\x≠ib i)->¬(C.foot l₀ x\/x=wa.heap.size+1\/roOf RP wa.heap.size N ob ib w1 x≠none):=λx hx _ hne h=>by
  rcases h with h|h|h
  . have:=hlw x h;omega
  . omega
  . cases ho:roOf RP wa.heap.size N ob ib w1 x with
    |none=>exact h ho
    |some o=>
     rcases zq4e ho with h2|⟨h2,_⟩
     . have:=zqg (hba.rod x o h2);omega
     . rcases h2 with h2|h2|⟨i,hi,h2|h2⟩
       . omega
       . omega
       . exact(hne i hi).1 h2
       . exact(hne i hi).2 h2
 refine zqf2 hFin (T:=zq1i (zqf C (zq10 tT (wa.heap.size+1) N)) (ownE oe) (roOf RP wa.heap.size N ob ib w1) (λi=>opsP i (dop i) (ops i))) (m₀:=mOps l₀ (min mo.toNat 1048576+100)) (N:=N) (most:=min mo.toNat 1048576) (tv:=λi=>cloD wa.heap.size (ob i) (ib i)) (sched:=sched) hn (by have:=HNE.out;omega) rfl (zqf0 HP.out) (Nat.le_refl _) ?_ (λi hi=>?_) ?_ ?_
 . intro h0;obtain⟨g,e,hg,hc⟩:=hfp h0;refine⟨g,e,λhf=>?_,λi hi=>hc i _ (by simp[clsD,hi])⟩;obtain⟨⟨cc,hcc⟩,hlo,hlt⟩:=own_lt HR.out.frow hg;refine hfree g hlo (by rw[hcc];simp) (λi hi=>⟨λe=>?_,λe=>?_⟩) (zq59 hf)
   . exact zql hcc (HR.out.obx i hi) (by decide) e
   . exact zql hcc (HR.out.ibx i hi) (by decide) e
 . refine zqlk hP hRS (fn:=Try.f58) (c:=(Try.f58.body).getD .skip) Try.func58 rfl rfl (λs hs k=>hdeep i s hi hs k) (λst cr rest EN s m w hA hown=>?_);exact zqcz hP hRS hf hb' hnm (hRo i hi) (λo op=>hdo _ _ _ st cr rest EN i o op (λb x h=>zq69 h) hi) s m w hA (congrArg Prod.fst hown)
 . refine⟨hsl,scp,Cs,rfl,λh0=>?_⟩;obtain⟨sb,off,e,h1',h2,h3⟩:=hs2 h0;refine⟨sb,off,e,λj x hj=>?_⟩;cases h1:RP sb with
   |some o=>exact .inr λm w h=>(zq18 ((h.1.rod sb o (zq69 h1)).trans (hba.rod sb o h1).symm)).trans (h3 j x hj)
   |none=>
   refine .inl ⟨(zq18 (HR.out.old sb (by omega))).trans (h3 j x hj),by have:=HR.out.size;omega,λhf=>?_⟩;rcases zq59 hf with h4|h4|h4
   . exact h1' h4
   . omega
   . cases ho:roOf RP wa.heap.size N ob ib w1 sb with
     |none=>exact h4 ho
     |some o=>
      rcases zq4e ho with h5|⟨h5,_⟩
      . rw[h1]at h5;cases h5
      . rcases h5 with h5|h5|⟨i,hi,h5⟩
        . omega
        . omega
        . have:=HR.out.lo i hi;rcases h5 with h5|h5<;>omega
 intro b m' v g capg w2 ho;obtain⟨hres,hleft⟩:=ops_res2 HR.out hba ho;have hvrow:=ho.row;clear ho;rw[Frame.finish_at]
 walk_nrm
 obtain⟨pv',cv',rfl,_⟩:=zq1q hvrow;clear hvrow;generalize b.ord.length=nv' at hres |-;have HO:=Lib.hid hres;rw[hleft];have hHw:=zqg hzb;clear hleft hres;obtain⟨stuck,hstuck⟩:∃x,decide (0<leftN (playT (λi=>opsP i (dop i) (ops i)) N (min mo.toNat 1048576) sched (C.st l₀,λ_=>[])).ov N)=x:=⟨_,rfl⟩;rw[hstuck];have HST:=Lib.hid hstuck;clear hstuck;refine zqw (s:=n+N) (by decide) hJ (zqt _) true (.inl rfl) 4 7 0 rfl rfl rfl (by rfl) ?_;intro τ d;simp only[List.drop_succ_cons,List.drop_zero,List.take_succ_cons,List.take_zero];go_wp2;simp only[zqi];refine hJ.re' (n+N) _ _ τ d ?_;refine hJ.ctl (s:=n+N) (λw=>stepG_region_end) ?_;have hze:w2.heap[H]?=some (.cells #[.slice none 0 0,.slice none 0 0,.slice none 0 0,.bool false] 29):=(HO.out.old H hHw (λh=>by have:=hlw H h;omega)).trans hzb;refine zq5q hJ hC zq68 (by kernel_rfl) (λv w'=>v=.agg #[.slice (some ⟨H+1+1,0,none⟩) N N,.slice pv' nv' cv',.slice none 0 0,.bool stuck]/\∃l' am,OpsRes C N l₀ w (playT (λi=>opsP i (dop i) (ops i)) N (min mo.toNat 1048576) sched (C.st l₀,λ_=>[])) (H+1+1) (.slice pv' nv' cv') l' am w') (λv w' τ d⟨h1,l',am,h2⟩=>⟨h1,l',am,h2.re τ d⟩) rfl Try.func32 (λτ d=>?_) ?_
 . obtain⟨u0,hu0⟩:∃c,opsT 3=c:=⟨_,rfl⟩;have eu0:=hu0;rw[hu0];simp only[opsT,headC,tailN,Try.f32,al_od]at eu0;subst eu0;clear hu0;have HZ:=Lib.hid (And.intro hH (And.intro hwa (And.intro hob hlw)));have b0:(re w2 τ d).heap[H]?=some (.cells #[.slice none 0 0,.slice none 0 0,.slice none 0 0,.bool false] 29):=hze;have hre:=HO.out.re τ d;clear HO;generalize re w2 τ d=w3 at b0 hre |-;have HPR:=Lib.hid hre;clear hre hfree hRo hat hs2 hob hzb hwa hlw hba hrow hlen hop hfo hfp hdo hdeep hf hb' hnm hze hHw HX HA HD HP HR hH hsl hN64 hnp hm;have r0:=(zq0 (off:=0) b0).trans rfl;have r1:=(zq0 (off:=1) b0).trans rfl;have r2:=(zq0 (off:=2) b0).trans rfl;have r3:=(zq0 (off:=3) b0).trans rfl;have z0:=zq5 (off:=0) b0;have z1:=zq5 (off:=1) b0;have z2:=zq5 (off:=2) b0;have z3:=zq5 (off:=3) b0;have B0:=Lib.hid b0;clear b0;go_wp2;clear r0 r1 r2 r3 z0 z1 z2 z3;have b1':=zqq w3 H 0 (.slice (some ⟨H+1+1,0,none⟩) N N) B0.out;have b2':=zqq _ H 1 (.slice pv' nv' cv') b1';have b3':=zqq _ H 2 (.slice none 0 0) b2';have b4':=zqq _ H 3 (.bool stuck) b3';have hext:∀x,x<w3.heap.size->x≠H->((((w3.setCell ⟨H,0,none⟩ (.slice (some ⟨H+1+1,0,none⟩) N N)).setCell ⟨H,1,none⟩ (.slice pv' nv' cv')).setCell ⟨H,2,none⟩ (.slice none 0 0)).setCell ⟨H,3,none⟩ (.bool stuck)).heap[x]?=w3.heap[x]?:=λx _ hx=>by
    rw[zqh _ _ _ _ hx,zqh _ _ _ _ hx,zqh _ _ _ _ hx,zqh _ _ _ _ hx]
   have hsz8:((((w3.setCell ⟨H,0,none⟩ (.slice (some ⟨H+1+1,0,none⟩) N N)).setCell ⟨H,1,none⟩ (.slice pv' nv' cv')).setCell ⟨H,2,none⟩ (.slice none 0 0)).setCell ⟨H,3,none⟩ (.bool stuck)).heap.size=w3.heap.size:=by simp only[zq12]
   generalize ((((w3.setCell ⟨H,0,none⟩ (.slice (some ⟨H+1+1,0,none⟩) N N)).setCell ⟨H,1,none⟩ (.slice pv' nv' cv')).setCell ⟨H,2,none⟩ (.slice none 0 0)).setCell ⟨H,3,none⟩ (.bool stuck))=w8 at b4' hext hsz8 |-;clear b1' b2' b3';have k0:=(zq0 (off:=0) b4').trans rfl;have k1:=(zq0 (off:=1) b4').trans rfl;have k2:=(zq0 (off:=2) b4').trans rfl;have k3:=(zq0 (off:=3) b4').trans rfl;have hres:=HPR.out;rw[HZ.out.2.1]at hres;refine⟨rfl,.agg #[.slice (some ⟨H+1+1,0,none⟩) N N,.slice pv' nv' cv',.slice none 0 0,.bool stuck],?_,_,rfl,rfl,_,_,hres.ext HZ.out.1 HZ.out.2.1 HZ.out.2.2.1 HZ.out.2.2.2 (by omega) hext⟩;simp only[results,Try.f32];simp[go_sem,k0,k1,k2,k3]
 . rintro v w' ⟨rfl,l',am,h⟩;have h2:=hm.out _ _ l' am w' h;rw[HST.out]at h2;exact h2
end Go.Proofs
namespace Go.Car
open Go
section
variable {σ O α γ:Type} {ow:σ->O} {len:σ->Nat} {b b1 b2:Nat}
def Proc.Keep (ow:σ->O)(len:σ->Nat)(b b':Nat)(p:Proc σ α):Prop:=∀{β:Type}(K:α->Proc σ β),(∀a s,len s<=b'->∀n,(K a).DeepO ow n s)->∀s,len s<=b->∀n,(p.bind K).DeepO ow n s
theorem Proc.Keep.ret (a:α):(Proc.ret a:Proc σ α).Keep ow len b b:=λK hK s hs n=>hK a s hs n
theorem Proc.Keep.act {f:σ->σ×α}(h:∀s,len s<=b->len (f s).1<=b1):(Proc.act f).Keep ow len b b1:=λK hK s hs n=>hK (f s).2 (f s).1 (h s hs) n
theorem Proc.Keep.tick (hl:∀s s',ow s'=ow s->len s'=len s):(Proc.tick:Proc σ Unit).Keep ow len b b:=λK hK s hs n=>by
 cases n with
 |zero=>trivial
 |succ n=>exact λs' e=>hK () s' (by rw[hl s s' e];exact hs) n
theorem Proc.Keep.bind {p:Proc σ α}{q:α->Proc σ γ}(hp:p.Keep ow len b b1)(hq:∀a,(q a).Keep ow len b1 b2):(p.bind q).Keep ow len b b2:=λK hK s hs n=>by
 rw[Proc.bind_bind];exact hp _ (λa s h n=>hq a K hK s h n) s hs n
theorem Proc.Keep.mono {p:Proc σ α}{b0 b3:Nat}(hp:p.Keep ow len b b1)(h0:b0<=b)(h1:b1<=b3):p.Keep ow len b0 b3:=λK hK s hs n=>hp K (λa s h n=>hK a s (Nat.le_trans h h1) n) s (Nat.le_trans hs h0) n
theorem Proc.Keep.deep {p:Proc σ α}(hp:p.Keep ow len b b1){s:σ}(hs:len s<=b)(n:Nat):p.DeepO ow n s:=by
 have:=hp Proc.ret (λa s _ n=>by cases n<;>trivial) s hs n
 rwa [Proc.bind_pure]at this
theorem Proc.Keep.then {q:Proc σ α}(hl:∀s s',ow s'=ow s->len s'=len s)(hq:q.Keep ow len b b1):(Proc.tick.bind λ_=>q).Keep ow len b b1:=Proc.Keep.bind (Proc.Keep.tick hl) λ_=>hq
end
end Go.Car
namespace Go.Proofs
open Go Go.Conc Go.RowKit Go.Car
def oeE(i:Nat)(s:EpS):List (Int×Int):=s.th i
theorem edo_turn{T:EpT}{N ab:Nat}(hty:EpTy T)(hN:T.N=N)(hN64:N<=64)(ro:Nat->Option Obj)(pr:Nat->Proc (EpS×(Nat->List Ans)) Unit)(st:Nat)(cr:Frame)(rest:List Frame)(EN:List PanicEntry->Prop)(i:Nat)(hi:i<N)(o:List Ans)(op:OpX):
 SpecR (zq3a zqz rowsM (zqf (zqb T) (zq10 tT ab N)) (ownE oeE) ro pr 81 (.pointer (some ⟨st,0,none⟩)) cr rest NEnd EN i (λs=>s.2 i=o)) 33 (#[.pointer (some ⟨T.db,0,none⟩)]++#[.iface 150 (.pointer (some ⟨st,0,none⟩)),.int .i64 i,op.val]++#[]) (opE T.N i op) (AnsV 2):=by
 have hi':i<T.N:=by omega
 have hs:=zqjd _ (zqll (C:=zqf (zqb T) (zq10 tT ab N)) (own:=ownE oeE) (ro:=ro) (pr:=pr) (fStep:=81) (sx:=.pointer (some ⟨st,0,none⟩)) (cr:=cr) (rest:=rest) (NE:=NEnd) (EN:=EN) (i:=i) zqz rowsM (I:=λs=>s.2 i=o) (λs s' h hI=>(congrArg Prod.fst h).trans hI));exact edo_spec _ (zq7z _ hty hi' (λg g' s h=>h) (λg g' s hg j hj=>by show(s j,g'.th j)=(s j,g.th j);rw[hg j hj]) (λ{s m w r}h e=>by
  have:=h.deepr;rw[e]at this;exact this) hs) hi' (by omega) (zq7y _ hty hi' (λg g' s h=>h) (λg g' s hg j hj=>by show(s j,g'.th j)=(s j,g.th j);rw[hg j hj]) _) op
section
abbrev lenE(i:Nat)(s:EpS×(Nat->List Ans)):Nat:=(s.1.th i).length
variable {i:Nat} {b:Nat}
theorem lenE_own(s s':EpS×(Nat->List Ans))(h:ownE oeE i s'=ownE oeE i s):lenE i s'=lenE i s:=by
 have:=congrArg (λx=>x.2.length) h;exact this
abbrev KeepE(i b b':Nat){α:Type}(p:Proc (EpS×(Nat->List Ans)) α):Prop:=p.Keep (ownE oeE i) (lenE i) b b'
theorem zq2k{α:Type}{f:EpS->EpS×α}(h:∀s,(f s).1.th i=s.th i):KeepE i b b (onE f):=Proc.Keep.act λs hs=>by
 show((f s.1).1.th i).length<=b;rw[h];exact hs
theorem zq44{α:Type}{q:Proc (EpS×(Nat->List Ans)) α}{b':Nat}(h:KeepE i b b' q):KeepE i b b' (Proc.tick.bind λ_=>q):=Proc.Keep.then lenE_own h
theorem zq53:KeepE i b b loadP:=zq44 (zq2k λ_=>rfl)
theorem zqd9(k:Nat):KeepE i b b (zq26 k):=by
 unfold zq26;refine Proc.Keep.bind (zq2k λ_=>rfl) λx=>?_;split
 . exact Proc.Keep.ret _
 . exact Proc.Keep.bind zq53 λe=>Proc.Keep.bind (zq44 (zq2k λ_=>rfl)) λ_=>Proc.Keep.bind (zq2k λ_=>rfl) λ_=>Proc.Keep.ret _
theorem zqei(k:Nat):KeepE i b b (zq27 k):=by
 unfold zq27;refine Proc.Keep.bind (zq2k λ_=>rfl) λx=>?_;split
 . exact Proc.Keep.bind (zq2k λ_=>rfl) λ_=>Proc.Keep.bind (zq44 (zq2k λ_=>rfl)) λ_=>Proc.Keep.ret _
 . exact Proc.Keep.ret _
theorem zqfy(n:Int)(hb:b<mostT):KeepE i b (b+1) (zq2v i n):=by
 unfold zq2v;refine Proc.Keep.bind zq53 λe=>?_;intro β K hK s hs m;have e1:pushT i (n,e) s.1=(s.1.putT i (s.1.th i++[(n,e)]),true):=by
  unfold pushT;rw[if_pos (Nat.lt_of_le_of_lt hs hb)]
 rw[Proc.bind_bind];show((λx=>(if x=true then Proc.ret (e,(0:Int))else Proc.out).bind K) (pushT i (n,e) s.1).2).DeepO _ m ((pushT i (n,e) s.1).1,s.2);rw[e1];refine hK (e,0) _ ?_ m;show((upd' s.1.th i (s.1.th i++[(n,e)])) i).length<=b+1;rw[upd'_same,List.length_append];have:(s.1.th i).length<=b:=hs;simp;omega
theorem zq70(N:Nat)(e:Int):∀r,KeepE i b b (advL N e r)
 |0=>Proc.Keep.bind (zq44 (zq2k λs=>by unfold casE;split<;>rfl)) λ_=>Proc.Keep.ret _
 |r+1=>Proc.Keep.bind (zq44 (zq2k λ_=>rfl)) λm=>by
  split
  . exact Proc.Keep.ret _
  . exact zq70 N e r
theorem zqcx(k:Nat):KeepE i b b (collP k):=Proc.Keep.bind zq53 λe=>Proc.Keep.bind (Proc.Keep.act λs hs=>by
 show(upd' s.1.th k _ i).length<=b
 by_cases h:i=k
 . subst h;rw[upd'_same];exact Nat.le_trans (List.length_filter_le _ _) hs
 . rw[zqu _ _ h];exact hs) λl=>Proc.Keep.ret _
theorem op_keep(N:Nat)(op:OpX)(hb:b<mostT):KeepE i b (b+1) (opE N i op):=by
 unfold opE
 repeat' split
 . exact Proc.Keep.mono (Proc.Keep.bind (zqd9 i) λ_=>Proc.Keep.ret _) (Nat.le_refl _) (Nat.le_succ _)
 . exact Proc.Keep.mono (Proc.Keep.bind (zqei i) λ_=>Proc.Keep.ret _) (Nat.le_refl _) (Nat.le_succ _)
 . exact Proc.Keep.bind (zqfy _ hb) λ_=>Proc.Keep.ret _
 . exact Proc.Keep.mono (Proc.Keep.bind (Proc.Keep.bind zq53 λe=>zq70 N e N) λ_=>Proc.Keep.ret _) (Nat.le_refl _) (Nat.le_succ _)
 . exact Proc.Keep.mono (Proc.Keep.bind (zqcx i) λ_=>Proc.Keep.ret _) (Nat.le_refl _) (Nat.le_succ _)
 . exact Proc.Keep.mono (Proc.Keep.ret _) (Nat.le_refl _) (Nat.le_succ _)
theorem zq96(N:Nat):∀(l:List OpX)(b:Nat),b+l.length<mostT->KeepE i b (b+l.length) (opsP i (opE N i) l)
 |[],b,_=>Proc.Keep.ret _
 |op::l,b,h=>by
  simp only[List.length_cons]at h;refine Proc.Keep.bind (op_keep N op (by omega)) λa=>Proc.Keep.bind (b1:=b+1) (Proc.Keep.act λs hs=>hs) λ_=>?_;exact Proc.Keep.mono (zq96 N l (b+1) (by omega)) (Nat.le_refl _) (by simp only[List.length_cons];omega)
end
end Go.Proofs
namespace Go.Car
open Go
section
variable {prog:Nat->List Cd} {N most:Nat}
end
end Go.Car
namespace Go.Car
open Go
section
variable {S:Type} {N most:Nat}
end
structure RTh where
 at':Nat
 pc:Nat
 n:Nat->Int
 ans:List Ans
 en:Bool
def RTh.z:RTh:=⟨0,0,λ_=>0,[],false⟩
def RTh.fin (t:RTh)(a:Ans):RTh:={t with ans:=t.ans++[a],at':=t.at'+1,pc:=0}
structure RM(S1:Type)where
 bg:Nat->OpX->S1->RTh->S1×RTh
 stp:Nat->OpX->S1->RTh->S1×RTh
section
variable {S1:Type}
variable {M:RM S1} {dop:Nat->OpX->Proc (S1×(Nat->List Ans)) Ans} {Ok:Nat->OpX->RTh->Prop} {cont:Nat->OpX->RTh->Proc (S1×(Nat->List Ans)) Ans} {i:Nat} {ops:List OpX}
variable {n N:Nat} {ops':Nat->List OpX} {a:TSt (S1×(Nat->List Ans))} {C C₀:S1} {T:Nat->RTh}
end
section
variable {S1:Type}
variable {M:RM S1} {dop:Nat->OpX->Proc (S1×(Nat->List Ans)) Ans} {Ok:Nat->OpX->RTh->Prop} {cont:Nat->OpX->RTh->Proc (S1×(Nat->List Ans)) Ans} {Q:Nat->S1->RTh->Prop} {L:Nat} {i:Nat} {ops:List OpX}
variable {n N:Nat} {ops':Nat->List OpX} {a:TSt (S1×(Nat->List Ans))} {C C₀:S1} {T:Nat->RTh}
end
end Go.Car
namespace Go.Proofs
open Go Go.Conc Go.RowKit Go.Car
def epBg(i:Nat)(op:OpX)(C:EpS)(t:RTh):EpS×RTh:=
 if op.k<1\/5<op.k then(C,t.fin Ans.none)
 else if(op.k=1/\C.ins i=true)\/(op.k=2/\C.ins i=false)then(C,t.fin Ans.none)
 else if op.k=2 then(C.putI i false,{t with pc:=1,n:=λ_=>0})
 else(C,{t with pc:=1,n:=λ_=>0})
def oldsE(i:Nat)(C:EpS):List Int:=((C.th i).filter (oldT C.e)).map Prod.fst
def zq3x(i:Nat)(C:EpS)(t:RTh):EpS×RTh:=
 if t.pc=1 then(C,{t with pc:=2,n:=upd' t.n 0 C.e})
 else((C.putM i (wrap64 (t.n 0+1))).putI i true,t.fin ⟨true,t.n 0,[]⟩)
def epAdv(N:Nat)(C:EpS)(t:RTh):EpS×RTh:=
 if t.pc=1 then(C,{t with pc:=2,n:=upd' t.n 0 C.e})
 else if t.pc=2 then
  let m:=C.mark (t.n 1).toNat
  let t1:RTh:={t with n:=upd' t.n 1 (t.n 1+1)}
  if m≠0/\m≠wrap64 (t.n 0+1)then(C,t1.fin ⟨true,0,[]⟩)
  else if t.n 1+1=(N:Int)then(C,{t1 with pc:=3})else(C,t1)
 else if C.e=t.n 0 then(C.putE (wrap64 (t.n 0+1)),t.fin ⟨true,1,[]⟩)else(C,t.fin ⟨true,0,[]⟩)
def zq3w(i:Nat)(C:EpS)(t:RTh):EpS×RTh:=(C.putT i ((C.th i).filter λt=>!oldT C.e t),t.fin ⟨true,0,oldsE i C⟩)
def epStp(N i:Nat)(op:OpX)(C:EpS)(t:RTh):EpS×RTh:=
 if op.k=1 then zq3x i C t
 else if op.k=2 then(C.putM i 0,t.fin ⟨true,0,[]⟩)
 else if op.k=3 then(C.putT i (C.th i++[(op.a,C.e)]),t.fin ⟨true,C.e,[]⟩)
 else if op.k=4 then epAdv N C t
 else zq3w i C t
abbrev SE:=EpS×(Nat->List Ans)
def aE(x:Int×Int):Proc SE Ans:=Proc.ret ⟨x.2==0,x.1,[]⟩
def aB(x:Bool×Int):Proc SE Ans:=Proc.ret ⟨x.2==0,if x.1=true then 1 else 0,[]⟩
def aL'(x:Int):Proc SE Ans:=Proc.ret ⟨x==0,0,[]⟩
def aC(l:List Int):Proc SE Ans:=Proc.ret ⟨true,0,l⟩
def cEnt(i:Nat)(e:Int):Proc SE (Int×Int):=(onE (zq4j i (wrap64 (e+1)))).bind λ_=>(onE (setI i true)).bind λ_=>Proc.ret (e,0)
def cRet(i:Nat)(a e:Int):Proc SE (Int×Int):=(onE (pushT i (a,e))).bind λb=>if b=true then Proc.ret (e,0)else Proc.out
def cAdv(N:Nat)(e:Int)(r:Nat)(m:Int):Proc SE (Bool×Int):=if m≠0/\m≠wrap64 (e+1)then Proc.ret (false,0)else advL N e r
def epC(N i:Nat)(op:OpX)(t:RTh):Proc SE Ans:=
 if op.k=1 then(if t.pc=1 then((onE loadE).bind λe=>Proc.tick.bind λ_=>cEnt i e).bind aE else(cEnt i (t.n 0)).bind aE)
 else if op.k=2 then((onE (zq4j i 0)).bind λ_=>Proc.ret 0).bind aL'
 else if op.k=3 then((onE loadE).bind λe=>cRet i op.a e).bind aE
 else if op.k=4 then(if t.pc=1 then((onE loadE).bind λe=>advL N e N).bind aB
  else if t.pc=2 then((onE (loadM (t.n 1).toNat)).bind λm=>cAdv N (t.n 0) (N - (t.n 1).toNat - 1) m).bind aB
  else((onE (casE (t.n 0) (wrap64 (t.n 0+1)))).bind λb=>Proc.ret (b,0)).bind aB)
 else((onE loadE).bind λe=>(onE (takeT i e)).bind λl=>Proc.ret l).bind aC
structure OkE(N:Nat)(op:OpX)(t:RTh):Prop where
 good:1<=op.k/\op.k<=5
 k1:op.k=1->t.pc=1\/t.pc=2
 ko:op.k=2\/op.k=3\/op.k=5->t.pc=1
 k4:op.k=4->(t.pc=1/\t.n 1=0)\/(t.pc=2/\0<=t.n 1/\t.n 1<N)\/t.pc=3
def QE(i:Nat)(C:EpS)(t:RTh):Prop:=(C.th i).length<=t.at'
section
variable {N:Nat}
theorem epBegin(hN:0<N){i:Nat}{op:OpX}{C:EpS}{A:Nat->List Ans}{t:RTh}(h0:t.pc=0)(hq:QE i C t):
 (∃a C',epBg i op C t=(C',t.fin a)/\QE i C' (t.fin a)/\(opE N i op:Proc SE Ans) (C,A)=((C',A),.ret a))\/
 (∃C' t',epBg i op C t=(C',t')/\t'.pc≠0/\t'.at'=t.at'/\t'.ans=t.ans/\OkE N op t'/\QE i C' t'/\(opE N i op:Proc SE Ans) (C,A)=((C',A),.step (λs=>(epC N i op t' s).1) (λs=>(epC N i op t' s).2))):=by
 have hq1:∀a,QE i C (t.fin a):=λa=>Nat.le_succ_of_le hq;unfold epBg
 by_cases hg:op.k<1\/5<op.k
 . rw[if_pos hg];refine .inl ⟨_,_,rfl,hq1 _,?_⟩;unfold opE;rw[if_neg (by omega),if_neg (by omega),if_neg (by omega),if_neg (by omega),if_neg (by omega)];rfl
 rw[if_neg hg];have hgo:1<=op.k/\op.k<=5:=by omega
 by_cases h1:op.k=1
 . by_cases hi:C.ins i=true
   . rw[if_pos (.inl ⟨h1,hi⟩)];refine .inl ⟨_,_,rfl,hq1 _,?_⟩;unfold opE zq26;rw[if_pos h1];show((if C.ins i=true then _ else _:Proc SE (Int×Int)).bind _) (C,A)=_;rw[if_pos hi];rfl
   . rw[if_neg (by rintro(⟨_,h⟩|⟨h,_⟩);exact hi h;omega),if_neg (by omega)];refine .inr ⟨_,_,rfl,Nat.succ_ne_zero _,rfl,rfl,⟨hgo,λ_=>.inl rfl,λh=>by omega,λh=>by omega⟩,hq,?_⟩;unfold opE zq26 epC;rw[if_pos h1];show((if C.ins i=true then _ else _:Proc SE (Int×Int)).bind _) (C,A)=_;rw[if_neg hi];simp only[h1,if_true];rfl
 by_cases h2:op.k=2
 . by_cases hi:C.ins i=true
   . rw[if_neg (by rintro(⟨h,_⟩|⟨_,h⟩);exact h1 h;rw[hi]at h;cases h),if_pos h2];refine .inr ⟨_,_,rfl,Nat.succ_ne_zero _,rfl,rfl,⟨hgo,λh=>by omega,λ_=>rfl,λh=>by omega⟩,hq,?_⟩;unfold opE zq27 epC;rw[if_neg h1,if_pos h2];show((if C.ins i=true then _ else _:Proc SE Int).bind _) (C,A)=_;rw[if_pos hi];simp only[h1,h2,if_true,if_false];rfl
   . have hi':C.ins i=false:=by simpa using hi
     rw[if_pos (.inr ⟨h2,hi'⟩)];refine .inl ⟨_,_,rfl,hq1 _,?_⟩;unfold opE zq27;rw[if_neg h1,if_pos h2];show((if C.ins i=true then _ else _:Proc SE Int).bind _) (C,A)=_;rw[if_neg hi];rfl
 rw[if_neg (by rintro(⟨h,_⟩|⟨h,_⟩);exact h1 h;exact h2 h),if_neg h2];refine .inr ⟨_,_,rfl,Nat.succ_ne_zero _,rfl,rfl,⟨hgo,λh=>absurd h h1,λ_=>rfl,λ_=>.inl ⟨rfl,rfl⟩⟩,hq,?_⟩;unfold opE epC;rw[if_neg h1,if_neg h2]
 by_cases h3:op.k=3
 . rw[if_pos h3];simp only[h1,h2,h3,if_true,if_false];rfl
 rw[if_neg h3]
 by_cases h4:op.k=4
 . rw[if_pos h4];simp only[h1,h2,h3,h4,if_true,if_false];rfl
 rw[if_neg h4,if_pos (by omega)];simp only[h1,h2,h3,h4,if_true,if_false];rfl
end
def MU(N:Nat)(op:OpX)(t:RTh):Nat:=if op.k=4 then(if t.pc=1 then N+2 else if t.pc=2 then(N - (t.n 1).toNat)+1 else 1)else if t.pc=1 then 2 else 1
section
variable {N:Nat}
theorem zq5s(i:Nat)(op:OpX)(C:EpS)(t:RTh):(epBg i op C t).1.th i=C.th i:=by
 unfold epBg;split
 . rfl
 split
 . rfl
 split<;>rfl
theorem zq5t(hN:0<N){i:Nat}{op:OpX}{C:EpS}{A:Nat->List Ans}{t:RTh}(hp:t.pc≠0)(hO:OkE N op t)(hlen:(C.th i).length<mostT):
 (∃t1 a,(epStp N i op C t).2=RTh.fin t1 a/\t1.at'=t.at'/\t1.ans=t.ans/\epC N i op t (C,A)=(((epStp N i op C t).1,A),.ret a))\/
 ((epStp N i op C t).2.pc≠0/\(epStp N i op C t).2.at'=t.at'/\(epStp N i op C t).2.ans=t.ans/\OkE N op (epStp N i op C t).2/\(epStp N i op C t).1=C/\MU N op (epStp N i op C t).2<MU N op t/\
   epC N i op t (C,A)=(((epStp N i op C t).1,A),.step (λs=>(epC N i op (epStp N i op C t).2 s).1) (λs=>(epC N i op (epStp N i op C t).2 s).2))):=by
 have hg:=hO.good;unfold epStp
 by_cases h1:op.k=1
 . rw[if_pos h1];unfold zq3x;rcases hO.k1 h1 with e|e
   . rw[if_pos e];refine .inr ⟨Nat.succ_ne_zero _,rfl,rfl,⟨hg,λ_=>.inr rfl,λh=>by omega,λh=>by omega⟩,rfl,(by simp[MU,h1,e]),?_⟩;unfold epC;simp only[h1,e,if_true];rfl
   . rw[if_neg (by omega)];refine .inl ⟨t,_,rfl,rfl,rfl,?_⟩;unfold epC;simp only[h1,e,if_true];rfl
 rw[if_neg h1]
 by_cases h2:op.k=2
 . rw[if_pos h2];refine .inl ⟨t,_,rfl,rfl,rfl,?_⟩;unfold epC;simp only[h1,h2,if_true,if_false];rfl
 rw[if_neg h2]
 by_cases h3:op.k=3
 . rw[if_pos h3];refine .inl ⟨t,_,rfl,rfl,rfl,?_⟩
   . have e:pushT i (op.a,C.e) C=(C.putT i (C.th i++[(op.a,C.e)]),true):=if_pos hlen;unfold epC;simp only[h1,h2,h3,if_true,if_false];show((cRet i op.a C.e).bind aE) (C,A)=_;unfold cRet;show(((if(pushT i (op.a,C.e) C).2=true then Proc.ret (C.e,0)else Proc.out:Proc SE (Int×Int))).bind aE) ((pushT i (op.a,C.e) C).1,A)=_;rw[e];rfl
 rw[if_neg h3]
 by_cases h4:op.k=4
 . rw[if_pos h4];unfold epAdv;rcases hO.k4 h4 with⟨e,e1⟩|⟨e,e1,e2⟩|e
   . rw[if_pos e];refine .inr ⟨Nat.succ_ne_zero _,rfl,rfl,⟨hg,λh=>by omega,λh=>by omega,λ_=>.inr (.inl ⟨rfl,?_⟩)⟩,rfl,(by simp[MU,h4,e];omega),?_⟩
     . show 0<=upd' t.n 0 C.e 1/\upd' t.n 0 C.e 1<(N:Int);rw[zqu _ _ (by decide),e1];omega
     . obtain⟨m,rfl⟩:∃m,N=m+1:=⟨N - 1,by omega⟩;have ex:(upd' t.n 0 C.e) 1=0:=by rw[zqu _ _ (by decide),e1]
       have ey:(upd' t.n 0 C.e) 0=C.e:=upd'_same _ _ _;unfold epC;simp only[h1,h2,h3,h4,e,if_true,if_false,ex,ey,Int.toNat_zero,Nat.sub_zero,Nat.add_sub_cancel];show((advL (m+1) C.e (m+1)).bind aB) (C,A)=_;unfold advL;rw[Nat.sub_self];rfl
   . rw[if_neg (by omega),if_pos e];have hlt:(t.n 1).toNat<N:=by omega
     simp only;have eC:epC N i op t (C,A)=((cAdv N (t.n 0) (N - (t.n 1).toNat - 1) (C.mark (t.n 1).toNat)).bind aB) (C,A):=by
      unfold epC;simp only[h1,h2,h3,h4,e,if_true,if_false];rfl
     by_cases hm:C.mark (t.n 1).toNat≠0/\C.mark (t.n 1).toNat≠wrap64 (t.n 0+1)
     . rw[if_pos hm];refine .inl ⟨_,_,rfl,rfl,rfl,?_⟩;rw[eC];unfold cAdv;rw[if_pos hm];rfl
     . rw[if_neg hm];have e0:upd' t.n 1 (t.n 1+1) 0=t.n 0:=zqu _ _ (by decide);have e3:upd' t.n 1 (t.n 1+1) 1=t.n 1+1:=upd'_same _ _ _
       by_cases hl:t.n 1+1=(N:Int)
       . rw[if_pos hl];refine .inr ⟨Nat.succ_ne_zero _,rfl,rfl,⟨hg,λh=>by omega,λh=>by omega,λ_=>.inr (.inr rfl)⟩,rfl,(by simp[MU,h4,e];omega),?_⟩;rw[eC];unfold cAdv;rw[if_neg hm,show N - (t.n 1).toNat - 1=0 by omega];unfold epC advL;simp only[h1,h2,h3,h4,if_true,if_false,e0];rfl
       . rw[if_neg hl];refine .inr ⟨hp,rfl,rfl,⟨hg,λh=>by omega,λh=>by omega,λ_=>.inr (.inl ⟨e,?_⟩)⟩,rfl,(by simp[MU,h4,e,e3];omega),?_⟩
         . show 0<=upd' t.n 1 (t.n 1+1) 1/\upd' t.n 1 (t.n 1+1) 1<(N:Int);rw[e3];omega
         . obtain⟨m,hm2⟩:∃m,N - (t.n 1).toNat - 1=m+1:=⟨N - (t.n 1).toNat - 2,by omega⟩;rw[eC];unfold cAdv;rw[if_neg hm,hm2];unfold epC advL;have e4:(t.n 1+1).toNat=N - (m+1):=by omega
           have e5:N - (N - (m+1)) - 1=m:=by omega
           simp only[h1,h2,h3,h4,e,if_true,if_false,e0,e3,e4,e5];rfl
   . rw[if_neg (by omega),if_neg (by omega)];have eC:epC N i op t (C,A)=((λb=>(Proc.ret (b,0):Proc SE (Bool×Int)).bind aB) (casE (t.n 0) (wrap64 (t.n 0+1)) C).2) ((casE (t.n 0) (wrap64 (t.n 0+1)) C).1,A):=by
      unfold epC;simp only[h1,h2,h3,h4,e,if_true,if_false];rfl
     by_cases hc:C.e=t.n 0
     . have ec:casE (t.n 0) (wrap64 (t.n 0+1)) C=(C.putE (wrap64 (t.n 0+1)),true):=if_pos hc;rw[if_pos hc];refine .inl ⟨t,_,rfl,rfl,rfl,?_⟩;rw[eC,ec];rfl
     . have ec:casE (t.n 0) (wrap64 (t.n 0+1)) C=(C,false):=if_neg hc;rw[if_neg hc];refine .inl ⟨t,_,rfl,rfl,rfl,?_⟩;rw[eC,ec];rfl
 rw[if_neg h4];unfold zq3w;refine .inl ⟨t,_,rfl,rfl,rfl,?_⟩
 . unfold epC;simp only[h1,h2,h3,h4,if_true,if_false];rfl
inductive MR(N i:Nat)(op:OpX):EpS->RTh->EpS->Ans->Nat->Prop
 |fin {C C':EpS} {t:RTh} {a:Ans} (h1:(epStp N i op C t).1=C') (h2:∃t1,(epStp N i op C t).2=RTh.fin t1 a):MR N i op C t C' a 0
 |on {C C':EpS} {t:RTh} {a:Ans} {k:Nat} (hpc:(epStp N i op C t).2.pc≠0) (hO:OkE N op (epStp N i op C t).2) (h:MR N i op (epStp N i op C t).1 (epStp N i op C t).2 C' a k):MR N i op C t C' a (k+1)
theorem mrun(hN:0<N){i:Nat}{op:OpX}{A:Nat->List Ans}{C:EpS}(hlen:(C.th i).length<mostT):∀(u:Nat)(t:RTh),MU N op t<=u->t.pc≠0->OkE N op t->∃C' a k,MR N i op C t C' a k/\k<u+1/\(epC N i op t).run (C,A)=((C',A),some a,k):=by
 intro u
 induction u with
 |zero=>
  intro t hu hp hO;rcases zq5t (i:=i) (C:=C) (A:=A) hN hp hO hlen with⟨t1,a,h1,h2,h3,h4⟩|⟨h1,h2,h3,h4,h5,h6,h7⟩
  . exact⟨_,a,0,.fin rfl ⟨t1,h1⟩,by omega,by unfold Proc.run;rw[h4];rfl⟩
  . omega
 |succ u ih=>
  intro t hu hp hO;rcases zq5t (i:=i) (C:=C) (A:=A) hN hp hO hlen with⟨t1,a,h1,h2,h3,h4⟩|⟨h1,h2,h3,h4,h5,h6,h7⟩
  . exact⟨_,a,0,.fin rfl ⟨t1,h1⟩,by omega,by unfold Proc.run;rw[h4];rfl⟩
  . obtain⟨C',a,k,k1,k2,k3⟩:=ih _ (by omega) h1 h4;refine⟨C',a,k+1,.on h1 h4 (by rw[h5];exact k1),by omega,?_⟩;unfold Proc.run;rw[h7,h5];unfold Proc.run at k3;show(((epC N i op (epStp N i op C t).2 (C,A)).2.run (epC N i op (epStp N i op C t).2 (C,A)).1).1,((epC N i op (epStp N i op C t).2 (C,A)).2.run (epC N i op (epStp N i op C t).2 (C,A)).1).2.1,((epC N i op (epStp N i op C t).2 (C,A)).2.run (epC N i op (epStp N i op C t).2 (C,A)).1).2.2+1)=_;rw[k3]
def zAt(C:EpS)(i:Nat):RTh:=⟨(C.th i).length,0,λ_=>0,[],false⟩
theorem opRun(hN:0<N){i:Nat}{op:OpX}{A:Nat->List Ans}{C:EpS}(hlen:(C.th i).length<mostT):
 ((epBg i op C (zAt C i)).2=(zAt C i).fin Ans.none/\(epBg i op C (zAt C i)).1=C/\(opE N i op:Proc SE Ans).run (C,A)=((C,A),some Ans.none,0))\/
 ((epBg i op C (zAt C i)).2.pc≠0/\OkE N op (epBg i op C (zAt C i)).2/\∃C' a k,MR N i op (epBg i op C (zAt C i)).1 (epBg i op C (zAt C i)).2 C' a k/\k<=N+2/\(opE N i op:Proc SE Ans).run (C,A)=((C',A),some a,k+1)):=by
 rcases epBegin (N:=N) (i:=i) (op:=op) (C:=C) (A:=A) (t:=zAt C i) hN rfl (Nat.le_refl _)with⟨a,C',h1,h2,h3⟩|⟨C',t',h1,h2,h3,h4,h5,h6,h7⟩
 . left
   have ha:epBg i op C (zAt C i)=(C,(zAt C i).fin Ans.none):=by
    have:=h1;unfold epBg at this |-;split
    . rfl
    split
    . rfl
    . exfalso;rename_i q1 q2;rw[if_neg q1,if_neg q2]at this;have hp:=congrArg (λx=>x.2.pc) this;split at hp<;>cases hp
   rw[ha]at h1;have e1:=congrArg Prod.fst h1;have e2:=congrArg Prod.snd h1;simp only at e1 e2;have e3:a=Ans.none:=by
    have:=congrArg RTh.ans e2;have:([]++[Ans.none]:List Ans)=[]++[a]:=this;simpa using this.symm
   subst e3;refine⟨by rw[ha],by rw[ha],?_⟩;unfold Proc.run;rw[h3,<-e1];rfl
 . right
   rw[h1];have hth:(C'.th i).length<mostT:=by
    have:=(zq5s i op C (zAt C i));rw[h1]at this;rw[this];exact hlen
   have hmu:MU N op t'<=N+2:=by
    unfold MU
    repeat' split
    all_goals omega
   obtain⟨C2,a,k,k1,k2,k3⟩:=mrun (A:=A) hN hth (N+2) t' hmu h2 h5;refine⟨h2,h5,C2,a,k,k1,by omega,?_⟩;unfold Proc.run;rw[h7];unfold Proc.run at k3;show(((epC N i op t' (C',A)).2.run (epC N i op t' (C',A)).1).1,((epC N i op t' (C',A)).2.run (epC N i op t' (C',A)).1).2.1,((epC N i op t' (C',A)).2.run (epC N i op t' (C',A)).1).2.2+1)=_;rw[k3]
def memP{S2:Type}(N k:Nat)(op:OpX):CallP (EpS×S2):=⟨zq26 k,zq27 k,zq2v k op.a,advP N,(collP k).bind λl=>Proc.ret (l,0)⟩
theorem zq6z{S2 α:Type}(N:Nat)(e:Int){f g:Bool×Int->Proc (EpS×S2) α}(h:∀b,f (b,0)=g (b,0)):∀r,(advL N e r).bind f=(advL N e r).bind g
 |0=>by
  unfold advL;simp only[Proc.bind_bind];congr 1
  funext b
  congr 1
  funext c
  exact h c
 |r+1=>by
  unfold advL;simp only[Proc.bind_bind];congr 1
  funext b
  congr 1
  funext m
  by_cases hm:m≠0/\m≠wrap64 (e+1)
  . rw[if_pos hm];exact h false
  . rw[if_neg hm];exact zq6z N e h r
theorem callE_op{S2:Type}(N k:Nat)(op:OpX):(callE (memP N k op) op:Proc (EpS×S2) Ans)=opE N k op:=by
 unfold callE opE memP;simp only
 by_cases h1:op.k=1
 . rw[if_pos h1,if_pos h1];unfold zq26;simp only[Proc.bind_bind];congr 1
   funext b
   cases b
   . simp only[Bool.false_eq_true,if_false,Proc.bind_bind];congr 1
   . rfl
 by_cases h2:op.k=2
 . rw[if_neg h1,if_neg h1,if_pos h2,if_pos h2];unfold zq27;simp only[Proc.bind_bind];congr 1
   funext b
   cases b
   . rfl
   . simp only[if_true,Proc.bind_bind];congr 1
 by_cases h3:op.k=3
 . rw[if_neg h1,if_neg h1,if_neg h2,if_neg h2,if_pos h3,if_pos h3];unfold zq2v;simp only[Proc.bind_bind];congr 1
   funext e
   congr 1
   funext b
   cases b
   . rfl
   . rfl
 by_cases h4:op.k=4
 . rw[if_neg h1,if_neg h1,if_neg h2,if_neg h2,if_neg h3,if_neg h3,if_pos h4,if_pos h4];unfold advP;simp only[Proc.bind_bind];congr 1
   funext e
   refine zq6z N e (λb=>?_) N;cases b<;>rfl
 by_cases h5:op.k=5
 . rw[if_neg h1,if_neg h1,if_neg h2,if_neg h2,if_neg h3,if_neg h3,if_neg h4,if_neg h4,if_pos h5,if_pos h5];simp only[Proc.bind_bind];congr 1
 . rw[if_neg h1,if_neg h1,if_neg h2,if_neg h2,if_neg h3,if_neg h3,if_neg h4,if_neg h4,if_neg h5,if_neg h5]
end
set_option maxHeartbeats 16000000
section
variable {Ml S β:Type} {C:Core Ml S} {ro:Nat->Option Obj} {i:Nat}
theorem eca_c1(Y:YSys Try.prog aM C ro i β){dv:Value}{stb:Nat}{who:Int}{op:OpX}{p:CallP S}(hf:CallF Y dv (stprV stb) who op p){B Bq:Nat->Option Obj}{b5 b6:Nat}(hd:CaB B Bq who op b5 b6){K:Ans->Proc S β}(hK:∀a,Y.sil (K a)){Q:Y.γ->Exit->Act->World->Prop}{s:Y.γ}{w:World}{v:Nat->Value}
 (hret:∀s a w,(Y.Bd Try.f16 (PostR Y K (AnsV 2) B)) s a w->Q s .ret a w) (hpan:∀s ch t w,Y.Dead s ch w->Q s (.panic ch) ⟨t,[]⟩ w)
 (hA:Y.AtB Bq s w ((p.e.bind λx=>Proc.ret (toldA x.1 x.2)).bind K)):wpJ Y.J (caC 0) Q s ⟨caF dv stb who op b5 b6 v,[]⟩ w:=by
 have HKK:=Lib.hid hK;have H5:=Lib.hid hd.h5;have H6:=Lib.hid hd.h6;have HLE:=Lib.hid hd.hle;have HN:=Lib.hid hd.hn;clear hK hd;obtain⟨u_,hu_⟩:∃c,caC 0=c:=⟨_,rfl⟩;have eu_:=hu_;rw[hu_];simp only[caC,caCh,condT,condE,sndC,zqx,headC,tailN,Try.f16,al_od]at eu_;subst eu_;clear hu_;unfold caF;rw[Proc.bind_bind]at hA;refine zqj Y.jc (zqy Y.jc ?_);apply YSys.callR 0 5 4 hA hf.enter (λx=>HKK.out _) rfl rfl rfl (by rfl) rfl rfl rfl
 . intro wc hB X hX;have HX:=Lib.hid hX;clear hX;have c50:wc.cell? ⟨b5,0,none⟩=some (.int .i64 who):=(zq0 (hB.own.box b5 _ H5.out)).trans rfl;have c51:wc.cell? ⟨b5,1,none⟩=some (.int .i64 op.k):=(zq0 (hB.own.box b5 _ H5.out)).trans rfl;have c52:wc.cell? ⟨b5,2,none⟩=some (.int .i64 op.a):=(zq0 (hB.own.box b5 _ H5.out)).trans rfl;have c53:wc.cell? ⟨b5,3,none⟩=some (.int .i64 op.b):=(zq0 (hB.own.box b5 _ H5.out)).trans rfl;have c54:wc.cell? ⟨b5,4,none⟩=some (.int .i64 op.c):=(zq0 (hB.own.box b5 _ H5.out)).trans rfl;go_wp2;exact HX.out _ (Ext1.refl _)
 . intro w;simp[go_sem,execOp,Act.eval,resolve,Deferred.ofValue,invoke,callFunc,Try.func23,Try.f23]
 . intro w;simp[go_sem,execOp,Act.eval,resolve,Deferred.ofValue,invoke,callFunc,Try.func23,Try.f23]
 . intro s' ch w' h;exact hpan _ _ _ _ h
 intro s x w hA;apply YSys.callP 6 2 1 hA (zq3p Y x.1 x.2) rfl rfl rfl (by rfl) rfl rfl rfl
 . intro wc hB X hX;have HX:=Lib.hid hX;clear hX;go_wp2;exact HX.out _ (Ext1.refl _)
 . intro w;simp[go_sem,execOp,Act.eval,resolve,Deferred.ofValue,invoke,callFunc,Try.func45,Try.f45]
 . intro w;simp[go_sem,execOp,Act.eval,resolve,Deferred.ofValue,invoke,callFunc,Try.func45,Try.f45]
 intro w hA;unfold toldV;refine YSys.opsX 9 1 (λt B'=>t.getD 6 undef=.pointer (some ⟨b6,0,none⟩)/\B'=upB Bq b6 (.cells #[.bool (toldA x.1 x.2).ok,.int .i64 (toldA x.1 x.2).n,.slice none 0 0] 48)) hA rfl rfl (by kernel_rfl) ?_ ?_
 . intro wc hB X0 hX0;have HX0:=Lib.hid hX0;clear hX0;have k6:=hB.own.box b6 _ H6.out;have c60:wc.cell? ⟨b6,0,none⟩=some (.bool false):=(zq0 k6).trans rfl;have c61:wc.cell? ⟨b6,1,none⟩=some (.int .i64 0):=(zq0 k6).trans rfl;have c62:wc.cell? ⟨b6,2,none⟩=some (.slice none 0 0):=(zq0 k6).trans rfl;have f60:wc.frozen? ⟨b6,0,none⟩=false:=zq5 k6;have f61:wc.frozen? ⟨b6,1,none⟩=false:=zq5 k6;have f62:wc.frozen? ⟨b6,2,none⟩=false:=zq5 k6;have hm:=OMoved.set3 (o1:=0) (o2:=1) (o3:=2) hB.own H6.out (.bool (toldA x.1 x.2).ok) (.int .i64 (toldA x.1 x.2).n) (.slice none 0 0);have HM:=Lib.hid hm;clear hm k6;go_wp2;exact⟨rfl,HX0.out _ _ _ HM.out ⟨rfl,rfl⟩⟩
 rintro t _ w ⟨ht6,rfl⟩ hA;show wpJ Y.J _ _ _ _ _;refine zq1c Y.jc (hret _ _ _ ?_);refine YSys.left hA (v:=.agg #[.bool (toldA x.1 x.2).ok,.int .i64 (toldA x.1 x.2).n,.slice none 0 0]) (λwc hB=>results_cell_row rfl t wc b6 48 _ _ _ ht6 (hB.own.box b6 _ (upB_same _ _ _)) rfl rfl rfl) λw hA=>?_;exact⟨toldA x.1 x.2,λ_=>none,zq4k _ _,λb hb=>absurd rfl hb,hA.drop (zq1u HLE.out HN.out)⟩
end
section
variable {Ml S β:Type} {C:Core Ml S} {ro:Nat->Option Obj} {i:Nat}
theorem eca_c2(Y:YSys Try.prog aM C ro i β){dv:Value}{stb:Nat}{who:Int}{op:OpX}{p:CallP S}(hf:CallF Y dv (stprV stb) who op p){B Bq:Nat->Option Obj}{b5 b6:Nat}(hd:CaB B Bq who op b5 b6){K:Ans->Proc S β}(hK:∀a,Y.sil (K a)){Q:Y.γ->Exit->Act->World->Prop}{s:Y.γ}{w:World}{v:Nat->Value}
 (hret:∀s a w,(Y.Bd Try.f16 (PostR Y K (AnsV 2) B)) s a w->Q s .ret a w) (hpan:∀s ch t w,Y.Dead s ch w->Q s (.panic ch) ⟨t,[]⟩ w)
 (hA:Y.AtB Bq s w ((p.l.bind λx=>Proc.ret (toldA 0 x)).bind K)):wpJ Y.J (caC 1) Q s ⟨caF dv stb who op b5 b6 v,[]⟩ w:=by
 have HKK:=Lib.hid hK;have H5:=Lib.hid hd.h5;have H6:=Lib.hid hd.h6;have HLE:=Lib.hid hd.hle;have HN:=Lib.hid hd.hn;clear hK hd;obtain⟨u_,hu_⟩:∃c,caC 1=c:=⟨_,rfl⟩;have eu_:=hu_;rw[hu_];simp only[caC,caCh,condT,condE,sndC,zqx,headC,tailN,Try.f16,al_od]at eu_;subst eu_;clear hu_;unfold caF;rw[Proc.bind_bind]at hA;refine zqj Y.jc (zqy Y.jc ?_);apply YSys.callR 0 5 2 hA hf.leave (λx=>HKK.out _) rfl rfl rfl (by rfl) rfl rfl rfl
 . intro wc hB X hX;have HX:=Lib.hid hX;clear hX;have c50:wc.cell? ⟨b5,0,none⟩=some (.int .i64 who):=(zq0 (hB.own.box b5 _ H5.out)).trans rfl;have c51:wc.cell? ⟨b5,1,none⟩=some (.int .i64 op.k):=(zq0 (hB.own.box b5 _ H5.out)).trans rfl;have c52:wc.cell? ⟨b5,2,none⟩=some (.int .i64 op.a):=(zq0 (hB.own.box b5 _ H5.out)).trans rfl;have c53:wc.cell? ⟨b5,3,none⟩=some (.int .i64 op.b):=(zq0 (hB.own.box b5 _ H5.out)).trans rfl;have c54:wc.cell? ⟨b5,4,none⟩=some (.int .i64 op.c):=(zq0 (hB.own.box b5 _ H5.out)).trans rfl;go_wp2;exact HX.out _ (Ext1.refl _)
 . intro w;simp[go_sem,execOp,Act.eval,resolve,Deferred.ofValue,invoke,callFunc,Try.func27,Try.f27]
 . intro w;simp[go_sem,execOp,Act.eval,resolve,Deferred.ofValue,invoke,callFunc,Try.func27,Try.f27]
 . intro s' ch w' h;exact hpan _ _ _ _ h
 intro s x w hA;apply YSys.callP 6 0 1 hA (zq3p Y 0 x) rfl rfl rfl (by rfl) rfl rfl rfl
 . intro wc hB X hX;have HX:=Lib.hid hX;clear hX;go_wp2;exact HX.out _ (Ext1.refl _)
 . intro w;simp[go_sem,execOp,Act.eval,resolve,Deferred.ofValue,invoke,callFunc,Try.func45,Try.f45]
 . intro w;simp[go_sem,execOp,Act.eval,resolve,Deferred.ofValue,invoke,callFunc,Try.func45,Try.f45]
 intro w hA;unfold toldV;refine YSys.opsX 7 1 (λt B'=>t.getD 6 undef=.pointer (some ⟨b6,0,none⟩)/\B'=upB Bq b6 (.cells #[.bool (toldA 0 x).ok,.int .i64 (toldA 0 x).n,.slice none 0 0] 48)) hA rfl rfl (by kernel_rfl) ?_ ?_
 . intro wc hB X0 hX0;have HX0:=Lib.hid hX0;clear hX0;have k6:=hB.own.box b6 _ H6.out;have c60:wc.cell? ⟨b6,0,none⟩=some (.bool false):=(zq0 k6).trans rfl;have c61:wc.cell? ⟨b6,1,none⟩=some (.int .i64 0):=(zq0 k6).trans rfl;have c62:wc.cell? ⟨b6,2,none⟩=some (.slice none 0 0):=(zq0 k6).trans rfl;have f60:wc.frozen? ⟨b6,0,none⟩=false:=zq5 k6;have f61:wc.frozen? ⟨b6,1,none⟩=false:=zq5 k6;have f62:wc.frozen? ⟨b6,2,none⟩=false:=zq5 k6;have hm:=OMoved.set3 (o1:=0) (o2:=1) (o3:=2) hB.own H6.out (.bool (toldA 0 x).ok) (.int .i64 (toldA 0 x).n) (.slice none 0 0);have HM:=Lib.hid hm;clear hm k6;go_wp2;exact⟨rfl,HX0.out _ _ _ HM.out ⟨rfl,rfl⟩⟩
 rintro t _ w ⟨ht6,rfl⟩ hA;show wpJ Y.J _ _ _ _ _;refine zq1c Y.jc (hret _ _ _ ?_);refine YSys.left hA (v:=.agg #[.bool (toldA 0 x).ok,.int .i64 (toldA 0 x).n,.slice none 0 0]) (λwc hB=>results_cell_row rfl t wc b6 48 _ _ _ ht6 (hB.own.box b6 _ (upB_same _ _ _)) rfl rfl rfl) λw hA=>?_;exact⟨toldA 0 x,λ_=>none,zq4k _ _,λb hb=>absurd rfl hb,hA.drop (zq1u HLE.out HN.out)⟩
end
section
variable {Ml S β:Type} {C:Core Ml S} {ro:Nat->Option Obj} {i:Nat}
theorem eca_c3(Y:YSys Try.prog aM C ro i β){dv:Value}{stb:Nat}{who:Int}{op:OpX}{p:CallP S}(hf:CallF Y dv (stprV stb) who op p){B Bq:Nat->Option Obj}{b5 b6:Nat}(hd:CaB B Bq who op b5 b6){K:Ans->Proc S β}(hK:∀a,Y.sil (K a)){Q:Y.γ->Exit->Act->World->Prop}{s:Y.γ}{w:World}{v:Nat->Value}
 (hret:∀s a w,(Y.Bd Try.f16 (PostR Y K (AnsV 2) B)) s a w->Q s .ret a w) (hpan:∀s ch t w,Y.Dead s ch w->Q s (.panic ch) ⟨t,[]⟩ w)
 (hA:Y.AtB Bq s w ((p.r.bind λx=>Proc.ret (toldA x.1 x.2)).bind K)):wpJ Y.J (caC 2) Q s ⟨caF dv stb who op b5 b6 v,[]⟩ w:=by
 have HKK:=Lib.hid hK;have H5:=Lib.hid hd.h5;have H6:=Lib.hid hd.h6;have HLE:=Lib.hid hd.hle;have HN:=Lib.hid hd.hn;clear hK hd;obtain⟨u_,hu_⟩:∃c,caC 2=c:=⟨_,rfl⟩;have eu_:=hu_;rw[hu_];simp only[caC,caCh,condT,condE,sndC,zqx,headC,tailN,Try.f16,al_od]at eu_;subst eu_;clear hu_;unfold caF;rw[Proc.bind_bind]at hA;refine zqj Y.jc (zqy Y.jc ?_);apply YSys.callR 0 8 4 hA hf.retire (λx=>HKK.out _) rfl rfl rfl (by rfl) rfl rfl rfl
 . intro wc hB X hX;have HX:=Lib.hid hX;clear hX;have c50:wc.cell? ⟨b5,0,none⟩=some (.int .i64 who):=(zq0 (hB.own.box b5 _ H5.out)).trans rfl;have c51:wc.cell? ⟨b5,1,none⟩=some (.int .i64 op.k):=(zq0 (hB.own.box b5 _ H5.out)).trans rfl;have c52:wc.cell? ⟨b5,2,none⟩=some (.int .i64 op.a):=(zq0 (hB.own.box b5 _ H5.out)).trans rfl;have c53:wc.cell? ⟨b5,3,none⟩=some (.int .i64 op.b):=(zq0 (hB.own.box b5 _ H5.out)).trans rfl;have c54:wc.cell? ⟨b5,4,none⟩=some (.int .i64 op.c):=(zq0 (hB.own.box b5 _ H5.out)).trans rfl;go_wp2;exact HX.out _ (Ext1.refl _)
 . intro w;simp[go_sem,execOp,Act.eval,resolve,Deferred.ofValue,invoke,callFunc,Try.func24,Try.f24]
 . intro w;simp[go_sem,execOp,Act.eval,resolve,Deferred.ofValue,invoke,callFunc,Try.func24,Try.f24]
 . intro s' ch w' h;exact hpan _ _ _ _ h
 intro s x w hA;apply YSys.callP 9 2 1 hA (zq3p Y x.1 x.2) rfl rfl rfl (by rfl) rfl rfl rfl
 . intro wc hB X hX;have HX:=Lib.hid hX;clear hX;go_wp2;exact HX.out _ (Ext1.refl _)
 . intro w;simp[go_sem,execOp,Act.eval,resolve,Deferred.ofValue,invoke,callFunc,Try.func45,Try.f45]
 . intro w;simp[go_sem,execOp,Act.eval,resolve,Deferred.ofValue,invoke,callFunc,Try.func45,Try.f45]
 intro w hA;unfold toldV;refine YSys.opsX 12 1 (λt B'=>t.getD 6 undef=.pointer (some ⟨b6,0,none⟩)/\B'=upB Bq b6 (.cells #[.bool (toldA x.1 x.2).ok,.int .i64 (toldA x.1 x.2).n,.slice none 0 0] 48)) hA rfl rfl (by kernel_rfl) ?_ ?_
 . intro wc hB X0 hX0;have HX0:=Lib.hid hX0;clear hX0;have k6:=hB.own.box b6 _ H6.out;have c60:wc.cell? ⟨b6,0,none⟩=some (.bool false):=(zq0 k6).trans rfl;have c61:wc.cell? ⟨b6,1,none⟩=some (.int .i64 0):=(zq0 k6).trans rfl;have c62:wc.cell? ⟨b6,2,none⟩=some (.slice none 0 0):=(zq0 k6).trans rfl;have f60:wc.frozen? ⟨b6,0,none⟩=false:=zq5 k6;have f61:wc.frozen? ⟨b6,1,none⟩=false:=zq5 k6;have f62:wc.frozen? ⟨b6,2,none⟩=false:=zq5 k6;have hm:=OMoved.set3 (o1:=0) (o2:=1) (o3:=2) hB.own H6.out (.bool (toldA x.1 x.2).ok) (.int .i64 (toldA x.1 x.2).n) (.slice none 0 0);have HM:=Lib.hid hm;clear hm k6;go_wp2;exact⟨rfl,HX0.out _ _ _ HM.out ⟨rfl,rfl⟩⟩
 rintro t _ w ⟨ht6,rfl⟩ hA;show wpJ Y.J _ _ _ _ _;refine zq1c Y.jc (hret _ _ _ ?_);refine YSys.left hA (v:=.agg #[.bool (toldA x.1 x.2).ok,.int .i64 (toldA x.1 x.2).n,.slice none 0 0]) (λwc hB=>results_cell_row rfl t wc b6 48 _ _ _ ht6 (hB.own.box b6 _ (upB_same _ _ _)) rfl rfl rfl) λw hA=>?_;exact⟨toldA x.1 x.2,λ_=>none,zq4k _ _,λb hb=>absurd rfl hb,hA.drop (zq1u HLE.out HN.out)⟩
end
section
variable {Ml S β:Type} {C:Core Ml S} {ro:Nat->Option Obj} {i:Nat}
theorem eca_c4(Y:YSys Try.prog aM C ro i β){dv:Value}{stb:Nat}{who:Int}{op:OpX}{p:CallP S}(hf:CallF Y dv (stprV stb) who op p){B Bq:Nat->Option Obj}{b5 b6:Nat}(hd:CaB B Bq who op b5 b6){K:Ans->Proc S β}(hK:∀a,Y.sil (K a)){Q:Y.γ->Exit->Act->World->Prop}{s:Y.γ}{w:World}{v:Nat->Value}
 (hret:∀s a w,(Y.Bd Try.f16 (PostR Y K (AnsV 2) B)) s a w->Q s .ret a w) (hpan:∀s ch t w,Y.Dead s ch w->Q s (.panic ch) ⟨t,[]⟩ w)
 (hA:Y.AtB Bq s w ((p.a.bind λx=>Proc.ret (toldA (if x.1=true then 1 else 0) x.2)).bind K)):wpJ Y.J (caC 3) Q s ⟨caF dv stb who op b5 b6 v,[]⟩ w:=by
 have HKK:=Lib.hid hK;have H5:=Lib.hid hd.h5;have H6:=Lib.hid hd.h6;have HLE:=Lib.hid hd.hle;have HN:=Lib.hid hd.hn;clear hK hd;obtain⟨u_,hu_⟩:∃c,caC 3=c:=⟨_,rfl⟩;have eu_:=hu_;rw[hu_];simp only[caC,caCh,condT,condE,sndC,zqx,headC,tailN,Try.f16,al_od]at eu_;subst eu_;clear hu_;unfold caF;rw[Proc.bind_bind]at hA;refine zqj Y.jc (zqy Y.jc ?_);apply YSys.callR 0 5 5 hA hf.adv (λx=>HKK.out _) rfl rfl rfl (by rfl) rfl rfl rfl
 . intro wc hB X hX;have HX:=Lib.hid hX;clear hX;have c50:wc.cell? ⟨b5,0,none⟩=some (.int .i64 who):=(zq0 (hB.own.box b5 _ H5.out)).trans rfl;have c51:wc.cell? ⟨b5,1,none⟩=some (.int .i64 op.k):=(zq0 (hB.own.box b5 _ H5.out)).trans rfl;have c52:wc.cell? ⟨b5,2,none⟩=some (.int .i64 op.a):=(zq0 (hB.own.box b5 _ H5.out)).trans rfl;have c53:wc.cell? ⟨b5,3,none⟩=some (.int .i64 op.b):=(zq0 (hB.own.box b5 _ H5.out)).trans rfl;have c54:wc.cell? ⟨b5,4,none⟩=some (.int .i64 op.c):=(zq0 (hB.own.box b5 _ H5.out)).trans rfl;go_wp2;exact HX.out _ (Ext1.refl _)
 . intro w;simp[go_sem,execOp,Act.eval,resolve,Deferred.ofValue,invoke,callFunc,Try.func25,Try.f25]
 . intro w;simp[go_sem,execOp,Act.eval,resolve,Deferred.ofValue,invoke,callFunc,Try.func25,Try.f25]
 . intro s' ch w' h;exact hpan _ _ _ _ h
 intro s x w hA;apply YSys.ops0 6 5 hA rfl rfl (by kernel_rfl)
 . intro wc hB;go_wp2;exact⟨rfl,Ext1.refl _,rfl⟩
 intro w hA;show wpJ Y.J _ _ _ _ _;apply YSys.seq0 hA (by kernel_rfl)
 . intro wc hB;go_wp2;exact⟨rfl,Ext1.refl _,rfl⟩
 intro w hA;refine zqj Y.jc ?_;apply YSys.seq0 hA (by kernel_rfl)
 . intro wc hB;go_wp2;exact⟨rfl,Ext1.refl _,rfl⟩
 intro w hA;refine zq13 Y.jc rfl ?_
 by_cases hx:x.1=true
 . rw[if_pos hx];rw[if_pos hx]at hA;clear hx;apply YSys.code0 hA (by kernel_rfl)
   . intro wc hB;go_wp2;exact⟨rfl,Ext1.refl _,rfl⟩
   intro w hA;show wpJ Y.J _ _ _ _ _;refine zqj Y.jc (zqy Y.jc ?_);apply YSys.callP 0 2 1 hA (zq3p Y 1 x.2) rfl rfl rfl (by rfl) rfl rfl rfl
   . intro wc hB X hX;have HX:=Lib.hid hX;clear hX;go_wp2;exact HX.out _ (Ext1.refl _)
   . intro w;simp[go_sem,execOp,Act.eval,resolve,Deferred.ofValue,invoke,callFunc,Try.func45,Try.f45]
   . intro w;simp[go_sem,execOp,Act.eval,resolve,Deferred.ofValue,invoke,callFunc,Try.func45,Try.f45]
   intro w hA;unfold toldV;refine YSys.opsX 3 1 (λt B'=>t.getD 6 undef=.pointer (some ⟨b6,0,none⟩)/\B'=upB Bq b6 (.cells #[.bool (toldA 1 x.2).ok,.int .i64 (toldA 1 x.2).n,.slice none 0 0] 48)) hA rfl rfl (by kernel_rfl) ?_ ?_
   . intro wc hB X0 hX0;have HX0:=Lib.hid hX0;clear hX0;have k6:=hB.own.box b6 _ H6.out;have c60:wc.cell? ⟨b6,0,none⟩=some (.bool false):=(zq0 k6).trans rfl;have c61:wc.cell? ⟨b6,1,none⟩=some (.int .i64 0):=(zq0 k6).trans rfl;have c62:wc.cell? ⟨b6,2,none⟩=some (.slice none 0 0):=(zq0 k6).trans rfl;have f60:wc.frozen? ⟨b6,0,none⟩=false:=zq5 k6;have f61:wc.frozen? ⟨b6,1,none⟩=false:=zq5 k6;have f62:wc.frozen? ⟨b6,2,none⟩=false:=zq5 k6;have hm:=OMoved.set3 (o1:=0) (o2:=1) (o3:=2) hB.own H6.out (.bool (toldA 1 x.2).ok) (.int .i64 (toldA 1 x.2).n) (.slice none 0 0);have HM:=Lib.hid hm;clear hm k6;go_wp2;exact⟨rfl,HX0.out _ _ _ HM.out ⟨rfl,rfl⟩⟩
   rintro t _ w ⟨ht6,rfl⟩ hA;show wpJ Y.J _ _ _ _ _;refine zq1c Y.jc (hret _ _ _ ?_);refine YSys.left hA (v:=.agg #[.bool (toldA 1 x.2).ok,.int .i64 (toldA 1 x.2).n,.slice none 0 0]) (λwc hB=>results_cell_row rfl t wc b6 48 _ _ _ ht6 (hB.own.box b6 _ (upB_same _ _ _)) rfl rfl rfl) λw hA=>?_;exact⟨toldA 1 x.2,λ_=>none,zq4k _ _,λb hb=>absurd rfl hb,hA.drop (zq1u HLE.out HN.out)⟩
 . rw[if_neg hx];rw[if_neg hx]at hA;clear hx;refine zq1y Y.jc ?_;show wpJ Y.J _ _ _ _ _;refine zqj Y.jc (zqy Y.jc ?_);apply YSys.callP 0 2 1 hA (zq3p Y 0 x.2) rfl rfl rfl (by rfl) rfl rfl rfl
   . intro wc hB X hX;have HX:=Lib.hid hX;clear hX;go_wp2;exact HX.out _ (Ext1.refl _)
   . intro w;simp[go_sem,execOp,Act.eval,resolve,Deferred.ofValue,invoke,callFunc,Try.func45,Try.f45]
   . intro w;simp[go_sem,execOp,Act.eval,resolve,Deferred.ofValue,invoke,callFunc,Try.func45,Try.f45]
   intro w hA;unfold toldV;refine YSys.opsX 3 1 (λt B'=>t.getD 6 undef=.pointer (some ⟨b6,0,none⟩)/\B'=upB Bq b6 (.cells #[.bool (toldA 0 x.2).ok,.int .i64 (toldA 0 x.2).n,.slice none 0 0] 48)) hA rfl rfl (by kernel_rfl) ?_ ?_
   . intro wc hB X0 hX0;have HX0:=Lib.hid hX0;clear hX0;have k6:=hB.own.box b6 _ H6.out;have c60:wc.cell? ⟨b6,0,none⟩=some (.bool false):=(zq0 k6).trans rfl;have c61:wc.cell? ⟨b6,1,none⟩=some (.int .i64 0):=(zq0 k6).trans rfl;have c62:wc.cell? ⟨b6,2,none⟩=some (.slice none 0 0):=(zq0 k6).trans rfl;have f60:wc.frozen? ⟨b6,0,none⟩=false:=zq5 k6;have f61:wc.frozen? ⟨b6,1,none⟩=false:=zq5 k6;have f62:wc.frozen? ⟨b6,2,none⟩=false:=zq5 k6;have hm:=OMoved.set3 (o1:=0) (o2:=1) (o3:=2) hB.own H6.out (.bool (toldA 0 x.2).ok) (.int .i64 (toldA 0 x.2).n) (.slice none 0 0);have HM:=Lib.hid hm;clear hm k6;go_wp2;exact⟨rfl,HX0.out _ _ _ HM.out ⟨rfl,rfl⟩⟩
   rintro t _ w ⟨ht6,rfl⟩ hA;show wpJ Y.J _ _ _ _ _;refine zq1c Y.jc (hret _ _ _ ?_);refine YSys.left hA (v:=.agg #[.bool (toldA 0 x.2).ok,.int .i64 (toldA 0 x.2).n,.slice none 0 0]) (λwc hB=>results_cell_row rfl t wc b6 48 _ _ _ ht6 (hB.own.box b6 _ (upB_same _ _ _)) rfl rfl rfl) λw hA=>?_;exact⟨toldA 0 x.2,λ_=>none,zq4k _ _,λb hb=>absurd rfl hb,hA.drop (zq1u HLE.out HN.out)⟩
end
end Go.Proofs
namespace Go.Car
open Go Go.Conc Go.RowKit
theorem hao(w:World)(o:Obj)(b:Nat)(h:b<w.heap.size):(w.alloc o).heap[b]?=w.heap[b]?:=by first|exact heap_alloc_old w o b h|exact heap_alloc_old w o h
structure Wr(X:Nat->Prop)(w w':World):Prop where
 size:w.heap.size<=w'.heap.size
 shp:∀(b:Nat)(c:Array Value)(T:TypeId),w.heap[b]?=some (.cells c T)->∃c',w'.heap[b]?=some (.cells c' T)/\c'.size=c.size
 old:∀b,b<w.heap.size->¬X b->w'.heap[b]?=w.heap[b]?
section
variable {X:Nat->Prop} {w w' w'':World}
theorem Wr.refl (X:Nat->Prop)(w:World):Wr X w w:=⟨Nat.le_refl _,λb c T h=>⟨c,h,rfl⟩,λ_ _ _=>rfl⟩
end
section
variable {P:Program}
theorem app_wr(w:World)(t ty e:TypeId)(i:TypeInfo)(z:Value)(size bytes:Nat)(ht:P.underlying t=some (.slice e))(hi:P.info? e=some i)(hz:i.zero=some z)(hsize:i.size=size)(hby:i.bytes=bytes)(hzs:z.cells.size=size)(hsz:0<size)
 {v:Value} {n:Nat} {xs:List Value} {B:Nat} (hown:w.ownsRow B e size v n xs) (hB:B<=w.heap.size) (pa:Option Addr) (m c:Nat) (news:List Value) (hl:news.length=m*size) (hnews:0<m->∃a,pa=some a/\∀j u,news[j]?=some u->w.cell? (a.add j)=some u) (h1:∀u∈news,u.oneCell'=true)
 (h63:n+m<=maxLen) (hbytes:(n+m)*bytes<=140737488355328):
 ∃v' w',(Builtin.append_ #[t,t] ty #[v,.slice pa m c]).run P w=.ok v' w'/\w'.ownsRow B e size v' (n+m) (xs++news)/\Wr (λb=>v.ownBlock=some b) w w'/\(v'.ownBlock=v.ownBlock\/v'.ownBlock=some w.heap.size)/\
  (∀g o,v.ownBlock=some g->o<n*size->w'.cell? ⟨g,o,none⟩=w.cell? ⟨g,o,none⟩)/\(m=0->w'=w/\v'=v):=by
 subst hsize;subst hby
 have hsmall:n+m<=9223372036854775807:=by simp only[maxLen]at h63;omega
 by_cases hm:m=0
 . subst hm;have hn:news=[]:=List.eq_nil_of_length_eq_zero (by simpa using hl);subst hn;refine⟨v,w,?_,by simpa using hown,Wr.refl _ _,.inl rfl,λ_ _ _ _=>rfl,λ_=>⟨rfl,rfl⟩⟩;rcases hown.2 with⟨rfl,rfl⟩|⟨g,cap,cur,rfl,hbg,hg,hnc,hcm,hcs,htake⟩
   . cases pa<;>simp[Builtin.append_,run_underlying ht,sizeOf,typeInfo,hi,Builtin.lenOf,Builtin.firstCells,loadCells,loadCellsFrom,storeCells]
   . cases pa<;>simp[Builtin.append_,run_underlying ht,sizeOf,typeInfo,hi,Builtin.lenOf,Builtin.firstCells,loadCells,loadCellsFrom,storeCells,hnc]
 . obtain⟨a,rfl,hnw⟩:=hnews (Nat.pos_of_ne_zero hm);clear hnews;rcases hown.2 with⟨rfl,rfl⟩|⟨g,cap,cur,rfl,hbg,hg,hnc,hcm,hcs,htake⟩
   . obtain⟨g,cap,w',hr,h2,h3,h4,_⟩:=run_append_lies (P:=P) w t ty B e i z i.size i.bytes ht hi hz rfl rfl hzs hsz _ 0 xs hown a m c news hl hnw h1 (Nat.pos_of_ne_zero hm) h63 hbytes hB _ rfl;have same:∀b,b<w.heap.size->w'.heap[b]?=w.heap[b]?:=λb hb=>h3.block b hb (by simp[Value.ownBlock]);refine⟨_,_,hr,h2,⟨h3.size,λb c T hb=>⟨c,(same b (zqk hb)).trans hb,rfl⟩,λb hb _=>same b hb⟩,?_,λg o h=>(by simp[Value.ownBlock]at h),λh=>absurd h hm⟩;rcases h4 with h|h
     . simp[Value.ownBlock]at h
     . exact .inr (by simp[Value.ownBlock,h])
   . have hlen:(xs++news).length=(n+m)*i.size:=by rw[List.length_append,hown.1,hl,Nat.add_mul]
     by_cases hroom:n+m<=cap
     . have hfit:n*i.size+news.length<=cur.size:=by rw[hl,hcs,<-Nat.add_mul];exact Nat.mul_le_mul_right _ hroom
       have hr:=run_append_room (P:=P) w t ty e i ht hi g n cap cur hg a m c news hl hnw h1 hroom hfit;have hsz2:(cur.toList.take (n*i.size)++news++cur.toList.drop (n*i.size+news.length)).toArray.size=cur.size:=by
        simp only[List.size_toArray,List.length_append,List.length_take,List.length_drop,Array.length_toList];omega
       have hh:=setRow_heap w g cur (cur.toList.take (n*i.size)++news++cur.toList.drop (n*i.size+news.length)).toArray e (0,0) hg;refine⟨_,_,hr,⟨hlen,.inr ⟨g,cap,_,rfl,hbg,hh,hroom,hcm,by rw[hsz2,hcs],?_⟩⟩,⟨by simp,λb c T hb=>?_,λb _ hx=>setRow_other w g b _ (λe=>hx (by simp[Value.ownBlock,e]))⟩,.inl rfl,λg2 o h ho=>?_,λh=>absurd h hm⟩
       . rw[htake,<-hlen];exact List.take_left
       . by_cases e2:b=g
         . subst e2;have:=hg.symm.trans hb;simp only[al_oi,Obj.cells.injEq]at this;obtain⟨rfl,rfl,-⟩:=this;exact⟨_,hh,hsz2⟩
         . exact⟨c,(setRow_other w g b _ e2).trans hb,rfl⟩
       . simp only[Value.ownBlock,al_oi]at h;subst h;rw[zq0 hg];rw[zq0 hh,al_gl,List.append_assoc,List.getElem?_append_left (by rw[List.length_take,Array.length_toList];omega),List.getElem?_take,if_pos ho,Array.getElem?_toList]
     . have holds:∀j u,xs[j]?=some u->w.cell? ((⟨g,0,none⟩:Addr).add j)=some u:=hown.cells (g:=g) rfl;have hr:=run_append_grow (P:=P) w t ty e i z ht hi hz ⟨g,0,none⟩ n cap xs hown.1 holds a m c news hl hnw (by omega) (by omega) (growslice_fits (by omega) hbytes);have hge:=grownCap_ge w (n+m) cap e;have hcm':grownCap w (n+m) cap e<=maxLen:=grownCap_le_maxLen w (n+m) cap e h63;refine⟨_,_,hr,⟨hlen,.inr ⟨w.heap.size,_,_,rfl,hB,heap_alloc_new w.drew _,hge,hcm',?_,?_⟩⟩,⟨by simp,λb c T hb=>⟨c,(hao w.drew _ b (zqk hb)).trans hb,rfl⟩,λb hb _=>hao w.drew _ b hb⟩,.inr rfl,λg2 o h _=>?_,λh=>absurd h hm⟩
       . simp only[Array.size_append,List.size_toArray,size_zeroCells,hzs,hown.1,hl,<-Nat.add_mul];congr 1;omega
       . simp only[Array.toList_append,List.append_assoc];rw[<-List.append_assoc,<-hlen];exact List.take_left
       . simp only[Value.ownBlock,al_oi]at h;subst h;exact zq18 (hao w.drew _ g (zqk hg))
theorem zqbx{ops:Array Oper}{rest:List Oper}{o:Oper}{a:Act}{Q:Exit->Act->World->Prop}{w w':World}{v:Value}(hgd:o.guard=none)(s x:Operand)(t:TypeId)
 (ho:o.op=.call {callee:=.builtin .append,args:=#[s,x],argTypes:=#[t,t]}) (hr:(Builtin.append_ #[t,t] o.type #[a.eval s,a.eval x]).run P w=.ok v w') (h:wpList P ops Q rest (a.put o.dst v) w'):wpList P ops Q (o::rest) a w:=
 wpList_plain hgd λ_ hK=>by
  unfold Oper.wp execOp;simp only[ho,resolve,invoke,builtin,Sem.run_bind,Sem.run_pure,Result.andThen_ok,List.map_toArray,List.map_cons,List.map_nil,hr];exact hK _ _ h
end
end Go.Car
set_option maxHeartbeats 16000000
namespace Go.Proofs
open Go Go.Conc Go.RowKit Go.Car
section
variable {Ml S β:Type} {C:Core Ml S} {ro:Nat->Option Obj} {i:Nat}
def caF5(dv:Value)(stb:Nat)(who:Int)(op:OpX)(b5 b6 b12:Nat)(dp:Option Addr)(L dc:Nat)(v:Nat->Value):Array Value:=#[dv,.pointer (some ⟨stb,0,none⟩),(actV who op),v 3,v 4,.pointer (some ⟨b5,0,none⟩),.pointer (some ⟨b6,0,none⟩),v 7,v 8,v 9,.slice dp L dc,v 11,.pointer (some ⟨b12,0,none⟩),v 13,v 14,v 15,.int .i64 op.k,v 17,v 18,v 19,v 20,v 21,v 22,v 23,v 24,v 25,v 26,v 27,v 28,v 29,v 30,v 31,v 32,v 33,v 34,v 35,v 36,v 37,v 38,v 39,v 40,v 41,v 42,v 43,v 44,v 45,v 46,v 47,v 48,v 49,v 50,v 51,v 52,v 53,v 54,v 55,v 56,v 57,v 58,v 59,v 60,v 61,v 62,v 63,v 64,v 65,v 66,v 67,v 68,v 69,v 70,v 71,v 72,v 73,v 74,v 75,v 76,v 77,v 78,v 79,v 80,v 81,v 82,v 83,v 84,v 85,v 86,v 87,v 88,v 89,v 90,v 91,v 92,v 93,v 94]
theorem coll_end{ro X Bq:Nat->Option Obj}{b5 b6 b12 stb:Nat}{who:Int}{op:OpX}{dv:Value}{dp:Option Addr}{dc:Nat}{l:List Int}{okv:Bool}{v:Nat->Value}{wc:World}(hB:OwnRep ro (upB (orB X Bq) b12 (.cells #[.bool okv,.int .i64 0,.slice none 0 0] 48)) wc)(h6:Bq b6=some (.cells #[.bool false,.int .i64 0,.slice none 0 0] 48))(h12:orB X Bq b12=none)(hlm:l.length<=mostT)
 (hrow:RowB X 2 1 (.slice dp l.length dc) l.length (l.map (Value.int .i64))) (hXB:∀b,X b≠none->Bq b=none) {R:Act->World->Prop}
 (hR:∀t np nc w' Xn,t.getD 6 undef=.pointer (some ⟨b6,0,none⟩)->RowB Xn 2 1 (.slice np l.length nc) l.length (l.map (Value.int .i64))->(∀b,Xn b≠none->Bq b=none)->OMoved (upB (orB X Bq) b12 (.cells #[.bool okv,.int .i64 0,.slice none 0 0] 48)) wc (upB (orB Xn Bq) b6 (.cells #[.bool okv,.int .i64 0,.slice np l.length nc] 48)) w'->R ⟨t,[]⟩ w'):
 Code.wp Try.prog (tailN 2 (caC 4)) (ends (λ_ _=>False) R) ⟨caF5 dv stb who op b5 b6 b12 dp l.length dc v,[]⟩ wc:=by
 obtain⟨hx6,hx12,hq12⟩:X b6=none/\X b12=none/\Bq b12=none:=by
  refine⟨Classical.byContradiction λy=>(by have:=hXB b6 y;rw[h6]at this;cases this),?_,?_⟩
  . cases hx:X b12 with
    |none=>rfl
    |some o=>simp[orB,hx]at h12
  . cases hx:X b12 with
    |none=>simpa[orB,hx]using h12
    |some o=>simp[orB,hx]at h12
 have hne:b6≠b12:=λe=>by rw[<-e,h6]at hq12;cases hq12
 have k12:wc.heap[b12]?=some (.cells #[.bool okv,.int .i64 0,.slice none 0 0] 48):=hB.box b12 _ (upB_same _ _ _);have k6:wc.heap[b6]?=some (.cells #[.bool false,.int .i64 0,.slice none 0 0] 48):=hB.box b6 _ (zq31 (by simp[orB,hx6,h6]) hne);have hXk:∀b o,X b=some o->wc.heap[b]?=some o:=λb o hb=>hB.box b o (zq31 (by simp[orB,hb]) (λe=>by rw[e,hx12]at hb;cases hb));have hlt:∀b,Bq b≠none->b<wc.heap.size:=λb hb=>by
  refine hB.lt (b:=b) ?_
  by_cases e:b=b12
  . exact absurd (e▸hq12) hb
  . rw[zq1l _ _ e];cases hx:X b with
    |some o=>simp[orB,hx]
    |none=>simpa[orB,hx]using hb
 obtain⟨ti,hti,hz,hz1,hz2⟩:∃ti,Try.prog.info? 2=some ti/\ti.zero=some (.int .i64 0)/\ti.size=1/\ti.bytes=8:=⟨_,rfl,rfl,rfl,rfl⟩;have hll:l.length<=maxLen/\l.length*8<=140737488355328:=by simp only[mostT]at hlm;simp only[maxLen];omega
 have hnews:0<l.length->∃a,dp=some a/\a=⟨a.block,0,none⟩/\∀j u,(l.map (Value.int .i64))[j]?=some u->wc.cell? (a.add j)=some u:=λh0=>by
  rcases hrow.2 with⟨hv,h1,_⟩|⟨g,cap,cur,hv,hXg,h2,_,h4,h5⟩
  . omega
  . cases hv;refine⟨_,rfl,rfl,λj u hj=>?_⟩;have hjl:=(List.getElem?_eq_some_iff.1 hj).1;have hg:=hXk g (.cells cur 2 (0,0)) (by rw[hXg];simp);rw[Go.Proofs.add_at rfl,show 0+j=j from by omega];refine(zq0 hg).trans ?_;rw[<-h5,Nat.mul_one,List.getElem?_take]at hj;simp only[List.length_map]at hjl;rw[if_pos hjl,Array.getElem?_toList]at hj;exact hj
 obtain⟨v',w4,hrun,ho,hw,hat,hkeep,hzero⟩:=app_wr (P:=Try.prog) wc 22 22 2 ti (.int .i64 0) 1 8 (by kernel_rfl) hti hz hz1 hz2 rfl (by decide) (World.ownsRow_nil wc wc.heap.size 2 1) (Nat.le_refl _) dp l.length dc (l.map (Value.int .i64)) (by simp) (λh0=>by obtain⟨a,h1,_,h2⟩:=hnews h0;exact⟨a,h1,h2⟩) (by simp[Value.oneCell']) (by omega) (by omega);have hone:w4.heap.size<=wc.heap.size+1:=by
  by_cases h0:l.length=0
  . rw[(hzero h0).1];omega
  . obtain⟨a,h1,h2,h3⟩:=hnews (by omega);subst h1;rw[h2]at hrun h3;exact zqc5 (P:=Try.prog) 22 22 0 2 ti (.int .i64 0) (by kernel_rfl) hti hz (.slice none 0 0) 0 [] (World.ownsRow_nil wc 0 2 ti.size) ⟨a.block,0,none⟩ l.length dc (l.map (Value.int .i64)) (by rw[hz1];simp) h3 (by simp[Value.oneCell']) (by omega) (by simp only[mostT]at hlm;simp only[maxLen];omega) (by rw[hz2];simp only[mostT]at hlm;omega) hrun
 obtain⟨np,nc,rfl,-,-⟩:=zq1q ho;rw[Nat.zero_add,List.nil_append]at ho;rw[Nat.zero_add]at hrun;obtain⟨Xn,n1,n2,n3⟩:=zq5b ho;have hold4:∀b,b<wc.heap.size->w4.heap[b]?=wc.heap[b]?:=λb hb=>hw.old b hb (λe=>by cases e);have k12':w4.heap[b12]?=some (.cells #[.bool okv,.int .i64 0,.slice none 0 0] 48):=(hold4 b12 (zqg k12)).trans k12;obtain⟨w9,hw9⟩:∃w9,w4.setCell ⟨b12,2,none⟩ (.slice np l.length nc)=w9:=⟨_,rfl⟩;have hs9:w9.heap.size=w4.heap.size:=by rw[<-hw9,zq12]
 have ho9:∀b,b≠b12->w9.heap[b]?=w4.heap[b]?:=λb hb=>by rw[<-hw9];exact zqh _ _ _ _ hb
 have k129:w9.heap[b12]?=some (.cells #[.bool okv,.int .i64 0,.slice np l.length nc] 48):=by rw[<-hw9];exact(zqq _ _ _ _ k12').trans rfl
 have k69:w9.heap[b6]?=some (.cells #[.bool false,.int .i64 0,.slice none 0 0] 48):=(ho9 b6 hne).trans ((hold4 b6 (zqg k6)).trans k6);have c122:wc.cell? ⟨b12,2,none⟩=some (.slice none 0 0):=(zq0 k12).trans rfl;have d122:w4.cell? ⟨b12,2,none⟩=some (.slice none 0 0):=(zq0 k12').trans rfl;have f122:w4.frozen? ⟨b12,2,none⟩=false:=zq5 k12';have hdp:∀a,dp=some a->a.block≠b12/\a.block≠b6/\X a.block≠none:=λa ha=>by
  rcases hrow.2 with⟨hv,h1,_⟩|⟨g,cap,cur,hv,hXg,h2,_,h4,h5⟩
  . simp only[Value.slice.injEq]at hv;rw[hv.1]at ha;cases ha
  . cases hv;cases ha;have hXs:X g=some (.cells cur 2 (0,0)):=by rw[hXg];simp
    exact⟨(λe=>by rw[show g=b12 from e,hx12]at hXs;cases hXs),(λe=>by rw[show g=b6 from e,hx6]at hXs;cases hXs),(by show X g≠none;rw[hXs];simp)⟩
 have hX9:∀j,j<l.length->∃g cur,dp=some ⟨g,0,none⟩/\g≠b12/\g≠b6/\X g≠none/\w9.heap[g]?=some (.cells cur 2)/\l.length<=cur.size:=λj hj=>by
  rcases hrow.2 with⟨hv,h1,_⟩|⟨g,cap,cur,hv,hXg,h2,_,h4,h5⟩
  . omega
  . cases hv;have hXs:X g=some (.cells cur 2 (0,0)):=by rw[hXg];simp
    have hg12:g≠b12:=λe=>by rw[e,hx12]at hXs;cases hXs
    have hg6:g≠b6:=λe=>by rw[e,hx6]at hXs;cases hXs
    have hg:=hXk g _ hXs;exact⟨g,cur,rfl,hg12,hg6,by rw[hXs];simp,(ho9 g hg12).trans ((hold4 g (zqg hg)).trans hg),by omega⟩
 have HALL:=Lib.hid (And.intro hlm (And.intro hx6 (And.intro hq12 (And.intro hne (And.intro hold4 (And.intro hs9 (And.intro ho9 (And.intro k129 (And.intro k69 (And.intro hX9 (And.intro n1 (And.intro n2 (And.intro n3 (And.intro hlt (And.intro hw.size (And.intro hone hdp))))))))))))))));have HB:=Lib.hid (And.intro hB (And.intro hXB hXk));have HR:=Lib.hid hR;have HRUN:=Lib.hid hrun;have H6N:=Lib.hid h6;have HB12:=Lib.hid (zqg k12);clear hone hdp hnews hzero hB h6 h12 hlm hrow hXB hR hx6 hx12 hq12 hne k12 k6 hXk hlt hti hz hz1 hz2 hll hrun ho hw hat hkeep n1 n2 n3 hold4 k12' hs9 ho9 k129 k69 hX9;obtain⟨u_,hu_⟩:∃c,tailN 2 (caC 4)=c:=⟨_,rfl⟩;have eu_:=hu_;rw[hu_];simp only[caC,caCh,condT,condE,sndC,zqx,headC,tailN,Try.f16,al_od]at eu_;subst eu_;clear hu_;unfold caF5
 go_wp2_with (at_builtin;go_loud (refine zqbx rfl (.tmp 80) (.tmp 81) 22 rfl HRUN.out ?_))
 clear hw9 d122 f122 c122 HRUN
 go_loopg [13] l.length (λq s13 wr=>∃j:Nat,q=l.length - j/\j<=l.length/\s13=.int .i64 j/\wr.heap.size=w9.heap.size/\(∀b,(∀a,dp=some a->a.block≠b)->wr.heap[b]?=w9.heap[b]?)/\∀g,dp=some ⟨g,0,none⟩->∃c',(0<l.length->wr.heap[g]?=some (.cells c' 2))/\l.length<=c'.size)
 case atStart=>
  refine⟨0,rfl,Nat.zero_le _,rfl,rfl,λ_ _=>rfl,λg hg=>?_⟩
  by_cases h0:0<l.length
  . obtain⟨g',cur,e,_,_,_,h2,h3⟩:=HALL.out.2.2.2.2.2.2.2.2.2.1 0 h0;rw[hg]at e;cases e;exact⟨cur,λ_=>h2,h3⟩
  . exact⟨#[],λh=>absurd h h0,by omega⟩
 case round=>
  obtain⟨j,hq,hj,rfl,hR1,hR2,hR3⟩:=hrel
  by_cases hlt:j<l.length
  . have hlt':(j:Int)<(l.length:Int):=by omega
    have hj0:(0:Int)<=j:=by omega
    obtain⟨g,cur,rfl,_,_,_,_,_⟩:=HALL.out.2.2.2.2.2.2.2.2.2.1 j hlt;obtain⟨c',h1,h2⟩:=hR3 g rfl;have hg:=h1 (by omega);obtain⟨y,hy⟩:∃y,c'[j]?=some y:=⟨_,Array.getElem?_eq_getElem (by omega)⟩;have cj:wr.cell? ⟨g,j,none⟩=some y:=(zq0 hg).trans hy;have fj:wr.frozen? ⟨g,j,none⟩=false:=zq5 hg;have H5:=Lib.hid (And.intro hq (And.intro hlt (And.intro hR1 (And.intro hR2 (And.intro hg h2)))));have HLM:=Lib.hid HALL.out.1;clear hq hR1 hR2 hR3 h1 h2 hg hy HALL HB HR;go_wp2;go_roundg (l.length - (j+1))
    case measure=>have:=H5.out;omega
    case rel=>
     obtain⟨hq,hlt,hR1,hR2,hg,h2⟩:=H5.out;refine⟨j+1,rfl,hlt,congrArg (Value.int .i64) (by have:=HLM.out;simp only[mostT]at this;simp only[wrap64];omega),by rw[zq12];exact hR1,λb hb=>?_,λg' hg'=>?_⟩
     . exact(zqh wr ⟨g,j,none⟩ _ b (λe=>hb ⟨g,0,none⟩ rfl e.symm)).trans (hR2 b hb)
     . cases hg';exact⟨_,λ_=>zqq _ _ _ _ hg,by simpa using h2⟩
  . obtain rfl:j=l.length:=by omega
    obtain⟨hlm,hx6,hq12,hne,hold4,hs9,ho9,k129,k69,hX9,n1,n2,n3,hlt9,hsz4,hone,hdp⟩:=HALL.out;have k12r:=(hR2 b12 λa ha=>(hdp a ha).1).trans k129;have k6r:=(hR2 b6 λa ha=>(hdp a ha).2.1).trans k69;have p0:=(zq0 (off:=0) k12r).trans rfl;have p1:=(zq0 (off:=1) k12r).trans rfl;have p2:=(zq0 (off:=2) k12r).trans rfl;have q0:=(zq0 (off:=0) k6r).trans rfl;have q1:=(zq0 (off:=1) k6r).trans rfl;have q2:=(zq0 (off:=2) k6r).trans rfl;have g0:=zq5 (off:=0) k6r;have g1:=zq5 (off:=1) k6r;have g2:=zq5 (off:=2) k6r;have HZ:=Lib.hid (And.intro hR1 (And.intro hR2 k6r));clear hq hj hlt hR1 hR2 hR3 k12r k6r hlm hx6 hq12 hne hold4 hs9 ho9 k129 k69 hX9 n1 n2 n3 hlt9 hsz4 hone hdp;go_wp2;obtain⟨hlm,hx6,hq12,hne,hold4,hs9,ho9,k129,k69,hX9,n1,n2,n3,hlt9,hsz4,hone,hdp⟩:=HALL.out;obtain⟨hR1,hR2,k6r⟩:=HZ.out;have z6:=zqq _ b6 2 (.slice np l.length nc) (zqq _ b6 1 (.int .i64 0) (zqq _ b6 0 (.bool okv) k6r));have zo:∀b,b≠b6->(((wr.setCell ⟨b6,0,none⟩ (.bool okv)).setCell ⟨b6,1,none⟩ (.int .i64 0)).setCell ⟨b6,2,none⟩ (.slice np l.length nc)).heap[b]?=wr.heap[b]?:=λb hb=>by rw[zqh _ _ _ _ hb,zqh _ _ _ _ hb,zqh _ _ _ _ hb]
    have zs:(((wr.setCell ⟨b6,0,none⟩ (.bool okv)).setCell ⟨b6,1,none⟩ (.int .i64 0)).setCell ⟨b6,2,none⟩ (.slice np l.length nc)).heap.size=wr.heap.size:=by simp only[zq12]
    have hdn:∀b,Xn b≠none->Bq b=none:=λb hb=>Classical.byContradiction λy=>by have:=hlt9 b y;have:=n3 b hb;omega
    have keep:∀b,b≠b6->b≠b12->X b=none->(((wr.setCell ⟨b6,0,none⟩ (.bool okv)).setCell ⟨b6,1,none⟩ (.int .i64 0)).setCell ⟨b6,2,none⟩ (.slice np l.length nc)).heap[b]?=w4.heap[b]?:=λb h1 h2 h3=>by
     rw[zo b h1,hR2 b (λa ha e=>(hdp a ha).2.2 (e▸h3)),ho9 b h2]
    have hXlt:∀b,X b≠none->b<wc.heap.size:=λb hb=>by
     cases hx:X b with
     |none=>exact absurd hx hb
     |some o=>exact zqg (HB.out.2.2 b o hx)
    refine⟨rfl,HR.out _ _ _ _ Xn rfl n1 hdn ⟨by omega,by omega,λb hb hn=>?_,λb o hb=>?_,λb hb=>?_⟩⟩
    . have e12:b≠b12:=λe=>by rw[e,upB_same]at hn;cases hn
      rw[zq1l _ _ e12]at hn;have ex:X b=none:=by
       cases hx:X b with
       |none=>rfl
       |some o=>simp[orB,hx]at hn
      have e6:b≠b6:=λe=>by
       subst e;simp only[orB,ex]at hn;exact absurd hn (H6N.out▸by simp)
      rw[keep b e6 e12 ex];exact hold4 b hb
    . by_cases e6:b=b6
      . subst e6;rw[upB_same]at hb;rw[z6,<-hb];rfl
      . rw[zq1l _ _ e6]at hb;cases hxn:Xn b with
        |some o'=>
         have e:o'=o:=by simpa[orB,hxn]using hb
         subst e;have h3:=n3 b (by rw[hxn];simp);have ex:X b=none:=Classical.byContradiction λy=>by have:=hXlt b y;omega
         have e12:b≠b12:=λe=>by have:=HB12.out;omega
         rw[keep b e6 e12 ex];exact(n2 b _ hxn).1
        |none=>
         have hq:Bq b=some o:=by simpa[orB,hxn]using hb
         have e12:b≠b12:=λe=>by rw[e,hq12]at hq;cases hq
         have ex:X b=none:=Classical.byContradiction λy=>by have:=HB.out.2.1 b y;rw[hq]at this;cases this
         rw[keep b e6 e12 ex,hold4 b (hlt9 b (by rw[hq];simp))];exact HB.out.1.box b o (zq31 (by simp[orB,ex,hq]) e12)
    . by_cases e6:b=b6
      . subst e6
        left
        rw[zq1l _ _ hne];simp only[orB,hx6];rw[H6N.out];simp
      . rw[zq1l _ _ e6]at hb;cases hxn:Xn b with
        |some o'=>exact .inr (n3 b (by rw[hxn];simp))
        |none=>
         left
         have hq:Bq b≠none:=by simpa[orB,hxn]using hb
         have e12:b≠b12:=λe=>hq (e▸hq12);rw[zq1l _ _ e12];cases hx:X b with
         |some o=>simp[orB,hx]
         |none=>simpa[orB,hx]using hq
theorem eca_c5(Y:YSys Try.prog aM C ro i β){dv:Value}{stb:Nat}{who:Int}{op:OpX}{p:CallP S}(hf:CallF Y dv (stprV stb) who op p){B Bq:Nat->Option Obj}{b5 b6:Nat}(hd:CaB B Bq who op b5 b6){K:Ans->Proc S β}(hK:∀a,Y.sil (K a)){Q:Y.γ->Exit->Act->World->Prop}{s:Y.γ}{w:World}{v:Nat->Value}
 (hret:∀s a w,(Y.Bd Try.f16 (PostR Y K (AnsV 2) B)) s a w->Q s .ret a w) (hpan:∀s ch t w,Y.Dead s ch w->Q s (.panic ch) ⟨t,[]⟩ w)
 (hA:Y.AtB Bq s w ((p.c.bind λx=>Proc.ret ⟨(toldA 0 x.2).ok,0,x.1⟩).bind K)):wpJ Y.J (caC 4) Q s ⟨caF dv stb who op b5 b6 v,[]⟩ w:=by
 have HKK:=Lib.hid hK;have H5:=Lib.hid hd.h5;have H6:=Lib.hid hd.h6;have HLE:=Lib.hid hd.hle;have HN:=Lib.hid hd.hn;clear hK hd;obtain⟨u_,hu_⟩:∃c,caC 4=c:=⟨_,rfl⟩;have eu_:=hu_;rw[hu_];simp only[caC,caCh,condT,condE,sndC,zqx,headC,tailN,Try.f16,al_od]at eu_;subst eu_;clear hu_;unfold caF;rw[Proc.bind_bind]at hA;refine zqj Y.jc (zqy Y.jc ?_);apply YSys.callQ 0 5 5 hA hf.coll (λx=>HKK.out _) rfl rfl rfl (by rfl) rfl rfl rfl
 . intro wc hB X hX;have HX:=Lib.hid hX;clear hX;have c50:wc.cell? ⟨b5,0,none⟩=some (.int .i64 who):=(zq0 (hB.own.box b5 _ H5.out)).trans rfl;have c51:wc.cell? ⟨b5,1,none⟩=some (.int .i64 op.k):=(zq0 (hB.own.box b5 _ H5.out)).trans rfl;have c52:wc.cell? ⟨b5,2,none⟩=some (.int .i64 op.a):=(zq0 (hB.own.box b5 _ H5.out)).trans rfl;have c53:wc.cell? ⟨b5,3,none⟩=some (.int .i64 op.b):=(zq0 (hB.own.box b5 _ H5.out)).trans rfl;have c54:wc.cell? ⟨b5,4,none⟩=some (.int .i64 op.c):=(zq0 (hB.own.box b5 _ H5.out)).trans rfl;go_wp2;exact HX.out _ (Ext1.refl _)
 . intro w;simp[go_sem,execOp,Act.eval,resolve,Deferred.ofValue,invoke,callFunc,Try.func26,Try.f26]
 . intro w;simp[go_sem,execOp,Act.eval,resolve,Deferred.ofValue,invoke,callFunc,Try.func26,Try.f26]
 . intro s' ch w' h;exact hpan _ _ _ _ h
 intro s x vv X w hrel hXB hA;obtain⟨dw,rfl,hrow,hlm⟩:=hrel;obtain⟨l,xe⟩:=x;simp only at hrow hlm hA |-;have HLM:=Lib.hid hlm;clear hlm;have hrf:=hrow;obtain⟨dp,dc,rfl⟩:∃dp dc,dw=.slice dp l.length dc:=by
  rcases hrow.2 with⟨a,b,_⟩|⟨g,cap,cur,a,_⟩
  . exact⟨none,0,by rw[a,b]⟩
  . exact⟨_,cap,a⟩
 have hx6:X b6=none:=Classical.byContradiction λy=>by have:=hXB b6 y;rw[H6.out]at this;cases this
 have h6x:orB X Bq b6=some (.cells #[.bool false,.int .i64 0,.slice none 0 0] 48):=by simp[orB,hx6,H6.out]
 have H6X:=Lib.hid h6x;have HRW:=Lib.hid (And.intro hrow (And.intro hXB hx6));clear h6x hrow hXB hrf hx6;apply YSys.ops0 6 5 hA rfl rfl (by kernel_rfl)
 . intro wc hB;go_wp2;exact⟨rfl,Ext1.refl _,rfl⟩
 intro w hA;show wpJ Y.J _ _ _ _ _;refine zqj Y.jc (zqy Y.jc ?_);apply YSys.callP 0 1 2 hA (zq3p Y 0 xe) rfl rfl rfl (by rfl) rfl rfl rfl
 . intro wc hB X hX;have HX:=Lib.hid hX;clear hX;go_wp2;exact HX.out _ (Ext1.refl _)
 . intro w;simp[go_sem,execOp,Act.eval,resolve,Deferred.ofValue,invoke,callFunc,Try.func45,Try.f45]
 . intro w;simp[go_sem,execOp,Act.eval,resolve,Deferred.ofValue,invoke,callFunc,Try.func45,Try.f45]
 intro w hA;unfold toldV;refine YSys.opsX 2 2 (λt B'=>∃b12:Nat,t=caF5 dv stb who op b5 b6 b12 dp l.length dc (λj=>t.getD j undef)/\(orB X Bq) b12=none/\B'=upB (orB X Bq) b12 (.cells #[.bool (toldA 0 xe).ok,.int .i64 (toldA 0 xe).n,.slice none 0 0] 48)) hA rfl rfl (by kernel_rfl) ?_ ?_
 . intro wc hB X0 hX0;have HX0:=Lib.hid hX0;clear hX0;have hm:=OMoved.push (o:=.cells #[.bool (toldA 0 xe).ok,.int .i64 (toldA 0 xe).n,.slice none 0 0] 48) hB.own (Ext1.alloc wc (.cells #[.bool (toldA 0 xe).ok,.int .i64 (toldA 0 xe).n,.slice none 0 0] 48)) (Nat.le_refl _) (by rw[zq6];simp);have hf:=hB.own.fresh (Nat.le_refl _);have HM:=Lib.hid (And.intro hm hf);clear hm hf;go_wp2;exact⟨rfl,HX0.out _ _ _ HM.out.1 ⟨wc.heap.size,by kernel_rfl,HM.out.2,rfl⟩⟩
 rintro t _ w ⟨b12,ht,hb12,rfl⟩ hA;obtain⟨v2,hv2⟩:∃v2:Nat->Value,(λj=>t.getD j undef)=v2:=⟨_,rfl⟩;rw[hv2]at ht;clear hv2;subst ht;have HB12:=Lib.hid hb12;clear hb12;have hok0:(toldA 0 xe).n=0:=by unfold toldA;split<;>rfl
 rw[hok0]at hA;clear hok0;obtain⟨okv,hokv⟩:∃okv,(toldA 0 xe).ok=okv:=⟨_,rfl⟩;rw[hokv]at hA;clear hokv;refine YSys.endX (λt B'=>∃Xn np nc,t.getD 6 undef=.pointer (some ⟨b6,0,none⟩)/\RowB Xn 2 1 (.slice np l.length nc) l.length (l.map (Value.int .i64))/\(∀b,Xn b≠none->Bq b=none)/\B'=upB (orB Xn Bq) b6 (.cells #[.bool okv,.int .i64 0,.slice np l.length nc] 48)) hA (by kernel_rfl) ?_ ?_
 . intro wc hB X0 hX0;refine coll_end hB.own H6.out HB12.out HLM.out HRW.out.1 HRW.out.2.1 λt np nc w' Xn h1 h2 h3 h4=>hX0 t _ w' h4 ⟨Xn,np,nc,h1,h2,h3,rfl⟩
 . rintro t _ w ⟨Xn,np,nc,ht6,hrn,hdn,rfl⟩ hA;refine hret _ _ _ ?_;refine YSys.left hA (v:=.agg #[.bool okv,.int .i64 0,.slice np l.length nc]) (λwc hB=>results_cell_row rfl t wc b6 48 _ _ _ ht6 (hB.own.box b6 _ (upB_same _ _ _)) rfl rfl rfl) λw hA=>?_;refine⟨⟨okv,0,l⟩,Xn,⟨_,rfl,hrn⟩,λb hb=>?_,hA.drop λb o hb=>?_⟩
   . have:=hdn b hb;cases ho:B b with
     |none=>rfl
     |some o=>rw[HLE.out b o ho]at this;cases this
   . by_cases e:b=b6
     . subst e;have hx:Xn b=none:=Classical.byContradiction λy=>by have:=hdn b y;rw[H6.out]at this;cases this
       rw[orB,hx]at hb;rw[HN.out]at hb;cases hb
     . rw[zq1l _ _ e];cases hx:Xn b with
       |some o'=>simp only[orB,hx]at hb |-;exact hb
       |none=>simp only[orB,hx]at hb |-;exact HLE.out b o hb
end
section
variable {Ml S β:Type} {C:Core Ml S} {ro:Nat->Option Obj} {i:Nat}
theorem zq7d(Y:YSys Try.prog aM C ro i β){dv:Value}{stb:Nat}{who:Int}{op:OpX}{p:CallP S}(hf:CallF Y dv (stprV stb) who op p):
 SpecR Y 16 #[dv,.pointer (some ⟨stb,0,none⟩),actV who op] (callE p op) (AnsV 2):=by
 refine SpecR.of Try.func16 rfl ?_;intro K s B w hK hA;simp only[zqo,Try.ntmps16,List.size_toArray,List.length_cons,List.length_nil,Nat.reduceAdd,Nat.reduceSub,Array.replicate_succ,Array.replicate_zero,List.push_toArray,List.append_toArray,List.nil_append,List.cons_append];unfold callE at hA;refine zqj Y.jc (zqy Y.jc ?_);refine YSys.preX 0 1 1 (λt B'=>∃(b5:Nat)(v:Nat->Value),t=#[dv,.pointer (some ⟨stb,0,none⟩),(actV who op),v 3,v 4,.pointer (some ⟨b5,0,none⟩),v 6,v 7,v 8,v 9,v 10,v 11,v 12,v 13,v 14,v 15,v 16,v 17,v 18,v 19,v 20,v 21,v 22,v 23,v 24,v 25,v 26,v 27,v 28,v 29,v 30,v 31,v 32,v 33,v 34,v 35,v 36,v 37,v 38,v 39,v 40,v 41,v 42,v 43,v 44,v 45,v 46,v 47,v 48,v 49,v 50,v 51,v 52,v 53,v 54,v 55,v 56,v 57,v 58,v 59,v 60,v 61,v 62,v 63,v 64,v 65,v 66,v 67,v 68,v 69,v 70,v 71,v 72,v 73,v 74,v 75,v 76,v 77,v 78,v 79,v 80,v 81,v 82,v 83,v 84,v 85,v 86,v 87,v 88,v 89,v 90,v 91,v 92,v 93,v 94]/\(B) b5=none/\B'=upB (B) b5 (.cells (actC who op) 46)) hA rfl rfl rfl rfl ?_ ?_
 . intro wc hB X0 hX0;have HX0:=Lib.hid hX0;clear hX0;have hm:=OMoved.push (o:=.cells (actC who op) 46) hB.own (Ext1.alloc wc (.cells (actC who op) 46)) (Nat.le_refl _) (by rw[zq6];simp);have hf:=hB.own.fresh (Nat.le_refl _);have HM:=Lib.hid (And.intro hm hf);clear hm hf;unfold actV;go_wp2;exact HX0.out _ _ _ HM.out.1 ⟨_,(λ_=>undef),rfl,HM.out.2,rfl⟩
 clear hA;rintro _ _ w ⟨b5,v,rfl,hb5,rfl⟩ hA;refine YSys.opsX 1 1 (λt B'=>∃(b6:Nat)(v:Nat->Value),t=#[dv,.pointer (some ⟨stb,0,none⟩),(actV who op),v 3,v 4,.pointer (some ⟨b5,0,none⟩),.pointer (some ⟨b6,0,none⟩),v 7,v 8,v 9,v 10,v 11,v 12,v 13,v 14,v 15,v 16,v 17,v 18,v 19,v 20,v 21,v 22,v 23,v 24,v 25,v 26,v 27,v 28,v 29,v 30,v 31,v 32,v 33,v 34,v 35,v 36,v 37,v 38,v 39,v 40,v 41,v 42,v 43,v 44,v 45,v 46,v 47,v 48,v 49,v 50,v 51,v 52,v 53,v 54,v 55,v 56,v 57,v 58,v 59,v 60,v 61,v 62,v 63,v 64,v 65,v 66,v 67,v 68,v 69,v 70,v 71,v 72,v 73,v 74,v 75,v 76,v 77,v 78,v 79,v 80,v 81,v 82,v 83,v 84,v 85,v 86,v 87,v 88,v 89,v 90,v 91,v 92,v 93,v 94]/\(upB B b5 (.cells (actC who op) 46)) b6=none/\B'=upB (upB B b5 (.cells (actC who op) 46)) b6 (.cells #[.bool false,.int .i64 0,.slice none 0 0] 48)) hA rfl rfl (by kernel_rfl) ?_ ?_
 . intro wc hB X0 hX0;have HX0:=Lib.hid hX0;clear hX0;have hm:=OMoved.push (o:=.cells #[.bool false,.int .i64 0,.slice none 0 0] 48) hB.own (Ext1.alloc wc (.cells #[.bool false,.int .i64 0,.slice none 0 0] 48)) (Nat.le_refl _) (by rw[zq6];simp);have hf:=hB.own.fresh (Nat.le_refl _);have HM:=Lib.hid (And.intro hm hf);clear hm hf;go_wp2;exact⟨rfl,HX0.out _ _ _ HM.out.1 ⟨_,v,rfl,HM.out.2,rfl⟩⟩
 clear hA;rintro _ _ w ⟨b6,v,rfl,hb6,rfl⟩ hA;have h5:(upB (upB B b5 (.cells (actC who op) 46)) b6 (.cells #[.bool false,.int .i64 0,.slice none 0 0] 48)) b5=some (.cells (actC who op) 46):=zq31 (upB_same _ _ _) (zq65 (upB_same _ _ _) hb6);have h6:(upB (upB B b5 (.cells (actC who op) 46)) b6 (.cells #[.bool false,.int .i64 0,.slice none 0 0] 48)) b6=some (.cells #[.bool false,.int .i64 0,.slice none 0 0] 48):=upB_same _ _ _;have hB6:B b6=none:=Classical.byContradiction λh=>by
  cases ho:B b6 with
  |none=>exact h ho
  |some o=>rw[zq3q (o:=.cells (actC who op) 46) hb5 b6 o ho]at hb6;cases hb6
 have hle:∀x y,B x=some y->(upB (upB B b5 (.cells (actC who op) 46)) b6 (.cells #[.bool false,.int .i64 0,.slice none 0 0] 48)) x=some y:=zq1u (zq3q (o:=.cells (actC who op) 46) hb5) hB6;obtain⟨Bq,hBq⟩:∃X,upB (upB B b5 (.cells (actC who op) 46)) b6 (.cells #[.bool false,.int .i64 0,.slice none 0 0] 48)=X:=⟨_,rfl⟩;rw[hBq]at h5 h6 hle hA;have HD:=Lib.hid (CaB.mk h5 h6 hle hB6);have H5:=Lib.hid h5;have HK:=Lib.hid hK;clear h5 h6 hle hBq hb5 hb6 hB6 hK;show wpJ Y.J _ _ _ _ _;refine zqj Y.jc ?_;refine YSys.seqX (λt B'=>(∃v,t=caF dv stb who op b5 b6 v)/\B'=Bq) hA (by kernel_rfl) ?_ ?_
 . intro wc hB X0 hX0;have HX0:=Lib.hid hX0;clear hX0;have HOM:=Lib.hid (OMoved.ext hB.own (Ext1.refl wc));have c50:wc.cell? ⟨b5,0,none⟩=some (.int .i64 who):=(zq0 (hB.own.box b5 _ H5.out)).trans rfl;have c51:wc.cell? ⟨b5,1,none⟩=some (.int .i64 op.k):=(zq0 (hB.own.box b5 _ H5.out)).trans rfl;have c52:wc.cell? ⟨b5,2,none⟩=some (.int .i64 op.a):=(zq0 (hB.own.box b5 _ H5.out)).trans rfl;have c53:wc.cell? ⟨b5,3,none⟩=some (.int .i64 op.b):=(zq0 (hB.own.box b5 _ H5.out)).trans rfl;have c54:wc.cell? ⟨b5,4,none⟩=some (.int .i64 op.c):=(zq0 (hB.own.box b5 _ H5.out)).trans rfl;go_wp2;exact⟨rfl,HX0.out _ _ _ HOM.out ⟨⟨λj=>if j=14\/j=15 then .pointer (some ⟨b5,1,none⟩)else v j,rfl⟩,rfl⟩⟩
 rintro _ Bz w ⟨⟨v,rfl⟩,hBz⟩ hA;rw[hBz]at hA;clear hBz;refine zq2f Y.jc ?_;refine YSys.seqX (λt B'=>(∃v,t=(caF dv stb who op b5 b6 v).setIfInBounds 17 (.bool (op.k==1)))/\B'=Bq) hA (by kernel_rfl) ?_ ?_
 . intro wc hB X0 hX0;have HX0:=Lib.hid hX0;clear hX0;have HOM:=Lib.hid (OMoved.ext hB.own (Ext1.refl wc));unfold caF;go_wp2;exact⟨rfl,HX0.out _ _ _ HOM.out ⟨⟨λj=>if j=18 then .bool (op.k==1)else v j,rfl⟩,rfl⟩⟩
 rintro _ Bz w ⟨⟨v',hv⟩,hBz⟩ hA;have hcd:(caF dv stb who op b5 b6 v').setIfInBounds 17 (.bool (op.k==1))=caF dv stb who op b5 b6 (λj=>if j=17 then .bool (op.k==1)else v' j):=rfl;rw[hcd]at hv;subst hv;rw[hBz]at hA;clear hBz hcd v;obtain⟨v,hv⟩:∃v:Nat->Value,(λj=>if j=17 then .bool (op.k==1)else v' j)=v:=⟨_,rfl⟩;have hvk:v 17=.bool (op.k==1):=by rw[<-hv];rfl
 rw[hv];clear hv;refine zq13 Y.jc (t:=(op.k==1)) (by show(caF dv stb who op b5 b6 v)[17]?.getD undef=_;unfold caF;exact hvk) ?_;clear hvk v'
 by_cases hk1:op.k=1
 . rw[if_pos (by simp[hk1])];rw[if_pos hk1]at hA;refine eca_c1 Y hf HD.out HK.out (λs a w h=>?_) (λs ch a w h=>?_) hA
   . simp only[thenJ,zq1e,bodyC];exact h
   . exact⟨rfl,h⟩
 rw[if_neg (by simp[hk1])];rw[if_neg hk1]at hA;clear hk1;refine YSys.seqX (λt B'=>(∃v,t=(caF dv stb who op b5 b6 v).setIfInBounds 28 (.bool (op.k==2)))/\B'=Bq) hA (by kernel_rfl) ?_ ?_
 . intro wc hB X0 hX0;have HX0:=Lib.hid hX0;clear hX0;have HOM:=Lib.hid (OMoved.ext hB.own (Ext1.refl wc));unfold caF;go_wp2;exact⟨rfl,HX0.out _ _ _ HOM.out ⟨⟨λj=>if j=29 then .bool (op.k==2)else v j,rfl⟩,rfl⟩⟩
 rintro _ Bz w ⟨⟨v',hv⟩,hBz⟩ hA;have hcd:(caF dv stb who op b5 b6 v').setIfInBounds 28 (.bool (op.k==2))=caF dv stb who op b5 b6 (λj=>if j=28 then .bool (op.k==2)else v' j):=rfl;rw[hcd]at hv;subst hv;rw[hBz]at hA;clear hBz hcd v;obtain⟨v,hv⟩:∃v:Nat->Value,(λj=>if j=28 then .bool (op.k==2)else v' j)=v:=⟨_,rfl⟩;have hvk:v 28=.bool (op.k==2):=by rw[<-hv];rfl
 rw[hv];clear hv;refine zq13 Y.jc (t:=(op.k==2)) (by show(caF dv stb who op b5 b6 v)[28]?.getD undef=_;unfold caF;exact hvk) ?_;clear hvk v'
 by_cases hk2:op.k=2
 . rw[if_pos (by simp[hk2])];rw[if_pos hk2]at hA;refine eca_c2 Y hf HD.out HK.out (λs a w h=>?_) (λs ch a w h=>?_) hA
   . simp only[thenJ,zq1e,bodyC];exact h
   . exact⟨rfl,h⟩
 rw[if_neg (by simp[hk2])];rw[if_neg hk2]at hA;clear hk2;refine YSys.seqX (λt B'=>(∃v,t=(caF dv stb who op b5 b6 v).setIfInBounds 37 (.bool (op.k==3)))/\B'=Bq) hA (by kernel_rfl) ?_ ?_
 . intro wc hB X0 hX0;have HX0:=Lib.hid hX0;clear hX0;have HOM:=Lib.hid (OMoved.ext hB.own (Ext1.refl wc));unfold caF;go_wp2;exact⟨rfl,HX0.out _ _ _ HOM.out ⟨⟨λj=>if j=38 then .bool (op.k==3)else v j,rfl⟩,rfl⟩⟩
 rintro _ Bz w ⟨⟨v',hv⟩,hBz⟩ hA;have hcd:(caF dv stb who op b5 b6 v').setIfInBounds 37 (.bool (op.k==3))=caF dv stb who op b5 b6 (λj=>if j=37 then .bool (op.k==3)else v' j):=rfl;rw[hcd]at hv;subst hv;rw[hBz]at hA;clear hBz hcd v;obtain⟨v,hv⟩:∃v:Nat->Value,(λj=>if j=37 then .bool (op.k==3)else v' j)=v:=⟨_,rfl⟩;have hvk:v 37=.bool (op.k==3):=by rw[<-hv];rfl
 rw[hv];clear hv;refine zq13 Y.jc (t:=(op.k==3)) (by show(caF dv stb who op b5 b6 v)[37]?.getD undef=_;unfold caF;exact hvk) ?_;clear hvk v'
 by_cases hk3:op.k=3
 . rw[if_pos (by simp[hk3])];rw[if_pos hk3]at hA;refine eca_c3 Y hf HD.out HK.out (λs a w h=>?_) (λs ch a w h=>?_) hA
   . simp only[thenJ,zq1e,bodyC];exact h
   . exact⟨rfl,h⟩
 rw[if_neg (by simp[hk3])];rw[if_neg hk3]at hA;clear hk3;refine YSys.seqX (λt B'=>(∃v,t=(caF dv stb who op b5 b6 v).setIfInBounds 51 (.bool (op.k==4)))/\B'=Bq) hA (by kernel_rfl) ?_ ?_
 . intro wc hB X0 hX0;have HX0:=Lib.hid hX0;clear hX0;have HOM:=Lib.hid (OMoved.ext hB.own (Ext1.refl wc));unfold caF;go_wp2;exact⟨rfl,HX0.out _ _ _ HOM.out ⟨⟨λj=>if j=52 then .bool (op.k==4)else v j,rfl⟩,rfl⟩⟩
 rintro _ Bz w ⟨⟨v',hv⟩,hBz⟩ hA;have hcd:(caF dv stb who op b5 b6 v').setIfInBounds 51 (.bool (op.k==4))=caF dv stb who op b5 b6 (λj=>if j=51 then .bool (op.k==4)else v' j):=rfl;rw[hcd]at hv;subst hv;rw[hBz]at hA;clear hBz hcd v;obtain⟨v,hv⟩:∃v:Nat->Value,(λj=>if j=51 then .bool (op.k==4)else v' j)=v:=⟨_,rfl⟩;have hvk:v 51=.bool (op.k==4):=by rw[<-hv];rfl
 rw[hv];clear hv;refine zq13 Y.jc (t:=(op.k==4)) (by show(caF dv stb who op b5 b6 v)[51]?.getD undef=_;unfold caF;exact hvk) ?_;clear hvk v'
 by_cases hk4:op.k=4
 . rw[if_pos (by simp[hk4])];rw[if_pos hk4]at hA;refine eca_c4 Y hf HD.out HK.out (λs a w h=>?_) (λs ch a w h=>?_) hA
   . simp only[thenJ,zq1e,bodyC];exact h
   . exact⟨rfl,h⟩
 rw[if_neg (by simp[hk4])];rw[if_neg hk4]at hA;clear hk4;refine YSys.seqX (λt B'=>(∃v,t=(caF dv stb who op b5 b6 v).setIfInBounds 66 (.bool (op.k==5)))/\B'=Bq) hA (by kernel_rfl) ?_ ?_
 . intro wc hB X0 hX0;have HX0:=Lib.hid hX0;clear hX0;have HOM:=Lib.hid (OMoved.ext hB.own (Ext1.refl wc));unfold caF;go_wp2;exact⟨rfl,HX0.out _ _ _ HOM.out ⟨⟨λj=>if j=67 then .bool (op.k==5)else v j,rfl⟩,rfl⟩⟩
 rintro _ Bz w ⟨⟨v',hv⟩,hBz⟩ hA;have hcd:(caF dv stb who op b5 b6 v').setIfInBounds 66 (.bool (op.k==5))=caF dv stb who op b5 b6 (λj=>if j=66 then .bool (op.k==5)else v' j):=rfl;rw[hcd]at hv;subst hv;rw[hBz]at hA;clear hBz hcd v;obtain⟨v,hv⟩:∃v:Nat->Value,(λj=>if j=66 then .bool (op.k==5)else v' j)=v:=⟨_,rfl⟩;have hvk:v 66=.bool (op.k==5):=by rw[<-hv];rfl
 rw[hv];clear hv;refine zq13 Y.jc (t:=(op.k==5)) (by show(caF dv stb who op b5 b6 v)[66]?.getD undef=_;unfold caF;exact hvk) ?_;clear hvk v'
 by_cases hk5:op.k=5
 . rw[if_pos (by simp[hk5])];rw[if_pos hk5]at hA;refine eca_c5 Y hf HD.out HK.out (λs a w h=>?_) (λs ch a w h=>?_) hA
   . simp only[thenJ,zq1e,bodyC];exact h
   . exact⟨rfl,h⟩
 rw[if_neg (by simp[hk5])];rw[if_neg hk5]at hA;clear hk5;refine zq1y Y.jc ?_;have H6:=Lib.hid HD.out.h6;have HLE:=Lib.hid HD.out.hle;have HN:=Lib.hid HD.out.hn;show wpJ Y.J _ _ _ _ _;unfold caF;refine YSys.seqX (λt B'=>t.getD 6 undef=.pointer (some ⟨b6,0,none⟩)/\B'=upB Bq b6 (.cells #[.bool false,.int .i64 0,.slice none 0 0] 48)) hA (by kernel_rfl) ?_ ?_
 . intro wc hB X0 hX0;have HX0:=Lib.hid hX0;clear hX0;have k6:=hB.own.box b6 _ H6.out;have c60:wc.cell? ⟨b6,0,none⟩=some (.bool false):=(zq0 k6).trans rfl;have c61:wc.cell? ⟨b6,1,none⟩=some (.int .i64 0):=(zq0 k6).trans rfl;have c62:wc.cell? ⟨b6,2,none⟩=some (.slice none 0 0):=(zq0 k6).trans rfl;have f60:wc.frozen? ⟨b6,0,none⟩=false:=zq5 k6;have f61:wc.frozen? ⟨b6,1,none⟩=false:=zq5 k6;have f62:wc.frozen? ⟨b6,2,none⟩=false:=zq5 k6;have hm:=OMoved.set3 (o1:=0) (o2:=1) (o3:=2) hB.own H6.out (.bool false) (.int .i64 0) (.slice none 0 0);have HM:=Lib.hid hm;clear hm k6;go_wp2;exact⟨rfl,HX0.out _ _ _ HM.out ⟨rfl,rfl⟩⟩
 rintro t _ w ⟨ht6,rfl⟩ hA;refine zq1c Y.jc ?_;refine YSys.left hA (v:=.agg #[.bool false,.int .i64 0,.slice none 0 0]) (λwc hB=>results_cell_row rfl t wc b6 48 _ _ _ ht6 (hB.own.box b6 _ (upB_same _ _ _)) rfl rfl rfl) λw hA=>?_;exact⟨Ans.none,λ_=>none,AnsV.plain _ _ _,λb hb=>absurd rfl hb,hA.drop (zq1u HLE.out HN.out)⟩
end
end Go.Proofs
namespace Go.Car
open Go Go.Conc Go.RowKit
section
variable {P:Program} {A:FuncId->Bool} {Ml S β α:Type} {C:Core Ml S} {ro:Nat->Option Obj} {i:Nat} {Y:YSys P A C ro i β} {B:Nat->Option Obj}
variable {Q:Y.γ->Exit->Act->World->Prop} {s:Y.γ} {w:World} {p:Proc S β} {t:Array Value} {ds:List Deferred}
end
section
variable {P:Program} {A:FuncId->Bool} {Ml S α:Type} {C:Core Ml S} {ro:Nat->Option Obj} {i:Nat}
end
theorem jU0{P:Program}{Fin:Machine->Trace->Prop}(hFin:Back P Fin)(n:Nat):JS P true (λ_=>none) (λ(_:Unit)=>J0 P Fin n):=⟨λ_ g w τ d h=>(j0_JS hFin).re' n g w τ d h,λ_ g w h1 h2=>(j0_JS hFin).step n g w h1 h2⟩
theorem jC0{P:Program}{Fin:Machine->Trace->Prop}(hFin:Back P Fin)(n:Nat):CalmJ P true (λ(_:Unit)=>J0 P Fin n):=λ_ fr cs w h=>zq22 hFin n fr cs w h
end Go.Car
namespace Go.Proofs
open Go Go.Conc Go.RowKit Go.Car
def zCore:Core Unit Unit where
 foot _ _:=False
 Rep _ _:=True
 st _:=()
 frame _ _ _ _ _:=trivial
 lt _ _ _ _ h:=h.elim
 pin _:=0
section
variable {main:Bool} {Kc:Addr->Option Value} {J:Goroutine->World->Prop}
noncomputable abbrev zY(α:Type)(hJ:JS Try.prog main Kc (λ(_:Unit)=>J))(hC:CalmJ Try.prog main (λ(_:Unit)=>J))(ro:Nat->Option Obj)(w:World)(T:Unit×Option α×Nat):YSys Try.prog aM zCore ro 0 α:=zq4i zqz hJ hC zCore ro 0 0 ⟨(),λ_ _=>none⟩ w T
def zP{S:Type}:CallP S:=⟨Proc.ret (0,1),Proc.ret 1,Proc.ret (0,1),Proc.ret (false,1),Proc.ret ([],1)⟩
theorem zqc2(op:OpX):(callE (S:=Unit) zP op).run ()=((),some Ans.none,0):=by
 unfold callE zP
 repeat' split
 all_goals rfl
theorem zcall_f{Ml S β:Type}{C:Core Ml S}{ro:Nat->Option Obj}{i:Nat}(Y:YSys Try.prog aM C ro i β){dv sv:Value}{who:Int}{op:OpX}(h:NoMem Y dv who):CallF Y dv sv who op zP where
 enter:=(zq7u Y h).spec
 leave:=(zq8j Y h).spec
 retire:=(zq98 Y h op.a).spec
 adv:=(zq71 Y h).spec
 coll:=by
  intro K s B w hK hA cl cs h1 h2;refine(zq7i Y h).spec.rel (λ_=>K ([],1)) s B w (λ_=>hK _) hA cl cs ?_ h2;rintro s' v w' ⟨a,X,⟨rfl,rfl⟩,k2,k3⟩;exact h1 s' _ w' ⟨([],1),_,⟨_,rfl,RowB.nil _ _,Nat.zero_le _⟩,k2,k3⟩
theorem zY_rep{ro:Nat->Option Obj}{w:World}(hro:∀b o,ro b=some o->w.heap[b]?=some o):BRep zCore ro ⟨(),λ_ _=>none⟩ w:=⟨trivial,λi b o h=>(by cases h),hro,λi b h=>absurd rfl h,λi j b _ h=>absurd rfl h,λb h hf=>hf,λi b h=>rfl⟩
theorem zY_is{ro:Nat->Option Obj}{w:World}(hro:∀b o,ro b=some o->w.heap[b]?=some o){α:Type}{T:Unit×Option α×Nat}{m:BM Unit}{w':World}{r:Unit×Tree Unit α}(h:LoneAt zCore ro 0 0 ⟨(),λ_ _=>none⟩ w T m w' r):Beyond w w':=by
 refine⟨h.size,λb hb=>?_⟩;cases ho:ro b with
 |some o=>rw[h.rep.rod b o ho,hro b o ho]
 |none=>
  refine h.old b hb λhf=>?_;rcases hf with hf|⟨_,hf⟩|hf
  . exact hf
  . exact absurd rfl hf
  . exact hf ho
end
end Go.Proofs
namespace Go.Car
open Go Go.Conc Go.RowKit
section
variable {P:Program} {A:FuncId->Bool} {Ml S α:Type} {C:Core Ml S} {ro:Nat->Option Obj} {i:Nat}
theorem zq9l(hP:Plain P A){main:Bool}{Kc:Addr->Option Value}{J:Goroutine->World->Prop}(hJ:JS P main Kc (λ(_:Unit)=>J))(hC:CalmJ P main (λ(_:Unit)=>J)){f:FuncId}{args:Array Value}{p:Proc S α}{rel:α->Value->(Nat->Option Obj)->Prop}{m₀:BM Ml}{w₀:World}(hrep:BRep C ro m₀ w₀)(hT:∃a,(p.run (C.st m₀.l)).2.1=some a)(cf:Nat)
 (hspec:SpecR (zq4i hP hJ hC C ro i cf m₀ w₀ (p.run (C.st m₀.l))) f args p rel) {cl:Frame} {cs:List Frame}
 (hq:∀a v X m' w',rel a v X->(∀b,X b≠none->m₀.box i b=none)->m'.box i=orB X (m₀.box i)->LoneAt C ro i cf m₀ w₀ (p.run (C.st m₀.l)) m' w' (C.st m'.l,.ret a)->J (G (cl.finish v) cs) w'):J (G (Frame.enter P f args .normal) (cl::cs)) w₀:=by
 have h0:LoneAt C ro i cf m₀ w₀ (p.run (C.st m₀.l)) m₀ w₀ (p.bind Proc.ret (C.st m₀.l)):=by
  rw[Proc.bind_pure];exact⟨hrep,Nat.le_refl _,λ_ _ _=>rfl,λ_ h=>.inl h,⟨_,rfl,hT,rfl⟩,λ_ _=>rfl⟩
 refine hspec Proc.ret () (m₀.box i) w₀ (λ_=>trivial) ⟨m₀,rfl,h0,trivial⟩ cl cs ?_ ?_
 . rintro s' v w' ⟨a,X,k0,k1,m',k2,k3,_⟩;exact hq a v X m' w' k0 k1 k2 k3
 . intro s' ch w' hf;exact hf.elim
end
end Go.Car
