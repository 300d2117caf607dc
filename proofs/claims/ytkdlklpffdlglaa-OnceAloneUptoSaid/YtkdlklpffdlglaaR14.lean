/- YtkdlklpffdlglaaOAlone10: part 14 of the proof (the texts behind it, in order). -/
import Derived.Test.YtkdlklpffdlglaaR13
set_option maxHeartbeats 4000000
set_option maxRecDepth 100000
set_option linter.all false
namespace Go
theorem zxl {p : Prop} (h : p := by
  go_wp2_with (at_builtin;go_loud (refine zq45 rfl (.tmp 48) (.tmp 50) 115 rfl hrun ?_))
  go_roundg (N - (j+1))
  case measure=>have:=HHR.out;omega
  case rel=>exact⟨j+1,_,_,rfl,by have:=HHR.out;omega,zx36,rfl,HF.out⟩) : p := h
theorem zx1z {p : Prop} (h : p := by rw[zq8 _ _ _ _ hne,keep b zyo λe=>by have:=h.new b e;omega];exact h.old b hb hne) : p := h
theorem zx22 {p : Prop} (h : p := by rw[hv2]at hv;simp only[Value.slice.injEq,al_oi,Addr.mk.injEq]at hv;obtain⟨⟨e1,_⟩,_,_⟩:=hv;rw[e1,hh]at hh2;cases hh2;rw[<-ht1,ht2]) : p := h
theorem zx3q {p : Prop} (h : p := by rcases hat with e|e;exact .inl (by rw[HL.out.2];exact e);right;simp only[zq4,zqf]at e |-;omega) : p := h
theorem zx48 {p : Prop} (h : p := by rw[HL.out.2];exact hgrow) : p := h
end Go
namespace Go.Proofs
open Go Go.Conc Go.RowKit Go.Car
section
variable {B tb g NC Cc mb c:Nat} {opv:Value} {ops:List OpX} {C:Nums} {t:RTh} {lvs:List Value} {av:Value} {w:World} {op:OpX}
theorem zqfs(h:ThRep tyR B tb opv ops t lvs av w)(hn:NoL t lvs)(hr:RecRow w B 122 3 (.slice (some ⟨g,0,none⟩) NC Cc) NC (cF C))(hl:t.ans.length<=1048576)(hat:t.at'<=1048576)(hc:c<NC)(hca:op.a.toNat=c)(hO:OkO NC op t)(hp:t.pc<30):
 Calls Try.prog 69 #[.pointer (some ⟨mb,0,none⟩),.pointer (some ⟨tb,0,none⟩),op.val,.pointer (some ⟨g,c*3,none⟩)] w λe w'=>e=.returned (.tuple #[])/\OPost B tb g NC Cc opv ops av w (zq5 op C t).1 (zq5 op C t).2 w':=by
 have hk:t.pc=10\/t.pc=11\/t.pc=20\/t.pc=21\/t.pc=22\/t.pc=23\/t.pc=24:=by
  obtain⟨g1,g2,g3,g4⟩:=hO.good;obtain e|e|e|e:op.k=1\/op.k=2\/op.k=3\/op.k=4:=by omega
  . have:=hO.k1 e;omega
  . have:=hO.k2 e;omega
  . have:=hO.k3 e;omega
  . have:=hO.k4 e;omega
 rcases hk with e|e|e|e|e|e|e
 . by_cases hs:C c 0=2
   . exact oset_10a ⟨h,hn,hr,hl,hat,hc,hca⟩ e hs
   . exact oset_10b ⟨h,hn,hr,hl,hat,hc,hca⟩ e hs
 . exact oset_11 ⟨h,hn,hr,hl,hat,hc,hca⟩ e
 . by_cases hs:C c 0=0
   . exact oset_20a ⟨h,hn,hr,hl,hat,hc,hca⟩ e hs
   . exact oset_20b ⟨h,hn,hr,hl,hat,hc,hca⟩ e hs
 . exact oset_21 ⟨h,hn,hr,hl,hat,hc,hca⟩ e
 . exact oset_22 ⟨h,hn,hr,hl,hat,hc,hca⟩ e
 . by_cases hs:C c 0=2
   . exact oset_23a ⟨h,hn,hr,hl,hat,hc,hca⟩ e hs
   . exact oset_23b ⟨h,hn,hr,hl,hat,hc,hca⟩ e hs
 . exact oset_24 ⟨h,hn,hr,hl,hat,hc,hca⟩ e
theorem omk_lone(h:ThRep tyR B tb opv ops t lvs av w)(hn:NoL t lvs)(hr:RecRow w B 122 3 (.slice (some ⟨g,0,none⟩) NC Cc) NC (cF C))(hl:t.ans.length<=1048576)(hat:t.at'<=1048576)(hc:c<NC)(hca:op.a.toNat=c)(hO:OkO NC op t)(hp:¬t.pc<30)(h0:t.pc≠0):
 Calls Try.prog 70 #[.pointer (some ⟨mb,0,none⟩),.pointer (some ⟨tb,0,none⟩),op.val,.pointer (some ⟨g,c*3,none⟩)] w λe w'=>e=.returned (.tuple #[])/\OPost B tb g NC Cc opv ops av w (zq1 op C t).1 (zq1 op C t).2 w':=by
 have hk:3<=op.k/\(t.pc=30\/t.pc=31\/t.pc=32\/t.pc=33\/t.pc=34\/t.pc=35\/t.pc=36\/t.pc=37):=by
  obtain⟨g1,g2,g3,g4⟩:=hO.good;obtain e|e|e|e:op.k=1\/op.k=2\/op.k=3\/op.k=4:=by omega
  . have:=hO.k1 e;omega
  . have:=hO.k2 e;omega
  . have:=hO.k3 e;omega
  . have:=hO.k4 e;omega
 obtain⟨hk3,hk⟩:=hk;rcases hk with e|e|e|e|e|e|e|e
 . by_cases hs:C c 0=2
   . exact omk_30a ⟨h,hn,hr,hl,hat,hc,hca⟩ e hs
   . exact omk_30b ⟨h,hn,hr,hl,hat,hc,hca⟩ e hs
 . exact omk_31 ⟨h,hn,hr,hl,hat,hc,hca⟩ e
 . by_cases hs:C c 0=0
   . exact omk_32a ⟨h,hn,hr,hl,hat,hc,hca⟩ e hs
   . have hlo:=hO.lo hk3;have hw:IntKind.i64.wrap (t.n 1 - 1)=t.n 1 - 1:=IntWalk.i64_in _ zyo
     by_cases h1:t.n 1=1
     . exact omk_32c ⟨h,hn,hr,hl,hat,hc,hca⟩ e hs (by rw[hw];omega) h1
     . exact omk_32b ⟨h,hn,hr,hl,hat,hc,hca⟩ e hs rfl h1 (by rw[hw];omega)
 . by_cases hs:op.k=4
   . exact omk_33a ⟨h,hn,hr,hl,hat,hc,hca⟩ e hs rfl
   . exact omk_33b ⟨h,hn,hr,hl,hat,hc,hca⟩ e hs rfl
 . exact omk_34 ⟨h,hn,hr,hl,hat,hc,hca⟩ e rfl
 . exact omk_35 ⟨h,hn,hr,hl,hat,hc,hca⟩ e
 . exact omk_36 ⟨h,hn,hr,hl,hat,hc,hca⟩ e
 . exact omk_37 ⟨h,hn,hr,hl,hat,hc,hca⟩ e
theorem zqad{i:Nat}:∀(f:Nat)(C:Nums)(t:RTh),(zqq (onceM NC) i ops f (C,t)).1=C:=by
 intro f
 induction f with
 |zero=>exact λC t=>rfl
 |succ f ih=>
  intro C t
  by_cases hp:t.pc=0
  . cases ho:ops[t.at']? with
    |none=>
     show(if t.pc=0 then _ else _:Nums×RTh).1=C;rw[if_pos hp];simp only[ho]
    |some op=>
     rw[zq2t hp ho];show(zqq _ _ _ f (zq13 NC op C t)).1=C;unfold zq13;split
     . exact ih _ _
     . exact ih _ _
  . rw[zq2j hp]
theorem stp_len{i:Nat}(h0:t.pc≠0)(hO:OkO NC op t)(hl:t.ans.length=t.at')(hat:t.at'<ops.length):((onceM NC).stp i op C t).2.ans.length=((onceM NC).stp i op C t).2.at'/\((onceM NC).stp i op C t).2.at'<=ops.length:=by
 rcases(zq2s NC).step i op C (λ_=>[]) t h0 hO with⟨t1,a,h1,h2,h3,_⟩|⟨_,h2,h3,_⟩
 . rw[h1];refine⟨?_,?_⟩
   . show(t1.ans++[a]).length=t1.at'+1;rw[List.length_append,h3,h2,hl];rfl
   . show t1.at'+1<=_;omega
 . rw[h2,h3];exact⟨hl,Nat.le_of_lt hat⟩
theorem zqfu{i:Nat}{tv:Value}(h:ThRep tyR B tb opv ops t lvs av w)(hn:NoL t lvs)(hr:RecRow w B 122 3 (.slice (some ⟨g,0,none⟩) NC Cc) NC (cF C))(hl:t.ans.length=t.at')(hops:ops.length<=65536)(hNC:NC<=64)
 (hm:w.heap[mb]?=some (.cells #[.slice (some ⟨g,0,none⟩) NC Cc,tv] 119)) (hop:ops[t.at']?=some op) (h0:t.pc≠0) (hO:OkO NC op t):
 Calls Try.prog 44 #[.pointer (some ⟨mb,0,none⟩),.pointer (some ⟨tb,0,none⟩)] w λe w'=>e=.returned (.tuple #[])/\OPost B tb g NC Cc opv ops av w (setlG (onceM NC) i ops ((onceM NC).stp i op C t)).1 (setlG (onceM NC) i ops ((onceM NC).stp i op C t)).2 w':=by
 have hlt:=(List.getElem?_eq_some_iff.1 hop).1;obtain⟨g1,g2,g3,g4⟩:=hO.good;obtain⟨c,hca⟩:∃c,op.a.toNat=c:=⟨_,rfl⟩;have hai:op.a=(c:Int):=by omega
 have hc:c<NC:=by omega
 have hB:B<=w.heap.size:=Nat.le_trans h.lo (Nat.le_of_lt (zq7 h.blk));obtain⟨S,hS⟩:∃S,(onceM NC).stp i op C t=S:=⟨_,rfl⟩;have hsl:=stp_len (C:=C) (i:=i) h0 hO hl hlt;rw[hS]at hsl |-;have hfst:(setlG (onceM NC) i ops S).1=S.1:=zqad _ _ _;rw[hfst];have key:∀w2:World,w.heap.size<=w2.heap.size->(∀b,b<w.heap.size->w2.heap[b]?=w.heap[b]?)->
  (t.pc<30->Calls Try.prog 69 #[.pointer (some ⟨mb,0,none⟩),.pointer (some ⟨tb,0,none⟩),op.val,.pointer (some ⟨g,c*3,none⟩)] w2 λe w'=>e=.returned (.tuple #[])/\OPost B tb g NC Cc opv ops av w S.1 S.2 w')/\
  (¬t.pc<30->Calls Try.prog 70 #[.pointer (some ⟨mb,0,none⟩),.pointer (some ⟨tb,0,none⟩),op.val,.pointer (some ⟨g,c*3,none⟩)] w2 λe w'=>e=.returned (.tuple #[])/\OPost B tb g NC Cc opv ops av w S.1 S.2 w'):=by
  intro w2 hs2 ho2;have hr2:=(ORun.start h hn hr).more hs2 ho2;have fin:∀w',OPost B tb g NC Cc opv ops av w2 S.1 S.2 w'->OPost B tb g NC Cc opv ops av w S.1 S.2 w':=λw'⟨lvs',av',k⟩=>⟨lvs',av',k.th,k.nol,k.row,⟨Nat.le_trans hs2 k.keep.size,λb hb h1 h2 h3=>(k.keep.old b (Nat.lt_of_lt_of_le hb hs2) h1 h2 h3).trans (ho2 b hb)⟩,(SameOr.refl av w).trans hs2 k.same⟩;refine⟨λhp=>?_,λhp=>?_⟩
  . have e:S=zq5 op C t:=by rw[<-hS];show(if t.pc<30 then _ else _)=_;rw[if_pos hp]
    rw[e]at fin |-;exact Calls.mono (zqfs hr2.th hr2.nol hr2.row zyo zyo hc hca hO hp) λe w' q=>⟨q.1,fin w' q.2⟩
  . have e:S=zq1 op C t:=by rw[<-hS];show(if t.pc<30 then _ else _)=_;rw[if_neg hp]
    rw[e]at fin |-;exact Calls.mono (omk_lone hr2.th hr2.nol hr2.row zyo zyo hc hca hO hp h0) λe w' q=>⟨q.1,fin w' q.2⟩
 have tail:∀w2:World,OPost B tb g NC Cc opv ops av w S.1 S.2 w2->Calls Try.prog 39 #[.pointer (some ⟨mb,0,none⟩),.pointer (some ⟨tb,0,none⟩)] w2 λe w'=>e=.returned (.tuple #[])/\OPost B tb g NC Cc opv ops av w S.1 (setlG (onceM NC) i ops S).2 w':=by
  rintro w2 ⟨lvs2,av2,k⟩;have hm2:w2.heap[mb]?=some (.cells #[.slice (some ⟨g,0,none⟩) NC Cc,tv] 119):=by
   obtain⟨cg,hg⟩:=(ORun.start h hn hr).gblk;exact(k.keep.old mb (zq7 hm) (zq14 hm h.blk zyd) (zq14 hm hg zyd) (zqt h.row hm zyd)).trans hm
  exact Calls.mono (zq97 (C:=S.1) (i:=i) k.th k.nol (Nat.le_trans k.th.lo (Nat.le_of_lt (zq7 k.th.blk))) hsl.1 hsl.2 hops hNC hm2) λe w' q=>⟨q.1,k.told q.2⟩
 have HOp:=Lib.hid (zq9t h hop zyo);have hb:=h.blk;have HK:=Lib.hid (And.intro key tail);have HM:=Lib.hid (And.intro hm (And.intro hb hai));have HCC:=Lib.hid hc;clear key tail h hn hr hl hlt hB hS hsl hfst hm hop h0 hO g1 g2 g3 g4 hca hb hai hops hc
 go_enter Try.func44,Try.ntmps44
 go_wp2_with (fail)
 refine Calls.mono HOp.out ?_;rintro e w1 ⟨rfl,hx⟩;obtain⟨Z,hZ⟩:∃Z,w1.heap.size=Z:=⟨_,rfl⟩;have HX:=Lib.hid (And.intro hx hZ);clear hx;unfold OpX.val
 go_wp2_with (fail)
 try rw[hZ]
 clear hZ;have hz2:=zqo w1 (.cells #[.int .i64 op.k,.int .i64 op.a,.int .i64 op.b,.int .i64 op.c] 34);have hx2:Ext w (w1.alloc (.cells #[.int .i64 op.k,.int .i64 op.a,.int .i64 op.b,.int .i64 op.c] 34)):=HX.out.1.trans (Ext.alloc _ _);generalize (w1.alloc (.cells #[.int .i64 op.k,.int .i64 op.a,.int .i64 op.b,.int .i64 op.c] 34))=w2 at hz2 hx2 |-;rw[HX.out.2]at hz2;have o0:w2.cell? ⟨Z,0,none⟩=some (.int .i64 op.k):=(zq0 hz2).trans rfl;have o1:w2.cell? ⟨Z,1,none⟩=some (.int .i64 op.a):=(zq0 hz2).trans rfl;have o2:w2.cell? ⟨Z,2,none⟩=some (.int .i64 op.b):=(zq0 hz2).trans rfl;have o3:w2.cell? ⟨Z,3,none⟩=some (.int .i64 op.c):=(zq0 hz2).trans rfl;have m0:w2.cell? ⟨mb,0,none⟩=some (.slice (some ⟨g,0,none⟩) NC Cc):=(zq0 (hx2.heap HM.out.1)).trans rfl;have hbt:=hx2.heap HM.out.2.1;unfold thC at hbt;have c2:w2.cell? ⟨tb,2,none⟩=some (.int .i64 t.pc):=(zq0 hbt).trans rfl;have HX2:=Lib.hid hx2;have hai:=HM.out.2.2;obtain⟨ka,hka⟩:∃ka,op.a=ka:=⟨_,rfl⟩;have hKS:=HK.out.1;have hKT:=HK.out.2;have hv:op.val=.agg #[.int .i64 op.k,.int .i64 (c:Int),.int .i64 op.b,.int .i64 op.c]:=by unfold OpX.val;rw[hai]
 rw[hv]at hKS;rw[hai]at o1;have HKS:=Lib.hid (And.intro hKS hKT);have hci:(c:Int)<(NC:Int):=by have:=HCC.out;omega
 have hc0:(0:Int)<=(c:Int):=by omega
 rw[hai];clear hz2 hx2 hbt hKS hKT hv hai hka HK
 go_quiet (fail)
 by_cases hp:t.pc<30
 . have hp':(t.pc:Int)<30:=by omega
   have HP:=Lib.hid hp
   go_wp2_with (fail)
   refine Calls.mono ((HKS.out.1 (w2.drewN nq) HX2.out.size HX2.out.old).1 HP.out) ?_;rintro e w3 ⟨rfl,h3⟩;have HT:=Lib.hid (HKS.out.2 w3 h3);clear h3 o0 o1 o2 o3 m0 c2
   go_wp2_with (fail)
   refine Calls.mono HT.out ?_;rintro e w4 ⟨rfl,h4⟩;have H4:=Lib.hid h4;clear h4;go_wp2
   go_end0
   exact⟨rfl,H4.out⟩
 . have hp':¬(t.pc:Int)<30:=by omega
   have HP:=Lib.hid hp
   go_wp2_with (fail)
   refine Calls.mono ((HKS.out.1 (w2.drewN nq) HX2.out.size HX2.out.old).2 HP.out) ?_;rintro e w3 ⟨rfl,h3⟩;have HT:=Lib.hid (HKS.out.2 w3 h3);clear h3 o0 o1 o2 o3 m0 c2
   go_wp2_with (fail)
   refine Calls.mono HT.out ?_;rintro e w4 ⟨rfl,h4⟩;have H4:=Lib.hid h4;clear h4;go_wp2
   go_end0
   exact⟨rfl,H4.out⟩
end
def zq64(C:Nums)(NC:Nat)(w:World)(e:Ending)(w':World):Prop:=∃v,e=.returned v/\NumsI w (numL C NC) v w'
theorem zq9b{B g NC Cc mb:Nat}{C:Nums}{tv:Value}{w:World}(hNC:NC<=64)(hm:w.heap[mb]?=some (.cells #[.slice (some ⟨g,0,none⟩) NC Cc,tv] 119))(hr:RecRow w B 122 3 (.slice (some ⟨g,0,none⟩) NC Cc) NC (cF C)):
 Calls Try.prog 43 #[.pointer (some ⟨mb,0,none⟩)] w λe w'=>zq64 C NC w e w':=by
 have c0:∀W,Beyond w W->W.cell? ⟨mb,0,none⟩=some (.slice (some ⟨g,0,none⟩) NC Cc):=λW hb=>(zq0 (hb.heap hm)).trans rfl;have ck:∀W,Beyond w W->∀j,j<NC->W.cell? ⟨g,j*3,none⟩=some (.int .i64 (C j 0))/\W.cell? ⟨g,j*3+1,none⟩=some (.int .i64 (C j 1))/\W.cell? ⟨g,j*3+2,none⟩=some (.int .i64 (C j 2)):=λW hb j hj=>
  ⟨hb.cell (hr.cell hj (show 0<3 by decide)).1,hb.cell (hr.cell hj (show 1<3 by decide)).1,hb.cell (hr.cell hj (show 2<3 by decide)).1⟩
 have HC:=Lib.hid (And.intro c0 (And.intro ck hNC));clear c0 ck hm hr
 go_enter Try.func43,Try.ntmps43
 go_wp2_with (fail)
 go_loopg [3,4] NC (λk s3 s4 wr=>∃(j:Nat)(p:Option Addr)(Cp:Nat),k=NC - j/\j<=NC/\s4=.int .i64 j/\s3=.slice p (3*j) Cp/\NumsI w (numL C j) (.slice p (3*j) Cp) wr)
 case atStart=>exact⟨0,none,0,rfl,Nat.zero_le _,rfl,rfl,Beyond.refl _,World.ownsRow_nil _ _ _ _⟩
 case round=>
  obtain⟨j,p,Cp,hk,hj,rfl,rfl,hI⟩:=hrel;have m0:=HC.out.1 wr hI.be
  by_cases hlt:j<NC
  . have hlt':(j:Int)<(NC:Int):=by omega
    have hj0:(0:Int)<=j:=by omega
    have hj64:(j:Int)<64:=by omega
    have hI1:NumsI w (numL C j) (.slice p (3*j) Cp) (wr.drewN 1):=⟨⟨hI.be.1,hI.be.2⟩,zqs hI.row λ_ _=>rfl⟩;obtain⟨p2,C2,w2,hrun,hI2⟩:=zq96 (w0:=w) (w:=wr.drewN 1) hI1 (by rw[zq2a];omega) (C j 0) (C j 1) (C j 2);rw[zq2a]at hrun hI2;rw[<-zq6r]at hI2;obtain⟨S,hS⟩:∃S,wr.heap.size=S:=⟨_,rfl⟩;have hS1:(wr.drewN 1).heap.size=S:=hS;rw[hS1]at hrun;have hfacts:∀W,W=wr.drewN 1\/W=(wr.drewN 1).alloc (.cells #[.int .i64 (C j 0),.int .i64 (C j 1),.int .i64 (C j 2)] 2)\/W=w2->W.cell? ⟨mb,0,none⟩=some (.slice (some ⟨g,0,none⟩) NC Cc)/\W.cell? ⟨g,j*3,none⟩=some (.int .i64 (C j 0))/\W.cell? ⟨g,j*3+1,none⟩=some (.int .i64 (C j 1))/\W.cell? ⟨g,j*3+2,none⟩=some (.int .i64 (C j 2)):=λW hW=>by
     have hb:Beyond w W:=by
      rcases hW with rfl |rfl |rfl
      . exact hI1.be
      . exact hI1.be.trans (Beyond.alloc _ _)
      . exact hI2.be
     exact⟨HC.out.1 W hb,HC.out.2.1 W hb j hlt⟩
    have HF:=Lib.hid hfacts;have HR:=Lib.hid hrun;have HI:=Lib.hid hI2;have HT:=Lib.hid (And.intro hS1 (And.intro hk hlt));clear hI hI1 hI2 hrun hS hS1 hfacts hk hlt
    go_wp2_with (fail)
    clear m0;refine zqcu (k:=27) (s:=25) (t:=26) (W0:=wr.drewN 1) (W1:=(wr.drewN 1).alloc (.cells #[.int .i64 (C j 0),.int .i64 (C j 1),.int .i64 (C j 2)] 2)) (W2:=w2) zyk zyk zyk zyk zyd zyd zyd zyk
     [.slice p (3*j) Cp,.pointer (some ⟨mb,0,none⟩),.pointer (some ⟨mb,0,none⟩),.pointer (some ⟨mb,0,none⟩),.slice (some ⟨g,0,none⟩) NC Cc,.int .i64 j,.pointer (some ⟨g,j*3,none⟩),.pointer (some ⟨g,j*3,none⟩),.int .i64 (C j 0),
      .pointer (some ⟨mb,0,none⟩),.pointer (some ⟨mb,0,none⟩),.pointer (some ⟨mb,0,none⟩),.slice (some ⟨g,0,none⟩) NC Cc,.int .i64 j,.pointer (some ⟨g,j*3,none⟩),.pointer (some ⟨g,j*3+1,none⟩),.int .i64 (C j 1),
      .pointer (some ⟨mb,0,none⟩),.pointer (some ⟨mb,0,none⟩),.pointer (some ⟨mb,0,none⟩),.slice (some ⟨g,0,none⟩) NC Cc,.int .i64 j,.pointer (some ⟨g,j*3,none⟩),.pointer (some ⟨g,j*3+2,none⟩),.int .i64 (C j 2),
      .slice (some ⟨S,0,none⟩) 3 3,.slice p2 (3*j+3) C2] rfl rfl ?_ ?_ ?_ ?_
    . intro jj oo hjj h9 h10 hoo W hWW;obtain⟨d1,d2,d3,d4⟩:=HF.out W hWW;clear hWW;simp only[putv,dstOf,al_gl,al_g0,al_g1,al_ob,al_g2,List.set_cons_succ,List.set_cons_zero];obtain rfl |rfl |rfl |rfl |rfl |rfl |rfl |rfl |rfl |rfl |rfl |rfl |rfl |rfl |rfl |rfl |rfl |rfl |rfl |rfl |rfl |rfl |rfl |rfl |rfl:jj=0\/jj=1\/jj=2\/jj=3\/jj=4\/jj=5\/jj=6\/jj=7\/jj=8\/jj=9\/jj=10\/jj=11\/jj=12\/jj=13\/jj=14\/jj=15\/jj=16\/jj=17\/jj=18\/jj=19\/jj=20\/jj=21\/jj=22\/jj=23\/jj=24:=by omega
      all_goals(simp only[al_gl,al_g0,al_g1,al_oi]at hoo;subst hoo;refine .inl ?_)
      all_goals(simp only[execOp,Act.eval,al_gd,al_gl,al_g0,al_g1,al_od])
      all_goals(try go_simp)
    . intro oo hoo;simp only[putv,dstOf,al_gl,al_g0,al_g1,al_ob,al_g2,List.set_cons_succ,List.set_cons_zero];simp only[al_gl,al_g0,al_g1,al_oi]at hoo;subst hoo;refine .inl ?_;have hs0:(wr.drewN 1).heap.size=S:=HT.out.1;generalize wr.drewN 1=W0 at hs0 |-;simp only[execOp,Act.eval,al_gd,al_gl,al_g0,al_g1,al_od];go_simp
    . intro oo hoo;have hrun:=HR.out;simp only[putv,dstOf,al_gl,al_g0,al_g1,al_ob,al_g2,List.set_cons_succ,List.set_cons_zero];simp only[al_gl,al_g0,al_g1,al_oi]at hoo;subst hoo;refine .inl ?_;unfold execOp;simp only[resolve,invoke,builtin,Sem.run_bind,Sem.run_pure,Result.andThen_ok,List.map_toArray,List.map_cons,List.map_nil,Act.eval,al_gd,al_gl,al_g0,al_g1,al_od,hrun];rfl
    simp only[putv,dstOf,al_gl,al_g0,al_g1,al_ob,al_g2,List.set_cons_succ,List.set_cons_zero];refine zq2l (i:=27) zyk ?_;simp only[wpOp,al_gl,al_g0,al_g1];rw[if_pos zx2p];refine .inl ?_;go_simp;refine zq2k zyk ?_;clear HF HR;go_wp2;go_roundg (NC - (j+1))
    case measure=>have:=HT.out.2;omega
    case rel=>exact⟨j+1,p2,C2,rfl,HT.out.2.2,zx36,by rw[show 3*(j+1)=3*j+3 by omega],by rw[show 3*(j+1)=3*j+3 by omega];exact HI.out⟩
  . obtain rfl:NC=j:=by omega
    have HI:=Lib.hid hI;clear hI hk hj hlt;go_wp2;go_ret;exact⟨_,rfl,HI.out⟩
theorem zqgp{P:Program}{w:World}{base:Nat}{t ty e:TypeId}{i:TypeInfo}{z:Value}(ht:P.underlying t=some (.slice e))(hi:P.info? e=some i)(hz:i.zero=some z)(hsize:i.size=1)(hby:i.bytes=8)(hzs:z.cells.size=1)
 {sv:Value} {l:List Int} (hs:IntsAt w sv l) (hl:l.length<=1099511627776) (hbase:base<=w.heap.size):
 ∃v w',(Builtin.append_ #[t,t] ty #[.slice none 0 0,sv]).run P w=.ok v w'/\w'.ownsRow base e 1 v l.length (l.map (Value.int .i64))/\Beyond w w'/\∀g,v.ownBlock=some g->g=w.heap.size:=by
 obtain⟨p,C,rfl,hc⟩:=hs
 by_cases hl0:l=[]
 . subst hl0;cases p with
   |none=>
    refine⟨.slice none 0 0,w,?_,World.ownsRow_nil w base e 1,Beyond.refl w,λg hg=>by cases hg⟩;simp[Builtin.append_,run_underlying ht,sizeOf,typeInfo,hi,Builtin.lenOf,Builtin.firstCells,loadCells,loadCellsFrom]
   |some a=>
    obtain⟨v,w',h1,h2,h3,h4,h5⟩:=run_append_own_at (P:=P) w base t ty e i z 1 8 ht hi hz hsize hby hzs zyd (.slice none 0 0) 0 [] (World.ownsRow_nil w base e 1) a 0 C [] rfl (λj u h=>by cases h) (λu h=>by cases h) zyd zyd hbase;refine⟨v,w',h1,h2,⟨h3.size,λb hb=>h3.block b hb (by simp[Value.ownBlock])⟩,λg hg=>?_⟩;rcases h5 with h5|h5
    . rw[hg]at h5;cases h5
    . rw[hg]at h5;exact Option.some.inj h5
 . obtain⟨b,o,rfl,hcc⟩:=hc hl0;obtain⟨v,w',h1,h2,h3,h4,h5⟩:=run_append_own_at (P:=P) w base t ty e i z 1 8 ht hi hz hsize hby hzs zyd (.slice none 0 0) 0 [] (World.ownsRow_nil w base e 1) ⟨b,o,none⟩ l.length C (l.map (Value.int .i64)) zx2n (λj u h=>by
    have hj:j<l.length:=by have:=(List.getElem?_eq_some_iff.1 h).1;simpa using this
    have:=hcc j hj;rw[List.getElem?_map]at h;have e2:l[j]?=some (l.getD j 0):=by simp[hj]
    rw[e2]at h;cases h;rw[show(⟨b,o,none⟩:Addr).add j=⟨b,o+j,none⟩from by unfold Addr.add;split<;>simp[*]];exact this) (λu h=>by obtain⟨x,_,rfl⟩:=List.mem_map.1 h;rfl) zx3t zyo hbase
   refine⟨v,w',h1,by simpa using h2,⟨h3.size,λb hb=>h3.block b hb (by simp[Value.ownBlock])⟩,λg hg=>?_⟩;rcases h5 with h5|h5
   . rw[hg]at h5;cases h5
   . rw[hg]at h5;exact Option.some.inj h5
theorem zq7k{P:Program}{ops:Array Oper}{rest:List Oper}{o:Oper}{a:Act}{Q:Exit->Act->World->Prop}{w w':World}{v:Value}(hgd:o.guard=none)(s x:Operand)(t:TypeId)
 (ho:o.op=.call {callee:=.builtin .append,args:=#[s,x],argTypes:=#[t,t]}) (hr:(Builtin.append_ #[t,t] o.type #[a.eval s,a.eval x]).run P w=.ok v w') (h:wpList P ops Q rest (a.put o.dst v) w'):wpList P ops Q (o::rest) a w:=
 wpList_plain hgd λ_ hK=>by
  unfold Oper.wp execOp;simp only[ho,resolve,invoke,builtin,Sem.run_bind,Sem.run_pure,Result.andThen_ok,List.map_toArray,List.map_cons,List.map_nil,hr];exact hK _ _ h
def thPs(tb:Nat->Nat)(n:Nat):List Value:=(List.range n).map λi=>.pointer (some ⟨tb i,0,none⟩)
structure ThsR(B n:Nat)(tv:Value)(tb:Nat->Nat)(opv:Nat->Value)(ops:Nat->List OpX)(T:Nat->RTh)(lvs:Nat->List Value)(av:Nat->Value)(w:World):Prop where
 row:w.ownsRow B 124 1 tv n (thPs tb n)
 th:∀i,i<n->ThRep tyR B (tb i) (opv i) (ops i) (T i) (lvs i) (av i) w
 inj:∀i j,i<n->j<n->tb i=tb j->i=j
 asep:∀i j g,i<n->j<n->i≠j->(av i).ownBlock=some g->(av j).ownBlock≠some g
theorem ThsR.more {B n:Nat}{tv:Value}{tb:Nat->Nat}{opv:Nat->Value}{ops:Nat->List OpX}{T:Nat->RTh}{lvs:Nat->List Value}{av:Nat->Value}{w w':World}(h:ThsR B n tv tb opv ops T lvs av w)(ho:∀b,b<w.heap.size->w'.heap[b]?=w.heap[b]?):ThsR B n tv tb opv ops T lvs av w':=
 ⟨zqs h.row λg hg=>ho g (own_lt h.row hg).2.2,λi hi=>(h.th i hi).more ho,h.inj,h.asep⟩
theorem ThsR.cell {B n C:Nat}{p:Option Addr}{tb:Nat->Nat}{opv:Nat->Value}{ops:Nat->List OpX}{T:Nat->RTh}{lvs:Nat->List Value}{av:Nat->Value}{w:World}(h:ThsR B n (.slice p n C) tb opv ops T lvs av w)(hn:0<n):∃g,p=some ⟨g,0,none⟩/\∀i,i<n->w.cell? ⟨g,i,none⟩=some (.pointer (some ⟨tb i,0,none⟩)):=by
 rcases h.row.2 with⟨hv,h0⟩|⟨g,cap,cur,hv,hb,hg,h1,h2,h3,h4⟩
 . omega
 . cases hv;refine⟨g,rfl,λi hi=>?_⟩;rw[zq0 hg];have:(cur.toList.take (n*1))[i]?=some (Value.pointer (some ⟨tb i,0,none⟩)):=by
    rw[h4];unfold thPs;simp[hi]
   rw[List.getElem?_take,if_pos zyo]at this;simpa using this
structure MkTh(B q:Nat)(opv:Value)(ops:List OpX)(w0 w:World):Prop where
 blk:w.heap[q]?=some (.cells (thC opv RTh.z (.slice none 0 0)) 174)
 ops:OpsR tyR w B opv ops
 size:w0.heap.size<=w.heap.size
 old:∀b,b<w0.heap.size->b≠q->w.heap[b]?=w0.heap[b]?
 new:∀g,opv.ownBlock=some g->w0.heap.size<=g
theorem mk_push{B q g cap:Nat}{opv:Value}{l:List OpX}{op:OpX}{w0 w W w2:World}(h:MkTh B q opv l w0 w)(hq:q<w0.heap.size)(hW:W.heap=(w.alloc (.cells op.cells.toArray 34)).heap)
 (hrow:w2.ownsRow B 34 4 (.slice (some ⟨g,0,none⟩) (l.length+1) cap) (l.length+1) (l.flatMap OpX.cells++op.cells)) (hgr:W.grownBy w2 opv.ownBlock) (hat:opv.ownBlock=some g\/g=w.heap.size+1):
 MkTh B q (.slice (some ⟨g,0,none⟩) (l.length+1) cap) (l++[op]) w0 (w2.setCell ⟨q,0,none⟩ (.slice (some ⟨g,0,none⟩) (l.length+1) cap)):=by
 have hsz:W.heap.size=w.heap.size+1:=by rw[hW];exact zq4 _ _
 have hWo:∀b,b<w.heap.size->W.heap[b]?=w.heap[b]?:=λb hb=>by rw[hW,zq6,if_neg zyo]
 have keep:∀b,b<w.heap.size->opv.ownBlock≠some b->w2.heap[b]?=w.heap[b]?:=λb hb hn=>(hgr.block b zyo λe=>hn e.symm).trans (hWo b hb);have hb2:w2.heap[q]?=some (.cells (thC opv RTh.z (.slice none 0 0)) 174):=(keep q (zq7 h.blk) (zqt h.ops.row h.blk tyR.h2)).trans h.blk;have hs0:=h.size;have hs2:=hgr.size;refine⟨?_,⟨?_⟩,?_,λb hb hne=>?_,λg' hg'=>?_⟩
 . rw[zqa _ _ _ _ hb2];rfl
 . have e1:(l++[op]).length=l.length+1:=by simp
   have e2:(l++[op]).flatMap OpX.cells=l.flatMap OpX.cells++op.cells:=by simp
   rw[e1,e2];refine zqs hrow λx hx=>zq8 _ _ _ _ λe=>?_;obtain⟨⟨c,hc⟩,_⟩:=own_lt hrow hx;rw[show x=q from e,hb2]at hc;cases hc
 . rw[zqf];omega
 . exact zx1z
 . simp only[Value.ownBlock,al_oi]at hg';subst hg';rcases hat with e|e
   . exact h.new _ e
   . omega
def ThsI(w:World)(ops:Nat->List OpX)(n:Nat)(tv:Value)(w':World):Prop:=∃tb opv,ThsR w.heap.size n tv tb opv ops (λ_=>RTh.z) (λ_=>[]) (λ_=>.slice none 0 0) w'/\Ext w w'
theorem ths_push{w wr W w2:World}{ops:Nat->List OpX}{n q g cap:Nat}{tv opv:Value}{w0 wi:World}(h:ThsI w ops n tv wr)(hq:wr.heap.size=q)(hw0:wr.alloc (.cells (thC (.slice none 0 0) RTh.z (.slice none 0 0)) 174)=w0)(hm:MkTh w.heap.size q opv (ops n) w0 wi)
 (hW:W.heap=(wi.alloc (.cells #[.pointer (some ⟨q,0,none⟩)] 124)).heap)
 (hrow:∀xs,wi.ownsRow w.heap.size 124 1 tv n xs->w2.ownsRow w.heap.size 124 1 (.slice (some ⟨g,0,none⟩) (n+1) cap) (n+1) (xs++[.pointer (some ⟨q,0,none⟩)])) (hgr:W.grownBy w2 tv.ownBlock):
 ThsI w ops (n+1) (.slice (some ⟨g,0,none⟩) (n+1) cap) w2:=by
 obtain⟨tb,ov,hT,hX⟩:=h;have hs0:w0.heap.size=q+1:=by rw[<-hw0,zq4,hq]
 have ho0:∀b,b<wr.heap.size->w0.heap[b]?=wr.heap[b]?:=λb hb=>by rw[<-hw0,zq6,if_neg zyo]
 have hwi:∀b,b<wr.heap.size->wi.heap[b]?=wr.heap[b]?:=λb hb=>(hm.old b zyo zyo).trans (ho0 b hb);have hWs:W.heap.size=wi.heap.size+1:=by rw[hW];exact zq4 _ _
 have hWo:∀b,b<wi.heap.size->W.heap[b]?=wi.heap[b]?:=λb hb=>by rw[hW,zq6,if_neg zyo]
 have hsi:=hm.size;have hs2:=hgr.size;have keep:∀b,b<wi.heap.size->tv.ownBlock≠some b->w2.heap[b]?=wi.heap[b]?:=λb hb hn=>(hgr.block b zyo λe=>hn e.symm).trans (hWo b hb);have hTi:=hT.more hwi;have hb0:=hX.size;have hlt:∀i,i<n->tb i<wr.heap.size:=λi hi=>zq7 (hT.th i hi).blk;have hqn:tv.ownBlock≠some q:=λe=>by have:=(own_lt hT.row e).2.2;omega
 refine⟨upd' tb n q,upd' ov n opv,⟨?_,λi hi=>?_,λi j hi hj e=>?_,λi j g hi hj hne e=>(by cases e)⟩,⟨by omega,λb hb=>?_⟩⟩
 . have e:thPs (upd' tb n q) (n+1)=thPs tb n++[.pointer (some ⟨q,0,none⟩)]:=by
    unfold thPs;rw[List.range_succ,List.map_append];congr 1
    . refine List.map_congr_left λc hc=>?_;rw[zqd _ _ (by have:=List.mem_range.1 hc;omega)]
    . simp
   rw[e];exact hrow _ hTi.row
 . by_cases e:i=n
   . subst e;rw[upd'_same,upd'_same];refine⟨(keep q (zq7 hm.blk) hqn).trans hm.blk,World.ownsRow_nil _ _ _ _,rfl,⟨zqs hm.ops.row λx hx=>keep x (own_lt hm.ops.row hx).2.2 λe=>?_⟩,by omega⟩;have h1:=(own_lt hT.row e).2.2;have h2:=hm.new x hx;omega
   . rw[zqd _ _ e,zqd _ _ e];have hk:=hTi.th i zyo;refine hk.frame (keep _ (zq7 hk.blk) (zqt hT.row (hT.th i zyo).blk zyd)) (λx hx=>by cases hx) (λx hx=>keep x (own_lt hk.ops.row hx).2.2 ?_);obtain⟨⟨c,hc⟩,_⟩:=own_lt (hT.th i zyo).ops.row hx;exact zqt hT.row hc zyd
 . by_cases e1:i=n
   . by_cases e2:j=n
     . omega
     . rw[e1,upd'_same,zqd _ _ e2]at e;have:=hlt j zyo;omega
   . by_cases e2:j=n
     . rw[e2,upd'_same,zqd _ _ e1]at e;have:=hlt i zyo;omega
     . rw[zqd _ _ e1,zqd _ _ e2]at e;exact hT.inj i j zyo zyo e
 . rw[keep b zyo (λe=>by have:=(own_lt hT.row e).2.1;omega),hwi b zyo];exact hX.old b hb
theorem zqgl{w:World}{pp:Option Addr}{np Cn N:Nat}{tops:Nat->List OpX}(h:ThrIn w pp np tops)(hn:np<=4611686018427387904)(hN:N=min np 64)(hl:∀i,i<np->(tops i).length<=4611686018427387904):
 Calls Try.prog 37 #[.slice pp np Cn] w λe w'=>∃tv,e=.returned tv/\ThsI w (λi=>(tops i).take 65536) N tv w':=by
 obtain⟨H,hH⟩:∃H,w.heap.size=H:=⟨_,rfl⟩;have HI:=Lib.hid (And.intro h (And.intro hn (And.intro hN (And.intro hl hH))));clear h hn hN hl hH
 go_enter Try.func37,Try.ntmps37
 go_wp2_with (fail)
 go_loopg [3,4] N (λk s3 s4 wr=>∃(j:Nat)(p:Option Addr)(C:Nat),k=N - j/\j<=N/\s4=.int .i64 j/\s3=.slice p j C/\ThsI w (λi=>(tops i).take 65536) j (.slice p j C) wr)
 case atStart=>exact⟨0,none,0,rfl,Nat.zero_le _,rfl,rfl,λ_=>0,λ_=>.slice none 0 0,⟨World.ownsRow_nil _ _ _ _,λi hi=>absurd hi (Nat.not_lt_zero _),λi j hi=>absurd hi (Nat.not_lt_zero _),λi j g hi=>absurd hi (Nat.not_lt_zero _)⟩,Ext.refl _⟩
 case round=>
  obtain⟨j,p,C,hk,hj,rfl,rfl,hI⟩:=hrel
  by_cases hlt:j<N
  . have hj0:(0:Int)<=j:=by omega
    have hjn:(j:Int)<(np:Int):=by have:=HI.out.2.2.1;omega
    have hj64:(j:Int)<64:=by have:=HI.out.2.2.1;omega
    obtain⟨pb,po,hpp,hc⟩:=HI.out.1 zyo;obtain⟨sq,sC,hc1,hc2,hc3⟩:=hc j zyo;obtain⟨M,hM⟩:∃M,(tops j).length=M:=⟨_,rfl⟩;rw[hM]at hc1 hc2;obtain⟨q,hq⟩:∃q,wr.heap.size=q:=⟨_,rfl⟩;have HR:=Lib.hid (And.intro hI (And.intro hk (And.intro hj hlt)));have HQ:=Lib.hid hq;have HC:=Lib.hid (And.intro hc1 (And.intro hc2 (And.intro hc3 hM)));subst hpp;clear hI hk hj hlt hc hc1 hc2 hc3 hM
    go_wp2_with (fail)
    have hz:(wr.alloc (.cells #[.slice none 0 0,.int .i64 0,.int .i64 0,.int .i64 0,.int .i64 0,.int .i64 0,.int .i64 0,.int .i64 0,.int .i64 0,.int .i64 0,.int .i64 0,.slice none 0 0,.slice none 0 0,.bool false] 174))=wr.alloc (.cells (thC (.slice none 0 0) RTh.z (.slice none 0 0)) 174):=rfl;obtain⟨w0,hw0⟩:∃w0,(wr.alloc (.cells #[.slice none 0 0,.int .i64 0,.int .i64 0,.int .i64 0,.int .i64 0,.int .i64 0,.int .i64 0,.int .i64 0,.int .i64 0,.int .i64 0,.int .i64 0,.slice none 0 0,.slice none 0 0,.bool false] 174))=w0:=⟨_,rfl⟩;rw[hw0];have HW0:=Lib.hid (hz.symm.trans hw0);obtain⟨K,hK⟩:∃K,min M 65536=K:=⟨_,rfl⟩;have HKK:=Lib.hid hK;have hm0:MkTh w.heap.size q (.slice none 0 0) ((tops j).take 0) w0 w0:=⟨by rw[<-HW0.out,<-hq];exact zqo _ _,⟨by simpa using World.ownsRow_nil _ _ _ _⟩,Nat.le_refl _,λ_ _ _=>rfl,λg hg=>by cases hg⟩;have HM0:=Lib.hid hm0;clear hz hw0 hK hm0 hq;generalize wr=wo at *
    go_loopg [6] K (λk s6 wi=>∃(a:Nat)(oq:Option Addr)(oC:Nat),k=K - a/\a<=K/\s6=.int .i64 a/\MkTh w.heap.size q (.slice oq a oC) ((tops j).take a) w0 wi)
    case atStart=>exact⟨0,none,0,rfl,Nat.zero_le _,rfl,HM0.out⟩
    case round=>
     obtain⟨a,oq,oC,hk,ha,rfl,hm⟩:=hrel;have hq0:q<w0.heap.size:=by rw[<-HW0.out,zq4,HQ.out];omega
     have hold:∀b o,w.heap[b]?=some o->wr.heap[b]?=some o:=λb o hb=>by
      obtain⟨tb,ov,hT,hX⟩:=HR.out.1;have h1:=hX.heap hb;have h2:=zq7 h1;have h3:=HQ.out;rw[hm.old b (by rw[<-HW0.out,zq4];omega) zyo,<-HW0.out];exact zq9 h1
     have hcl:∀{x:Addr}{v:Value},w.cell? x=some v->wr.cell? x=some v:=λ{x v}hx=>by
      obtain⟨o,ho⟩:∃o,w.heap[x.block]?=some o:=⟨_,Array.getElem?_eq_getElem (cell_lt hx)⟩;exact(zqy ((hold _ _ ho).trans ho.symm)).trans hx
     have c5:wr.cell? ⟨q,0,none⟩=some (.slice oq a oC):=by
      rw[zq0 hm.blk];rfl
     have f5:wr.frozen? ⟨q,0,none⟩=false:=zq3 hm.blk;have cp:=hcl HC.out.1;have HMM:=Lib.hid hm;have HA:=Lib.hid (And.intro hk (And.intro ha hq0))
     by_cases hlt:a<K
     . have haM:(a:Int)<(M:Int):=by have:=HKK.out;omega
       have ha6:(a:Int)<65536:=by have:=HKK.out;omega
       have ha0:(0:Int)<=a:=by omega
       have hMa:a<(tops j).length:=by rw[HC.out.2.2.2];omega
       obtain⟨op,hop⟩:∃op,(tops j)[a]?=some op:=⟨_,List.getElem?_eq_getElem hMa⟩;obtain⟨gb,go,rfl,hco⟩:=HC.out.2.2.1 (by intro e;rw[e]at hMa;simp at hMa);have o0:wr.cell? ⟨gb,go+a*4,none⟩=some (.int .i64 op.k):=hcl ((hco a op hop 0 zyd).trans rfl);have o1:wr.cell? ⟨gb,go+a*4+1,none⟩=some (.int .i64 op.a):=hcl ((hco a op hop 1 zyd).trans rfl);have o2:wr.cell? ⟨gb,go+a*4+2,none⟩=some (.int .i64 op.b):=hcl ((hco a op hop 2 zyd).trans rfl);have o3:wr.cell? ⟨gb,go+a*4+3,none⟩=some (.int .i64 op.c):=hcl ((hco a op hop 3 zyd).trans rfl);have HL:=Lib.hid (And.intro hlt hop);clear hold hcl hm hco hop hMa hk ha hq0 hlt;have hlen:((tops j).take a).length=a:=by rw[List.length_take,HC.out.2.2.2];have:=HKK.out;have:=HL.out.1;omega
       have hrow:∀o:Obj,(wr.alloc o).ownsRow w.heap.size 34 4 (.slice oq a oC) a (((tops j).take a).flatMap OpX.cells):=λo=>by
        have:=zq1k HMM.out.ops.row o;rw[hlen]at this;exact this
       have c5b:∀o:Obj,(wr.alloc o).cell? ⟨q,0,none⟩=some (.slice oq a oC):=λo=>(zq0 (zq9 (o:=o) HMM.out.blk)).trans rfl;obtain⟨Z,hZ⟩:∃Z,wr.heap.size=Z:=⟨_,rfl⟩;have hnw:∀jj u,[Value.int .i64 op.k,.int .i64 op.a,.int .i64 op.b,.int .i64 op.c][jj]?=some u->(wr.alloc (.cells #[.int .i64 op.k,.int .i64 op.a,.int .i64 op.b,.int .i64 op.c] 34)).drew.cell? ((⟨Z,0,none⟩:Addr).add jj)=some u:=λjj u hj=>zq4o (w:=wr) (cs:=#[.int .i64 op.k,.int .i64 op.a,.int .i64 op.b,.int .i64 op.c]) (T:=34) hZ jj u hj;have hvk:∀(o:Obj)w2,((wr.alloc o).drew).grownBy w2 (Value.slice oq a oC).ownBlock->w2.heap[q]?=some (.cells (thC (.slice oq a oC) RTh.z (.slice none 0 0)) 174):=λo w2 hg=>by
        have h1:=zq9 (o:=o) HMM.out.blk;exact(hg.block q (zq7 h1) (λe=>zqt HMM.out.ops.row HMM.out.blk tyR.h2 e.symm)).trans h1
       obtain⟨ti,hti,hz,hz1,hz2⟩:∃ti,Try.prog.info? 34=some ti/\ti.zero=some (.agg #[.int .i64 0,.int .i64 0,.int .i64 0,.int .i64 0])/\ti.size=4/\ti.bytes=32:=⟨_,rfl,rfl,rfl,rfl⟩;have hund:Try.prog.underlying 32=some (.slice 34):=by kernel_rfl
       have HT:=Lib.hid (And.intro hti (And.intro hz (And.intro hz1 (And.intro hz2 hund))));have HX:=Lib.hid (And.intro hrow (And.intro hnw (And.intro hvk hlen)));have HZ:=Lib.hid hZ;have HS:=Lib.hid (And.intro HMM.out.size (show w.heap.size<=w0.heap.size by obtain⟨tb,ov,hT,hX⟩:=HR.out.1;have:=hX.size;rw[<-HW0.out,zq4];omega));clear hti hz hz1 hz2 hund hrow hnw hvk hlen
       go_wp2_with (fail)
       go_region_law (first
        |(refine step_append_lies _ rfl (.tmp 36) (.tmp 44) 32 rfl w.heap.size 34 ti _ 4 32 HT.out.2.2.2.2 HT.out.1 HT.out.2.1 HT.out.2.2.1 HT.out.2.2.2.1 rfl zyd (.slice oq a oC) a (((tops j).take a).flatMap OpX.cells) rfl (HX.out.1 _) ⟨Z,0,none⟩ 1 1 [.int .i64 op.k,.int .i64 op.a,.int .i64 op.b,.int .i64 op.c] rfl rfl HX.out.2.1 ?_ Nat.one_pos ?_ ?_ ?_ (Z+1) ?_ ?_
          . intro u hu;simp only[List.mem_cons,List.not_mem_nil,or_false]at hu;rcases hu with rfl |rfl |rfl |rfl<;>rfl
          . have:=HL.out.1;have:=HKK.out;simp only[maxLen];omega
          . have:=HL.out.1;have:=HKK.out;omega
          . have:=HS.out;show _<=(wr.alloc _).heap.size;rw[zq4];omega
          . show(wr.alloc _).heap.size=_;rw[zq4,HZ.out]
          intro g cap w2 k1 k2 k3 k4;have HK:=Lib.hid (And.intro k1 (And.intro k2 k3));have cS:w2.cell? ⟨q,0,none⟩=some (.slice oq a oC):=(zq0 (HX.out.2.2.1 _ _ k2)).trans rfl;have fS:=zq3 (off:=0) (HX.out.2.2.1 _ _ k2);clear k1 k2 k3 k4))
       all_goals(
        go_wp2_with (fail)
        go_roundg (K - (a+1))
        case measure=>have:=HA.out.1;have:=HL.out.1;omega
        case rel=>
         have hlen:=HX.out.2.2.2;have hk:=HK.out;have hp:=mk_push (op:=op) HMM.out HA.out.2.2 zx2p (by rw[hlen];exact hk.1) hk.2.1 (by rcases hk.2.2 with e|e;exact .inl e;right;have:=HZ.out;omega);rw[hlen]at hp;refine⟨a+1,some ⟨g,0,none⟩,cap,rfl,HL.out.1,zx36,?_⟩;rw[List.take_add_one,HL.out.2];exact hp)
     ·
      obtain rfl:K=a:=by omega
      have hfull:(tops j).take K=(tops j).take 65536:=by
       have h1:=HKK.out;have h2:=HC.out.2.2.2;rw[List.take_eq_take_iff,h2];omega
      have hnl:¬((K:Int)<(M:Int))\/¬((K:Int)<65536):=by have:=HKK.out;omega
      rw[hfull]at hm;have hTP:=HR.out.1;obtain⟨xs0,hro⟩:∃xs0,wr.ownsRow w.heap.size 124 1 (.slice p j C) j xs0:=by
       obtain⟨tb,ov,hT,hX⟩:=HR.out.1;refine⟨_,zqs hT.row λg hg=>?_⟩;have h1:=(own_lt hT.row hg).2.2;have h2:=HQ.out;rw[hm.old g (by rw[<-HW0.out,zq4];omega) zyo,<-HW0.out,zq6,if_neg zyo]
      have HMM:=Lib.hid hm;obtain⟨Z,hZ⟩:∃Z,wr.heap.size=Z:=⟨_,rfl⟩;have hwZ:w.heap.size<=Z:=by
       obtain⟨tb,ov,hT,hX⟩:=HR.out.1;have h1:=hX.size;have h2:=hm.size;rw[<-HW0.out,zq4]at h2;omega
      obtain⟨ti,hti,hz,hz1,hz2⟩:∃ti,Try.prog.info? 124=some ti/\ti.zero=some (.pointer none)/\ti.size=1/\ti.bytes=8:=⟨_,rfl,rfl,rfl,rfl⟩;obtain⟨g,cap,w2,hrun,hown,hgrow,hat,hlt2⟩:=run_append_lies (P:=Try.prog) (wr.alloc (.cells #[.pointer (some ⟨q,0,none⟩)] 124)) 115 115 w.heap.size 124 ti (.pointer none) 1 8 zyk hti hz hz1 hz2 rfl zyd (.slice p j C) j _ (zq1k hro _) ⟨Z,0,none⟩ 1 1 [.pointer (some ⟨q,0,none⟩)] rfl (λjj u hj=>zq3h hZ jj u hj) (by intro u hu;rw[List.mem_singleton.1 hu];rfl) zyd (by simp only[maxLen];have:=HR.out.2.2.1;have:=HI.out.2.2.1;omega) (by have:=HR.out.2.2.1;have:=HI.out.2.2.1;omega) zx3h _ rfl;have hall:∀xs,wr.ownsRow w.heap.size 124 1 (.slice p j C) j xs->w2.ownsRow w.heap.size 124 1 (.slice (some ⟨g,0,none⟩) (j+1) cap) (j+1) (xs++[.pointer (some ⟨q,0,none⟩)]):=λxs hxs=>by
       have e:xs=xs0:=by
        rcases hxs.2 with⟨hv,h0⟩|⟨g1,cap1,cur1,hv,_,hh,_,_,_,ht1⟩
        . have h1:=hxs.1;have h2:=hro.1;rw[h0]at h1 h2;rw[List.eq_nil_of_length_eq_zero (by omega:xs.length=0),List.eq_nil_of_length_eq_zero (by omega:xs0.length=0)]
        . rcases hro.2 with⟨hv2,h0⟩|⟨g2,cap2,cur2,hv2,_,hh2,_,_,_,ht2⟩
          . rw[hv2]at hv;cases hv
          . exact zx22
       rw[e];exact hown
      have hfin:=ths_push hTP HQ.out HW0.out hm rfl hall hgrow;have HF:=Lib.hid hfin;have HHR:=Lib.hid (And.intro HR.out.2.1 (And.intro HR.out.2.2.1 HR.out.2.2.2));clear hfin hall hown hgrow hat hlt2 hti hz hz1 hz2 hro hTP hm hfull hwZ hk ha hold hcl f5 c5 hq0 HR;rcases hnl with hnl|hnl
      . exact zxl
      . by_cases hnl2:(K:Int)<(M:Int)
        . exact zxl
        . exact zxl
  ·
   obtain rfl:N=j:=by omega
   have hn1:¬((N:Int)<(np:Int))\/¬((N:Int)<64):=by have:=HI.out.2.2.1;omega
   have HF:=Lib.hid hI;clear hI hk hj hlt;rcases hn1 with hn1|hn1
   . go_wp2;go_ret;exact⟨_,rfl,HF.out⟩
   . by_cases hn2:(N:Int)<(np:Int)
     . go_wp2;go_ret;exact⟨_,rfl,HF.out⟩
     . go_wp2;go_ret;exact⟨_,rfl,HF.out⟩
def natV(l:List Nat):List Value:=l.map λ(i:Nat)=>.int .i64 i
structure TuI(ub:Nat)(lv:Value)(l:List Int)(a r most:Nat)(ov:Value)(ord:List Nat)(stk:Bool)(B:Nat)(w:World):Prop where
 blk:w.heap[ub]?=some (.cells #[lv,.int .i64 a,.int .i64 r,.int .i64 most,ov,.bool stk] 178)
 lrow:w.ownsRow B 3 1 lv l.length (l.map (Value.int .i64))
 orow:w.ownsRow B 3 1 ov ord.length (natV ord)
 sep:∀g,lv.ownBlock=some g->ov.ownBlock≠some g
 lo:B<=ub
structure RestU(ub:Nat)(row:Option Nat)(w w':World):Prop where
 size:w.heap.size<=w'.heap.size
 old:∀b,b<w.heap.size->b≠ub->row≠some b->w'.heap[b]?=w.heap[b]?
theorem RestU.refl (ub:Nat)(row:Option Nat)(w:World):RestU ub row w w:=⟨Nat.le_refl _,λ_ _ _ _=>rfl⟩
theorem RestU.set {ub:Nat}{row:Option Nat}{w w':World}(h:RestU ub row w w')(i:Nat)(v:Value):RestU ub row w (w'.setCell ⟨ub,i,none⟩ v):=⟨by rw[zqf];exact h.size,λb hb h1 h2=>(zq8 _ _ _ _ h1).trans (h.old b hb h1 h2)⟩
theorem RestU.drew {ub:Nat}{row:Option Nat}{w w':World}(h:RestU ub row w w')(n:Nat):RestU ub row w (w'.drewN n):=⟨h.size,h.old⟩
section
variable {ub:Nat} {lv:Value} {l:List Int} {a r most:Nat} {ov:Value} {ord:List Nat} {stk:Bool} {B:Nat} {w w':World}
theorem TuI.more (h:TuI ub lv l a r most ov ord stk B w)(ho:∀b,b<w.heap.size->w'.heap[b]?=w.heap[b]?):TuI ub lv l a r most ov ord stk B w':=
 ⟨(ho _ (zq7 h.blk)).trans h.blk,zqs h.lrow λg hg=>ho g (own_lt h.lrow hg).2.2,zqs h.orow λg hg=>ho g (own_lt h.orow hg).2.2,h.sep,h.lo⟩
theorem TuI.c (h:TuI ub lv l a r most ov ord stk B w):w.cell? ⟨ub,0,none⟩=some lv/\w.cell? ⟨ub,1,none⟩=some (.int .i64 a)/\w.cell? ⟨ub,2,none⟩=some (.int .i64 r)/\w.cell? ⟨ub,3,none⟩=some (.int .i64 most)/\w.cell? ⟨ub,4,none⟩=some ov/\w.cell? ⟨ub,5,none⟩=some (.bool stk):=
 ⟨(zq0 h.blk).trans rfl,(zq0 h.blk).trans rfl,(zq0 h.blk).trans rfl,(zq0 h.blk).trans rfl,(zq0 h.blk).trans rfl,(zq0 h.blk).trans rfl⟩
theorem TuI.fz (h:TuI ub lv l a r most ov ord stk B w)(i:Nat):w.frozen? ⟨ub,i,none⟩=false:=zq3 h.blk
theorem TuI.far (h:TuI ub lv l a r most ov ord stk B w)(i:Nat)(v:Value):(w.setCell ⟨ub,i,none⟩ v).ownsRow B 3 1 lv l.length (l.map (Value.int .i64))/\(w.setCell ⟨ub,i,none⟩ v).ownsRow B 3 1 ov ord.length (natV ord):=
 ⟨zqs h.lrow λg hg=>zq8 _ _ _ _ λe=>zqt h.lrow h.blk zyd (by rw[hg,show g=ub from e]),
  zqs h.orow λg hg=>zq8 _ _ _ _ λe=>zqt h.orow h.blk zyd (by rw[hg,show g=ub from e])⟩
theorem TuI.setA (h:TuI ub lv l a r most ov ord stk B w)(n:Nat):TuI ub lv l n r most ov ord stk B (w.setCell ⟨ub,1,none⟩ (.int .i64 n)):=⟨(zqa _ _ _ _ h.blk).trans rfl,(h.far _ _).1,(h.far _ _).2,h.sep,h.lo⟩
theorem TuI.setR (h:TuI ub lv l a r most ov ord stk B w)(n:Nat):TuI ub lv l a n most ov ord stk B (w.setCell ⟨ub,2,none⟩ (.int .i64 n)):=⟨(zqa _ _ _ _ h.blk).trans rfl,(h.far _ _).1,(h.far _ _).2,h.sep,h.lo⟩
theorem TuI.setS (h:TuI ub lv l a r most ov ord stk B w)(s:Bool):TuI ub lv l a r most ov ord s B (w.setCell ⟨ub,5,none⟩ (.bool s)):=⟨(zqa _ _ _ _ h.blk).trans rfl,(h.far _ _).1,(h.far _ _).2,h.sep,h.lo⟩
theorem TuI.lb (h:TuI ub lv l a r most ov ord stk B w):∃p C,lv=.slice p l.length C/\∀i,i<l.length->∃g,p=some ⟨g,0,none⟩/\w.cell? ⟨g,i,none⟩=some (.int .i64 (l.getD i 0)):=by
 rcases h.lrow.2 with⟨hv,h0⟩|⟨g,cap,cur,hv,_,hh,_,_,_,ht⟩
 . exact⟨none,0,by rw[hv,h0],λi hi=>by omega⟩
 . refine⟨_,cap,hv,λi hi=>⟨g,rfl,?_⟩⟩;rw[zq0 hh];have:(l.map (Value.int .i64))[i]?=some (.int .i64 (l.getD i 0)):=by simp[hi]
   rw[<-ht,List.getElem?_take,if_pos zyo]at this;simpa using this
theorem TuI.push {W w5:World}{g cap x:Nat}(h:TuI ub lv l a r most ov ord stk B w)(hW:∀b,b<w.heap.size->W.heap[b]?=w.heap[b]?)(hWs:w.heap.size<=W.heap.size)
 (hown:w5.ownsRow B 3 1 (.slice (some ⟨g,0,none⟩) (ord.length+1) cap) (ord.length+1) (natV ord++[.int .i64 x])) (hgrow:W.grownBy w5 ov.ownBlock) (hat:ov.ownBlock=some g\/w.heap.size<=g):
 TuI ub lv l a r most (.slice (some ⟨g,0,none⟩) (ord.length+1) cap) (ord++[x]) stk B (w5.setCell ⟨ub,4,none⟩ (.slice (some ⟨g,0,none⟩) (ord.length+1) cap)):=by
 have k5:∀b,b<w.heap.size->ov.ownBlock≠some b->w5.heap[b]?=w.heap[b]?:=λb hb hne=>(hgrow.block b zyo λe=>hne e.symm).trans (hW b hb);have hub:=zq7 h.blk;have hou:ov.ownBlock≠some ub:=zqt h.orow h.blk zyd;have t5:=(k5 ub hub hou).trans h.blk;have l5:w5.ownsRow B 3 1 lv l.length (l.map (Value.int .i64)):=zqs h.lrow λq hq=>k5 q (own_lt h.lrow hq).2.2 (h.sep q hq);have hgu:g≠ub:=λe=>zqt hown t5 zyd (by rw[e];rfl);have o5:w5.ownsRow B 3 1 (.slice (some ⟨g,0,none⟩) (ord.length+1) cap) (ord++[x]).length (natV (ord++[x])):=by
  rw[List.length_append];simpa[natV]using hown
 refine⟨(zqa _ _ _ _ t5).trans rfl,zqs l5 λq hq=>zq8 _ _ _ _ λe=>zqt l5 t5 zyd (by rw[hq,show q=ub from e]),zqs o5 λq hq=>zq8 _ _ _ _ λe=>hgu (by simp only[Value.ownBlock,al_oi]at hq;rw[hq];exact e),λq hq he=>?_,h.lo⟩;simp only[Value.ownBlock,al_oi]at he;subst he;rcases hat with h1|h1
 . exact h.sep g hq h1
 . have:=(own_lt h.lrow hq).2.2;omega
end
theorem RestU.push {ub:Nat}{ov v:Value}{w w4 W w5:World}(h:RestU ub ov.ownBlock w w4)(hW:∀b,b<w4.heap.size->W.heap[b]?=w4.heap[b]?)(hWs:w4.heap.size<=W.heap.size)(hgrow:W.grownBy w5 ov.ownBlock):RestU ub ov.ownBlock w (w5.setCell ⟨ub,4,none⟩ v):=by
 have hs:=hgrow.size;have hs2:=h.size;refine⟨by rw[zqf];omega,λb hb h1 h2=>?_⟩;rw[zq8 _ _ _ _ h1,hgrow.block b zyo (λe=>h2 e.symm),hW b zyo];exact h.old b hb h1 h2
def NewTPost(l:List Int)(mo:Int)(w:World)(e:Ending)(w':World):Prop:=∃ub lv,e=.returned (.pointer (some ⟨ub,0,none⟩))/\TuI ub lv l 0 0 (min mo.toNat 1048576) (.slice none 0 0) [] false w.heap.size w'/\Ext w w'
theorem zqgf{w:World}{sv:Value}{l:List Int}{mo:Int}(hl:l.length<=1099511627776)(hs:IntsAt w sv l):
 Calls Try.prog 40 #[sv,.int .i64 mo] w λe w'=>NewTPost l mo w e w':=by
 obtain⟨Z,hZ⟩:∃Z,w.heap.size=Z:=⟨_,rfl⟩;obtain⟨w0,hw0⟩:∃w0,w.alloc (.cells #[.slice none 0 0,.int .i64 0,.int .i64 0,.int .i64 mo,.slice none 0 0,.bool false] 178)=w0:=⟨_,rfl⟩;have hb0:w0.heap[Z]?=some (.cells #[.slice none 0 0,.int .i64 0,.int .i64 0,.int .i64 mo,.slice none 0 0,.bool false] 178):=by rw[<-hw0,<-hZ];exact zqo _ _
 have hB0:Beyond w w0:=hw0▸Beyond.alloc _ _;have hs0:w0.heap.size=Z+1:=by rw[<-hw0,zq4,hZ]
 obtain⟨v,w1,hrun,hown,hbe,hat⟩:=zqgp (P:=Try.prog) (base:=w.heap.size) (t:=23) (ty:=23) (e:=3) (i:=(Try.prog.info? 3).getD default) (z:=.int .i64 0) zyk zyk zyk zyk zyk zx2p (hs.beyond hB0) hl hB0.1;obtain⟨p,C,rfl,_⟩:=hs;obtain⟨vp,vn,vc,rfl⟩:∃a b c,v=.slice a b c:=by obtain⟨a,b,c,_⟩:=zq2d hown;exact⟨_,_,_,c⟩
 have hb1:=hbe.heap hb0;have hzv:(Value.slice vp vn vc).ownBlock≠some Z:=λe=>by have:=hat Z e;omega
 have rows:∀(W:World)(k:Nat),W.heap[Z]?=some (.cells #[.slice vp vn vc,.int .i64 0,.int .i64 0,.int .i64 k,.slice none 0 0,.bool false] 178)->(∀b,b≠Z->W.heap[b]?=w1.heap[b]?)->w1.heap.size<=W.heap.size->TuI Z (.slice vp vn vc) l 0 0 k (.slice none 0 0) [] false w.heap.size W/\Ext w W:=λW k hz ho hsz=>by
  refine⟨⟨hz,zqs hown λg hg=>ho g λe=>hzv (by rw[hg,e]),World.ownsRow_nil _ _ _ _,λg _ e=>(by cases e),zyo⟩,⟨Nat.le_trans (Nat.le_trans hB0.1 hbe.1) hsz,λb hb=>?_⟩⟩;rw[ho b zyo,hbe.2 b zyo];exact hB0.2 b hb
 have hA:∀k:Nat,mo=k->TuI Z (.slice vp vn vc) l 0 0 k (.slice none 0 0) [] false w.heap.size (w1.setCell ⟨Z,0,none⟩ (.slice vp vn vc))/\Ext w (w1.setCell ⟨Z,0,none⟩ (.slice vp vn vc)):=λk hk=>rows _ k ((zqa w1 Z 0 (.slice vp vn vc) hb1).trans (by rw[hk];rfl)) (λb hb=>zq8 _ _ _ _ hb) (by rw[zqf];exact Nat.le_refl _);have hC:∀k:Nat,TuI Z (.slice vp vn vc) l 0 0 k (.slice none 0 0) [] false w.heap.size ((w1.setCell ⟨Z,0,none⟩ (.slice vp vn vc)).setCell ⟨Z,3,none⟩ (.int .i64 k))/\Ext w ((w1.setCell ⟨Z,0,none⟩ (.slice vp vn vc)).setCell ⟨Z,3,none⟩ (.int .i64 k)):=λk=>rows _ k ((zqa _ Z 3 (.int .i64 k) (zqa w1 Z 0 (.slice vp vn vc) hb1)).trans rfl) (λb hb=>by rw[zq8 _ _ _ _ hb,zq8 _ _ _ _ hb]) (by simp only[zqf];exact Nat.le_refl _);have cz0:w0.cell? ⟨Z,0,none⟩=some (.slice none 0 0):=(zq0 hb0).trans rfl;have c10:w1.cell? ⟨Z,0,none⟩=some (.slice none 0 0):=(zq0 hb1).trans rfl;have c13:w1.cell? ⟨Z,3,none⟩=some (.int .i64 mo):=(zq0 hb1).trans rfl;have f10:=zq3 (off:=0) hb1;have f13:=zq3 (off:=3) hb1;have HH:=Lib.hid (And.intro hA hC);clear rows hA hC hzv hb1 hat hbe hown hs0 hB0 hb0 hl
 by_cases h0:mo<0
 . have h0':¬mo>1048576:=by omega
   have HZ:=Lib.hid (show min mo.toNat 1048576=0 by omega)
   go_enter Try.func40,Try.ntmps40
   go_wp2_with (at_builtin;go_loud (refine zq7k rfl (.tmp 13) (.tmp 14) 23 rfl hrun ?_))
   go_ret;refine⟨Z,.slice vp vn vc,rfl,?_⟩;rw[HZ.out];exact HH.out.2 0
 . by_cases h1:mo>1048576
   . have HZ:=Lib.hid (show min mo.toNat 1048576=1048576 by omega)
     go_enter Try.func40,Try.ntmps40
     go_wp2_with (at_builtin;go_loud (refine zq7k rfl (.tmp 13) (.tmp 14) 23 rfl hrun ?_))
     go_ret;refine⟨Z,.slice vp vn vc,rfl,?_⟩;rw[HZ.out];exact HH.out.2 1048576
   . obtain⟨k,hk⟩:∃k:Nat,mo=k:=⟨mo.toNat,by omega⟩;have HZ:=Lib.hid (And.intro hk (show min mo.toNat 1048576=k by omega));clear hk
     go_enter Try.func40,Try.ntmps40
     go_wp2_with (at_builtin;go_loud (refine zq7k rfl (.tmp 13) (.tmp 14) 23 rfl hrun ?_))
     go_ret;refine⟨Z,.slice vp vn vc,rfl,?_⟩;rw[HZ.out.2];exact HH.out.1 k HZ.out.1
structure EnAt(N:Nat)(tp:Option Addr)(tg:Nat)(tb:Nat->Nat)(en:Nat->Bool)(w:World):Prop where
 ptr:0<N->tp=some ⟨tg,0,none⟩
 row:0<N->∃c,w.heap[tg]?=some (.cells c 124)/\∀i,i<N->c[i]?=some (.pointer (some ⟨tb i,0,none⟩))
 th:∀i,i<N->∃c,w.heap[tb i]?=some (.cells c 174)/\c[13]?=some (.bool (en i))
section
variable {N:Nat} {tp:Option Addr} {tg:Nat} {tb:Nat->Nat} {en:Nat->Bool} {ub:Nat} {lv:Value} {l:List Int} {a r most:Nat} {ov:Value} {ord:List Nat} {stk:Bool} {B:Nat} {w w':World}
theorem EnAt.rest (h:EnAt N tp tg tb en w)(ht:TuI ub lv l a r most ov ord stk B w)(hr:RestU ub ov.ownBlock w w'):EnAt N tp tg tb en w':=by
 refine⟨h.ptr,λh0=>?_,λi hi=>?_⟩
 . obtain⟨c,h1,h2⟩:=h.row h0;exact⟨c,(hr.old tg (zq7 h1) (zq14 h1 ht.blk zyd) (zqt ht.orow h1 zyd)).trans h1,h2⟩
 . obtain⟨c,h1,h2⟩:=h.th i hi;exact⟨c,(hr.old _ (zq7 h1) (zq14 h1 ht.blk zyd) (zqt ht.orow h1 zyd)).trans h1,h2⟩
theorem EnAt.cell (h:EnAt N tp tg tb en w){i:Nat}(hi:i<N):w.cell? ⟨tg,i,none⟩=some (.pointer (some ⟨tb i,0,none⟩))/\w.cell? ⟨tb i,13,none⟩=some (.bool (en i)):=by
 obtain⟨c,h1,h2⟩:=h.row zyo;obtain⟨d,h3,h4⟩:=h.th i hi;exact⟨(zq0 h1).trans (h2 i hi),(zq0 h3).trans h4⟩
end
def zqcv(ub:Nat)(lv:Value)(l:List Int)(a r most:Nat)(ov:Value)(ord:List Nat)(B N:Nat)(en:Nat->Bool)(w:World)(e:Ending)(w':World):Prop:=
 (leftN en N=0/\e=.returned (.int .i64 (-1))/\w'=w)\/
 (0<leftN en N/\most<=ord.length/\e=.returned (.int .i64 (-1))/\TuI ub lv l a r most ov ord true B w'/\RestU ub ov.ownBlock w w')\/
 (0<leftN en N/\ord.length<most/\∃x a' r' ov',e=.returned (.int .i64 (x:Nat))/\PickR l N en a r x a' r'/\a'<=l.length/\r'<=N/\TuI ub lv l a' (r' % N) most ov' (ord++[x]) false B w'/\RestU ub ov.ownBlock w w'/\SameOr ov ov' w)
structure RPkL(ub:Nat)(lv:Value)(l:List Int)(a r most:Nat)(ov:Value)(ord:List Nat)(B N:Nat)(en:Nat->Bool)(w:World)(k:Nat)(wr:World):Prop where
 i:TuI ub lv l k r most ov ord false B wr
 le:a<=k/\k<=l.length
 skip:∀j y,a<=j->j<k->l[j]?=some y->skipN N en y
 rest:RestU ub ov.ownBlock w wr
structure RPkM(ub:Nat)(lv:Value)(l:List Int)(a r most:Nat)(ov:Value)(ord:List Nat)(B N:Nat)(en:Nat->Bool)(w:World)(v:Nat)(wr:World):Prop where
 i:TuI ub lv l l.length (v % N) most ov ord false B wr
 le:r<=v
 skip:∀j y,a<=j->l[j]?=some y->skipN N en y
 ovr:∀j,r<=j->j<v->en (j % N)=true
 rest:RestU ub ov.ownBlock w wr
theorem zqgk{N C:Nat}{tp:Option Addr}{tg:Nat}{tb:Nat->Nat}{en:Nat->Bool}{ub:Nat}{lv:Value}{l:List Int}{a r most:Nat}{ov:Value}{ord:List Nat}{B:Nat}{w:World}(hN:N<=64)(hl:l.length<=1099511627776)(ha:a<=l.length)(hr:0<N->r<N)(ho:ord.length<=1048576)(hm:most<=1048576)
 (h:TuI ub lv l a r most ov ord false B w) (hE:EnAt N tp tg tb en w):Calls Try.prog 41 #[.pointer (some ⟨ub,0,none⟩),.slice tp N C] w λe w'=>zqcv ub lv l a r most ov ord B N en w e w':=by
 obtain⟨lp,lC,rfl,hlc⟩:=h.lb;obtain⟨op,oC,rfl,-,-⟩:=zq2d h.orow;obtain⟨L,hL⟩:∃L,l.length=L:=⟨_,rfl⟩;obtain⟨on,hno⟩:∃n,ord.length=n:=⟨_,rfl⟩;have HL:=Lib.hid (And.intro hL hno);have H:=Lib.hid (And.intro h hE);obtain⟨c0,c1,c2,c3,c4,c5⟩:=h.c;have f5:=h.fz 5;rw[hL]at ha hl c0;rw[hno]at ho c4;have HB:=Lib.hid (And.intro hN (And.intro hl (And.intro ha (And.intro hr (And.intro ho hm)))));clear h hE hlc hL hno hl ha hr ho hm
 go_enter Try.func41,Try.ntmps41
 go_wp2_with (fail)
 go_loopg [5,6] N (λk s5 s6 wr=>∃j,k=N - j/\j<=N/\s6=.int .i64 j/\s5=.int .i64 (leftN en j)/\w=wr)
 case atStart=>exact⟨0,rfl,Nat.zero_le _,rfl,rfl,rfl⟩
 case round=>
  obtain⟨j,hk,hj,rfl,rfl,rfl⟩:=hrel
  by_cases hlt:j<N
  . have hlt':(j:Int)<(N:Int):=by omega
    have hj0:(0:Int)<=j:=by omega
    have hj64:(j:Int)<64:=by omega
    obtain⟨k1,k2⟩:=H.out.2.cell hlt;obtain rfl:=H.out.2.ptr zyo;obtain⟨q,hq⟩:∃q,leftN en j=q:=⟨_,rfl⟩;have hql:q<=j:=hq▸zq6m en j;have hqn:leftN en (j+1)=q+(if en j then 0 else 1):=by show leftN en j+_=_;rw[hq]
    have HQ:=Lib.hid (And.intro hqn hql);rw[hq];clear hq hqn;cases he:en j with
    |true=>
     rw[he]at k2;have HE:=Lib.hid he;clear he;go_wp2;go_roundg (N - (j+1))
     case measure=>omega
     case rel=>exact⟨j+1,rfl,by omega,zx36,by rw[HQ.out.1,HE.out];rfl,rfl⟩
    |false=>
     rw[he]at k2;have HE:=Lib.hid he;clear he;have hq0:(0:Int)<=q:=by omega
     have hq64:(q:Int)<64:=by omega
     go_wp2;go_roundg (N - (j+1))
     case measure=>omega
     case rel=>exact⟨j+1,rfl,by omega,zx36,by rw[HQ.out.1,HE.out];first|rfl |(congr 1;unfold wrap64;omega),rfl⟩
  . obtain rfl:N=j:=by omega
    obtain⟨q,hq⟩:∃q,leftN en N=q:=⟨_,rfl⟩;have HQ:=Lib.hid hq;rw[hq];clear hq hlt hj
    by_cases hq0:q=0
    . subst hq0;go_wp2;go_ret;exact .inl ⟨HQ.out,rfl,rfl⟩
    . have hqI:¬((q:Int)=0):=by omega
      have hd:((q:Int)==0)=false:=by simpa using hqI
      by_cases hfull:most<=on
      . have hd2:decide (most<=on)=true:=by simp[hfull]
        have HF:=Lib.hid hfull;clear hfull
        go_wp2_with (fail)
        go_quiet (fail)
        have f5q:(w.drewN nq).frozen? ⟨ub,5,none⟩=false:=f5;have c5q:(w.drewN nq).cell? ⟨ub,5,none⟩=some (.bool false):=c5;clear f5 c5 c0 c1 c2 c3 c4;go_wp2;go_ret;exact .inr (.inl ⟨by rw[HQ.out];omega,by rw[HL.out.2];exact HF.out,rfl,(TuI.more (w':=w.drewN nq) H.out.1 λb hb=>rfl).setS true,((RestU.refl _ _ _).drew nq).set 5 _⟩)
      . have hd2:decide (most<=on)=false:=by simp;omega
        have HF:=Lib.hid hfull;clear hfull
        go_wp2_with (fail)
        go_quiet (fail)
        have hI0:RPkL ub (.slice lp l.length lC) l a r most (.slice op ord.length oC) ord B N en w a (w.drewN nq):=⟨H.out.1.more λb hb=>rfl,⟨Nat.le_refl _,by rw[HL.out.1];exact HB.out.2.2.1⟩,λj y h1 h2=>by omega,(RestU.refl _ _ _).drew _⟩;have HI0:=Lib.hid hI0;clear hI0 c0 c1 c2 c3 c4 c5 f5
        go_wp2_with (fail)
        go_loopg [7] (L - a) (λk s7 wr=>∃j,k=L - j/\RPkL ub (.slice lp l.length lC) l a r most (.slice op ord.length oC) ord B N en w j wr)
        case atStart=>exact⟨a,rfl,HI0.out⟩
        case round=>
         obtain⟨j,hk,hI⟩:=hrel;have HI:=Lib.hid hI;clear hI;obtain⟨k0,k1,k2,k3,k4,k5⟩:=HI.out.i.c;have f1:=HI.out.i.fz 1;rw[HL.out.1]at k0;rw[HL.out.2]at k4;have hjL:=HI.out.le.2;rw[HL.out.1]at hjL
         by_cases hlt:j<L
         . have hlt':(j:Int)<(L:Int):=by omega
           have hj0:(0:Int)<=j:=by omega
           have hd3:decide (j<L)=true:=by simp[hlt]
           go_wp2_with (fail)
           go_quiet (fail)
           have HI2:=Lib.hid (TuI.more (w':=wr.drewN nq) HI.out.i λb hb=>rfl);have HR2:=Lib.hid (HI.out.rest.drew nq);clear k0 k1 k2 k3 k4 k5 f1;generalize wr.drewN nq=w2 at HI2 HR2 |-;obtain⟨k0,k1,k2,k3,k4,k5⟩:=HI2.out.c;rw[HL.out.1]at k0;obtain⟨p',C',e',hlb⟩:=HI2.out.lb;cases e';obtain⟨lg,rfl,kx⟩:=hlb j (by rw[HL.out.1];exact hlt);obtain⟨x,hx⟩:∃x,l.getD j 0=x:=⟨_,rfl⟩;rw[hx]at kx;have HX:=Lib.hid hx;clear hlb hx
           go_wp2_with (fail)
           go_quiet (fail)
           have HI3:=Lib.hid (TuI.more (w':=w2.drewN nq) HI2.out λb hb=>rfl);have HR3:=Lib.hid (HR2.out.drew nq);clear k0 k1 k2 k3 k4 k5 kx;generalize w2.drewN nq=w3 at HI3 HR3 |-;obtain⟨k0,k1,k2,k3,k4,k5⟩:=HI3.out.c;rw[HL.out.1]at k0;rw[HL.out.2]at k4;have f1:=HI3.out.fz 1;have hj1:((j:Int)+1)=((j+1:Nat):Int):=by omega
           have hHI4:=HI3.out.setA (j+1);have hHR4:=HR3.out.set 1 (.int .i64 ((j+1:Nat):Int));rw[<-hj1]at hHI4 hHR4;have HI4:=Lib.hid hHI4;have HR4:=Lib.hid hHR4;clear hHI4 hHR4 hj1;have hnext:skipN N en x->RPkL ub (.slice (some ⟨lg,0,none⟩) l.length lC) l a r most (.slice op ord.length oC) ord B N en w (j+1) (w3.setCell ⟨ub,1,none⟩ (.int .i64 ((j:Int)+1))):=λhsk=>by
            refine⟨HI4.out,⟨by have:=HI.out.le.1;omega,by rw[HL.out.1];omega⟩,λi y h1 h2 hy=>?_,HR4.out⟩
            by_cases e:i=j
            . subst e;have:l[i]?=some (l.getD i 0):=by simp[show i<l.length from by rw[HL.out.1];exact hlt]
              rw[this,HX.out]at hy;cases hy;exact hsk
            . exact HI.out.skip i y h1 zyo hy
           have HNX:=Lib.hid hnext;clear hnext hd3;have hLb:(L:Int)<=1099511627776:=by have:=HB.out.2.1;omega
           by_cases x0:x<0
           . have x0':¬0<=x:=by omega
             go_wp2;go_roundg (L - (j+1))
             case measure=>have:=HI.out.le.1;omega
             case rel=>exact⟨j+1,rfl,HNX.out (.inl x0)⟩
           . have x0':0<=x:=by omega
             by_cases x1:(N:Int)<=x
             . have x1':¬x<(N:Int):=by omega
               go_wp2;go_roundg (L - (j+1))
               case measure=>have:=HI.out.le.1;omega
               case rel=>exact⟨j+1,rfl,HNX.out (.inr (.inl x1))⟩
             . obtain⟨xn,rfl⟩:∃n:Nat,x=n:=⟨x.toNat,by omega⟩;have x1':(xn:Int)<(N:Int):=by omega
               have hxN:xn<N:=by omega
               obtain⟨e1,e2⟩:=(H.out.2.rest H.out.1 HR4.out).cell hxN;obtain rfl:=H.out.2.ptr zyo;cases he:en xn with
               |true=>
                rw[he]at e2;have HEE:=Lib.hid he;clear he;go_wp2;go_roundg (L - (j+1))
                case measure=>have:=HI.out.le.1;omega
                case rel=>exact⟨j+1,rfl,HNX.out (.inr (.inr (by rw[Int.toNat_natCast];exact HEE.out)))⟩
               |false=>
                rw[he]at e2;have HEE:=Lib.hid he;clear he;clear k0 k1 k2 k3 k4 k5 f1;have f1:=HI3.out.fz 1;obtain⟨k0,k1,k2,k3,k4,k5⟩:=HI3.out.c;rw[HL.out.1]at k0;rw[HL.out.2]at k4;obtain⟨q0,q1,q2,q3,q4,q5⟩:=HI4.out.c;rw[HL.out.2]at q4;have hrow:(w3.setCell ⟨ub,1,none⟩ (.int .i64 ((j:Int)+1))).ownsRow B 3 1 (.slice op on oC) on (natV ord):=by have:=HI4.out.orow;rw[HL.out.2]at this;exact this
                have hBw:B<=(w3.setCell ⟨ub,1,none⟩ (.int .i64 ((j:Int)+1))).heap.size:=Nat.le_trans HI4.out.lo (Nat.le_of_lt (zq7 HI4.out.blk));obtain⟨ti,hti,hz0,hz1,hz2⟩:∃ti,Try.prog.info? 3=some ti/\ti.zero=some (.int .i64 0)/\ti.size=1/\ti.bytes=8:=⟨_,rfl,rfl,rfl,rfl⟩;have TI:=Lib.hid (And.intro hti (And.intro hz0 (And.intro hz1 hz2)));have HRW:=Lib.hid (And.intro hrow hBw);clear hti hz0 hz1 hz2 hrow hBw;have hon:on<=1048576:=HB.out.2.2.2.2.1
                go_wp2_with (at_builtin;go_loud (refine wpList_append_lies _ rfl (.tmp 90) (.tmp 92) 23 rfl B 3 ti (.int .i64 0) 1 8 zyk TI.out.1 TI.out.2.1 TI.out.2.2.1 TI.out.2.2.2 rfl zyd _ on (natV ord) rfl (zq1k HRW.out.1 _) _ 1 1 [.int .i64 xn] rfl rfl (zq3h (by simp only[zqf])) (by simp[Value.oneCell']) zyd zx3t zyo (by have:=HRW.out.2;rw[zq4];omega) _ rfl ?next))
                case next=>
                 intro g cap w5 hown hgrow hat hlt5;have hP:=TuI.push (W:=(w3.setCell ⟨ub,1,none⟩ (.int .i64 ((j:Int)+1))).alloc (.cells #[.int .i64 xn] 3)) (x:=xn) HI4.out (λb hb=>by rw[zq6,if_neg zyo]) zx3h (by rw[HL.out.2];exact hown) zx48 zx3q;have hPR:=RestU.push (v:=.slice (some ⟨g,0,none⟩) (ord.length+1) cap) HR4.out (W:=(w3.setCell ⟨ub,1,none⟩ (.int .i64 ((j:Int)+1))).alloc (.cells #[.int .i64 xn] 3)) (λb hb=>by rw[zq6,if_neg zyo]) zx3h zx48;have hat':SameOr (.slice op ord.length oC) (.slice (some ⟨g,0,none⟩) (ord.length+1) cap) w:=λz hz=>by
                  simp only[Value.ownBlock,al_oi]at hz;subst hz;rcases hat with e|e
                  . exact .inl (by rw[HL.out.2];exact e)
                  . right;have:=HR4.out.size;simp only[zq4,zqf]at e this;omega
                 have hub:w5.heap[ub]?=(w3.setCell ⟨ub,1,none⟩ (.int .i64 ((j:Int)+1))).heap[ub]?:=by
                  rw[hgrow.block ub (by rw[zq4];exact Nat.lt_succ_of_lt (zq7 HI4.out.blk)) (λe=>zqt HRW.out.1 HI4.out.blk zyd e.symm),zq6,if_neg (by have:=zq7 HI4.out.blk;omega)]
                 have c54:=(zqy (a:=⟨ub,4,none⟩) hub).trans q4;have f54:w5.frozen? ⟨ub,4,none⟩=false:=(zq6h hub).trans (HI4.out.fz 4);rw[HL.out.2]at hP hPR hat';have H5:=Lib.hid (And.intro hP (And.intro hPR hat'));clear hub hown hgrow hat hlt5 hP hPR hat' q0 q1 q2 q3 q4 q5;go_wp2;go_ret;exact .inr (.inr ⟨by rw[HQ.out];omega,by rw[HL.out.2];have:=HF.out;omega,xn,j+1,r,_,rfl,PickR.list (k:=j) HI.out.le.1 (by have:l[j]?=some (l.getD j 0):=(by simp[show j<l.length from by rw[HL.out.1];exact hlt]);rw[this,HX.out]) hxN HEE.out HI.out.skip,by rw[HL.out.1];omega,by have:=HB.out.2.2.2.1 zyo;omega,by rw[Nat.mod_eq_of_lt (HB.out.2.2.2.1 zyo)];exact H5.out.1,by rw[HL.out.2];exact H5.out.2.1,by rw[HL.out.2];exact H5.out.2.2⟩)
         . obtain rfl:L=j:=by omega
           obtain⟨i0,hi0,he0⟩:=zq6n (ov:=en) (N:=N) (by rw[HQ.out];omega);have HEI:=Lib.hid he0;clear he0;have hN0:0<N:=by omega
           have hrN:=HB.out.2.2.2.1 hN0;have hd3:decide (L<L)=false:=by simp
           go_wp2_with (fail)
           go_quiet (fail)
           have hM0:RPkM ub (.slice lp l.length lC) l a r most (.slice op ord.length oC) ord B N en w r (wr.drewN nq):=by
            have:=TuI.more (w':=wr.drewN nq) HI.out.i λb hb=>rfl;have hl:=HL.out.1;rw[<-hl,<-Nat.mod_eq_of_lt hrN]at this;exact⟨this,Nat.le_refl _,λi y h1 hy=>HI.out.skip i y h1 (by have:=(List.getElem?_eq_some_iff.1 hy).1;omega) hy,λi h1 h2=>by omega,HI.out.rest.drew nq⟩
           have HM0:=Lib.hid hM0;clear hM0 k0 k1 k2 k3 k4 k5 f1 hd3 HI0
           go_wp2_with (fail)
           go_loopg [] (r+N - r) (λk w2=>∃v,k=r+N - v/\RPkM ub (.slice lp l.length lC) l a r most (.slice op ord.length oC) ord B N en w v w2)
           case atStart=>exact⟨r,rfl,HM0.out⟩
           case round=>
            obtain⟨v,hk2,hM⟩:=hrel;have HM:=Lib.hid hM;clear hM;have hvN:v<r+N:=by
             rcases Nat.lt_or_ge v (r+N)with h|h
             . exact h
             . exfalso;have key:∃u,r<=u/\u<v/\u % N=i0:=by
                by_cases hc:r<=i0
                . exact⟨i0,hc,by omega,Nat.mod_eq_of_lt hi0⟩
                . exact⟨i0+N,by omega,by omega,by rw[Nat.add_mod_right,Nat.mod_eq_of_lt hi0]⟩
               obtain⟨u,h1,h2,h3⟩:=key;have:=HM.out.ovr u h1 h2;rw[h3,HEI.out]at this;cases this
            obtain⟨q,hq⟩:∃q,v % N=q:=⟨_,rfl⟩;have hqN:q<N:=by rw[<-hq];exact Nat.mod_lt _ hN0
            obtain⟨k0,k1,k2,k3,k4,k5⟩:=HM.out.i.c;rw[HL.out.2]at k4;rw[hq]at k2;have f2:=HM.out.i.fz 2;obtain⟨e1,e2⟩:=(H.out.2.rest H.out.1 HM.out.rest).cell hqN;obtain rfl:=H.out.2.ptr hN0;have hNI:¬((N:Int)=0):=by omega
            obtain⟨z,hz⟩:∃z,(v+1) % N=z:=⟨_,rfl⟩;have hzq:((q:Int)+1).tmod (N:Int)=(z:Int):=by
             rw[Int.tmod_eq_emod_of_nonneg zyo,<-hz,<-hq];have:(v+1) % N=(v % N+1) % N:=by simp[Nat.add_mod]
             rw[this]
             push_cast
             rfl
            have q0:(0:Int)<=q:=by omega
            have q1:(q:Int)<(N:Int):=by omega
            have hzN:z<N:=by rw[<-hz];exact Nat.mod_lt _ hN0
            have hN64:(N:Int)<=64:=by omega
            have HQQ:=Lib.hid (And.intro hq hz);clear hq hz;cases he:en q with
            |true=>
             rw[he]at e2;have HEE:=Lib.hid he;clear he;have hn:RPkM ub (.slice lp l.length lC) l a r most (.slice op ord.length oC) ord B N en w (v+1) (wr.setCell ⟨ub,2,none⟩ (.int .i64 z)):=by
              refine⟨by rw[HQQ.out.2];exact HM.out.i.setR z,by have:=HM.out.le;omega,HM.out.skip,λi h1 h2=>?_,HM.out.rest.set _ _⟩
              by_cases e:i=v
              . rw[e,HQQ.out.1];exact HEE.out
              . exact HM.out.ovr i h1 zyo
             have HNX:=Lib.hid hn;clear hn;go_wp2;go_roundg (r+N - (v+1))
             case measure=>omega
             case rel=>exact⟨v+1,rfl,HNX.out⟩
            |false=>
             rw[he]at e2;have HEE:=Lib.hid he;clear he;have hI4:=HM.out.i.setR z;have hR4:=HM.out.rest.set 2 (.int .i64 z);have HI4:=Lib.hid hI4;have HR4:=Lib.hid hR4;clear hI4 hR4;obtain⟨q0,q1,q2,q3,q4,q5⟩:=HI4.out.c;rw[HL.out.2]at q4;have hrow:(wr.setCell ⟨ub,2,none⟩ (.int .i64 z)).ownsRow B 3 1 (.slice op on oC) on (natV ord):=by have:=HI4.out.orow;rw[HL.out.2]at this;exact this
             have hBw:B<=(wr.setCell ⟨ub,2,none⟩ (.int .i64 z)).heap.size:=Nat.le_trans HI4.out.lo (Nat.le_of_lt (zq7 HI4.out.blk));obtain⟨ti,hti,hz0,hz1,hz2⟩:∃ti,Try.prog.info? 3=some ti/\ti.zero=some (.int .i64 0)/\ti.size=1/\ti.bytes=8:=⟨_,rfl,rfl,rfl,rfl⟩;have TI:=Lib.hid (And.intro hti (And.intro hz0 (And.intro hz1 hz2)));have HRW:=Lib.hid (And.intro hrow hBw);clear hti hz0 hz1 hz2 hrow hBw;have hon:on<=1048576:=HB.out.2.2.2.2.1
             go_wp2_with (at_builtin;go_loud (refine wpList_append_lies _ rfl (.tmp 137) (.tmp 139) 23 rfl B 3 ti (.int .i64 0) 1 8 zyk TI.out.1 TI.out.2.1 TI.out.2.2.1 TI.out.2.2.2 rfl zyd _ on (natV ord) rfl (zq1k HRW.out.1 _) _ 1 1 [.int .i64 q] rfl rfl (zq3h (by simp only[zqf])) (by simp[Value.oneCell']) zyd zx3t zyo (by have:=HRW.out.2;rw[zq4];omega) _ rfl ?next))
             case next=>
              intro g cap w5 hown hgrow hat hlt5;have hP:=TuI.push (W:=(wr.setCell ⟨ub,2,none⟩ (.int .i64 z)).alloc (.cells #[.int .i64 q] 3)) (x:=q) HI4.out (λb hb=>by rw[zq6,if_neg zyo]) zx3h (by rw[HL.out.2];exact hown) zx48 zx3q;have hPR:=RestU.push (v:=.slice (some ⟨g,0,none⟩) (ord.length+1) cap) HR4.out (W:=(wr.setCell ⟨ub,2,none⟩ (.int .i64 z)).alloc (.cells #[.int .i64 q] 3)) (λb hb=>by rw[zq6,if_neg zyo]) zx3h zx48;have hat':SameOr (.slice op ord.length oC) (.slice (some ⟨g,0,none⟩) (ord.length+1) cap) w:=λz hz=>by
               simp only[Value.ownBlock,al_oi]at hz;subst hz;rcases hat with e|e
               . exact .inl (by rw[HL.out.2];exact e)
               . right;have:=HR4.out.size;simp only[zq4,zqf]at e this;omega
              have hub:w5.heap[ub]?=(wr.setCell ⟨ub,2,none⟩ (.int .i64 z)).heap[ub]?:=by
               rw[hgrow.block ub (by rw[zq4];exact Nat.lt_succ_of_lt (zq7 HI4.out.blk)) (λe=>zqt HRW.out.1 HI4.out.blk zyd e.symm),zq6,if_neg (by have:=zq7 HI4.out.blk;omega)]
              have c54:=(zqy (a:=⟨ub,4,none⟩) hub).trans q4;have f54:w5.frozen? ⟨ub,4,none⟩=false:=(zq6h hub).trans (HI4.out.fz 4);rw[HL.out.2]at hP hPR hat';have H5:=Lib.hid (And.intro hP (And.intro hPR hat'));clear hub hown hgrow hat hlt5 hP hPR hat' q0 q1 q2 q3 q4 q5;go_wp2;go_ret;refine .inr (.inr ⟨by rw[HQ.out];omega,by rw[HL.out.2];have:=HF.out;omega,q,l.length,q+1,_,rfl,PickR.round (v:=v) HM.out.skip HM.out.le HQQ.out.1.symm hN0 HEE.out HM.out.ovr (Nat.le_refl _),Nat.le_refl _,hqN,?_,by rw[HL.out.2];exact H5.out.2.1,by rw[HL.out.2];exact H5.out.2.2⟩);have hzz:(q+1) % N=z:=by rw[<-HQQ.out.1,<-HQQ.out.2];simp[Nat.add_mod]
              rw[hzz];exact H5.out.1
def avL(av:Nat->Value)(n:Nat):List Value:=(List.range n).map av
structure TrI(H tz j:Nat)(v ov sv:Value)(stk:Bool)(av:Nat->Value)(w0 w:World):Prop where
 blk:w.heap[tz]?=some (.cells #[v,ov,sv,.bool stk] 29)
 row:w.ownsRow H 47 1 v j (avL av j)
 size:w0.heap.size<=w.heap.size
 old:∀b,b<w0.heap.size->b≠tz->w.heap[b]?=w0.heap[b]?
 lo:w0.heap.size<=tz+1/\H<=w0.heap.size
 new:∀g,v.ownBlock=some g->w0.heap.size<=g
theorem tr_push{H tz j g cap:Nat}{v ov sv:Value}{stk:Bool}{av:Nat->Value}{w0 w W w2:World}(h:TrI H tz j v ov sv stk av w0 w)(htz:tz<w0.heap.size)
 (hW:W.heap=(w.alloc (.cells #[av j] 47)).heap) (hrow:w2.ownsRow H 47 1 (.slice (some ⟨g,0,none⟩) (j+1) cap) (j+1) (avL av j++[av j])) (hgr:W.grownBy w2 v.ownBlock) (hat:v.ownBlock=some g\/g=w.heap.size+1):
 TrI H tz (j+1) (.slice (some ⟨g,0,none⟩) (j+1) cap) ov sv stk av w0 (w2.setCell ⟨tz,0,none⟩ (.slice (some ⟨g,0,none⟩) (j+1) cap)):=by
 have hsz:W.heap.size=w.heap.size+1:=by rw[hW];exact zq4 _ _
 have hWo:∀b,b<w.heap.size->W.heap[b]?=w.heap[b]?:=λb hb=>by rw[hW,zq6,if_neg zyo]
 have keep:∀b,b<w.heap.size->v.ownBlock≠some b->w2.heap[b]?=w.heap[b]?:=λb hb hn=>(hgr.block b zyo λe=>hn e.symm).trans (hWo b hb);have hb2:=(keep tz (zq7 h.blk) (zqt h.row h.blk zyd)).trans h.blk;have hs0:=h.size;have hs2:=hgr.size;refine⟨(zqa _ _ _ _ hb2).trans rfl,?_,?_,λb hb hne=>?_,h.lo,λq hq=>?_⟩
 . have e:avL av (j+1)=avL av j++[av j]:=by unfold avL;rw[List.range_succ,List.map_append];rfl
   rw[e];refine zqs hrow λx hx=>zq8 _ _ _ _ λe=>?_;obtain⟨⟨c,hc⟩,_⟩:=own_lt hrow hx;rw[show x=tz from e,hb2]at hc;cases hc
 . rw[zqf];omega
 . exact zx1z
 . simp only[Value.ownBlock,al_oi]at hq;subst hq;rcases hat with e|e
   . exact h.new _ e
   . omega
def zq65(N:Nat)(T:Nat->RTh)(ord:List Nat)(st:List Int)(stk:Bool)(w:World)(e:Ending)(w':World):Prop:=∃v,e=.returned v/\zq66 w' v N (λi=>(T i).ans) (ord.map λ(i:Nat)=>(i:Int)) st stk/\Beyond w w'/\∀b o n c ov' sv' st',v=.agg #[.slice (some ⟨b,o,none⟩) n c,ov',sv',st']->w.heap.size<=b
theorem zq9w{B N C:Nat}{tp:Option Addr}{tb:Nat->Nat}{opv:Nat->Value}{ops:Nat->List OpX}{T:Nat->RTh}{lvs:Nat->List Value}{av:Nat->Value}{ub:Nat}{lv:Value}{l:List Int}{a r most:Nat}{ov sv:Value}{ord:List Nat}{stk:Bool}{st:List Int}{w:World}(hN:N<=64)
 (hT:ThsR B N (.slice tp N C) tb opv ops T lvs av w) (hA:∀i,i<N->AnsAt w (av i) (T i).ans) (hu:TuI ub lv l a r most ov ord stk B w) (hs:IntsAt w sv st):
 Calls Try.prog 42 #[.pointer (some ⟨ub,0,none⟩),.slice tp N C,sv] w λe w'=>zq65 N T ord st stk w e w':=by
 obtain⟨H,hH⟩:∃H,w.heap.size=H:=⟨_,rfl⟩;obtain⟨sp,sC,rfl,-⟩:=id hs;obtain⟨op,oC,rfl,-,-⟩:=zq2d hu.orow;obtain⟨on,hon⟩:∃n,ord.length=n:=⟨_,rfl⟩;obtain⟨sn,hsn⟩:∃n,st.length=n:=⟨_,rfl⟩;have c4:∀o:Obj,(w.alloc o).cell? ⟨ub,4,none⟩=some (.slice op on oC):=λo=>(zq0 (zq9 (o:=o) hu.blk)).trans (by rw[hon];rfl);have c4b:∀o o2:Obj,((w.alloc o).alloc o2).cell? ⟨ub,4,none⟩=some (.slice op on oC):=λo o2=>(zq0 (zq9 (o:=o2) (zq9 (o:=o) hu.blk))).trans (by rw[hon];rfl);have c5:∀o:Obj,(w.alloc o).cell? ⟨ub,5,none⟩=some (.bool stk):=λo=>(zq0 (zq9 (o:=o) hu.blk)).trans rfl;have c5b:∀o o2:Obj,((w.alloc o).alloc o2).cell? ⟨ub,5,none⟩=some (.bool stk):=λo o2=>(zq0 (zq9 (o:=o2) (zq9 (o:=o) hu.blk))).trans rfl;have HI:=Lib.hid (And.intro hT (And.intro hA (And.intro hu (And.intro hs (And.intro hH (And.intro hon hsn))))));clear hT hA hu hs hon;rw[hsn];clear hsn
 go_enter Try.func42,Try.ntmps42
 go_upto_region 1 with(fail)
 go_cut [7]from 9 to 36 (λs7 wx=>s7=.pointer (some ⟨H+1,0,none⟩)/\wx=((w.alloc (.cells #[.slice none 0 0,.slice none 0 0,.slice none 0 0,.bool false] 29)).alloc (.cells #[.slice none 0 0,.slice op on oC,.slice sp sn sC,.bool stk] 29)).drew)
 case first=>
  go_region_law (fail)
  all_goals(go_wp2_with (fail);go_meet;exact⟨rfl,rfl⟩)
 case rest=>
 obtain⟨rfl,rfl⟩:=hcut;have hn:=zqo (w.alloc (.cells #[.slice none 0 0,.slice none 0 0,.slice none 0 0,.bool false] 29)) (.cells #[.slice none 0 0,.slice op on oC,.slice sp sn sC,.bool stk] 29);have hn0:=zq9 (o:=(.cells #[.slice none 0 0,.slice op on oC,.slice sp sn sC,.bool stk] 29)) (zqo w (.cells #[.slice none 0 0,.slice none 0 0,.slice none 0 0,.bool false] 29));rw[zq4,hH]at hn;rw[hH]at hn0;have hx0:Ext w ((w.alloc (.cells #[.slice none 0 0,.slice none 0 0,.slice none 0 0,.bool false] 29)).alloc (.cells #[.slice none 0 0,.slice op on oC,.slice sp sn sC,.bool stk] 29)):=(Ext.alloc _ _).trans (Ext.alloc _ _);have hx:Ext w ((w.alloc (.cells #[.slice none 0 0,.slice none 0 0,.slice none 0 0,.bool false] 29)).alloc (.cells #[.slice none 0 0,.slice op on oC,.slice sp sn sC,.bool stk] 29)).drew:=⟨hx0.size,hx0.old⟩;clear hx0;have hs1:((w.alloc (.cells #[.slice none 0 0,.slice none 0 0,.slice none 0 0,.bool false] 29)).alloc (.cells #[.slice none 0 0,.slice op on oC,.slice sp sn sC,.bool stk] 29)).drew.heap.size=H+2:=by show((w.alloc _).alloc _).heap.size=_;rw[zq4,zq4,hH]
 generalize hw1:((w.alloc (.cells #[.slice none 0 0,.slice none 0 0,.slice none 0 0,.bool false] 29)).alloc (.cells #[.slice none 0 0,.slice op on oC,.slice sp sn sC,.bool stk] 29)).drew=w1 at hx hs1 |-;have hn':w1.heap[H+1]?=some (.cells #[.slice none 0 0,.slice op on oC,.slice sp sn sC,.bool stk] 29):=by rw[<-hw1];exact hn
 have hn0':w1.heap[H]?=some (.cells #[.slice none 0 0,.slice none 0 0,.slice none 0 0,.bool false] 29):=by rw[<-hw1];exact hn0
 clear hw1 hn hn0 c4 c4b c5 c5b;have hT1:=HI.out.1.more hx.old;have hTr0:TrI (H+2) (H+1) 0 (.slice none 0 0) (.slice op on oC) (.slice sp sn sC) stk av w1 w1:=⟨hn',World.ownsRow_nil _ _ _ _,Nat.le_refl _,λ_ _ _=>rfl,⟨by omega,by omega⟩,λg hg=>by cases hg⟩;have HX:=Lib.hid (And.intro hx (And.intro hs1 (And.intro hn0' (And.intro hT1 hTr0))));clear hx hs1 hn0' hn' hT1 hTr0 hH
 go_wp2_with (fail)
 go_loopg [8] N (λk s8 wr=>∃(j:Nat)(p:Option Addr)(cp:Nat),k=N - j/\j<=N/\s8=.int .i64 j/\TrI (H+2) (H+1) j (.slice p j cp) (.slice op on oC) (.slice sp sn sC) stk av w1 wr)
 case atStart=>exact⟨0,none,0,rfl,Nat.zero_le _,rfl,HX.out.2.2.2.2⟩
 case round=>
  obtain⟨j,p,cp,hk,hj,rfl,hI⟩:=hrel;have HJ:=Lib.hid hI
  by_cases hlt:j<N
  . have hlt':(j:Int)<(N:Int):=by omega
    have hj0:(0:Int)<=j:=by omega
    have hj64:(j:Int)<64:=by omega
    obtain⟨tg,rfl,hpt⟩:=HX.out.2.2.2.1.cell zyo;have old:∀b o,w1.heap[b]?=some o->b≠H+1->wr.heap[b]?=some o:=λb o hb hne=>(hI.old b (zq7 hb) hne).trans hb;have htj:=HX.out.2.2.2.1.th j hlt;have hb1:=old _ _ htj.blk (by
     intro e;have h1:=HX.out.2.2.2.2.blk;rw[<-e]at h1;exact absurd (zq3e h1 htj.blk) zyd)
    have kp:wr.cell? ⟨tg,j,none⟩=some (.pointer (some ⟨tb j,0,none⟩)):=by
     have h1:=hpt j hlt;obtain⟨o,ho⟩:∃o,w1.heap[tg]?=some o:=⟨_,Array.getElem?_eq_getElem (cell_lt h1)⟩;refine(zqy (a:=⟨tg,j,none⟩) ((old tg o ho ?_).trans ho.symm)).trans h1;intro e;obtain⟨⟨c,hc⟩,_⟩:=own_lt HX.out.2.2.2.1.row (show(Value.slice (some ⟨tg,0,none⟩) N C).ownBlock=some tg from rfl);have h1:=HX.out.2.2.2.2.blk;rw[<-e]at h1;exact absurd (zq3e h1 hc) zyd
    have ka:wr.cell? ⟨tb j,12,none⟩=some (av j):=(zq0 hb1).trans rfl;have kz:wr.cell? ⟨H+1,0,none⟩=some (.slice p j cp):=(zq0 hI.blk).trans rfl;have fz:=zq3 (off:=0) hI.blk;obtain⟨pa,ca,hav,-,-⟩:=zq2d htj.row;obtain⟨na,hna⟩:∃n,(T j).ans.length=n:=⟨_,rfl⟩;rw[hna]at hav;rw[hav]at ka;obtain⟨Z,hZ⟩:∃Z,wr.heap.size=Z:=⟨_,rfl⟩;have kzb:∀o:Obj,(wr.alloc o).cell? ⟨H+1,0,none⟩=some (.slice p j cp):=λo=>(zq0 (zq9 (o:=o) hI.blk)).trans rfl;have kpb:∀o:Obj,(wr.alloc o).cell? ⟨tg,j,none⟩=some (.pointer (some ⟨tb j,0,none⟩)):=λo=>(Beyond.alloc wr o).cell kp;have kab:∀o:Obj,(wr.alloc o).cell? ⟨tb j,12,none⟩=some (.slice pa na ca):=λo=>(Beyond.alloc wr o).cell ka;have hrow:∀o:Obj,(wr.alloc o).ownsRow (H+2) 47 1 (.slice p j cp) j (avL av j):=λo=>zq1k hI.row _;have hnw:∀jj u,[Value.slice pa na ca][jj]?=some u->(wr.alloc (.cells #[.slice pa na ca] 47)).drew.cell? ((⟨Z,0,none⟩:Addr).add jj)=some u:=λjj u hj=>zq3h (w:=wr) (T:=47) hZ jj u hj;have hvk:∀(o:Obj)w2,((wr.alloc o).drew).grownBy w2 (Value.slice p j cp).ownBlock->w2.heap[H+1]?=some (.cells #[.slice p j cp,.slice op on oC,.slice sp sn sC,.bool stk] 29):=λo w2 hg=>by
     have h1:=zq9 (o:=o) hI.blk;exact(hg.block (H+1) (zq7 h1) (λe=>zqt hI.row hI.blk zyd e.symm)).trans h1
    obtain⟨ti,hti,hz,hz1,hz2⟩:∃ti,Try.prog.info? 47=some ti/\ti.zero=some (.slice none 0 0)/\ti.size=1/\ti.bytes=24:=⟨_,rfl,rfl,rfl,rfl⟩;have hund:Try.prog.underlying 26=some (.slice 47):=by kernel_rfl
    have HT:=Lib.hid (And.intro hti (And.intro hz (And.intro hz1 (And.intro hz2 hund))));have hsz:H+2<=wr.heap.size:=by have:=hI.size;have:=HX.out.2.1;omega
    have HW:=Lib.hid (And.intro hrow (And.intro hnw (And.intro hvk (And.intro hZ (And.intro hsz hav)))));have HL:=Lib.hid (And.intro hk hlt);clear hti hz hz1 hz2 hund hrow hnw hvk hI old htj hb1 hpt hav hna hsz hk hj hlt
    go_wp2_with (fail)
    go_region_law (first
     |(refine step_append_lies _ rfl (.tmp 26) (.tmp 34) 26 rfl (H+2) 47 ti (.slice none 0 0) 1 24 HT.out.2.2.2.2 HT.out.1 HT.out.2.1 HT.out.2.2.1 HT.out.2.2.2.1 rfl Nat.one_pos (.slice p j cp) j (avL av j) rfl (HW.out.1 _) ⟨Z,0,none⟩ 1 1 [.slice pa na ca] rfl rfl HW.out.2.1 ?_ Nat.one_pos ?_ ?_ ?_ (Z+1) ?_ ?_
       . intro u hu;rw[List.mem_singleton.1 hu];rfl
       . simp only[maxLen];omega
       . omega
       . have:=HW.out.2.2.2.2.1;show _<=(wr.alloc _).heap.size;rw[zq4];omega
       . show(wr.alloc _).heap.size=_;rw[zq4,HW.out.2.2.2.1]
       intro g cap w2 k1 k2 k3 k4;have HK:=Lib.hid (And.intro k1 (And.intro k2 k3));have cS:w2.cell? ⟨H+1,0,none⟩=some (.slice p j cp):=(zq0 (HW.out.2.2.1 _ _ k2)).trans rfl;have fS:=zq3 (off:=0) (HW.out.2.2.1 _ _ k2);clear k1 k2 k3 k4))
    all_goals(
     go_wp2_with (fail)
     go_roundg (N - (j+1))
     case measure=>have:=HL.out;omega
     case rel=>
      refine⟨j+1,some ⟨g,0,none⟩,cap,rfl,HL.out.2,zx36,?_⟩;have hk:=HK.out;have hav:=HW.out.2.2.2.2.2;rw[<-hav]at hk;exact tr_push HJ.out (by have:=HX.out.2.1;omega) zx2p hk.1 hk.2.1 (by rcases hk.2.2 with e|e;exact .inl e;right;have:=HW.out.2.2.2.1;omega))
  . obtain rfl:N=j:=by omega
    obtain⟨hx,hs1,hn0,hT1,_⟩:=HX.out;have hb:=hI.blk;have hob:wr.heap[H]?=some (.cells #[.slice none 0 0,.slice none 0 0,.slice none 0 0,.bool false] 29):=(hI.old H zyo zyo).trans hn0;have t0:wr.cell? ⟨H+1,0,none⟩=some (.slice p N cp):=(zq0 hb).trans rfl;have t1:wr.cell? ⟨H+1,1,none⟩=some (.slice op on oC):=(zq0 hb).trans rfl;have t2:wr.cell? ⟨H+1,2,none⟩=some (.slice sp sn sC):=(zq0 hb).trans rfl;have t3:wr.cell? ⟨H+1,3,none⟩=some (.bool stk):=(zq0 hb).trans rfl;have r0:wr.cell? ⟨H,0,none⟩=some (.slice none 0 0):=(zq0 hob).trans rfl;have r1:wr.cell? ⟨H,1,none⟩=some (.slice none 0 0):=(zq0 hob).trans rfl;have r2:wr.cell? ⟨H,2,none⟩=some (.slice none 0 0):=(zq0 hob).trans rfl;have r3:wr.cell? ⟨H,3,none⟩=some (.bool false):=(zq0 hob).trans rfl;have z0:=zq3 (off:=0) hob;have z1:=zq3 (off:=1) hob;have z2:=zq3 (off:=2) hob;have z3:=zq3 (off:=3) hob;have HB:=Lib.hid hob;clear hx hs1 hn0 hT1 hob hb hI hk hj hlt;go_wp2;clear t0 t1 t2 t3 r0 r1 r2 r3 z0 z1 z2 z3;have b1:=zqa wr H 0 (.slice p N cp) HB.out;have b2:=zqa _ H 1 (.slice op on oC) b1;have b3:=zqa _ H 2 (.slice sp sn sC) b2;have b4:=zqa _ H 3 (.bool stk) b3;have hfr:∀b,b≠H->((((wr.setCell ⟨H,0,none⟩ (.slice p N cp)).setCell ⟨H,1,none⟩ (.slice op on oC)).setCell ⟨H,2,none⟩ (.slice sp sn sC)).setCell ⟨H,3,none⟩ (.bool stk)).heap[b]?=wr.heap[b]?:=λb hb=>by rw[zq8 _ _ _ _ hb,zq8 _ _ _ _ hb,zq8 _ _ _ _ hb,zq8 _ _ _ _ hb]
    have hsf:((((wr.setCell ⟨H,0,none⟩ (.slice p N cp)).setCell ⟨H,1,none⟩ (.slice op on oC)).setCell ⟨H,2,none⟩ (.slice sp sn sC)).setCell ⟨H,3,none⟩ (.bool stk)).heap.size=wr.heap.size:=by simp only[zqf]
    generalize ((((wr.setCell ⟨H,0,none⟩ (.slice p N cp)).setCell ⟨H,1,none⟩ (.slice op on oC)).setCell ⟨H,2,none⟩ (.slice sp sn sC)).setCell ⟨H,3,none⟩ (.bool stk))=w8 at b4 hfr hsf |-;clear b1 b2 b3;have k0:=(zq0 (off:=0) b4).trans rfl;have k1:=(zq0 (off:=1) b4).trans rfl;have k2:=(zq0 (off:=2) b4).trans rfl;have k3:=(zq0 (off:=3) b4).trans rfl;have hbe:Beyond w w8:=by
     obtain⟨hT,hA,hu,hs,hH,hon,hsn⟩:=HI.out;obtain⟨hx,hs1,hn0,hT1,_⟩:=HX.out;refine⟨by rw[hsf];have:=HJ.out.size;omega,λb hb=>?_⟩;rw[hfr b zyo,HJ.out.old b zyo zyo];exact hx.old b hb
    have hfin:zq66 w8 (.agg #[.slice p N cp,.slice op on oC,.slice sp sn sC,.bool stk]) N (λi=>(T i).ans) (ord.map λ(i:Nat)=>(i:Int)) st stk:=by
     obtain⟨hT,hA,hu,hs,hH,hon,hsn⟩:=HI.out;refine⟨p,cp,_,_,rfl,?_,?_,λh0=>?_⟩
     . have:=zq8p hu.orow;rw[hon]at this;exact this.beyond hbe
     . rw[hsn]at hs;exact hs.beyond hbe
     . rcases HJ.out.row.2 with⟨hv,e0⟩|⟨g,cap,cur,hv,hlo,hh,_,_,_,ht⟩
       . omega
       . cases hv;refine⟨g,0,rfl,λi hi=>⟨av i,?_,(hA i hi).beyond hbe⟩⟩;rw[Nat.zero_add,zq0 ((hfr g zyo).trans hh)];have:(avL av N)[i]?=some (av i):=by unfold avL;simp[hi]
         rw[<-ht,List.getElem?_take,if_pos zyo]at this;simpa using this
    have hnew:∀b o n c ov' sv' st',(Value.agg #[.slice p N cp,.slice op on oC,.slice sp sn sC,.bool stk])=.agg #[.slice (some ⟨b,o,none⟩) n c,ov',sv',st']->w.heap.size<=b:=by
     intro b o n c ov' sv' st' e;obtain⟨hT,hA,hu,hs,hH,hon,hsn⟩:=HI.out;injection e with e
     have e0:=congrArg (λa:Array Value=>a[0]?) e;simp only[al_gl,al_g0,al_oi,Value.slice.injEq]at e0;have e1:=e0.1;rcases HJ.out.row.2 with⟨hv,h0⟩|⟨g,cap,cur,hv,hlo,_⟩
     . cases hv;cases e1
     . cases hv;cases e1;omega
    refine bodyPost_ret (v:=.agg #[.slice p N cp,.slice op on oC,.slice sp sn sC,.bool stk]) ?_ rfl ⟨_,rfl,hfin,hbe,hnew⟩;simp only[results,Try.f42];simp[go_sem,k0,k1,k2,k3]
structure OMach(B mb g NC Cc N:Nat)(tv:Value)(tb:Nat->Nat)(opv:Nat->Value)(ops:Nat->List OpX)(C:Nums)(T:Nat->RTh)(lvs:Nat->List Value)(av:Nat->Value)(w:World):Prop where
 mach:w.heap[mb]?=some (.cells #[.slice (some ⟨g,0,none⟩) NC Cc,tv] 119)
 row:RecRow w B 122 3 (.slice (some ⟨g,0,none⟩) NC Cc) NC (cF C)
 ths:ThsR B N tv tb opv ops T lvs av w
 nol:∀i,i<N->NoL (T i) (lvs i)
 lo:B<=mb
structure HeldB(B:Nat)(w w':World):Prop where
 size:w.heap.size<=w'.heap.size
 old:∀b,b<B->w'.heap[b]?=w.heap[b]?
theorem HeldB.trans {B:Nat}{a b c:World}(h:HeldB B a b)(k:HeldB B b c):HeldB B a c:=⟨Nat.le_trans h.size k.size,λx hx=>(k.old x hx).trans (h.old x hx)⟩
section
variable {B mb g NC Cc N:Nat} {tv:Value} {tb:Nat->Nat} {opv:Nat->Value} {ops:Nat->List OpX} {C C':Nums} {T:Nat->RTh} {lvs:Nat->List Value} {av:Nat->Value} {w w':World}
theorem OMach.more (h:OMach B mb g NC Cc N tv tb opv ops C T lvs av w)(ho:∀b,b<w.heap.size->w'.heap[b]?=w.heap[b]?):OMach B mb g NC Cc N tv tb opv ops C T lvs av w':=
 ⟨(ho _ (zq7 h.mach)).trans h.mach,h.row.of λq hq=>ho q (h.row.lt hq).2.2,h.ths.more ho,h.nol,h.lo⟩
theorem OMach.gblk (h:OMach B mb g NC Cc N tv tb opv ops C T lvs av w):(∃c,w.heap[g]?=some (.cells c 122))/\B<=g/\g<w.heap.size:=h.row.lt (show(Value.slice (some ⟨g,0,none⟩) NC Cc).ownBlock=some g from rfl)
theorem OMach.went (h:OMach B mb g NC Cc N tv tb opv ops C T lvs av w){x:Nat}(hx:x<N){t':RTh}(k:OPost B (tb x) g NC Cc (opv x) (ops x) (av x) w C' t' w'):
 (∃lvs' av',OMach B mb g NC Cc N tv tb opv ops C' (upd' T x t') lvs' av' w')/\HeldB B w w':=by
 obtain⟨lvx,avx,k⟩:=k;obtain⟨⟨cg,hg⟩,hgB,_⟩:=h.gblk;have hxt:=h.ths.th x hx;have old:=k.keep.old;have hsz:=k.keep.size;refine⟨⟨upd' lvs x lvx,upd' av x avx,?_,k.row,⟨zqs h.ths.row λq hq=>?_,λi hi=>?_,h.ths.inj,λi j q hi hj hne e=>?_⟩,λi hi=>?_,h.lo⟩,hsz,λb hb=>?_⟩
 . exact(old mb (zq7 h.mach) (zq14 h.mach hxt.blk zyd) (zq14 h.mach hg zyd) (zqt hxt.row h.mach zyd)).trans h.mach
 . obtain⟨⟨c,hc⟩,_,hl⟩:=own_lt h.ths.row hq;exact old q hl (zq14 hc hxt.blk zyd) (zq14 hc hg zyd) (zqt hxt.row hc zyd)
 . by_cases e:i=x
   . subst e;rw[upd'_same,upd'_same,upd'_same];exact k.th
   . rw[zqd _ _ e,zqd _ _ e,zqd _ _ e];have hi':=h.ths.th i hi;refine hi'.frame (old _ (zq7 hi'.blk) (λe2=>e (h.ths.inj i x hi hx e2)) (zq14 hi'.blk hg zyd) (zqt hxt.row hi'.blk zyd)) (λq hq=>?_) (λq hq=>?_)
     . obtain⟨⟨c,hc⟩,_,hl⟩:=own_lt hi'.row hq;exact old q hl (zq14 hc hxt.blk zyd) (zq14 hc hg zyd) (h.ths.asep i x q hi hx e hq)
     . obtain⟨⟨c,hc⟩,_,hl⟩:=own_lt hi'.ops.row hq;exact old q hl (zq14 hc hxt.blk zyd) (zq14 hc hg zyd) (zqt hxt.row hc zyd)
 . by_cases e1:i=x
   . subst e1;rw[upd'_same]at e;rw[zqd _ _ (λz=>hne z.symm)];rcases k.same q e with e2|e2
     . exact h.ths.asep i j q hi hj hne e2
     . intro e3;have:=(own_lt (h.ths.th j hj).row e3).2.2;omega
   . rw[zqd _ _ e1]at e
     by_cases e2:j=x
     . subst e2;rw[upd'_same];intro e3;rcases k.same q e3 with e4|e4
       . exact h.ths.asep i j q hi hj hne e e4
       . have:=(own_lt (h.ths.th i hi).row e).2.2;omega
     . rw[zqd _ _ e2];exact h.ths.asep i j q hi hj hne e
 . by_cases e:i=x
   . subst e;rw[upd'_same,upd'_same];exact k.nol
   . rw[zqd _ _ e,zqd _ _ e];exact h.nol i hi
 . have h1:=zq7 hxt.blk;have h2:=hxt.lo;exact old b zyo zyo zyo λe=>by have:=(own_lt hxt.row e).2.1;omega
theorem OMach.beside (h:OMach B mb g NC Cc N tv tb opv ops C T lvs av w){ub:Nat}{lv:Value}{l:List Int}{a r most:Nat}{ov:Value}{ord:List Nat}{stk:Bool}(hu:TuI ub lv l a r most ov ord stk B w)(hr:RestU ub ov.ownBlock w w'):OMach B mb g NC Cc N tv tb opv ops C T lvs av w'/\HeldB B w w':=by
 have key:∀(b:Nat)(c:Array Value)(T:TypeId),w.heap[b]?=some (.cells c T)->T≠178->T≠3->w'.heap[b]?=w.heap[b]?:=λb c T hb h1 h2=>hr.old b (zq7 hb) (zq14 hb hu.blk h1) (zqt hu.orow hb (λe=>h2 e.symm));refine⟨⟨(key _ _ _ h.mach zyd zyd).trans h.mach,h.row.of λq hq=>?_,⟨zqs h.ths.row λq hq=>?_,λi hi=>?_,h.ths.inj,h.ths.asep⟩,h.nol,h.lo⟩,hr.size,λb hb=>?_⟩
 . obtain⟨⟨c,hc⟩,_⟩:=h.row.lt hq;exact key q c _ hc zyd zyd
 . obtain⟨⟨c,hc⟩,_⟩:=own_lt h.ths.row hq;exact key q c _ hc zyd zyd
 . have hi':=h.ths.th i hi;refine hi'.frame (key _ _ _ hi'.blk zyd zyd) (λq hq=>?_) (λq hq=>?_)
   . obtain⟨⟨c,hc⟩,_⟩:=own_lt hi'.row hq;exact key q c _ hc zyd zyd
   . obtain⟨⟨c,hc⟩,_⟩:=own_lt hi'.ops.row hq;exact key q c _ hc zyd zyd
 . have h1:=hu.lo;have h2:=zq7 hu.blk;exact hr.old b zyo zyo λe=>by have:=(own_lt hu.orow e).2.1;omega
theorem zqme(h:OMach B mb g NC Cc N tv tb opv ops C T lvs av w){x:Nat}(hx:x<N){ub:Nat}{lv:Value}{l:List Int}{a r most:Nat}{ov:Value}{ord:List Nat}{stk:Bool}(hu:TuI ub lv l a r most ov ord stk B w)(k:KeepM (tb x) g (av x) w w'):TuI ub lv l a r most ov ord stk B w':=by
 obtain⟨⟨cg,hg⟩,hgB,_⟩:=h.gblk;have hxt:=h.ths.th x hx;have key:∀(b:Nat)(c:Array Value)(T:TypeId),w.heap[b]?=some (.cells c T)->T=178\/T=3->w'.heap[b]?=w.heap[b]?:=λb c T hb hT=>by
  refine k.old b (zq7 hb) (zq14 hb hxt.blk ?_) (zq14 hb hg ?_) (zqt hxt.row hb ?_)
  . rcases hT with e|e<;>rw[e]<;>decide
  . rcases hT with e|e<;>rw[e]<;>decide
  . rcases hT with e|e<;>rw[e]<;>decide
 refine⟨(key _ _ _ hu.blk (.inl rfl)).trans hu.blk,zqs hu.lrow λq hq=>?_,zqs hu.orow λq hq=>?_,hu.sep,hu.lo⟩
 . obtain⟨⟨c,hc⟩,_⟩:=own_lt hu.lrow hq;exact key q c _ hc (.inr rfl)
 . obtain⟨⟨c,hc⟩,_⟩:=own_lt hu.orow hq;exact key q c _ hc (.inr rfl)
theorem TuI.base {B':Nat}{ub:Nat}{lv:Value}{l:List Int}{a r most:Nat}{ov:Value}{ord:List Nat}{stk:Bool}(h:TuI ub lv l a r most ov ord stk B' w)(hb:B<=B'):TuI ub lv l a r most ov ord stk B w:=⟨h.blk,zq3k h.lrow hb,zq3k h.orow hb,h.sep,Nat.le_trans hb h.lo⟩
theorem OMach.en {p:Option Addr}{Ct:Nat}(h:OMach B mb g NC Cc N (.slice p N Ct) tb opv ops C T lvs av w):∃tg,EnAt N p tg tb (λi=>(T i).en) w:=by
 rcases h.ths.row.2 with⟨hv,h0⟩|⟨tg,cap,cur,hv,hb,hg,h1,h2,h3,h4⟩
 . exact⟨0,λh=>by omega,λh=>by omega,λi hi=>by omega⟩
 . cases hv;refine⟨tg,λ_=>rfl,λ_=>⟨cur,hg,λi hi=>?_⟩,λi hi=>⟨_,(h.ths.th i hi).blk,rfl⟩⟩;have:(cur.toList.take (N*1))[i]?=some (Value.pointer (some ⟨tb i,0,none⟩)):=by
    rw[h4];unfold thPs;simp[hi]
   rw[List.getElem?_take,if_pos zyo]at this;simpa using this
theorem ThRep.ansAt {tb:Nat}{opv:Value}{ops:List OpX}{t:RTh}{lvs:List Value}{av:Value}(h:ThRep tyR B tb opv ops t lvs av w)(hn:NoL t lvs):AnsAt w av t.ans:=by
 rcases h.row.2 with⟨hv,h0⟩|⟨g,cap,cur,hv,hb,hg,h1,h2,h3,h4⟩
 . have:t.ans=[]:=List.length_eq_zero_iff.1 h0;rw[hv,this];exact⟨none,0,rfl,λh=>absurd rfl h⟩
 . refine⟨_,cap,hv,λ_=>⟨g,0,rfl,λi a hi=>?_⟩⟩;have hil:=(List.getElem?_eq_some_iff.1 hi).1;obtain⟨v,hvi⟩:∃v,lvs[i]?=some v:=⟨_,List.getElem?_eq_getElem (by rw[h.llen];exact hil)⟩;obtain⟨e0,e1,e2⟩:=zq7u h.llen hi hvi;have hcell:∀j x,j<t.ans.length*3->(ansVs t.ans lvs)[j]?=some x->w.cell? ⟨g,j,none⟩=some x:=λj x hj hx=>by
    rw[zq0 hg];rw[<-h4,List.getElem?_take,if_pos hj]at hx;simpa using hx
   have hv0:=hn.1 v (List.mem_iff_getElem?.2 ⟨i,hvi⟩);have ha0:=hn.2 a (List.mem_iff_getElem?.2 ⟨i,hi⟩);refine⟨by rw[Nat.zero_add];exact hcell _ _ zyo e0,by rw[Nat.zero_add];exact hcell _ _ zyo e1,v,by rw[Nat.zero_add];exact hcell _ _ zyo e2,?_⟩;rw[hv0,ha0];exact⟨none,0,rfl,λh=>absurd rfl h⟩
end
end Go.Proofs
namespace Go.Car
open Go
section
variable {S1:Type} {M:RM S1} {dop:Nat->OpX->Proc (S1×(Nat->List Ans)) Ans} {Ok:Nat->OpX->RTh->Prop} {cont:Nat->OpX->RTh->Proc (S1×(Nat->List Ans)) Ans} {i:Nat} {ops:List OpX}
theorem zqh1(hl:RLaw M dop Ok cont):∀(f:Nat)(C:S1)(t:RTh),t.ans.length=t.at'->(zqq M i ops f (C,t)).2.ans.length=(zqq M i ops f (C,t)).2.at':=by
 intro f
 induction f with
 |zero=>exact λC t h=>h
 |succ f ih=>
  intro C t h
  by_cases hp:t.pc=0
  . cases ho:ops[t.at']? with
    |none=>
     have:zqq M i ops (f+1) (C,t)=(C,t):=by
      show(if t.pc=0 then _ else _)=_;rw[if_pos hp];simp only[ho]
     rw[this];exact h
    |some op=>
     rw[zq2t hp ho];rcases hl.begin i op C (λ_=>[]) t hp with⟨a,C',h1,_⟩|⟨C',t',h1,h2,h3,h4,_⟩
     . rw[h1];exact ih C' (t.fin a) (by show(t.ans++[a]).length=t.at'+1;rw[List.length_append,h];rfl)
     . rw[h1,zq2j h2];show t'.ans.length=t'.at';rw[h3,h4];exact h
  . rw[zq2j hp];exact h
theorem zqaa(hl:RLaw M dop Ok cont)(C:S1)(t:RTh)(h:t.ans.length=t.at'):(setlG M i ops (C,t)).2.ans.length=(setlG M i ops (C,t)).2.at':=zqh1 hl _ C t h
theorem stpG_len(hl:RLaw M dop Ok cont){op:OpX}{C:S1}{t:RTh}(h0:t.pc≠0)(hO:Ok i op t)(h:t.ans.length=t.at'):(M.stp i op C t).2.ans.length=(M.stp i op C t).2.at':=by
 rcases hl.step i op C (λ_=>[]) t h0 hO with⟨t1,a,h1,h2,h3,_⟩|⟨_,h2,h3,_⟩
 . rw[h1];show(t1.ans++[a]).length=t1.at'+1;rw[List.length_append,h3,h2,h];rfl
 . rw[h2,h3];exact h
theorem zqh0(hl:RLaw M dop Ok cont):∀(f:Nat)(C:S1)(t:RTh),t.at'<=ops.length->(zqq M i ops f (C,t)).2.at'<=ops.length:=by
 intro f
 induction f with
 |zero=>exact λC t h=>h
 |succ f ih=>
  intro C t h
  by_cases hp:t.pc=0
  . cases ho:ops[t.at']? with
    |none=>
     have:zqq M i ops (f+1) (C,t)=(C,t):=by
      show(if t.pc=0 then _ else _)=_;rw[if_pos hp];simp only[ho]
     rw[this];exact h
    |some op=>
     rw[zq2t hp ho];have hlt:=(List.getElem?_eq_some_iff.1 ho).1;rcases hl.begin i op C (λ_=>[]) t hp with⟨a,C',h1,_⟩|⟨C',t',h1,h2,h3,h4,_⟩
     . rw[h1];exact ih C' (t.fin a) (by show t.at'+1<=_;omega)
     . rw[h1,zq2j h2];show t'.at'<=_;rw[h3];exact h
  . rw[zq2j hp];exact h
theorem zqa9(hl:RLaw M dop Ok cont)(C:S1)(t:RTh)(h:t.at'<=ops.length):(setlG M i ops (C,t)).2.at'<=ops.length:=zqh0 hl _ C t h
theorem stpG_le(hl:RLaw M dop Ok cont){op:OpX}{C:S1}{t:RTh}(h0:t.pc≠0)(hO:Ok i op t)(ho:ops[t.at']?=some op):(M.stp i op C t).2.at'<=ops.length:=by
 have hlt:=(List.getElem?_eq_some_iff.1 ho).1;rcases hl.step i op C (λ_=>[]) t h0 hO with⟨t1,a,h1,h2,h3,_⟩|⟨_,h2,h3,_⟩
 . rw[h1];show t1.at'+1<=_;omega
 . rw[h2];omega
end
theorem zqae{N:Nat}{en ov:Nat->Bool}(he:∀i,i<N->en i=ov i){y:Int}(h:skipN N en y):skipN N ov y:=by
 by_cases h1:y<0
 . exact .inl h1
 by_cases h2:(N:Int)<=y
 . exact .inr (.inl h2)
 rcases h with h|h|h
 . exact .inl h
 . exact .inr (.inl h)
 . exact .inr (.inr (by rw[<-he _ zyo];exact h))
theorem PickR.same {l:List Int}{N a r x a' r':Nat}{en ov:Nat->Bool}(h:PickR l N en a r x a' r')(he:∀i,i<N->en i=ov i):PickR l N ov a r x a' r':=by
 cases h with
 |list hk hx hN h1 hs=>exact .list hk hx hN (by rw[<-he _ hN];exact h1) λj y h2 h3 h4=>zqae he (hs j y h2 h3 h4)
 |round hs hr hx hN h1 hv ha=>exact .round (λj y h2 h4=>zqae he (hs j y h2 h4)) hr hx hN (by rw[<-he _ (by rw[hx];exact Nat.mod_lt _ hN)];exact h1) (λj h2 h3=>by rw[<-he _ (Nat.mod_lt _ hN)];exact hv j h2 h3) ha
end Go.Car
