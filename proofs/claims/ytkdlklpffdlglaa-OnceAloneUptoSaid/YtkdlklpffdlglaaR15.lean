/- YtkdlklpffdlglaaOAlone10: part 15 of the proof (the texts behind it, in order). -/
import Derived.Test.YtkdlklpffdlglaaR14
set_option maxHeartbeats 4000000
set_option maxRecDepth 100000
set_option linter.all false
namespace Go
theorem zx1j {p : Prop} (h : p := by simp only[execOp,Act.eval,al_gd,e54,e56,e60,al_od,List.map_toArray,List.map_cons,List.map_nil];simp[go_sem,execOp,Act.eval,resolve,Deferred.ofValue,invoke,callFunc,Try.func14,Try.f14,e54,e56,e60]) : p := h
theorem zx1o {p : Prop} (h : p := by simp only[execOp,Act.eval,al_gd,e62,e66,al_od,List.map_toArray,List.map_cons,List.map_nil];simp[go_sem,execOp,Act.eval,resolve,Deferred.ofValue,invoke,callFunc,Try.func14,Try.f14,e62,e66]) : p := h
theorem zx1u {p : Prop} (h : p := by exact λa w τ d h=>⟨h.1,h.2.1,h.2.2.1,h.2.2.2.1,h.2.2.2.2.beyond (Beyond.re _ _ _)⟩) : p := h
end Go
namespace Go.Proofs
open Go Go.Conc Go.RowKit Go.Car
def OBnd(NC N:Nat)(mo:Int)(ops:Nat->List OpX)(sched:List Int):Prop:=(onceT NC ops N mo sched).ord.length<=1048576/\∀i,i<N->((onceT NC ops N mo sched).s.2 i).length<=(ops i).length/\∀a∈(onceT NC ops N mo sched).s.2 i,a.l=[]
def ORPost(NC N:Nat)(mo:Int)(ops:Nat->List OpX)(sched:List Int)(w:World)(e:Ending)(w':World):Prop:=
 ∃v,e=.returned v/\zq66 w' v N (onceT NC ops N mo sched).s.2 ((onceT NC ops N mo sched).ord.map λ(i:Nat)=>(i:Int)) (numL (onceT NC ops N mo sched).s.1 NC) (decide (0<leftN (onceT NC ops N mo sched).ov N))/\Beyond w w'/\OBnd NC N mo ops sched
def zeroN:Nums:=λ_ _=>0
structure MkC(B mb j:Nat)(p:Option Addr)(Cp:Nat)(tv:Value)(w0 w:World):Prop where
 blk:w.heap[mb]?=some (.cells #[.slice p j Cp,tv] 119)
 row:RecRow w B 122 3 (.slice p j Cp) j (cF zeroN)
 size:w0.heap.size<=w.heap.size
 old:∀b,b<w0.heap.size->b≠mb->w.heap[b]?=w0.heap[b]?
 new:∀g,(Value.slice p j Cp).ownBlock=some g->w0.heap.size<=g
theorem mkc_push{B mb j g cap Cp:Nat}{p:Option Addr}{tv:Value}{w0 w W w2:World}(h:MkC B mb j p Cp tv w0 w)(hmb:mb<w0.heap.size)(hW:W.heap=(w.alloc (.cells #[.int .i64 0,.int .i64 0,.int .i64 0] 122)).heap)
 (hrow:∀xs,w.ownsRow B 122 3 (.slice p j Cp) j xs->w2.ownsRow B 122 3 (.slice (some ⟨g,0,none⟩) (j+1) cap) (j+1) (xs++[.int .i64 0,.int .i64 0,.int .i64 0])) (hgr:W.grownBy w2 (Value.slice p j Cp).ownBlock) (hat:(Value.slice p j Cp).ownBlock=some g\/g=w.heap.size+1):
 MkC B mb (j+1) (some ⟨g,0,none⟩) cap tv w0 (w2.setCell ⟨mb,0,none⟩ (.slice (some ⟨g,0,none⟩) (j+1) cap)):=by
 have hsz:W.heap.size=w.heap.size+1:=by rw[hW];exact zq4 _ _
 have hWo:∀b,b<w.heap.size->W.heap[b]?=w.heap[b]?:=λb hb=>by rw[hW,zq6,if_neg zyo]
 obtain⟨xs,hx,hx2⟩:=h.row;have keep:∀b,b<w.heap.size->(Value.slice p j Cp).ownBlock≠some b->w2.heap[b]?=w.heap[b]?:=λb hb hn=>(hgr.block b zyo λe=>hn e.symm).trans (hWo b hb);have hb2:=(keep mb (zq7 h.blk) (zqt hx h.blk zyd)).trans h.blk;have hs0:=h.size;have hs2:=hgr.size;have hr2:=hrow xs hx;refine⟨(zqa _ _ _ _ hb2).trans rfl,?_,?_,λb hb hne=>?_,λq hq=>?_⟩
 . refine RecRow.push hx hx2 (zqs hr2 λy hy=>zq8 _ _ _ _ λe=>?_) rfl _ (λ_ _ _ _=>rfl) (λi hi=>?_)
   . obtain⟨⟨c,hc⟩,_⟩:=own_lt hr2 hy;rw[show y=mb from e,hb2]at hc;cases hc
   . obtain rfl |rfl |rfl:i=0\/i=1\/i=2:=by omega
     all_goals rfl
 . rw[zqf];omega
 . exact zx1z
 . simp only[Value.ownBlock,al_oi]at hq;subst hq;rcases hat with e|e
   . exact h.new _ e
   . omega
def opl(NC:Nat)(ops:Nat->List OpX)(i:Nat):Proc SN Unit:=opsP i (doerP NC) (ops i)
def BgI(B mb g NC Cc N:Nat)(tv:Value)(tb:Nat->Nat)(opv:Nat->Value)(ops:Nat->List OpX)(w0:World)(j:Nat)(w:World):Prop:=
 ∃T lvs av,OMach B mb g NC Cc N tv tb opv ops zeroN T lvs av w/\RelG (λ_=>doerP NC) (λ_=>onceC) (λ_=>OkO NC) j ops (zq15 (opl NC ops) (zeroN,λ_=>[]) j) zeroN T/\HeldB B w0 w/\∀i,(T i).ans.length=(T i).at'/\(T i).at'<=(ops i).length
structure PlI(B mb g NC Cc N:Nat)(tv:Value)(tb:Nat->Nat)(opv:Nat->Value)(ops:Nat->List OpX)(w0:World)(ub:Nat)(lv:Value)(sched:List Int)(most:Nat)(P:TSt SN)(C:Nums)(T:Nat->RTh)(lvs:Nat->List Value)(av:Nat->Value)(a r:Nat)(ov:Value)(s:TSt SN)(w:World):Prop where
 m:OMach B mb g NC Cc N tv tb opv ops C T lvs av w
 u:TuI ub lv sched a r most ov s.ord false B w
 rel:RelG (λ_=>doerP NC) (λ_=>onceC) (λ_=>OkO NC) N ops s C T
 inv:zq31 sched N most P a r s
 held:HeldB B w0 w
 al:a<=sched.length
 rn:0<N->r<N
 om:s.ord.length<=most
 len:∀i,(T i).ans.length=(T i).at'/\(T i).at'<=(ops i).length
theorem setO{NC:Nat}:∀(i:Nat)(op:OpX)(t:RTh)(b:Bool),(λ(_:Nat)=>OkO NC) i op t->(λ(_:Nat)=>OkO NC) i op {t with en:=b}:=λ_ op t b h=>⟨h.good,h.k1,h.k2,h.k3,h.k4,h.lo⟩
theorem setC':∀(i:Nat)(op:OpX)(t:RTh)(b:Bool),(λ(_:Nat)=>onceC) i op {t with en:=b}=(λ(_:Nat)=>onceC) i op t:=λ_ op t b=>rfl
theorem zqg9{S:Type}{l:List Int}{N most:Nat}{P s:TSt S}{a r:Nat}(h:zq31 l N most P a r s)(hN:0<N):zq31 l N most P a (r % N) s:=by
 obtain⟨h1,f,q,h2,h3,h4⟩:=h
 by_cases e:r=N
 . subst e;rw[Nat.mod_self];refine⟨Nat.zero_le _,f,q,h2,?_,h4⟩;rcases h3 with e|⟨e,e2⟩
   . exact .inr ⟨rfl,e⟩
   . omega
 . rw[Nat.mod_eq_of_lt zyo];exact⟨h1,f,q,h2,h3,h4⟩
theorem zq6d{S:Type}(pr:Nat->Proc S Unit)(s:S):∀n,(zq15 pr s n).ord=[]
 |0=>rfl
 |n+1=>zq6d pr s n
theorem IntsAt.off {w w8:World}{H:Nat}{v:Value}{l:List Int}(h:IntsAt w v l)(hz:∀i x,w.cell? ⟨H,i,none⟩≠some (.int .i64 x))(hfr:∀b,b≠H->w8.heap[b]?=w.heap[b]?):IntsAt w8 v l:=by
 obtain⟨p,C,e,h⟩:=h;refine⟨p,C,e,λhl=>?_⟩;obtain⟨b,o,e2,h2⟩:=h hl;refine⟨b,o,e2,λi hi=>?_⟩;have h3:=h2 i hi;exact(zqy (a:=⟨b,o+i,none⟩) (hfr b λe=>hz (o+i) _ (by rw[<-e];exact h3))).trans h3
theorem AnsAt.off {w w8:World}{H:Nat}{v:Value}{l:List Ans}(h:AnsAt w v l)(hz:∀i x,w.cell? ⟨H,i,none⟩≠some (.int .i64 x))(hfr:∀b,b≠H->w8.heap[b]?=w.heap[b]?):AnsAt w8 v l:=by
 obtain⟨p,C,e,h⟩:=h;refine⟨p,C,e,λhl=>?_⟩;obtain⟨b,o,e2,h2⟩:=h hl;refine⟨b,o,e2,λi a hi=>?_⟩;obtain⟨h3,h4,lv,h5,h6⟩:=h2 i a hi;have hb:b≠H:=λe=>hz (o+i*3+1) _ (by rw[<-e];exact h4);exact⟨(zqy (a:=⟨b,o+i*3,none⟩) (hfr b hb)).trans h3,(zqy (a:=⟨b,o+i*3+1,none⟩) (hfr b hb)).trans h4,lv,(zqy (a:=⟨b,o+i*3+2,none⟩) (hfr b hb)).trans h5,h6.off hz hfr⟩
theorem zq9h{w w1 w2 wx w6 w8:World}{H NC N:Nat}{mo:Int}{ops:Nat->List OpX}{sched:List Int}{C:Nums}{T:Nat->RTh}{s:TSt SN}{stk:Bool}{tv:Value}{tp:Option Addr}{tc:Nat}{ov sv:Value}(hH:w.heap.size=H)(hB1:Beyond w w1)(hs1:w1.heap.size=H+1)(hx:ThsI w1 ops N tv w2)(hh:HeldB w1.heap.size w2 wx)(hb6:Beyond wx w6)
 (hz:w6.heap[H]?=some (.cells #[.slice none 0 0,.slice none 0 0,.slice none 0 0,.bool false] 29)) (hn:∀b o,tp=some ⟨b,o,none⟩->H<b)
 (hT:IntsAt w6 ov (s.ord.map λ(i:Nat)=>(i:Int))/\IntsAt w6 sv (numL C NC)/\(0<N->∃b o,tp=some ⟨b,o,none⟩/\∀i,i<N->∃vi,w6.cell? ⟨b,o+i,none⟩=some vi/\AnsAt w6 vi (T i).ans))
 (hfr:∀b,b≠H->w8.heap[b]?=w6.heap[b]?) (hsf:w8.heap.size=w6.heap.size)
 (hP:onceT NC ops N mo sched=s/\s.s.1=C/\(∀i,s.s.2 i=(T i).ans)/\decide (0<leftN s.ov N)=stk) (hbd:s.ord.length<=1048576/\∀i,i<N->(T i).ans.length<=(ops i).length/\∀a∈(T i).ans,a.l=[]):ORPost NC N mo ops sched w (.returned (.agg #[.slice tp N tc,ov,sv,.bool stk])) w8:=by
 obtain⟨e1,e2,e3,e4⟩:=hP;obtain⟨h1,h2,h3⟩:=hT;have hzz:∀i x,w6.cell? ⟨H,i,none⟩≠some (.int .i64 x):=λi x e=>by
  rw[zq0 hz]at e
  match i,e with
  |0,e=>cases e
  |1,e=>cases e
  |2,e=>cases e
  |3,e=>cases e
  |i+4,e=>simp at e
 have hbd':OBnd NC N mo ops sched:=by
  unfold OBnd;rw[e1];exact⟨hbd.1,λi hi=>by rw[e3 i];exact hbd.2 i hi⟩
 unfold ORPost;rw[e1,e2,e4];refine⟨_,rfl,⟨tp,tc,ov,sv,rfl,h1.off hzz hfr,h2.off hzz hfr,λh0=>?_⟩,?_,hbd'⟩
 . obtain⟨b,o,e5,h4⟩:=h3 h0;refine⟨b,o,e5,λi hi=>?_⟩;obtain⟨vi,h5,h6⟩:=h4 i hi;have hb:=hn b o e5;refine⟨vi,(zqy (a:=⟨b,o+i,none⟩) (hfr b zyo)).trans h5,?_⟩;rw[e3 i];exact h6.off hzz hfr
 . obtain⟨tb,opv,_,hx⟩:=hx;have q1:=hx.size;have q2:=hh.size;have q3:=hb6.1;refine⟨by omega,λb hb=>?_⟩;rw[hfr b zyo,hb6.2 b zyo,hh.old b zyo,hx.old b zyo];exact hB1.2 b hb
theorem zqfq{w:World}{cells mo:Int}{pp:Option Addr}{np Cn N:Nat}{tops:Nat->List OpX}{sv:Value}{sched:List Int}(hT:ThrIn w pp np tops)(hn:np<=4611686018427387904)(hN:N=min np 64)(hl:∀i,i<np->(tops i).length<=4611686018427387904)(hs:IntsAt w sv sched)(hsl:sched.length<=1099511627776):
 Calls Try.prog 12 #[.int .i64 cells,.slice pp np Cn,sv,.int .i64 mo] w λe w'=>ORPost (onceN cells) N mo (λi=>(tops i).take 65536) sched w e w':=by
 obtain⟨H,hH⟩:∃H,w.heap.size=H:=⟨_,rfl⟩;obtain⟨NC,hNC⟩:∃NC,onceN cells=NC:=⟨_,rfl⟩;have hNp:0<NC/\NC<=64:=hNC▸zq6t cells;have hheld:(if cells<1 then(1:Int)else if cells>64 then 64 else cells)=(NC:Int):=by
  rw[<-hNC];unfold onceN;split<;>(try split)<;>omega
 obtain⟨w1,hw1⟩:∃w1,w.alloc (.cells #[.slice none 0 0,.slice none 0 0,.slice none 0 0,.bool false] 29)=w1:=⟨_,rfl⟩;have hB1:Beyond w w1:=hw1▸Beyond.alloc _ _;have hs1:w1.heap.size=H+1:=by rw[<-hw1,zq4,hH]
 have hz1:w1.heap[H]?=some (.cells #[.slice none 0 0,.slice none 0 0,.slice none 0 0,.bool false] 29):=by rw[<-hw1,<-hH];exact zqo _ _
 have hT1:ThrIn w1 pp np tops:=λh0=>by
  obtain⟨pb,po,e,h1⟩:=hT h0;refine⟨pb,po,e,λi hi=>?_⟩;obtain⟨q,C,h2,h3,h4⟩:=h1 i hi;refine⟨q,C,hB1.cell h2,h3,λh5=>?_⟩;obtain⟨gb,go,e2,h6⟩:=h4 h5;refine⟨gb,go,e2,λk c hk j hj=>?_⟩;have h7:=h6 k c hk j hj;obtain⟨v,hv⟩:∃v,c.cells[j]?=some v:=⟨_,List.getElem?_eq_getElem (by simpa[OpX.cells]using hj)⟩;rw[hv]at h7 |-;exact hB1.cell h7
 have HTh:=Lib.hid (zqgl (Cn:=Cn) hT1 hn hN hl);have HI:=Lib.hid (And.intro hs (And.intro hsl (And.intro hB1 (And.intro hs1 (And.intro hz1 (And.intro hH (And.intro hNC (And.intro hNp (And.intro hN hheld)))))))));clear hT hT1 hn hl hs hsl hB1 hs1 hz1 hN hNp;rw[hNC];clear hNC hheld
 go_enter Try.func12,Try.ntmps12
 go_wp2_with (fail)
 refine Calls.mono HTh.out ?_;rintro e w2 ⟨tv,rfl,hTI⟩;obtain⟨tp,Ct,rfl⟩:∃tp Ct,tv=.slice tp N Ct:=by
  obtain⟨tb,opv,h,_⟩:=hTI;obtain⟨p,c,e,_⟩:=zq2d h.row;exact⟨p,c,e⟩
 obtain⟨mb,hmb⟩:∃mb,w2.heap.size=mb:=⟨_,rfl⟩;have HT2:=Lib.hid (And.intro hTI hmb);clear hTI HTh
 go_wp2_with (fail)
 clear hmb;have hm3:=zqo w2 (.cells #[.slice none 0 0,.slice tp N Ct] 119);have hs3:(w2.alloc (.cells #[.slice none 0 0,.slice tp N Ct] 119)).heap.size=mb+1:=by rw[zq4,HT2.out.2]
 have ho3:∀b,b<w2.heap.size->(w2.alloc (.cells #[.slice none 0 0,.slice tp N Ct] 119)).heap[b]?=w2.heap[b]?:=λb hb=>by rw[zq6,if_neg zyo]
 generalize (w2.alloc (.cells #[.slice none 0 0,.slice tp N Ct] 119))=w3 at hm3 hs3 ho3 |-;rw[HT2.out.2]at hm3;have hw13:w1.heap.size<=mb:=by obtain⟨tb,opv,_,hx⟩:=HT2.out.1;have:=hx.size;rw[HT2.out.2]at this;exact this
 have hC0:MkC w1.heap.size mb 0 none 0 (.slice tp N Ct) w3 w3:=⟨hm3,RecRow.nil _ _ _ _ _,Nat.le_refl _,λ_ _ _=>rfl,λg hg=>by cases hg⟩;have H3:=Lib.hid (And.intro hs3 (And.intro ho3 (And.intro hC0 hw13)));clear hm3 hs3 ho3 hC0 hw13 hH
 go_loopg [10] NC (λk s10 wr=>∃(j:Nat)(p:Option Addr)(Cp:Nat),k=NC - j/\j<=NC/\s10=.int .i64 j/\MkC w1.heap.size mb j p Cp (.slice tp N Ct) w3 wr)
 case atStart=>exact⟨0,none,0,rfl,Nat.zero_le _,rfl,H3.out.2.2.1⟩
 case round=>
  obtain⟨j,p,Cp,hk,hj,rfl,hI⟩:=hrel;have HH:=Lib.hid (zq5s cells 1 64 wr);have hheld:=HI.out.2.2.2.2.2.2.2.2.2;have hNC64:NC<=64:=HI.out.2.2.2.2.2.2.2.1.2;rw[hheld]at HH;clear hheld;have m0:wr.cell? ⟨mb,0,none⟩=some (.slice p j Cp):=(zq0 hI.blk).trans rfl;have f0:wr.frozen? ⟨mb,0,none⟩=false:=zq3 hI.blk
  by_cases hlt:j<NC
  . have hlt':(j:Int)<(NC:Int):=by omega
    have hj0:(0:Int)<=j:=by omega
    have hj64:(j:Int)<64:=by omega
    have m0a:∀o:Obj,(wr.alloc o).cell? ⟨mb,0,none⟩=some (.slice p j Cp):=λo=>(zq0 (zq9 (o:=o) hI.blk)).trans rfl;obtain⟨xs,hxs,_⟩:=id hI.row;obtain⟨Z,hZ⟩:∃Z,wr.heap.size=Z:=⟨_,rfl⟩;obtain⟨ti,hti,hz,hz1,hz2⟩:∃ti,Try.prog.info? 122=some ti/\ti.zero=some (.agg #[.int .i64 0,.int .i64 0,.int .i64 0])/\ti.size=3/\ti.bytes=24:=⟨_,rfl,rfl,rfl,rfl⟩;have hBZ:w1.heap.size<=(wr.alloc (.cells #[.int .i64 0,.int .i64 0,.int .i64 0] 122)).heap.size:=by rw[zq4];have:=hI.size;have:=H3.out.1;have:=H3.out.2.2.2;omega
    obtain⟨g,cap,w5,hrun,hown,hgrow,hat,hlt5⟩:=run_append_lies (P:=Try.prog) (wr.alloc (.cells #[.int .i64 0,.int .i64 0,.int .i64 0] 122)) 117 117 w1.heap.size 122 ti _ 3 24 zyk hti hz hz1 hz2 rfl zyd (.slice p j Cp) j xs (zq1k hxs _) ⟨Z,0,none⟩ 1 1 [.int .i64 0,.int .i64 0,.int .i64 0] rfl (λjj u hj=>zq4o hZ jj u hj) (by intro u hu;simp only[List.mem_cons,List.not_mem_nil,or_false]at hu;rcases hu with rfl |rfl |rfl<;>rfl) zyd zx3t zyo hBZ _ rfl;have hb5:w5.heap[mb]?=some (.cells #[.slice p j Cp,.slice tp N Ct] 119):=(hgrow.block mb (zq7 (zq9 (o:=_) hI.blk)) (λe=>zqt hxs hI.blk zyd e.symm)).trans (zq9 hI.blk);have c5:w5.cell? ⟨mb,0,none⟩=some (.slice p j Cp):=(zq0 hb5).trans rfl;have f5:=zq3 (off:=0) hb5;have hP:=mkc_push hI (by have:=H3.out.1;omega) zx2p (λys hys=>by
     have e:ys=xs:=by
      rcases hys.2 with⟨hv,h0⟩|⟨g1,cap1,cur1,hv,_,hh,_,_,_,ht1⟩
      . have h1:=hys.1;have h2:=hxs.1;rw[h0]at h1 h2;rw[List.eq_nil_of_length_eq_zero (by omega:ys.length=0),List.eq_nil_of_length_eq_zero (by omega:xs.length=0)]
      . rcases hxs.2 with⟨hv2,h0⟩|⟨g2,cap2,cur2,hv2,_,hh2,_,_,_,ht2⟩
        . rw[hv2]at hv;cases hv
        . exact zx22
     rw[e];exact hown) hgrow (by rcases hat with e|e;exact .inl e;right;rw[e,zq4])
    have HP:=Lib.hid (And.intro hP (And.intro hk hlt));clear hP hk hlt hI hxs hti hz hz1 hz2 hBZ hown hgrow hat hlt5 hb5
    go_wp2_with (fail)
    refine Calls.mono HH.out ?_;rintro e w' ⟨rfl,rfl⟩
    go_wp2_with (at_builtin;go_loud (refine zq45 rfl (.tmp 28) (.tmp 30) 117 rfl hrun ?_))
    go_roundg (NC - (j+1))
    case measure=>have:=HP.out.2;omega
    case rel=>exact⟨j+1,_,_,rfl,HP.out.2.2,zx36,HP.out.1⟩
  . obtain rfl:NC=j:=by omega
    have hNC0:0<NC:=HI.out.2.2.2.2.2.2.2.1.1;obtain⟨p',C',e',hpg⟩:=hI.row.form;cases e';obtain⟨g,rfl,_⟩:=hpg hNC0;clear hpg;have hB0:∃tb opv,BgI w1.heap.size mb g NC Cp N (.slice tp N Ct) tb opv (λi=>(tops i).take 65536) w2 0 wr:=by
     obtain⟨tb,opv,hTh,hx⟩:=HT2.out.1;have hw2:∀b,b<w2.heap.size->wr.heap[b]?=w2.heap[b]?:=λb hb=>by
      have h1:=HT2.out.2;have h2:=H3.out.1;exact(hI.old b zyo zyo).trans (H3.out.2.1 b hb)
     refine⟨tb,opv,λ_=>RTh.z,λ_=>[],λ_=>.slice none 0 0,⟨hI.blk,hI.row,hTh.more hw2,λi hi=>⟨λv hv=>absurd hv zx2n,λa ha=>absurd ha (by show ¬a∈([]:List Ans);simp)⟩,H3.out.2.2.2⟩,RelG.zero _ _ _ _ _ _,⟨?_,λb hb=>?_⟩,?_⟩
     . have h1:=hI.size;have h2:=H3.out.1;have h3:=HT2.out.2;omega
     . have h1:=hx.size;exact hw2 b zyo
     . intro i;exact⟨rfl,Nat.zero_le _⟩
    obtain⟨tb,opv,hB0⟩:=hB0;have HB0:=Lib.hid hB0;clear hB0 hI hk hj hlt f0 m0
    go_wp2_with (fail)
    refine Calls.mono HH.out ?_;rintro e w' ⟨rfl,hw'⟩;subst hw';clear HH;generalize w'=wB at *
    go_wp2_with (fail)
    go_loopg [11] N (λk s11 wx=>∃(j:Nat),k=N - j/\j<=N/\s11=.int .i64 j/\BgI w1.heap.size mb g NC Cp N (.slice tp N Ct) tb opv (λi=>(tops i).take 65536) w2 j wx)
    case atStart=>exact⟨0,rfl,Nat.zero_le _,rfl,HB0.out⟩
    case round=>
     obtain⟨j,hk,hj,rfl,T,lvs,av,hM,hRl,hHe,hLe⟩:=hrel;have hN64:N<=64:=by have:=HI.out.2.2.2.2.2.2.2.2.1;omega
     have m1:wr.cell? ⟨mb,1,none⟩=some (.slice tp N Ct):=(zq0 hM.mach).trans rfl
     by_cases hlt:j<N
     . have hlt':(j:Int)<(N:Int):=by omega
       have hj0:(0:Int)<=j:=by omega
       have hj64:(j:Int)<64:=by omega
       obtain⟨tg,rfl,hpt⟩:=hM.ths.cell zyo;have kp:=hpt j hlt;have htj:=hM.ths.th j hlt;obtain⟨hz,hov⟩:=hRl.un j (Nat.le_refl _);have hcall:=zq97 (i:=j) (C:=zeroN) htj (hM.nol j hlt) (Nat.le_trans htj.lo (Nat.le_of_lt (zq7 htj.blk))) (by rw[hz];rfl) (by rw[hz];exact Nat.zero_le _) (by rw[List.length_take];omega) HI.out.2.2.2.2.2.2.2.1.2 hM.mach;have HC:=Lib.hid hcall;have HM:=Lib.hid (And.intro hM (And.intro hRl (And.intro hHe (And.intro hk (And.intro hlt (And.intro hz hLe))))));clear hcall hM hRl hHe hLe hk hlt hpt htj hz hov
       go_wp2_with (fail)
       refine Calls.mono HC.out ?_;rintro e w' ⟨rfl,hP⟩;have hnext:BgI w1.heap.size mb g NC Cp N (.slice (some ⟨tg,0,none⟩) N Ct) tb opv (λi=>(tops i).take 65536) w2 (j+1) w':=by
        obtain⟨hM,hRl,hHe,hk,hlt,hz,hLe⟩:=HM.out;have hst:=ORun.start (hM.ths.th j hlt) (hM.nol j hlt) hM.row;obtain⟨⟨lvs',av',hM'⟩,hH'⟩:=hM.went hlt (hst.told hP);rw[hz]at hM';have hb:=RelG.begin (zq2s NC) setO setC' hRl;have hfst:(setlG (onceM NC) j ((tops j).take 65536) (zeroN,RTh.z)).1=zeroN:=zqad _ _ _;rw[hfst]at hb;refine⟨_,lvs',av',hM',hb,hHe.trans hH',λi=>?_⟩
        by_cases e:i=j
        . subst e;rw[upd'_same];exact⟨zqaa (zq2s NC) _ _ rfl,zqa9 (zq2s NC) _ _ (Nat.zero_le _)⟩
        . rw[zqd _ _ e];exact hLe i
       have HN:=Lib.hid hnext;clear hnext hP HC m1 kp
       go_wp2_with (fail)
       go_roundg (N - (j+1))
       case measure=>have:=HM.out.2.2.2;omega
       case rel=>exact⟨j+1,rfl,HM.out.2.2.2.2.1,zx36,HN.out⟩
     . obtain rfl:N=j:=by omega
       have hold:Beyond w wr:=by
        obtain⟨tb',opv',_,hx⟩:=HT2.out.1;have h1:=HI.out.2.2.1;have h2:=HI.out.2.2.2.1;have h3:=HI.out.2.2.2.2.2.1;have h4:=hx.size;refine⟨by have:=hHe.size;omega,λb hb=>?_⟩;rw[hHe.old b zyo,hx.old b zyo];exact h1.2 b hb
       have hNT:=zqgf (mo:=mo) HI.out.2.1 (HI.out.1.beyond hold);have HNT:=Lib.hid hNT;have HM:=Lib.hid (And.intro hM (And.intro hRl (And.intro hHe hLe)));clear hNT hold hM hRl hHe hLe hk hj hlt;generalize wr=wD at *
       go_wp2_with (fail)
       refine Calls.mono HNT.out ?_;rintro e w4 ⟨ub,lv,rfl,hU,hX⟩;obtain⟨P,hP⟩:∃P,onceT NC (λi=>(tops i).take 65536) N mo sched=P:=⟨_,rfl⟩;have hP0:zq31 sched N (min mo.toNat 1048576) P 0 0 (zq15 (opl NC (λi=>(tops i).take 65536)) (zeroN,λ_=>[]) N):=by
        rw[<-hP];exact zqg8 _ _ _
       have hI0:PlI w1.heap.size mb g NC Cp N (.slice tp N Ct) tb opv (λi=>(tops i).take 65536) w2 ub lv sched (min mo.toNat 1048576) P zeroN T lvs av 0 0 (.slice none 0 0) (zq15 (opl NC (λi=>(tops i).take 65536)) (zeroN,λ_=>[]) N) w4:=by
        obtain⟨hM,hRl,hHe,hLe⟩:=HM.out;have ho:(zq15 (opl NC (λi=>(tops i).take 65536)) (zeroN,λ_=>[]) N).ord=[]:=zq6d _ _ _;refine⟨hM.more hX.old,?_,hRl,hP0,hHe.trans ⟨hX.size,λb hb=>hX.old b ?_⟩,Nat.zero_le _,λh=>h,by rw[ho];exact Nat.zero_le _,hLe⟩
        . rw[ho];exact hU.base (by have:=hHe.size;obtain⟨_,_,_,hx⟩:=HT2.out.1;have:=hx.size;omega)
        . have:=hHe.size;obtain⟨_,_,_,hx⟩:=HT2.out.1;have:=hx.size;omega
       have HI0:=Lib.hid (And.intro hI0 hP);have hmo:min mo.toNat 1048576<=1048576:=Nat.min_le_right _ _;obtain⟨most,hmost⟩:∃most,min mo.toNat 1048576=most:=⟨_,rfl⟩;rw[hmost]at HI0 hmo;clear hI0 hP hP0 hU hX HM HNT hmost
       go_wp2_with (fail)
       go_loopg [13] (most+1) (λk s13 wx=>∃(C:Nums)(T:Nat->RTh)(lvs:Nat->List Value)(av:Nat->Value)(a r:Nat)(ov:Value)(s:TSt SN),k=most+1 - s.ord.length/\PlI w1.heap.size mb g NC Cp N (.slice tp N Ct) tb opv (λi=>(tops i).take 65536) w2 ub lv sched most P C T lvs av a r ov s wx)
       case atStart=>exact⟨_,_,_,_,_,_,_,_,by rw[zq6d];rfl,HI0.out.1⟩
       case round=>
        obtain⟨C,T,lvs,av,a,r,ov,s,hk,hI⟩:=hrel;have hN64:N<=64:=by have:=HI.out.2.2.2.2.2.2.2.2.1;omega
        have m1:wr.cell? ⟨mb,1,none⟩=some (.slice tp N Ct):=(zq0 hI.m.mach).trans rfl;obtain⟨tg,hEn⟩:=hI.m.en;have hpick:=zqgk (C:=Ct) hN64 HI.out.2.1 hI.al hI.rn (by have:=hI.om;omega) hmo hI.u hEn;have hlo:=hI.rel.left;have hzz:∀W,HeldB w1.heap.size w2 W->W.heap[H]?=some (.cells #[.slice none 0 0,.slice none 0 0,.slice none 0 0,.bool false] 29):=λW hW=>by
         obtain⟨_,_,_,hx⟩:=HT2.out.1;have h1:=HI.out.2.2.2.1;have h2:=hx.size;rw[hW.old H zyo,hx.old H zyo];exact HI.out.2.2.2.2.1
        have HZ:=Lib.hid hzz;have HP:=Lib.hid hpick;have HJ:=Lib.hid (And.intro hI (And.intro hk (And.intro hlo hEn)));clear hpick hI hk hlo hEn hN64 hzz
        go_wp2_with (fail)
        refine Calls.mono HP.out ?_;rintro e wp hpost;rcases hpost with⟨h0,rfl,hw⟩|⟨h0,h1,rfl,hU,hR⟩|⟨h0,h1,x,a',r',ov',rfl,hK,ha',hr',hU,hR,hS⟩
        ·
         have hI:=HJ.out.1;have hPs:=zq9q hI.inv (.inl (HJ.out.2.2.1.trans h0));have HE:=Lib.hid (And.intro hI.m (And.intro hI.u (And.intro hI.held (HZ.out _ hI.held))));rw[<-hw]at HE;have HPE:=Lib.hid (And.intro (HI0.out.2.trans hPs) (And.intro hI.rel.c (And.intro hI.rel.ans (show decide (0<leftN s.ov N)=false by rw[HJ.out.2.2.1,h0];rfl))));have HBD:=Lib.hid (show s.ord.length<=1048576/\∀i,i<N->(T i).ans.length<=((tops i).take 65536).length/\∀a∈(T i).ans,a.l=[]from⟨Nat.le_trans hI.om hmo,λi hi=>⟨Nat.le_trans (Nat.le_of_eq (hI.len i).1) (hI.len i).2,(hI.m.nol i hi).2⟩⟩);clear hI hPs hw m1 HP;have hSt:∀W,Beyond wp W->Calls Try.prog 43 #[.pointer (some ⟨mb,0,none⟩)] W λe w'=>zq64 C NC W e w':=λW hb=>zq9b HI.out.2.2.2.2.2.2.2.1.2 (HE.out.1.more hb.2).mach (HE.out.1.more hb.2).row;have hTr:∀W v,Beyond wp W->IntsAt W v (numL C NC)->Calls Try.prog 42 #[.pointer (some ⟨ub,0,none⟩),.slice tp N Ct,v] W λe w'=>zq65 N T s.ord (numL C NC) false W e w':=λW v hb hv=>zq9w (by have:=HI.out.2.2.2.2.2.2.2.2.1;omega) (HE.out.1.more hb.2).ths (λi hi=>ThRep.ansAt ((HE.out.1.more hb.2).ths.th i hi) ((HE.out.1.more hb.2).nol i hi)) (HE.out.2.1.more hb.2) hv;have hHz:∀W,Beyond wp W->W.heap[H]?=some (.cells #[.slice none 0 0,.slice none 0 0,.slice none 0 0,.bool false] 29):=λW hb=>(hb.2 H (zq7 HE.out.2.2.2)).trans HE.out.2.2.2;have HS:=Lib.hid hSt;have HTr:=Lib.hid hTr;have HHz:=Lib.hid hHz;clear hSt hTr hHz;have m1:(wp).cell? ⟨mb,1,none⟩=some (.slice tp N Ct):=(zq0 HE.out.1.mach).trans rfl
         go_wp2_with (fail)
         go_region_law (first
          |(go_simp;go_at_call 43;refine Calls.mono (HS.out _ ⟨Nat.le_refl _,λ_ _=>rfl⟩) ?_;rintro e w5 ⟨v5,rfl,hN5⟩
            have hb5:Beyond (wp) w5:=⟨hN5.be.1,hN5.be.2⟩;have hv5:IntsAt w5 v5 (numL C NC):=zq4i hN5.row;have m15:=hb5.cell m1;have H5:=Lib.hid (And.intro hb5 hv5);clear hN5 hb5 hv5)
          |(go_simp;go_at_call 42;refine Calls.mono (HTr.out _ _ H5.out.1 H5.out.2) ?_;rintro e w6 ⟨v6,rfl,hTA,hb6,hnw⟩
            obtain⟨tp6,tc6,to6,ts6,rfl,hTA1⟩:=hTA;obtain⟨oq6,oC6,hto,-⟩:=id hTA1.1;obtain⟨sq6,sC6,hts,-⟩:=id hTA1.2.1;rw[List.length_map]at hto;subst hto;subst hts;have hnw1:∀b o,tp6=some ⟨b,o,none⟩->H<b:=λb o e=>by
             have h1:=hnw b o _ _ _ _ _ (by rw[e]);have h2:=H5.out.1.1;have h3:=zq7 HE.out.2.2.2;omega
            have hb6':Beyond (wp) w6:=H5.out.1.trans hb6;have hz6:=HHz.out _ hb6';have r0:w6.cell? ⟨H,0,none⟩=some (.slice none 0 0):=(zq0 hz6).trans rfl;have r1:w6.cell? ⟨H,1,none⟩=some (.slice none 0 0):=(zq0 hz6).trans rfl;have r2:w6.cell? ⟨H,2,none⟩=some (.slice none 0 0):=(zq0 hz6).trans rfl;have r3:w6.cell? ⟨H,3,none⟩=some (.bool false):=(zq0 hz6).trans rfl;have z0:=zq3 (off:=0) hz6;have z1:=zq3 (off:=1) hz6;have z2:=zq3 (off:=2) hz6;have z3:=zq3 (off:=3) hz6;have H6:=Lib.hid (And.intro hb6' (And.intro hz6 (And.intro hTA1 hnw1)));clear hb6 hb6' hz6 hTA1 hnw hnw1))
         all_goals(
          go_wp2;clear r0 r1 r2 r3 z0 z1 z2 z3;have b1:=zqa w6 H 0 (.slice tp6 N tc6) H6.out.2.1;have b2:=zqa _ H 1 (.slice oq6 s.ord.length oC6) b1;have b3:=zqa _ H 2 (.slice sq6 (numL C NC).length sC6) b2;have b4:=zqa _ H 3 (.bool false) b3;have hfr:∀b,b≠H->((((w6.setCell ⟨H,0,none⟩ (.slice tp6 N tc6)).setCell ⟨H,1,none⟩ (.slice oq6 s.ord.length oC6)).setCell ⟨H,2,none⟩ (.slice sq6 (numL C NC).length sC6)).setCell ⟨H,3,none⟩ (.bool false)).heap[b]?=w6.heap[b]?:=λb hb=>by rw[zq8 _ _ _ _ hb,zq8 _ _ _ _ hb,zq8 _ _ _ _ hb,zq8 _ _ _ _ hb]
          have hsf:((((w6.setCell ⟨H,0,none⟩ (.slice tp6 N tc6)).setCell ⟨H,1,none⟩ (.slice oq6 s.ord.length oC6)).setCell ⟨H,2,none⟩ (.slice sq6 (numL C NC).length sC6)).setCell ⟨H,3,none⟩ (.bool false)).heap.size=w6.heap.size:=by simp only[zqf]
          generalize ((((w6.setCell ⟨H,0,none⟩ (.slice tp6 N tc6)).setCell ⟨H,1,none⟩ (.slice oq6 s.ord.length oC6)).setCell ⟨H,2,none⟩ (.slice sq6 (numL C NC).length sC6)).setCell ⟨H,3,none⟩ (.bool false))=w8 at b4 hfr hsf |-;clear b1 b2 b3;have k0:=(zq0 (off:=0) b4).trans rfl;have k1:=(zq0 (off:=1) b4).trans rfl;have k2:=(zq0 (off:=2) b4).trans rfl;have k3:=(zq0 (off:=3) b4).trans rfl;have hfin:=zq9h (tp:=tp6) (tc:=tc6) (ov:=(.slice oq6 s.ord.length oC6)) (sv:=(.slice sq6 (numL C NC).length sC6)) HI.out.2.2.2.2.2.1 HI.out.2.2.1 HI.out.2.2.2.1 HT2.out.1 HE.out.2.2.1 H6.out.1 H6.out.2.1 H6.out.2.2.2 H6.out.2.2.1 hfr hsf HPE.out HBD.out;refine bodyPost_ret (v:=.agg #[.slice tp6 N tc6,(.slice oq6 s.ord.length oC6),(.slice sq6 (numL C NC).length sC6),.bool false]) ?_ rfl hfin;simp only[results,Try.f12];simp[go_sem,k0,k1,k2,k3])
        ·
         have hI:=HJ.out.1;have hom:=hI.om;have hPs:=zq9q hI.inv (.inr zyo);have hb:=hI.m.beside hI.u hR;have hh:=hI.held.trans hb.2;have HE:=Lib.hid (And.intro hb.1 (And.intro hU (And.intro hh (HZ.out _ hh))));have HPE:=Lib.hid (And.intro (HI0.out.2.trans hPs) (And.intro hI.rel.c (And.intro hI.rel.ans (show decide (0<leftN s.ov N)=true by rw[HJ.out.2.2.1];exact decide_eq_true h0))));have HBD:=Lib.hid (show s.ord.length<=1048576/\∀i,i<N->(T i).ans.length<=((tops i).take 65536).length/\∀a∈(T i).ans,a.l=[]from⟨Nat.le_trans hI.om hmo,λi hi=>⟨Nat.le_trans (Nat.le_of_eq (hI.len i).1) (hI.len i).2,(hI.m.nol i hi).2⟩⟩);clear hI hom hPs hb hh hU hR h0 h1 m1 HP;have hSt:∀W,Beyond wp W->Calls Try.prog 43 #[.pointer (some ⟨mb,0,none⟩)] W λe w'=>zq64 C NC W e w':=λW hb=>zq9b HI.out.2.2.2.2.2.2.2.1.2 (HE.out.1.more hb.2).mach (HE.out.1.more hb.2).row;have hTr:∀W v,Beyond wp W->IntsAt W v (numL C NC)->Calls Try.prog 42 #[.pointer (some ⟨ub,0,none⟩),.slice tp N Ct,v] W λe w'=>zq65 N T s.ord (numL C NC) true W e w':=λW v hb hv=>zq9w (by have:=HI.out.2.2.2.2.2.2.2.2.1;omega) (HE.out.1.more hb.2).ths (λi hi=>ThRep.ansAt ((HE.out.1.more hb.2).ths.th i hi) ((HE.out.1.more hb.2).nol i hi)) (HE.out.2.1.more hb.2) hv;have hHz:∀W,Beyond wp W->W.heap[H]?=some (.cells #[.slice none 0 0,.slice none 0 0,.slice none 0 0,.bool false] 29):=λW hb=>(hb.2 H (zq7 HE.out.2.2.2)).trans HE.out.2.2.2;have HS:=Lib.hid hSt;have HTr:=Lib.hid hTr;have HHz:=Lib.hid hHz;clear hSt hTr hHz;have m1:(wp).cell? ⟨mb,1,none⟩=some (.slice tp N Ct):=(zq0 HE.out.1.mach).trans rfl
         go_wp2_with (fail)
         go_region_law (first
          |(go_simp;go_at_call 43;refine Calls.mono (HS.out _ ⟨Nat.le_refl _,λ_ _=>rfl⟩) ?_;rintro e w5 ⟨v5,rfl,hN5⟩
            have hb5:Beyond (wp) w5:=⟨hN5.be.1,hN5.be.2⟩;have hv5:IntsAt w5 v5 (numL C NC):=zq4i hN5.row;have m15:=hb5.cell m1;have H5:=Lib.hid (And.intro hb5 hv5);clear hN5 hb5 hv5)
          |(go_simp;go_at_call 42;refine Calls.mono (HTr.out _ _ H5.out.1 H5.out.2) ?_;rintro e w6 ⟨v6,rfl,hTA,hb6,hnw⟩
            obtain⟨tp6,tc6,to6,ts6,rfl,hTA1⟩:=hTA;obtain⟨oq6,oC6,hto,-⟩:=id hTA1.1;obtain⟨sq6,sC6,hts,-⟩:=id hTA1.2.1;rw[List.length_map]at hto;subst hto;subst hts;have hnw1:∀b o,tp6=some ⟨b,o,none⟩->H<b:=λb o e=>by
             have h1:=hnw b o _ _ _ _ _ (by rw[e]);have h2:=H5.out.1.1;have h3:=zq7 HE.out.2.2.2;omega
            have hb6':Beyond (wp) w6:=H5.out.1.trans hb6;have hz6:=HHz.out _ hb6';have r0:w6.cell? ⟨H,0,none⟩=some (.slice none 0 0):=(zq0 hz6).trans rfl;have r1:w6.cell? ⟨H,1,none⟩=some (.slice none 0 0):=(zq0 hz6).trans rfl;have r2:w6.cell? ⟨H,2,none⟩=some (.slice none 0 0):=(zq0 hz6).trans rfl;have r3:w6.cell? ⟨H,3,none⟩=some (.bool false):=(zq0 hz6).trans rfl;have z0:=zq3 (off:=0) hz6;have z1:=zq3 (off:=1) hz6;have z2:=zq3 (off:=2) hz6;have z3:=zq3 (off:=3) hz6;have H6:=Lib.hid (And.intro hb6' (And.intro hz6 (And.intro hTA1 hnw1)));clear hb6 hb6' hz6 hTA1 hnw hnw1))
         all_goals(
          go_wp2;clear r0 r1 r2 r3 z0 z1 z2 z3;have b1:=zqa w6 H 0 (.slice tp6 N tc6) H6.out.2.1;have b2:=zqa _ H 1 (.slice oq6 s.ord.length oC6) b1;have b3:=zqa _ H 2 (.slice sq6 (numL C NC).length sC6) b2;have b4:=zqa _ H 3 (.bool true) b3;have hfr:∀b,b≠H->((((w6.setCell ⟨H,0,none⟩ (.slice tp6 N tc6)).setCell ⟨H,1,none⟩ (.slice oq6 s.ord.length oC6)).setCell ⟨H,2,none⟩ (.slice sq6 (numL C NC).length sC6)).setCell ⟨H,3,none⟩ (.bool true)).heap[b]?=w6.heap[b]?:=λb hb=>by rw[zq8 _ _ _ _ hb,zq8 _ _ _ _ hb,zq8 _ _ _ _ hb,zq8 _ _ _ _ hb]
          have hsf:((((w6.setCell ⟨H,0,none⟩ (.slice tp6 N tc6)).setCell ⟨H,1,none⟩ (.slice oq6 s.ord.length oC6)).setCell ⟨H,2,none⟩ (.slice sq6 (numL C NC).length sC6)).setCell ⟨H,3,none⟩ (.bool true)).heap.size=w6.heap.size:=by simp only[zqf]
          generalize ((((w6.setCell ⟨H,0,none⟩ (.slice tp6 N tc6)).setCell ⟨H,1,none⟩ (.slice oq6 s.ord.length oC6)).setCell ⟨H,2,none⟩ (.slice sq6 (numL C NC).length sC6)).setCell ⟨H,3,none⟩ (.bool true))=w8 at b4 hfr hsf |-;clear b1 b2 b3;have k0:=(zq0 (off:=0) b4).trans rfl;have k1:=(zq0 (off:=1) b4).trans rfl;have k2:=(zq0 (off:=2) b4).trans rfl;have k3:=(zq0 (off:=3) b4).trans rfl;have hfin:=zq9h (tp:=tp6) (tc:=tc6) (ov:=(.slice oq6 s.ord.length oC6)) (sv:=(.slice sq6 (numL C NC).length sC6)) HI.out.2.2.2.2.2.1 HI.out.2.2.1 HI.out.2.2.2.1 HT2.out.1 HE.out.2.2.1 H6.out.1 H6.out.2.1 H6.out.2.2.2 H6.out.2.2.1 hfr hsf HPE.out HBD.out;refine bodyPost_ret (v:=.agg #[.slice tp6 N tc6,(.slice oq6 s.ord.length oC6),(.slice sq6 (numL C NC).length sC6),.bool true]) ?_ rfl hfin;simp only[results,Try.f12];simp[go_sem,k0,k1,k2,k3])
        ·
         have hI:=HJ.out.1;obtain⟨hxN,hxe⟩:=hK.lt;have hb:=hI.m.beside hI.u hR;have hh:=hI.held.trans hb.2;obtain⟨op,hop,hpc,hOk,hrel⟩:=RelG.step (zq2s NC) setO setC' hI.rel hxN hxe (ord':=s.ord++[x]);have hinv:=zqg9 (zq9p hI.inv h1 (hK.same λi hi=>(hI.rel.thr i hi).2.1.symm)) zyo;have hE2:=HJ.out.2.2.2.rest hI.u hR;obtain⟨kp,_⟩:=hE2.cell hxN;obtain rfl:=hE2.ptr zyo;have hstep:=zqfu (i:=x) (hb.1.ths.th x hxN) (hb.1.nol x hxN) hb.1.row (hI.len x).1 (by show((tops x).take 65536).length<=65536;rw[List.length_take];omega) HI.out.2.2.2.2.2.2.2.1.2 hb.1.mach hop hpc hOk;have m1p:wp.cell? ⟨mb,1,none⟩=some (.slice (some ⟨tg,0,none⟩) N Ct):=(zq0 hb.1.mach).trans rfl;have HS:=Lib.hid hstep;have HQ:=Lib.hid (And.intro hb.1 (And.intro hh (And.intro hrel (And.intro hinv (And.intro hU (And.intro ha' (And.intro hxN (And.intro h1 (And.intro (show(setlG (onceM NC) x ((tops x).take 65536) ((onceM NC).stp x op C (T x))).2.ans.length=(setlG (onceM NC) x ((tops x).take 65536) ((onceM NC).stp x op C (T x))).2.at' from zqaa (zq2s NC) ((onceM NC).stp x op C (T x)).1 ((onceM NC).stp x op C (T x)).2 (stpG_len (zq2s NC) hpc hOk (hI.len x).1)) (And.intro hI.len (show(setlG (onceM NC) x ((tops x).take 65536) ((onceM NC).stp x op C (T x))).2.at'<=((tops x).take 65536).length from zqa9 (zq2s NC) ((onceM NC).stp x op C (T x)).1 ((onceM NC).stp x op C (T x)).2 (stpG_le (zq2s NC) hpc hOk hop))))))))))));have hx0:(0:Int)<=(x:Int):=by omega
         have hxN':(x:Int)<(N:Int):=by omega
         clear hI hb hh hrel hinv hU hR hS hE2 hK h0 h1 hop hpc hOk ha' hr' hxe hstep m1 HP
         go_wp2_with (fail)
         refine Calls.mono HS.out ?_;rintro e w9 ⟨rfl,hP9⟩;have hnext:∃lvs' av',PlI w1.heap.size mb g NC Cp N (.slice (some ⟨tg,0,none⟩) N Ct) tb opv (λi=>(tops i).take 65536) w2 ub lv sched most P (setlG (onceM NC) x ((tops x).take 65536) ((onceM NC).stp x op C (T x))).1 (upd' T x (setlG (onceM NC) x ((tops x).take 65536) ((onceM NC).stp x op C (T x))).2) lvs' av' a' (r' % N) ov' (turnT x (goT (s.t x) s.s) s (s.ord++[x])) w9:=by
          obtain⟨hM,hh,hrel,hinv,hU,ha',hxN,h1,hl1,hl2,hl3⟩:=HQ.out;obtain⟨⟨lvs',av',hM'⟩,hH'⟩:=hM.went hxN hP9;obtain⟨_,_,hk9⟩:=hP9;have ho:(turnT x (goT (s.t x) s.s) s (s.ord++[x])).ord=s.ord++[x]:=rfl;refine⟨lvs',av',hM',?_,hrel,hinv,hh.trans hH',ha',λh=>Nat.mod_lt _ h,?_,λi=>?_⟩
          . rw[ho];exact zqme hM hxN hU hk9.keep
          . rw[ho,List.length_append];exact h1
          . by_cases e:i=x
            . subst e;rw[upd'_same];exact⟨hl1,hl3⟩
            . rw[zqd _ _ e];exact hl2 i
         obtain⟨lvs',av',hnext⟩:=hnext;have HN:=Lib.hid hnext;clear hnext hP9 HS kp m1p
         go_wp2_with (fail)
         go_roundg (most+1 - (s.ord.length+1))
         case measure=>have:=HJ.out.2.1;have:=HQ.out.2.2.2.2.2.2.2.1;omega
         case rel=>exact⟨_,_,lvs',av',_,_,_,_,by show _=most+1 - (s.ord++[x]).length;rw[List.length_append];rfl,HN.out⟩
set_option maxHeartbeats 8000000
theorem zq8j:∀(l:List OpX)(k:Nat)(op:OpX),l[k]?=some op->∀j,j<4->(l.flatMap OpX.cells)[k*4+j]?=op.cells[j]?:=by
 intro l
 induction l with
 |nil=>intro k op h;simp at h
 |cons a l ih=>
  intro k op h j hj;rw[List.flatMap_cons];have ha:a.cells.length=4:=rfl;cases k with
  |zero=>
   cases h;rw[Nat.zero_mul,Nat.zero_add,List.getElem?_append_left (by rw[ha];exact hj)]
  |succ k=>
   rw[List.getElem?_append_right (by rw[ha];omega),ha,show(k+1)*4+j - 4=k*4+j by omega];exact ih k op zx3y j hj
theorem own_thr{W w w':World}{l:List OpX}{L C' Q:Nat}{q:Option Addr}(h:OwnI W l L (.slice q L C') w)(hL:l.length=L)(hQ:w'.heap[Q]?=some (.cells #[.slice q L C'] 32))(hb:Beyond w w'):ThrIn w' (some ⟨Q,0,none⟩) 1 (λ_=>l.map zeroA):=by
 intro _;refine⟨Q,0,rfl,λi hi=>⟨q,C',?_,?_,?_⟩⟩
 . obtain rfl:i=0:=by omega
   rw[List.length_map,hL];exact(zq0 hQ).trans rfl
 . rw[List.length_map,hL];rcases h.row.2 with⟨hv,h0⟩|⟨g,cap,cur,hv,hB,hg,h1,h2,h3,h4⟩
   . cases hv;exact⟨Nat.le_refl _,λ_=>rfl⟩
   . cases hv;exact⟨h1,λe=>by cases e⟩
 . intro hne;rcases h.row.2 with⟨hv,h0⟩|⟨g,cap,cur,hv,hB,hg,h1,h2,h3,h4⟩
   . have:l.map zeroA=[]:=List.length_eq_zero_iff.1 (by rw[List.length_map,hL,h0]);exact absurd this hne
   . cases hv;refine⟨g,0,rfl,λk c hk j hj=>?_⟩;have hkl:=(List.getElem?_eq_some_iff.1 hk).1;rw[List.length_map,hL]at hkl;have e:=zq8j (l.map zeroA) k c hk j hj;have e2:(l.take L).map zeroA=l.map zeroA:=by rw[List.take_of_length_le zyo]
     rw[e2]at h4;rw[<-h4,List.getElem?_take,if_pos zyo]at e;obtain⟨v,hv⟩:∃v,c.cells[j]?=some v:=⟨_,List.getElem?_eq_getElem (by simpa[OpX.cells]using hj)⟩;rw[hv]at e |-;rw[Nat.zero_add];refine hb.cell ?_;rw[zq0 hg];simpa using e
noncomputable def oaR(l:List OpX):TSt (Nums×(Nat->List Ans)):=onceT 1 (λ_=>(l.map zeroA).take 65536) 1 1048576 []
structure OWant(l:List OpX)(Wb ab ao cA:Nat)(qv ov sv:Value)(stk:Bool)(w:World):Prop where
 blk:w.heap[Wb]?=some (.cells #[.slice (some ⟨ab,ao,none⟩) 1 cA,ov,sv,.bool stk] 29)
 c0:w.cell? ⟨ab,ao,none⟩=some qv
 an:AnsAt w qv ((oaR l).s.2 0)
 ov:IntsAt w ov ((oaR l).ord.map λ(i:Nat)=>(i:Int))
 sv:IntsAt w sv (numL (oaR l).s.1 1)
 stk:stk=decide (0<leftN (oaR l).ov 1)
 bnd:OBnd 1 1 1048576 (λ_=>(l.map zeroA).take 65536) []
theorem OWant.beyond {l:List OpX}{Wb ab ao cA:Nat}{qv ov sv:Value}{stk:Bool}{w w':World}(h:OWant l Wb ab ao cA qv ov sv stk w)(hb:Beyond w w'):OWant l Wb ab ao cA qv ov sv stk w':=⟨hb.heap h.blk,hb.cell h.c0,h.an.beyond hb,h.ov.beyond hb,h.sv.beyond hb,h.stk,h.bnd⟩
theorem OwnI.beyond {W w w':World}{l:List OpX}{j:Nat}{v:Value}(h:OwnI W l j v w)(hb:Beyond w w'):OwnI W l j v w':=⟨h.be.trans hb,zqs h.row λq hq=>hb.2 q (own_lt h.row hq).2.2⟩
theorem oa_want{W w:World}{C' L:Nat}{q:Option Addr}{l:List OpX}{x0 x1 x4 x5 x6 x7 x8 x9 x10 x11 x12 x13 x14 x15 x16 x17 x18 x19 x20 x21 x22 x23 x24 x25 x26 x27 x28 x29 x30 x31 x32 x33 x34 x35 x36 x37 x38 x39 x40 x41 x42 x43 x44 x45 x46 x47 x48 x49 x50 x51 x52 x53 x54 x55 x56 x57 x58 x59 x60 x61 x62 x63 x64 x65 x66 x67 x68 x69 x70 x71 x72 x73 x74 x75 x76 x77 x78 x79 x80 x81 x82 x83 x84 x85 x86 x87 x88 x89 x90 x91 x92 x93 x94 x95 x96 x97 x98 x99 x100 x101 x102 x103 x104 x105 x106 x107 x108 x109 x110 x111 x112 x113 x114 x115 x116 x117 x118 x119 x120 x121 x122 x123 x124 x125 x126 x127 x128 x129 x130 x131 x132:Value}(hle:l.length<=1048576)(hO:OwnI W l L (.slice q L C') w)(hL:l.length=L):
 Code.wp Try.prog (headC (oaT 4)) (ends (λa w'=>a.tmps.size=133/\a.tmps[2]?=some (.bool false)/\a.tmps[3]?=some (.slice q L C')/\∃Wb ab ao cA qv ov sv stk,a.tmps[6]?=some (.pointer (some ⟨Wb,0,none⟩))/\OwnI W l L (.slice q L C') w'/\OWant l Wb ab ao cA qv ov sv stk w') (λ_ _=>False)) ⟨#[x0,x1,.bool false,.slice q L C',x4,x5,x6,x7,x8,x9,x10,x11,x12,x13,x14,x15,x16,x17,x18,x19,x20,x21,x22,x23,x24,x25,x26,x27,x28,x29,x30,x31,x32,x33,x34,x35,x36,x37,x38,x39,x40,x41,x42,x43,x44,x45,x46,x47,x48,x49,x50,x51,x52,x53,x54,x55,x56,x57,x58,x59,x60,x61,x62,x63,x64,x65,x66,x67,x68,x69,x70,x71,x72,x73,x74,x75,x76,x77,x78,x79,x80,x81,x82,x83,x84,x85,x86,x87,x88,x89,x90,x91,x92,x93,x94,x95,x96,x97,x98,x99,x100,x101,x102,x103,x104,x105,x106,x107,x108,x109,x110,x111,x112,x113,x114,x115,x116,x117,x118,x119,x120,x121,x122,x123,x124,x125,x126,x127,x128,x129,x130,x131,x132],[]⟩ w:=by
 have hw2:Beyond w (w.alloc (.cells #[.slice q L C'] 32)):=Beyond.alloc _ _;have hq:(w.alloc (.cells #[.slice q L C'] 32)).heap[w.heap.size]?=some (.cells #[.slice q L C'] 32):=zqo _ _;have hp:=zqfq (cells:=1) (mo:=1048576) (Cn:=1) (sv:=.slice none 0 0) (sched:=[]) (N:=1) (own_thr hO hL hq hw2) zyd rfl (λi hi=>by rw[List.length_map];omega) ⟨none,0,rfl,λh=>absurd rfl h⟩ zyd;have hone:onceN 1=1:=rfl;rw[hone]at hp;have HP:=Lib.hid hp;have HI:=Lib.hid (And.intro hO hw2);clear hp hq hO hw2 hone;obtain⟨u_,hu_⟩:∃c,headC (oaT 4)=c:=⟨_,rfl⟩;have eu_:=hu_;rw[hu_];simp only[oaT,headC,tailN,cqL,cqR,cqB,cqO,cqT,cqF,Try.f4,al_od]at eu_;subst eu_;clear hu_
 go_wp2_with (fail)
 refine Calls.mono HP.out ?_;rintro e w' ⟨v,rfl,hT,hb2,hbnd⟩;obtain⟨pA,cA,ov,sv,rfl,hov,hsv,hrow⟩:=hT;obtain⟨ab,ao,rfl,hr⟩:=hrow zyd;obtain⟨qv,hq1,hq2⟩:=hr 0 zyd;have e1:=hov;have e2:=hsv;obtain⟨po,Co,rfl,-⟩:=e1;obtain⟨ps,Cs,rfl,-⟩:=e2;have HK:=Lib.hid (And.intro hov (And.intro hsv (And.intro hq1 (And.intro hq2 (And.intro (HI.out.2.trans hb2) hbnd)))));obtain⟨stk,hstk⟩:∃x,decide (0<leftN (onceT 1 (λ_=>(l.map zeroA).take 65536) 1 1048576 []).ov 1)=x:=⟨_,rfl⟩;rw[hstk];have HS:=Lib.hid hstk;obtain⟨lo,hlo⟩:∃x,((onceT 1 (λ_=>(l.map zeroA).take 65536) 1 1048576 []).ord.map λ(i:Nat)=>(i:Int)).length=x:=⟨_,rfl⟩;obtain⟨ls,hls⟩:∃x,(numL (onceT 1 (λ_=>(l.map zeroA).take 65536) 1 1048576 []).s.1 1).length=x:=⟨_,rfl⟩;rw[hlo,hls]at HK |-;clear hov hsv hrow hr hq1 hq2 hb2 hlo hls hstk HP hbnd;go_wp2;obtain⟨h1,h2,h3,h4,h5,h6⟩:=HK.out;have hb3:=Beyond.alloc w' (.cells #[.slice (some ⟨ab,ao,none⟩) 1 cA,.slice po lo Co,.slice ps ls Cs,.bool stk] 29);exact⟨rfl,rfl,rfl,rfl,w'.heap.size,ab,ao,cA,qv,_,_,stk,rfl,HI.out.1.beyond (h5.trans hb3),⟨zqo _ _,hb3.cell h3,h4.beyond hb3,h1.beyond hb3,h2.beyond hb3,HS.out.symm,h6⟩⟩
end Go.Proofs
set_option maxHeartbeats 8000000
namespace Go.Proofs
open Go Go.Conc Go.RowKit Go.Car
open Go.ConcN (upd upd_ne upd_same)
structure OAM(w0:World)(K:Nat)(g1 g2:Nums)(c:Nat)(w:World):Prop where
 o:NumRep (oneT K) g1 w
 p:NumRep (oneT (K+1)) g2 w
 s:w.heap[K+2]?=some (.cells #[.int .i64 (wrap64 (c:Int))] 46)
 be:Beyond w0 w
 ow:w0.heap.size=K
 size:K+3<=w.heap.size
section
variable {w0:World} {K:Nat} {g1 g2 g':Nums} {c c':Nat} {w w':World}
theorem zq5j{ob:Nat}{g:Nums}(h:NumRep (oneT ob) g w)(e:w'.heap[ob]?=w.heap[ob]?):NumRep (oneT ob) g w':=⟨λc hc=>e.trans (h.blk c hc),h.inj⟩
theorem OAM.call1 (h:OAM w0 K g1 g2 c w)(k:OAft K (K+2) g' c' w w'):OAM w0 K g' g2 c' w':=by
 have hs:=h.size;have ow:=h.ow;exact⟨k.rep,zq5j h.p (k.old _ zyo zyo zyo),k.cnt,⟨by have:=k.size;omega,λb hb=>(k.old b zyo zyo zyo).trans (h.be.2 b hb)⟩,h.ow,Nat.le_trans hs k.size⟩
theorem OAM.call2 (h:OAM w0 K g1 g2 c w)(k:OAft (K+1) (K+2) g' c w w'):OAM w0 K g1 g' c w':=by
 have hs:=h.size;have ow:=h.ow;exact⟨zq5j h.o (k.old _ zyo zyo zyo),k.rep,k.cnt,⟨by have:=k.size;omega,λb hb=>(k.old b zyo zyo zyo).trans (h.be.2 b hb)⟩,h.ow,Nat.le_trans hs k.size⟩
theorem OAM.far (h:OAM w0 K g1 g2 c w)(hsz:w.heap.size<=w'.heap.size)(ho:∀b,b<K+3->w'.heap[b]?=w.heap[b]?):OAM w0 K g1 g2 c w':=by
 have ow:=h.ow;exact⟨zq5j h.o (ho _ zyo),zq5j h.p (ho _ zyo),(ho _ zyo).trans h.s,⟨by have:=h.be.1;omega,λb hb=>(ho b zyo).trans (h.be.2 b hb)⟩,h.ow,Nat.le_trans h.size hsz⟩
theorem OAM.beyond (h:OAM w0 K g1 g2 c w)(hb:Beyond w w'):OAM w0 K g1 g2 c w':=h.far hb.1 λb hl=>hb.2 b (by have:=h.size;omega)
end
theorem zq9k(op:OpX):∀(l:List OpX)(g:Nums),oseqG (l++[op]) g=oG op (oseqG l g)
 |[],g=>rfl
 |a::l,g=>zq9k op l (oG a g)
theorem zq9l(op:OpX):∀(l:List OpX)(g:Nums),oseqN (l++[op]) g=oseqN l g+oN op (oseqG l g)
 |[],g=>by show 0+_=0+_;rfl
 |a::l,g=>by
  show oseqN (l++[op]) (oG a g)+oN a g=oseqN l (oG a g)+oN a g+oN op (oseqG l (oG a g));rw[zq9l op l];omega
theorem zq9i(op:OpX):∀(l:List OpX)(g:Nums)(j:Nat),l[j]?=some op->(oseqA l g)[j]?=some (oA op (oseqG (l.take j) g))
 |[],g,j,h=>by simp at h
 |a::l,g,0,h=>by cases h;rfl
 |a::l,g,j+1,h=>by
  show(oseqA l (oG a g))[j]?=some (oA op (oseqG (l.take j) (oG a g)));exact zq9i op l (oG a g) j zx3y
theorem zqfr{l:List OpX}{j:Nat}{op:OpX}(h:l[j]?=some op)(g:Nums):oseqG (l.take (j+1)) g=oG op (oseqG (l.take j) g)/\oseqN (l.take (j+1)) g=oseqN (l.take j) g+oN op (oseqG (l.take j) g):=by
 rw[List.take_add_one,h];exact⟨zq9k op _ _,zq9l op _ _⟩
structure OWm(w0:World)(K:Nat)(g1 g2 g1' g2':Nums)(c c':Nat)(A:Ans)(b11:Nat)(o11:Obj)(spec:List Value)(L:Nat->Bool)(vals:List Value)(w:World):Prop where
 m:OAM w0 K (if L 7=true then g1' else g1) (if L 13=true then g2' else g2) (if L 7=true then c' else c) w
 blk:w.heap[b11]?=some o11
 lo:K+3<=b11
 v:∀i,i<14->L i=true->vals[i]?=spec[i]?
 n14:L 14=true->∃b,vals[14]?=some (.pointer (some ⟨b,0,none⟩))/\b11<b/\w.heap[b]?=some (if L 16=true then .cells #[.bool A.ok,.int .i64 A.n,.slice none 0 0] 49 else .cells #[.bool false,.int .i64 0,.slice none 0 0] 49)
 n15:L 15=true->∃b,vals[15]?=some (.pointer (some ⟨b,0,none⟩))/\b11<b/\w.heap[b]?=some (if L 17=true then .cells #[.bool A.ok,.int .i64 A.n,.slice none 0 0] 49 else .cells #[.bool false,.int .i64 0,.slice none 0 0] 49)
 ne:L 14=true->L 15=true->∀b b',vals[14]?=some (.pointer (some ⟨b,0,none⟩))->vals[15]?=some (.pointer (some ⟨b',0,none⟩))->b≠b'
section
variable {w0:World} {K:Nat} {g1 g2 g1' g2':Nums} {c c':Nat} {A:Ans} {b11:Nat} {o11:Obj} {spec:List Value} {L:Nat->Bool} {vals:List Value} {w w':World}
theorem OWm.re (h:OWm w0 K g1 g2 g1' g2' c c' A b11 o11 spec L vals w)(τ:Nat->Question->Nat)(d:Nat):OWm w0 K g1 g2 g1' g2' c c' A b11 o11 spec L vals (Go.Car.re w τ d):=⟨h.m.beyond (Beyond.re _ _ _),h.blk,h.lo,h.v,h.n14,h.n15,h.ne⟩
theorem OWm.vset (h:OWm w0 K g1 g2 g1' g2' c c' A b11 o11 spec L vals w)(hlen:vals.length=18){i:Nat}{v:Value}(hv:spec[i]?=some v):∀j,j<14->upd L i true j=true->(vals.set i v)[j]?=spec[j]?:=λj hj hl=>by
 by_cases e:j=i
 . subst e;rw[hv,List.getElem?_set_self (by rw[hlen];omega)]
 . rw[upd_ne _ _ e]at hl;rw[List.getElem?_set_ne (λx=>e x.symm)];exact h.v j hj hl
theorem OWm.low (h:OWm w0 K g1 g2 g1' g2' c c' A b11 o11 spec L vals w)(hlen:vals.length=18){i:Nat}{v:Value}(hi:i<14)(hv:spec[i]?=some v)
 (hm:OAM w0 K (if upd L i true 7=true then g1' else g1) (if upd L i true 13=true then g2' else g2) (if upd L i true 7=true then c' else c) w') (ho:∀b,K+3<=b->b<w.heap.size->w'.heap[b]?=w.heap[b]?):OWm w0 K g1 g2 g1' g2' c c' A b11 o11 spec (upd L i true) (vals.set i v) w':=by
 have lo:=h.lo;refine⟨hm,(ho _ lo (zq7 h.blk)).trans h.blk,h.lo,h.vset hlen hv,λhl=>?_,λhl=>?_,λh1 h2 b b' e1 e2=>?_⟩
 . rw[upd_ne _ _ zyo]at hl;obtain⟨b,k1,k2,k3⟩:=h.n14 hl;exact⟨b,by rw[List.getElem?_set_ne zyo];exact k1,k2,by rw[upd_ne _ _ zyo];exact(ho b zyo (zq7 k3)).trans k3⟩
 . rw[upd_ne _ _ zyo]at hl;obtain⟨b,k1,k2,k3⟩:=h.n15 hl;exact⟨b,by rw[List.getElem?_set_ne zyo];exact k1,k2,by rw[upd_ne _ _ zyo];exact(ho b zyo (zq7 k3)).trans k3⟩
 . rw[upd_ne _ _ zyo]at h1 h2;rw[List.getElem?_set_ne zyo]at e1 e2;exact h.ne h1 h2 b b' e1 e2
theorem OWm.read (h:OWm w0 K g1 g2 g1' g2' c c' A b11 o11 spec L vals w)(hlen:vals.length=18){i:Nat}{v:Value}(hi:i<14)(h7:i≠7)(h13:i≠13)(hv:spec[i]?=some v):OWm w0 K g1 g2 g1' g2' c c' A b11 o11 spec (upd L i true) (vals.set i v) w:=
 h.low hlen hi hv (by rw[upd_ne _ _ (Ne.symm h7),upd_ne _ _ (Ne.symm h13)];exact h.m) λ_ _ _=>rfl
theorem OWm.call1 (h:OWm w0 K g1 g2 g1' g2' c c' A b11 o11 spec L vals w)(hlen:vals.length=18){v:Value}(hv:spec[7]?=some v)(k:OAft K (K+2) g1' c' w w'):OWm w0 K g1 g2 g1' g2' c c' A b11 o11 spec (upd L 7 true) (vals.set 7 v) w':=by
 refine h.low hlen zyd hv ?_ λb hb hl=>k.old b hl zyo zyo;rw[upd_same,upd_ne _ _ zyd];exact h.m.call1 k
theorem OWm.call2 (h:OWm w0 K g1 g2 g1' g2' c c' A b11 o11 spec L vals w)(hlen:vals.length=18){v:Value}(hv:spec[13]?=some v)(k:OAft (K+1) (K+2) g2' (if L 7=true then c' else c) w w'):OWm w0 K g1 g2 g1' g2' c c' A b11 o11 spec (upd L 13 true) (vals.set 13 v) w':=by
 refine h.low hlen zyd hv ?_ λb hb hl=>k.old b hl zyo zyo;rw[upd_same,upd_ne _ _ zyd];exact h.m.call2 k
theorem OWm.new14 (h:OWm w0 K g1 g2 g1' g2' c c' A b11 o11 spec L vals w)(hlen:vals.length=18)(h16:L 16=false):OWm w0 K g1 g2 g1' g2' c c' A b11 o11 spec (upd L 14 true) (vals.set 14 (.pointer (some ⟨w.heap.size,0,none⟩))) (w.alloc (.cells #[.bool false,.int .i64 0,.slice none 0 0] 49)):=by
 have hb:=Beyond.alloc w (.cells #[.bool false,.int .i64 0,.slice none 0 0] 49);refine⟨by rw[upd_ne _ _ zyd,upd_ne _ _ zyd];exact h.m.beyond hb,hb.heap h.blk,h.lo,λj hj hl=>?_,λ_=>⟨w.heap.size,by simp[hlen],zq7 h.blk,?_⟩,λhl=>?_,λ_ h2 b b' e1 e2=>?_⟩
 . rw[upd_ne _ _ zyo]at hl;rw[List.getElem?_set_ne zyo];exact h.v j hj hl
 . rw[upd_ne _ _ zyd,h16,if_neg zyd];exact zqo _ _
 . rw[upd_ne _ _ zyd]at hl;obtain⟨b,k1,k2,k3⟩:=h.n15 hl;exact⟨b,by rw[List.getElem?_set_ne zyd];exact k1,k2,by rw[upd_ne _ _ zyd];exact hb.heap k3⟩
 . rw[upd_ne _ _ zyd]at h2;rw[List.getElem?_set_ne zyd]at e2;obtain⟨b2,k1,k2,k3⟩:=h.n15 h2;rw[e2]at k1;cases k1;have:b=w.heap.size:=by
    have e3:(vals.set 14 (.pointer (some ⟨w.heap.size,0,none⟩)))[14]?=some (.pointer (some ⟨w.heap.size,0,none⟩)):=by simp[hlen]
    rw[e3]at e1;cases e1;rfl
   have:=zq7 k3;omega
theorem OWm.new15 (h:OWm w0 K g1 g2 g1' g2' c c' A b11 o11 spec L vals w)(hlen:vals.length=18)(h17:L 17=false):OWm w0 K g1 g2 g1' g2' c c' A b11 o11 spec (upd L 15 true) (vals.set 15 (.pointer (some ⟨w.heap.size,0,none⟩))) (w.alloc (.cells #[.bool false,.int .i64 0,.slice none 0 0] 49)):=by
 have hb:=Beyond.alloc w (.cells #[.bool false,.int .i64 0,.slice none 0 0] 49);refine⟨by rw[upd_ne _ _ zyd,upd_ne _ _ zyd];exact h.m.beyond hb,hb.heap h.blk,h.lo,λj hj hl=>?_,λhl=>?_,λ_=>⟨w.heap.size,by simp[hlen],zq7 h.blk,?_⟩,λh2 _ b b' e1 e2=>?_⟩
 . rw[upd_ne _ _ zyo]at hl;rw[List.getElem?_set_ne zyo];exact h.v j hj hl
 . rw[upd_ne _ _ zyd]at hl;obtain⟨b,k1,k2,k3⟩:=h.n14 hl;exact⟨b,by rw[List.getElem?_set_ne zyd];exact k1,k2,by rw[upd_ne _ _ zyd];exact hb.heap k3⟩
 . rw[upd_ne _ _ zyd,h17,if_neg zyd];exact zqo _ _
 . rw[upd_ne _ _ zyd]at h2;rw[List.getElem?_set_ne zyd]at e1;obtain⟨b2,k1,k2,k3⟩:=h.n14 h2;rw[e1]at k1;cases k1;have:b'=w.heap.size:=by
    have e3:(vals.set 15 (.pointer (some ⟨w.heap.size,0,none⟩)))[15]?=some (.pointer (some ⟨w.heap.size,0,none⟩)):=by simp[hlen]
    rw[e3]at e2;cases e2;rfl
   have:=zq7 k3;omega
def put3(w:World)(b:Nat)(A:Ans):World:=((w.setCell ⟨b,0,none⟩ (.bool A.ok)).setCell ⟨b,1,none⟩ (.int .i64 A.n)).setCell ⟨b,2,none⟩ (.slice none 0 0)
theorem zq5r{b:Nat}{ok:Bool}{v:Int}(h:w.heap[b]?=some (.cells #[.bool ok,.int .i64 v,.slice none 0 0] 49)):(put3 w b A).heap[b]?=some (.cells #[.bool A.ok,.int .i64 A.n,.slice none 0 0] 49):=zqa _ _ _ _ (zqa _ _ _ _ (zqa _ _ _ _ h))
theorem zq42{b x:Nat}(h:x≠b):(put3 w b A).heap[x]?=w.heap[x]?:=by unfold put3;rw[zq8 _ _ _ _ h,zq8 _ _ _ _ h,zq8 _ _ _ _ h]
theorem zq9r{b:Nat}:(put3 w b A).heap.size=w.heap.size:=by unfold put3;simp only[zqf]
theorem OWm.put16 (h:OWm w0 K g1 g2 g1' g2' c c' A b11 o11 spec L vals w){b:Nat}(h14:L 14=true)(hb:vals[14]?=some (.pointer (some ⟨b,0,none⟩))):OWm w0 K g1 g2 g1' g2' c c' A b11 o11 spec (upd L 16 true) vals (put3 w b A):=by
 obtain⟨b',k1,k2,k3⟩:=h.n14 h14;rw[hb]at k1;cases k1;have lo:=h.lo;refine⟨by rw[upd_ne _ _ zyd,upd_ne _ _ zyd];exact h.m.far (by rw[zq9r];exact Nat.le_refl _) λx hx=>zq42 zyo,(zq42 zyo).trans h.blk,h.lo,λj hj hl=>h.v j hj (by rw[upd_ne _ _ zyo]at hl;exact hl),λ_=>⟨b,hb,k2,?_⟩,λhl=>?_,λh1 h2=>h.ne (by rw[upd_ne _ _ zyd]at h1;exact h1) (by rw[upd_ne _ _ zyd]at h2;exact h2)⟩
 . rw[upd_same,if_pos rfl];split at k3
   . exact zq5r k3
   . exact zq5r k3
 . rw[upd_ne _ _ zyd]at hl;obtain⟨b2,q1,q2,q3⟩:=h.n15 hl;exact⟨b2,q1,q2,by rw[upd_ne _ _ zyd];exact(zq42 (Ne.symm (h.ne h14 hl b b2 hb q1))).trans q3⟩
theorem OWm.put17 (h:OWm w0 K g1 g2 g1' g2' c c' A b11 o11 spec L vals w){b:Nat}(h15:L 15=true)(hb:vals[15]?=some (.pointer (some ⟨b,0,none⟩))):OWm w0 K g1 g2 g1' g2' c c' A b11 o11 spec (upd L 17 true) vals (put3 w b A):=by
 obtain⟨b',k1,k2,k3⟩:=h.n15 h15;rw[hb]at k1;cases k1;have lo:=h.lo;refine⟨by rw[upd_ne _ _ zyd,upd_ne _ _ zyd];exact h.m.far (by rw[zq9r];exact Nat.le_refl _) λx hx=>zq42 zyo,(zq42 zyo).trans h.blk,h.lo,λj hj hl=>h.v j hj (by rw[upd_ne _ _ zyo]at hl;exact hl),λhl=>?_,λ_=>⟨b,hb,k2,?_⟩,λh1 h2=>h.ne (by rw[upd_ne _ _ zyd]at h1;exact h1) (by rw[upd_ne _ _ zyd]at h2;exact h2)⟩
 . rw[upd_ne _ _ zyd]at hl;obtain⟨b2,q1,q2,q3⟩:=h.n14 hl;exact⟨b2,q1,q2,by rw[upd_ne _ _ zyd];exact(zq42 (h.ne hl h15 b2 b q1 hb)).trans q3⟩
 . rw[upd_same,if_pos rfl];split at k3
   . exact zq5r k3
   . exact zq5r k3
end
noncomputable def oaB:Code:=cqO (cqB (cqR (headC (oaT 7))))
noncomputable def oaI:Code:=cqB (cqL (cqR (cqR oaB)))
noncomputable def or17:Array Oper:=match cqL (cqR oaI)with
 |.region _ o _=>o
 |_=>#[]
theorem oaB0:oaB=.seq (cqL oaB) (.seq (.cond (.tmp 50) .skip (.exit 2)) (.seq (.block 3 oaI) (cqR (cqR (cqR oaB))))):=by kernel_rfl
theorem oaI0:oaI=.seq (cqL oaI) (.seq (.region 17 or17 true) (cqR (cqR oaI))):=by kernel_rfl
abbrev OI(w0:World)(K gb L C' j c b11:Nat)(o11:Obj)(g:Nums)(op:OpX):=OWm w0 K g g (oG (zeroA op) g) (oG (zeroA op) g) c (c+cfOf true*oN (zeroA op) g) (oA (zeroA op) g) b11 o11 [.pointer (some ⟨K,0,none⟩),.pointer (some ⟨K+2,0,none⟩),.iface 44 (.pointer (some ⟨K+2,0,none⟩)),.slice (some ⟨gb,0,none⟩) L C',.int .i64 j,.pointer (some ⟨gb,j*4,none⟩),(zeroA op).val,ansV (oA (zeroA op) g),.pointer (some ⟨K+1,0,none⟩),.slice (some ⟨gb,0,none⟩) L C',.int .i64 j,.pointer (some ⟨gb,j*4,none⟩),(zeroA op).val,ansV (oA (zeroA op) g)]
structure OF(K Wb:Nat)(own:Value)(T:Array Value):Prop where
 sz:T.size=133
 t2:T[2]?=some (.bool false)
 t3:T[3]?=some own
 t6:T[6]?=some (.pointer (some ⟨Wb,0,none⟩))
 t7:T[7]?=some (.pointer (some ⟨K,0,none⟩))
 t8:T[8]?=some (.pointer (some ⟨K+1,0,none⟩))
 t9:T[9]?=some (.pointer (some ⟨K+2,0,none⟩))
def DD(L:Nat->Bool):Prop:=(L 16=true->L 14=true)/\(L 17=true->L 15=true)
theorem DD.to {L:Nat->Bool}(h:DD L){i:Nat}(h16:i=16->L 14=true)(h17:i=17->L 15=true):DD (upd L i true):=by
 have up:∀k,L k=true->upd L i true k=true:=λk hk=>by
  by_cases e:k=i
  . subst e;exact upd_same _ _ _
  . rw[upd_ne _ _ e];exact hk
 refine⟨λhl=>?_,λhl=>?_⟩
 . by_cases e:i=16
   . exact up _ (h16 e)
   . rw[upd_ne _ _ (λx=>e x.symm)]at hl;exact up _ (h.1 hl)
 . by_cases e:i=17
   . exact up _ (h17 e)
   . rw[upd_ne _ _ (λx=>e x.symm)]at hl;exact up _ (h.2 hl)
theorem oa_draw{Fin:Machine->Trace->Prop}(hFin:Back Try.prog Fin){n:Nat}{w0:World}{K Wb gb L C' j c b11:Nat}{o11:Obj}{g:Nums}{op:OpX}{T₀:Array Value}(hF:OF K Wb (.slice (some ⟨gb,0,none⟩) L C') T₀)(h10:T₀[10]?=some (.int .i64 j))
 (HIN:RowKit.Hid ((∀w,Beyond w0 w->w.cell? ⟨gb,j*4,none⟩=some (.int .i64 op.k)/\w.cell? ⟨gb,j*4+1,none⟩=some (.int .i64 0)/\w.cell? ⟨gb,j*4+2,none⟩=some (.int .i64 op.b)/\w.cell? ⟨gb,j*4+3,none⟩=some (.int .i64 op.c))/\j<L)):
 ∀(s:Nat)(Ld:Nat->Bool)(vals:List Value)(T:Array Value)(w:World)(i:Nat)(o:Oper),vals.length=or17.size->(s=n/\DD Ld/\OI w0 K gb L C' j c b11 o11 g op Ld vals w)->Ld i=false->or17[i]?=some o->(∀e∈o.after,Region.binds .any e=true->Ld e.on=true)->
  (∀j t,dstOf or17 j=some t->Ld j=true->T[t]?=vals[j]?)->(∀t,noD or17 t=true->T[t]?=T₀[t]?)->
  DrawX Try.prog (J0 Try.prog Fin) s T o w (λs' v w'=>s'=n/\DD (upd Ld i true)/\OI w0 K gb L C' j c b11 o11 g op (upd Ld i true) (vals.set i v) w') (λw'=>s=n/\DD (upd Ld i true)/\OI w0 K gb L C' j c b11 o11 g op (upd Ld i true) vals w'):=by
 rintro s Ld vals T w i o hlen ⟨rfl,hD,h⟩ hLi ho hdep hT hT0;have hi:i<18:=(Array.getElem?_eq_some_iff.1 ho).1;replace hlen:vals.length=18:=hlen;obtain⟨u3,hu3⟩:∃c,or17=c:=⟨_,rfl⟩;have eu3:=hu3;simp only[or17,oaI,oaB,oaT,headC,tailN,cqL,cqR,cqB,cqO,cqT,cqF,Try.f4,al_od]at eu3;rw[hu3,<-eu3]at ho;clear eu3 hu3;have hjL:=HIN.out.2;have hj0:(0:Int)<=(j:Int):=by omega
 have hjL':(j:Int)<(L:Int):=by omega
 obtain rfl |rfl |rfl |rfl |rfl |rfl |rfl |rfl |rfl |rfl |rfl |rfl |rfl |rfl |rfl |rfl |rfl |rfl:i=0\/i=1\/i=2\/i=3\/i=4\/i=5\/i=6\/i=7\/i=8\/i=9\/i=10\/i=11\/i=12\/i=13\/i=14\/i=15\/i=16\/i=17:=by omega
 ·
  simp only[al_gl,al_g0,al_g1,al_oi]at ho;subst ho;have e7:T[7]?=some (.pointer (some ⟨K,0,none⟩)):=(hT0 7 zyk).trans hF.t7;refine .inl ⟨rfl,.inl ⟨54,.pointer (some ⟨K,0,none⟩),w,rfl,?_,rfl,hD.to zyo zyo,h.read hlen (i:=0) zyd zyd zyd rfl⟩⟩;simp only[execOp,Act.eval,al_gd,e7,al_od];go_simp
 ·
  simp only[al_gl,al_g0,al_g1,al_oi]at ho;subst ho;have e9:T[9]?=some (.pointer (some ⟨K+2,0,none⟩)):=(hT0 9 zyk).trans hF.t9;refine .inl ⟨rfl,.inl ⟨55,.pointer (some ⟨K+2,0,none⟩),w,rfl,?_,rfl,hD.to zyo zyo,h.read hlen (i:=1) zyd zyd zyd rfl⟩⟩;simp only[execOp,Act.eval,al_gd,e9,al_od];go_simp
 ·
  simp only[al_gl,al_g0,al_g1,al_oi]at ho;subst ho;have e55:T[55]?=some (.pointer (some ⟨K+2,0,none⟩)):=(hT 1 55 rfl (hdep ⟨1,.data⟩ zx2n rfl)).trans (h.v 1 zyd (hdep ⟨1,.data⟩ zx2n rfl));refine .inl ⟨rfl,.inl ⟨56,.iface 44 (.pointer (some ⟨K+2,0,none⟩)),w,rfl,?_,rfl,hD.to zyo zyo,h.read hlen (i:=2) zyd zyd zyd rfl⟩⟩;simp only[execOp,Act.eval,al_gd,e55,al_od];go_simp
 ·
  simp only[al_gl,al_g0,al_g1,al_oi]at ho;subst ho;have e3:T[3]?=some (.slice (some ⟨gb,0,none⟩) L C'):=(hT0 3 zyk).trans hF.t3;refine .inl ⟨rfl,.inl ⟨57,.slice (some ⟨gb,0,none⟩) L C',w,rfl,?_,rfl,hD.to zyo zyo,h.read hlen (i:=3) zyd zyd zyd rfl⟩⟩;simp only[execOp,Act.eval,al_gd,e3,al_od];go_simp
 ·
  simp only[al_gl,al_g0,al_g1,al_oi]at ho;subst ho;have e10:T[10]?=some (.int .i64 j):=(hT0 10 zyk).trans h10;refine .inl ⟨rfl,.inl ⟨58,.int .i64 j,w,rfl,?_,rfl,hD.to zyo zyo,h.read hlen (i:=4) zyd zyd zyd rfl⟩⟩;simp only[execOp,Act.eval,al_gd,e10,al_od];go_simp
 ·
  simp only[al_gl,al_g0,al_g1,al_oi]at ho;subst ho;have e57:T[57]?=some (.slice (some ⟨gb,0,none⟩) L C'):=(hT 3 57 rfl (hdep ⟨3,.data⟩ zx2n rfl)).trans (h.v 3 zyd (hdep ⟨3,.data⟩ zx2n rfl));have e58:T[58]?=some (.int .i64 j):=(hT 4 58 rfl (hdep ⟨4,.data⟩ zx2n rfl)).trans (h.v 4 zyd (hdep ⟨4,.data⟩ zx2n rfl));refine .inl ⟨rfl,.inl ⟨59,.pointer (some ⟨gb,j*4,none⟩),w,rfl,?_,rfl,hD.to zyo zyo,h.read hlen (i:=5) zyd zyd zyd rfl⟩⟩;simp only[execOp,Act.eval,al_gd,e57,e58,al_od];go_simp
 ·
  simp only[al_gl,al_g0,al_g1,al_oi]at ho;subst ho;have e59:T[59]?=some (.pointer (some ⟨gb,j*4,none⟩)):=(hT 5 59 rfl (hdep ⟨5,.data⟩ zx2n rfl)).trans (h.v 5 zyd (hdep ⟨5,.data⟩ zx2n rfl));obtain⟨o0,o1,o2,o3⟩:=HIN.out.1 w h.m.be;refine .inl ⟨rfl,.inl ⟨60,(zeroA op).val,w,rfl,?_,rfl,hD.to zyo zyo,h.read hlen (i:=6) zyd zyd zyd rfl⟩⟩;unfold OpX.val zeroA;simp only[execOp,Act.eval,al_gd,e59,al_od];go_simp
 ·
  simp only[al_gl,al_g0,al_g1,al_oi]at ho;subst ho;have e54:T[54]?=some (.pointer (some ⟨K,0,none⟩)):=(hT 0 54 rfl (hdep ⟨0,.data⟩ zx2n rfl)).trans (h.v 0 zyd (hdep ⟨0,.data⟩ zx2n rfl));have e56:T[56]?=some (.iface 44 (.pointer (some ⟨K+2,0,none⟩))):=(hT 2 56 rfl (hdep ⟨2,.data⟩ zx2n rfl)).trans (h.v 2 zyd (hdep ⟨2,.data⟩ zx2n rfl));have e60:T[60]?=some ((zeroA op).val):=(hT 6 60 rfl (hdep ⟨6,.data⟩ zx2n rfl)).trans (h.v 6 zyd (hdep ⟨6,.data⟩ zx2n rfl));refine .inr ⟨61,14,#[.pointer (some ⟨K,0,none⟩),.iface 44 (.pointer (some ⟨K+2,0,none⟩)),(zeroA op).val],rfl,λw=>?_,λw=>?_,?_⟩
  . exact zx1j
  . exact zx1j
  . have h7:Ld 7=false:=hLi;have hm:=h.m;simp only[h7,Bool.false_eq_true,if_false]at hm;refine CallsJ.mono (zq80 (zq82 hFin (n:=s) true (zeroA op) hm.o hm.s zyo)) ?_;rintro s' e w' ⟨rfl,rfl,hA⟩;exact⟨_,rfl,rfl,hD.to zyo zyo,h.call1 hlen rfl hA⟩
 ·
  simp only[al_gl,al_g0,al_g1,al_oi]at ho;subst ho;have e8:T[8]?=some (.pointer (some ⟨K+1,0,none⟩)):=(hT0 8 zyk).trans hF.t8;refine .inl ⟨rfl,.inl ⟨62,.pointer (some ⟨K+1,0,none⟩),w,rfl,?_,rfl,hD.to zyo zyo,h.read hlen (i:=8) zyd zyd zyd rfl⟩⟩;simp only[execOp,Act.eval,al_gd,e8,al_od];go_simp
 ·
  simp only[al_gl,al_g0,al_g1,al_oi]at ho;subst ho;have e3:T[3]?=some (.slice (some ⟨gb,0,none⟩) L C'):=(hT0 3 zyk).trans hF.t3;refine .inl ⟨rfl,.inl ⟨63,.slice (some ⟨gb,0,none⟩) L C',w,rfl,?_,rfl,hD.to zyo zyo,h.read hlen (i:=9) zyd zyd zyd rfl⟩⟩;simp only[execOp,Act.eval,al_gd,e3,al_od];go_simp
 ·
  simp only[al_gl,al_g0,al_g1,al_oi]at ho;subst ho;have e10:T[10]?=some (.int .i64 j):=(hT0 10 zyk).trans h10;refine .inl ⟨rfl,.inl ⟨64,.int .i64 j,w,rfl,?_,rfl,hD.to zyo zyo,h.read hlen (i:=10) zyd zyd zyd rfl⟩⟩;simp only[execOp,Act.eval,al_gd,e10,al_od];go_simp
 ·
  simp only[al_gl,al_g0,al_g1,al_oi]at ho;subst ho;have e63:T[63]?=some (.slice (some ⟨gb,0,none⟩) L C'):=(hT 9 63 rfl (hdep ⟨9,.data⟩ zx2n rfl)).trans (h.v 9 zyd (hdep ⟨9,.data⟩ zx2n rfl));have e64:T[64]?=some (.int .i64 j):=(hT 10 64 rfl (hdep ⟨10,.data⟩ zx2n rfl)).trans (h.v 10 zyd (hdep ⟨10,.data⟩ zx2n rfl));refine .inl ⟨rfl,.inl ⟨65,.pointer (some ⟨gb,j*4,none⟩),w,rfl,?_,rfl,hD.to zyo zyo,h.read hlen (i:=11) zyd zyd zyd rfl⟩⟩;simp only[execOp,Act.eval,al_gd,e63,e64,al_od];go_simp
 ·
  simp only[al_gl,al_g0,al_g1,al_oi]at ho;subst ho;have e65:T[65]?=some (.pointer (some ⟨gb,j*4,none⟩)):=(hT 11 65 rfl (hdep ⟨11,.data⟩ zx2n rfl)).trans (h.v 11 zyd (hdep ⟨11,.data⟩ zx2n rfl));obtain⟨o0,o1,o2,o3⟩:=HIN.out.1 w h.m.be;refine .inl ⟨rfl,.inl ⟨66,(zeroA op).val,w,rfl,?_,rfl,hD.to zyo zyo,h.read hlen (i:=12) zyd zyd zyd rfl⟩⟩;unfold OpX.val zeroA;simp only[execOp,Act.eval,al_gd,e65,al_od];go_simp
 ·
  simp only[al_gl,al_g0,al_g1,al_oi]at ho;subst ho;have e62:T[62]?=some (.pointer (some ⟨K+1,0,none⟩)):=(hT 8 62 rfl (hdep ⟨8,.data⟩ zx2n rfl)).trans (h.v 8 zyd (hdep ⟨8,.data⟩ zx2n rfl));have e66:T[66]?=some ((zeroA op).val):=(hT 12 66 rfl (hdep ⟨12,.data⟩ zx2n rfl)).trans (h.v 12 zyd (hdep ⟨12,.data⟩ zx2n rfl));refine .inr ⟨67,14,#[.pointer (some ⟨K+1,0,none⟩),.nilIface,(zeroA op).val],rfl,λw=>?_,λw=>?_,?_⟩
  . exact zx1o
  . exact zx1o
  . have h13:Ld 13=false:=hLi;have hm:=h.m;simp only[h13,Bool.false_eq_true,if_false]at hm;refine CallsJ.mono (zq80 (zq82 hFin (n:=s) false (zeroA op) hm.p hm.s zyo)) ?_;rintro s' e w' ⟨rfl,rfl,hA⟩;have hA2:OAft (K+1) (K+2) (oG (zeroA op) g) (if Ld 7=true then c+cfOf true*oN (zeroA op) g else c) w w':=by
     have e0:cfOf false*oN (zeroA op) g=0:=Nat.zero_mul _;rw[e0,Nat.add_zero]at hA;exact hA
    exact⟨_,rfl,rfl,hD.to zyo zyo,h.call2 hlen rfl hA2⟩
 ·
  simp only[al_gl,al_g0,al_g1,al_oi]at ho;subst ho;have h16:Ld 16=false:=by
   cases hx:Ld 16 with
   |false=>rfl
   |true=>have:=hD.1 hx;rw[show Ld 14=false from hLi]at this;cases this
  refine .inl ⟨rfl,.inl ⟨12,.pointer (some ⟨w.heap.size,0,none⟩),w.alloc (.cells #[.bool false,.int .i64 0,.slice none 0 0] 49),rfl,?_,rfl,hD.to zyo zyo,h.new14 hlen h16⟩⟩;simp only[execOp,Act.eval,al_gd,al_od];go_simp
 ·
  simp only[al_gl,al_g0,al_g1,al_oi]at ho;subst ho;have h17:Ld 17=false:=by
   cases hx:Ld 17 with
   |false=>rfl
   |true=>have:=hD.2 hx;rw[show Ld 15=false from hLi]at this;cases this
  refine .inl ⟨rfl,.inl ⟨13,.pointer (some ⟨w.heap.size,0,none⟩),w.alloc (.cells #[.bool false,.int .i64 0,.slice none 0 0] 49),rfl,?_,rfl,hD.to zyo zyo,h.new15 hlen h17⟩⟩;simp only[execOp,Act.eval,al_gd,al_od];go_simp
 ·
  simp only[al_gl,al_g0,al_g1,al_oi]at ho;subst ho;have e61:T[61]?=some (ansV (oA (zeroA op) g)):=(hT 7 61 rfl (hdep ⟨7,.data⟩ zx2n rfl)).trans (h.v 7 zyd (hdep ⟨7,.data⟩ zx2n rfl));have hl:Ld 14=true:=hdep ⟨14,.data⟩ zx2n rfl;obtain⟨b,k1,k2,k3⟩:=h.n14 hl;have e12:T[12]?=some (.pointer (some ⟨b,0,none⟩)):=(hT 14 12 rfl hl).trans k1;have q0:∃y,w.cell? ⟨b,0,none⟩=some y/\w.frozen? ⟨b,0,none⟩=false:=by split at k3<;>exact⟨_,(zq0 k3).trans rfl,zq3 k3⟩
  have q1:∃y,w.cell? ⟨b,1,none⟩=some y/\w.frozen? ⟨b,1,none⟩=false:=by split at k3<;>exact⟨_,(zq0 k3).trans rfl,zq3 k3⟩
  have q2:∃y,w.cell? ⟨b,2,none⟩=some y/\w.frozen? ⟨b,2,none⟩=false:=by split at k3<;>exact⟨_,(zq0 k3).trans rfl,zq3 k3⟩
  obtain⟨y0,q0,z0⟩:=q0;obtain⟨y1,q1,z1⟩:=q1;obtain⟨y2,q2,z2⟩:=q2;refine .inl ⟨rfl,.inr ⟨rfl,put3 w b (oA (zeroA op) g),?_,rfl,hD.to (λ_=>hl) zyo,h.put16 hl k1⟩⟩;simp only[execOp,Act.eval,al_gd,e12,e61,al_od];clear k3 HIN;unfold put3;go_simp
 ·
  simp only[al_gl,al_g0,al_g1,al_oi]at ho;subst ho;have e67:T[67]?=some (ansV (oA (zeroA op) g)):=(hT 13 67 rfl (hdep ⟨13,.data⟩ zx2n rfl)).trans (h.v 13 zyd (hdep ⟨13,.data⟩ zx2n rfl));have hl:Ld 15=true:=hdep ⟨15,.data⟩ zx2n rfl;obtain⟨b,k1,k2,k3⟩:=h.n15 hl;have e13:T[13]?=some (.pointer (some ⟨b,0,none⟩)):=(hT 15 13 rfl hl).trans k1;have q0:∃y,w.cell? ⟨b,0,none⟩=some y/\w.frozen? ⟨b,0,none⟩=false:=by split at k3<;>exact⟨_,(zq0 k3).trans rfl,zq3 k3⟩
  have q1:∃y,w.cell? ⟨b,1,none⟩=some y/\w.frozen? ⟨b,1,none⟩=false:=by split at k3<;>exact⟨_,(zq0 k3).trans rfl,zq3 k3⟩
  have q2:∃y,w.cell? ⟨b,2,none⟩=some y/\w.frozen? ⟨b,2,none⟩=false:=by split at k3<;>exact⟨_,(zq0 k3).trans rfl,zq3 k3⟩
  obtain⟨y0,q0,z0⟩:=q0;obtain⟨y1,q1,z1⟩:=q1;obtain⟨y2,q2,z2⟩:=q2;refine .inl ⟨rfl,.inr ⟨rfl,put3 w b (oA (zeroA op) g),?_,rfl,hD.to zyo (λ_=>hl),h.put17 hl k1⟩⟩;simp only[execOp,Act.eval,al_gd,e13,e67,al_od];clear k3 HIN;unfold put3;go_simp
theorem oa_calls{Fin:Machine->Trace->Prop}(hFin:Back Try.prog Fin){n:Nat}{w0 w:World}{K Wb gb L C' j c b11:Nat}{o11:Obj}{g:Nums}{op:OpX}{T:Array Value}{Q:Nat->Exit->Act->World->Prop}(hF:OF K Wb (.slice (some ⟨gb,0,none⟩) L C') T)(h10:T[10]?=some (.int .i64 j))
 (HIN:RowKit.Hid ((∀w,Beyond w0 w->w.cell? ⟨gb,j*4,none⟩=some (.int .i64 op.k)/\w.cell? ⟨gb,j*4+1,none⟩=some (.int .i64 0)/\w.cell? ⟨gb,j*4+2,none⟩=some (.int .i64 op.b)/\w.cell? ⟨gb,j*4+3,none⟩=some (.int .i64 op.c))/\j<L))
 (hm:OAM w0 K g g c w) (hb:w.heap[b11]?=some o11) (lo:K+3<=b11)
 (hQ:∀T' w' b12 b13,OF K Wb (.slice (some ⟨gb,0,none⟩) L C') T'->T'[10]?=T[10]?->T'[11]?=T[11]?->T'[47]?=T[47]?->T'[48]?=T[48]?->T'[49]?=T[49]?->T'[12]?=some (.pointer (some ⟨b12,0,none⟩))->T'[13]?=some (.pointer (some ⟨b13,0,none⟩))->OAM w0 K (oG (zeroA op) g) (oG (zeroA op) g) (c+oN (zeroA op) g) w'->w'.heap[b11]?=some o11->w'.heap[b12]?=some (.cells #[.bool (oA (zeroA op) g).ok,.int .i64 (oA (zeroA op) g).n,.slice none 0 0] 49)->w'.heap[b13]?=some (.cells #[.bool (oA (zeroA op) g).ok,.int .i64 (oA (zeroA op) g).n,.slice none 0 0] 49)->Q n .normal ⟨T',[]⟩ w'):wpJ (J0 Try.prog Fin) (.region 17 or17 true) Q n ⟨T,[]⟩ w:=by
 intro b k cs hbk hQ';refine zq68 (s:=n) (j0_JS hFin) hbk zyk zyk (by rw[hF.sz];kernel_rfl) (λs Ld v w=>s=n/\DD Ld/\OI w0 K gb L C' j c b11 o11 g op Ld v w) (λs Ld v w τ d h=>⟨h.1,h.2.1,h.2.2.re τ d⟩) (List.replicate 18 undef) zyk ⟨rfl,⟨λh=>zx3j,λh=>zx3j⟩,⟨hm,hb,lo,λi _ h=>zx3j,λh=>zx3j,λh=>zx3j,λh=>zx3j⟩⟩ (oa_draw hFin hF h10 HIN) ?_;rintro s Ld vals w2 hall hlen ⟨rfl,_,hP⟩;replace hlen:vals.length=18:=hlen;have hm2:=hP.m;rw[hall 7 zyd,hall 13 zyd]at hm2;simp only[if_true]at hm2;have ec:c+cfOf true*oN (zeroA op) g=c+oN (zeroA op) g:=by show c+1*_=_;rw[Nat.one_mul]
 rw[ec]at hm2;obtain⟨b12,k1,k2,k3⟩:=hP.n14 (hall 14 zyd);obtain⟨b13,q1,q2,q3⟩:=hP.n15 (hall 15 zyd);rw[hall 16 zyd,if_pos rfl]at k3;rw[hall 17 zyd,if_pos rfl]at q3;refine(j0_JS hFin).ctl (s:=s) (λw=>stepG_region_end) ?_;have e15:dstOf or17 15=some 13:=by kernel_rfl
 have e16:dstOf or17 16=none:=by kernel_rfl
 have e17:dstOf or17 17=none:=by kernel_rfl
 have keep:∀t,noD or17 t=true->(putv or17 vals 0 T)[t]?=T[t]?:=λt ht=>zq1p vals 0 _ t λj _ _=>zq3g ht j;refine hQ' s .normal _ _ (hQ _ _ b12 b13 ⟨by rw[zq3l];exact hF.sz,(keep 2 zyk).trans hF.t2,(keep 3 zyk).trans hF.t3,(keep 6 zyk).trans hF.t6,(keep 7 zyk).trans hF.t7,(keep 8 zyk).trans hF.t8,(keep 9 zyk).trans hF.t9⟩ (keep 10 zyk) (keep 11 zyk) (keep 47 zyk) (keep 48 zyk) (keep 49 zyk) ?_ ?_ hm2 hP.blk k3 q3)
 . refine zq23 vals 0 _ 14 _ 12 k1 zyk (by rw[hF.sz];decide) λm a b e=>?_;obtain rfl |rfl |rfl:m=15\/m=16\/m=17:=by omega
   . rw[e15]at e;cases e
   . rw[e16]at e;cases e
   . rw[e17]at e;cases e
 . refine zq23 vals 0 _ 15 _ 13 q1 zyk (by rw[hF.sz];decide) λm a b e=>?_;obtain rfl |rfl:m=16\/m=17:=by omega
   . rw[e16]at e;cases e
   . rw[e17]at e;cases e
theorem oa_r16{w0 w:World}{K Wb qb qo n2 cq j c lc:Nat}{own:Value}{lp:Option Addr}{g:Nums}{A:Ans}{T:Array Value}(hF:OF K Wb own T)(h47:T[47]?=some (.slice (some ⟨qb,qo,none⟩) n2 cq))(h48:T[48]?=some (.int .i64 n2))(h49:T[49]?=some (.int .i64 j))(hj:j<n2)
 (hc:w.cell? ⟨qb,qo+j*3,none⟩=some (.bool A.ok)/\w.cell? ⟨qb,qo+j*3+1,none⟩=some (.int .i64 A.n)/\w.cell? ⟨qb,qo+j*3+2,none⟩=some (.slice lp 0 lc)) (hm:OAM w0 K g g c w):
 Code.wp Try.prog (cqL oaI) (ends (λa' w'=>∃b11,OF K Wb own a'.tmps/\a'.tmps[10]?=some (.int .i64 j)/\a'.tmps[11]?=some (.pointer (some ⟨b11,0,none⟩))/\a'.tmps[47]?=some (.slice (some ⟨qb,qo,none⟩) n2 cq)/\a'.tmps[48]?=some (.int .i64 n2)/\a'.tmps[49]?=some (.int .i64 j)/\K+3<=b11/\w'.heap[b11]?=some (.cells #[.bool A.ok,.int .i64 A.n,.slice lp 0 lc] 49)/\OAM w0 K g g c w') (λ_ _=>False)) ⟨T,[]⟩ w:=by
 have hj0:(0:Int)<=(j:Int):=by omega
 have hjn:(j:Int)<(n2:Int):=by omega
 obtain⟨c0,c1,c2⟩:=hc;obtain⟨x,hT,hx⟩:=zq29 hF.sz;have e2:x 2=.bool false:=Option.some.inj ((hx 2 zyd).symm.trans hF.t2);have e3:x 3=own:=Option.some.inj ((hx 3 zyd).symm.trans hF.t3);have e6:x 6=.pointer (some ⟨Wb,0,none⟩):=Option.some.inj ((hx 6 zyd).symm.trans hF.t6);have e7:x 7=.pointer (some ⟨K,0,none⟩):=Option.some.inj ((hx 7 zyd).symm.trans hF.t7);have e8:x 8=.pointer (some ⟨K+1,0,none⟩):=Option.some.inj ((hx 8 zyd).symm.trans hF.t8);have e9:x 9=.pointer (some ⟨K+2,0,none⟩):=Option.some.inj ((hx 9 zyd).symm.trans hF.t9);have e47:x 47=.slice (some ⟨qb,qo,none⟩) n2 cq:=Option.some.inj ((hx 47 zyd).symm.trans h47);have e48:x 48=.int .i64 n2:=Option.some.inj ((hx 48 zyd).symm.trans h48);have e49:x 49=.int .i64 j:=Option.some.inj ((hx 49 zyd).symm.trans h49);subst hT;simp only[e2,e3,e6,e7,e8,e9,e47,e48,e49];clear e2 e3 e6 e7 e8 e9 e47 e48 e49 hx;have HM:=Lib.hid (And.intro hm hj);clear hm hj h47 h48 h49 hF;obtain⟨u_,hu_⟩:∃c,cqL oaI=c:=⟨_,rfl⟩;have eu_:=hu_;rw[hu_];simp only[oaI,oaB,oaT,headC,tailN,cqL,cqR,cqB,cqO,cqT,cqF,Try.f4,al_od]at eu_;subst eu_;clear hu_;go_wp2;have hb:=Beyond.alloc w (.cells #[.bool A.ok,.int .i64 A.n,.slice lp 0 lc] 49);exact⟨rfl,w.heap.size,⟨rfl,rfl,rfl,rfl,rfl,rfl,rfl⟩,rfl,rfl,rfl,rfl,rfl,HM.out.1.size,zqo _ _,HM.out.1.beyond hb⟩
theorem oa_r18{w0 w:World}{K Wb qb qo n2 cq j c lc b11 b12 b13:Nat}{own:Value}{lp:Option Addr}{g:Nums}{A:Ans}{T:Array Value}(hF:OF K Wb own T)(h11:T[11]?=some (.pointer (some ⟨b11,0,none⟩)))(h12:T[12]?=some (.pointer (some ⟨b12,0,none⟩)))(h13:T[13]?=some (.pointer (some ⟨b13,0,none⟩)))(h47:T[47]?=some (.slice (some ⟨qb,qo,none⟩) n2 cq))(h48:T[48]?=some (.int .i64 n2))(h49:T[49]?=some (.int .i64 j))
 (hb1:w.heap[b11]?=some (.cells #[.bool A.ok,.int .i64 A.n,.slice lp 0 lc] 49)) (hb2:w.heap[b12]?=some (.cells #[.bool A.ok,.int .i64 A.n,.slice none 0 0] 49)) (hb3:w.heap[b13]?=some (.cells #[.bool A.ok,.int .i64 A.n,.slice none 0 0] 49)) (hm:OAM w0 K g g c w):
 Code.wp Try.prog (cqR (cqR oaI)) (ends (λa' w'=>OF K Wb own a'.tmps/\a'.tmps[47]?=some (.slice (some ⟨qb,qo,none⟩) n2 cq)/\a'.tmps[48]?=some (.int .i64 n2)/\a'.tmps[49]?=some (.int .i64 j)/\OAM w0 K g g c w') (λ_ _=>False)) ⟨T,[]⟩ w:=by
 have a0:w.cell? ⟨b11,0,none⟩=some (.bool A.ok):=(zq0 hb1).trans rfl;have a1:w.cell? ⟨b11,1,none⟩=some (.int .i64 A.n):=(zq0 hb1).trans rfl;have c0:w.cell? ⟨b12,0,none⟩=some (.bool A.ok):=(zq0 hb2).trans rfl;have c1:w.cell? ⟨b12,1,none⟩=some (.int .i64 A.n):=(zq0 hb2).trans rfl;have d0:w.cell? ⟨b13,0,none⟩=some (.bool A.ok):=(zq0 hb3).trans rfl;have d1:w.cell? ⟨b13,1,none⟩=some (.int .i64 A.n):=(zq0 hb3).trans rfl;generalize A.ok=ok at a0 c0 d0;generalize A.n=an at a1 c1 d1;obtain⟨x,hT,hx⟩:=zq29 hF.sz;have e2:x 2=.bool false:=Option.some.inj ((hx 2 zyd).symm.trans hF.t2);have e3:x 3=own:=Option.some.inj ((hx 3 zyd).symm.trans hF.t3);have e6:x 6=.pointer (some ⟨Wb,0,none⟩):=Option.some.inj ((hx 6 zyd).symm.trans hF.t6);have e7:x 7=.pointer (some ⟨K,0,none⟩):=Option.some.inj ((hx 7 zyd).symm.trans hF.t7);have e8:x 8=.pointer (some ⟨K+1,0,none⟩):=Option.some.inj ((hx 8 zyd).symm.trans hF.t8);have e9:x 9=.pointer (some ⟨K+2,0,none⟩):=Option.some.inj ((hx 9 zyd).symm.trans hF.t9);have e11:x 11=.pointer (some ⟨b11,0,none⟩):=Option.some.inj ((hx 11 zyd).symm.trans h11);have e12:x 12=.pointer (some ⟨b12,0,none⟩):=Option.some.inj ((hx 12 zyd).symm.trans h12);have e13:x 13=.pointer (some ⟨b13,0,none⟩):=Option.some.inj ((hx 13 zyd).symm.trans h13);have e47:x 47=.slice (some ⟨qb,qo,none⟩) n2 cq:=Option.some.inj ((hx 47 zyd).symm.trans h47);have e48:x 48=.int .i64 n2:=Option.some.inj ((hx 48 zyd).symm.trans h48);have e49:x 49=.int .i64 j:=Option.some.inj ((hx 49 zyd).symm.trans h49);subst hT;simp only[e2,e3,e6,e7,e8,e9,e11,e12,e13,e47,e48,e49];clear e2 e3 e6 e7 e8 e9 e11 e12 e13 e47 e48 e49 hx;have HM:=Lib.hid hm;clear hm h47 h48 h49 h11 h12 h13 hb1 hb2 hb3 hF;obtain⟨u_,hu_⟩:∃c,cqR (cqR oaI)=c:=⟨_,rfl⟩;have eu_:=hu_;rw[hu_];simp only[oaI,oaB,oaT,headC,tailN,cqL,cqR,cqB,cqO,cqT,cqF,Try.f4,al_od]at eu_;subst eu_;clear hu_;cases ok<;>
 . go_wp2;exact⟨rfl,⟨rfl,rfl,rfl,rfl,rfl,rfl,rfl⟩,rfl,rfl,rfl,HM.out⟩
theorem oa_r20{w0 w:World}{K Wb qb qo n2 cq j c:Nat}{own:Value}{g:Nums}{T:Array Value}(hF:OF K Wb own T)(h47:T[47]?=some (.slice (some ⟨qb,qo,none⟩) n2 cq))(h48:T[48]?=some (.int .i64 n2))(h49:T[49]?=some (.int .i64 j))(hj:j<n2)(hn:n2<=65536)(hm:OAM w0 K g g c w):
 Code.wp Try.prog (cqR (cqR (cqR oaB))) (ends (λa' w'=>OF K Wb own a'.tmps/\a'.tmps[47]?=some (.slice (some ⟨qb,qo,none⟩) n2 cq)/\a'.tmps[48]?=some (.int .i64 n2)/\a'.tmps[49]?=some (.int .i64 (j+1:Nat))/\OAM w0 K g g c w') (λ_ _=>False)) ⟨T,[]⟩ w:=by
 obtain⟨x,hT,hx⟩:=zq29 hF.sz;have e2:x 2=.bool false:=Option.some.inj ((hx 2 zyd).symm.trans hF.t2);have e3:x 3=own:=Option.some.inj ((hx 3 zyd).symm.trans hF.t3);have e6:x 6=.pointer (some ⟨Wb,0,none⟩):=Option.some.inj ((hx 6 zyd).symm.trans hF.t6);have e7:x 7=.pointer (some ⟨K,0,none⟩):=Option.some.inj ((hx 7 zyd).symm.trans hF.t7);have e8:x 8=.pointer (some ⟨K+1,0,none⟩):=Option.some.inj ((hx 8 zyd).symm.trans hF.t8);have e9:x 9=.pointer (some ⟨K+2,0,none⟩):=Option.some.inj ((hx 9 zyd).symm.trans hF.t9);have e47:x 47=.slice (some ⟨qb,qo,none⟩) n2 cq:=Option.some.inj ((hx 47 zyd).symm.trans h47);have e48:x 48=.int .i64 n2:=Option.some.inj ((hx 48 zyd).symm.trans h48);have e49:x 49=.int .i64 j:=Option.some.inj ((hx 49 zyd).symm.trans h49);subst hT;simp only[e2,e3,e6,e7,e8,e9,e47,e48,e49];clear e2 e3 e6 e7 e8 e9 e47 e48 e49 hx;have HM:=Lib.hid hm;have ew:wrap64 ((j:Int)+1)=((j+1:Nat):Int):=by unfold wrap64;omega
 clear hm h47 h48 h49 hF;obtain⟨u_,hu_⟩:∃c,cqR (cqR (cqR oaB))=c:=⟨_,rfl⟩;have eu_:=hu_;rw[hu_];simp only[oaI,oaB,oaT,headC,tailN,cqL,cqR,cqB,cqO,cqT,cqF,Try.f4,al_od]at eu_;subst eu_;clear hu_;go_wp2;refine⟨rfl,⟨rfl,rfl,rfl,rfl,rfl,rfl,rfl⟩,rfl,rfl,?_,HM.out⟩
 first
  |rfl
  |(show some (Value.int .i64 _)=_;rw[<-ew])
theorem oa_r15{w0 w:World}{K Wb n2 j c:Nat}{qv own:Value}{g:Nums}{T:Array Value}(hF:OF K Wb own T)(h47:T[47]?=some qv)(h48:T[48]?=some (.int .i64 n2))(h49:T[49]?=some (.int .i64 j))(hm:OAM w0 K g g c w):
 Code.wp Try.prog (cqL oaB) (ends (λa' w'=>OF K Wb own a'.tmps/\a'.tmps[47]?=some qv/\a'.tmps[48]?=some (.int .i64 n2)/\a'.tmps[49]?=some (.int .i64 j)/\a'.tmps[50]?=some (.bool (decide (j<n2)))/\OAM w0 K g g c w') (λ_ _=>False)) ⟨T,[]⟩ w:=by
 obtain⟨x,hT,hx⟩:=zq29 hF.sz;have e2:x 2=.bool false:=Option.some.inj ((hx 2 zyd).symm.trans hF.t2);have e3:x 3=own:=Option.some.inj ((hx 3 zyd).symm.trans hF.t3);have e6:x 6=.pointer (some ⟨Wb,0,none⟩):=Option.some.inj ((hx 6 zyd).symm.trans hF.t6);have e7:x 7=.pointer (some ⟨K,0,none⟩):=Option.some.inj ((hx 7 zyd).symm.trans hF.t7);have e8:x 8=.pointer (some ⟨K+1,0,none⟩):=Option.some.inj ((hx 8 zyd).symm.trans hF.t8);have e9:x 9=.pointer (some ⟨K+2,0,none⟩):=Option.some.inj ((hx 9 zyd).symm.trans hF.t9);have e47:x 47=qv:=Option.some.inj ((hx 47 zyd).symm.trans h47);have e48:x 48=.int .i64 n2:=Option.some.inj ((hx 48 zyd).symm.trans h48);have e49:x 49=.int .i64 j:=Option.some.inj ((hx 49 zyd).symm.trans h49);subst hT;simp only[e2,e3,e6,e7,e8,e9,e47,e48,e49];clear e2 e3 e6 e7 e8 e9 e47 e48 e49 hx;have HM:=Lib.hid hm;clear hm h47 h48 h49 hF;obtain⟨u_,hu_⟩:∃c,cqL oaB=c:=⟨_,rfl⟩;have eu_:=hu_;rw[hu_];simp only[oaI,oaB,oaT,headC,tailN,cqL,cqR,cqB,cqO,cqT,cqF,Try.f4,al_od]at eu_;subst eu_;clear hu_
 by_cases hlt:j<n2
 . have e:decide (j<n2)=true:=decide_eq_true hlt;rw[e];have hjn:(j:Int)<(n2:Int):=by omega
   clear e hlt;go_wp2;exact⟨rfl,⟨rfl,rfl,rfl,rfl,rfl,rfl,rfl⟩,rfl,rfl,rfl,rfl,HM.out⟩
 . have e:decide (j<n2)=false:=decide_eq_false hlt;rw[e];have hjn:¬(j:Int)<(n2:Int):=by omega
   clear e hlt;go_wp2;exact⟨rfl,⟨rfl,rfl,rfl,rfl,rfl,rfl,rfl⟩,rfl,rfl,rfl,rfl,HM.out⟩
end Go.Proofs
set_option maxHeartbeats 8000000
namespace Go.Proofs
open Go Go.Conc Go.RowKit Go.Car
def oaOps(l:List OpX):List OpX:=(l.map zeroA).take 65536
def nz:Nums:=λ_ _=>0
theorem oa_r14{w0 w:World}{K Wb ab ao cA n2 cq c:Nat}{qp:Option Addr}{own:Value}{g:Nums}{T:Array Value}(hF:OF K Wb own T)(c0:w.cell? ⟨Wb,0,none⟩=some (.slice (some ⟨ab,ao,none⟩) 1 cA))(c1:w.cell? ⟨ab,ao,none⟩=some (.slice qp n2 cq))(hm:OAM w0 K g g c w):
 Code.wp Try.prog (cqL (headC (oaT 7))) (ends (λa' w'=>OF K Wb own a'.tmps/\a'.tmps[47]?=some (.slice qp n2 cq)/\a'.tmps[48]?=some (.int .i64 n2)/\a'.tmps[49]?=some (.int .i64 (0:Nat))/\OAM w0 K g g c w') (λ_ _=>False)) ⟨T,[]⟩ w:=by
 obtain⟨x,hT,hx⟩:=zq29 hF.sz;have e2:x 2=.bool false:=Option.some.inj ((hx 2 zyd).symm.trans hF.t2);have e3:x 3=own:=Option.some.inj ((hx 3 zyd).symm.trans hF.t3);have e6:x 6=.pointer (some ⟨Wb,0,none⟩):=Option.some.inj ((hx 6 zyd).symm.trans hF.t6);have e7:x 7=.pointer (some ⟨K,0,none⟩):=Option.some.inj ((hx 7 zyd).symm.trans hF.t7);have e8:x 8=.pointer (some ⟨K+1,0,none⟩):=Option.some.inj ((hx 8 zyd).symm.trans hF.t8);have e9:x 9=.pointer (some ⟨K+2,0,none⟩):=Option.some.inj ((hx 9 zyd).symm.trans hF.t9);subst hT;simp only[e2,e3,e6,e7,e8,e9];clear e2 e3 e6 e7 e8 e9 hx;have HM:=Lib.hid hm;clear hm hF;obtain⟨u_,hu_⟩:∃c,cqL (headC (oaT 7))=c:=⟨_,rfl⟩;have eu_:=hu_;rw[hu_];simp only[oaI,oaB,oaT,headC,tailN,cqL,cqR,cqB,cqO,cqT,cqF,Try.f4,al_od]at eu_;subst eu_;clear hu_;go_wp2;exact⟨rfl,⟨rfl,rfl,rfl,rfl,rfl,rfl,rfl⟩,rfl,rfl,rfl,HM.out⟩
theorem zqg3{W w0:World}{l:List OpX}{L C' j:Nat}{q:Option Addr}{op:OpX}(h:OwnI W l L (.slice q L C') w0)(hL:l.length=L)(hop:l[j]?=some op):∃gb,q=some ⟨gb,0,none⟩/\∀w,Beyond w0 w->w.cell? ⟨gb,j*4,none⟩=some (.int .i64 op.k)/\w.cell? ⟨gb,j*4+1,none⟩=some (.int .i64 0)/\w.cell? ⟨gb,j*4+2,none⟩=some (.int .i64 op.b)/\w.cell? ⟨gb,j*4+3,none⟩=some (.int .i64 op.c):=by
 have hj:=(List.getElem?_eq_some_iff.1 hop).1;rcases h.row.2 with⟨hv,h0⟩|⟨g,cap,cur,hv,hB,hg,h1,h2,h3,h4⟩
 . omega
 . cases hv;refine⟨g,rfl,λw hb=>?_⟩;have e2:(l.take L).map zeroA=l.map zeroA:=by rw[List.take_of_length_le zyo]
   rw[e2]at h4;have key:∀i v,i<4->(zeroA op).cells[i]?=some v->w.cell? ⟨g,j*4+i,none⟩=some v:=λi v hi hv=>by
    refine hb.cell ?_;have e:=zq8j (l.map zeroA) j (zeroA op) (by rw[List.getElem?_map,hop];rfl) i hi;rw[<-h4,List.getElem?_take,if_pos zyo,hv]at e;rw[zq0 hg];simpa using e
   exact⟨key 0 _ zyd rfl,key 1 _ zyd rfl,key 2 _ zyd rfl,key 3 _ zyd rfl⟩
theorem oa_loop{Fin:Machine->Trace->Prop}(hFin:Back Try.prog Fin){n:Nat}{W w0 w:World}{K Wb ab ao cA L C':Nat}{q:Option Addr}{qv ov sv:Value}{l:List OpX}{T:Array Value}{Q:Nat->Exit->Act->World->Prop}(hF:OF K Wb (.slice q L C') T)(hL:l.length=L)
 (hO:OwnI W l L (.slice q L C') w0) (hW:OWant l Wb ab ao cA qv ov sv false w0) (hA:(oaR l).s.2 0=oseqA (oaOps l) nz) (hm:OAM w0 K nz nz 0 w)
 (hQ:∀T' w',OF K Wb (.slice q L C') T'->OAM w0 K (oseqG (oaOps l) nz) (oseqG (oaOps l) nz) (oseqN (oaOps l) nz) w'->Q n .normal ⟨T',[]⟩ w'):wpJ (J0 Try.prog Fin) (headC (oaT 7)) Q n ⟨T,[]⟩ w:=by
 have hJ:=j0_JS hFin;have han:=hW.an;rw[hA]at han;obtain⟨qp,cq,rfl,hq⟩:=han;obtain⟨n2,hn2⟩:∃n2,(oseqA (oaOps l) nz).length=n2:=⟨_,rfl⟩;rw[hn2]at hW;have hno:(oaOps l).length=n2:=by rw[<-hn2,zq9j]
 have hn6:n2<=65536:=by rw[<-hno];unfold oaOps;rw[List.length_take];omega
 have hnl:n2<=L:=by rw[<-hno];unfold oaOps;rw[List.length_take,List.length_map,hL];omega
 rw[show headC (oaT 7)=.seq (cqL (headC (oaT 7))) (.block 2 (.loop oaB))by kernel_rfl];refine zqw hJ ?_;refine zq18 (j0_JS hFin) (zq1d hFin) zqp zyk (λa' w'=>OF K Wb (.slice q L C') a'.tmps/\a'.tmps[47]?=some (.slice qp n2 cq)/\a'.tmps[48]?=some (.int .i64 n2)/\a'.tmps[49]?=some (.int .i64 (0:Nat))/\OAM w0 K nz nz 0 w') (λ_ _=>False) ?_ (λ_ _ _ _ h=>h) (λτ d=>oa_r14 hF ((zq0 ((hm.be.trans (Beyond.re w τ d)).heap hW.blk)).trans rfl) ((hm.be.trans (Beyond.re w τ d)).cell hW.c0) (hm.beyond (Beyond.re w τ d))) ?_ (λ_ _ h=>h.elim)
 . exact zx1u
 rintro t w1 ⟨hF1,h47,h48,h49,hm1⟩;clear hF hm;show wpJ _ _ _ n _ _;refine zq7i hJ ?_;refine zq7m hJ.jc (λs a w m=>∃j,m=n2 - j/\j<=n2/\s=n/\a.defers=[]/\OF K Wb (.slice q L C') a.tmps/\a.tmps[47]?=some (.slice qp n2 cq)/\a.tmps[48]?=some (.int .i64 n2)/\a.tmps[49]?=some (.int .i64 j)/\OAM w0 K (oseqG ((oaOps l).take j) nz) (oseqG ((oaOps l).take j) nz) (oseqN ((oaOps l).take j) nz) w) n2 ⟨0,rfl,Nat.zero_le _,rfl,rfl,hF1,h47,h48,h49,hm1⟩ ?_;clear hF1 h47 h48 h49 hm1;rintro s ⟨T1,ds⟩ w2 m ⟨j,rfl,hj,rfl,hds,hF,h47,h48,h49,hm⟩;simp only at hds hF h47 h48 h49;subst hds;rw[oaB0];refine zqw hJ ?_;refine zq18 (j0_JS hFin) (zq1d hFin) zqp zyk (λa' w'=>OF K Wb (.slice q L C') a'.tmps/\a'.tmps[47]?=some (.slice qp n2 cq)/\a'.tmps[48]?=some (.int .i64 n2)/\a'.tmps[49]?=some (.int .i64 j)/\a'.tmps[50]?=some (.bool (decide (j<n2)))/\OAM w0 K (oseqG ((oaOps l).take j) nz) (oseqG ((oaOps l).take j) nz) (oseqN ((oaOps l).take j) nz) w') (λ_ _=>False) ?_ (λ_ _ _ _ h=>h) (λτ d=>oa_r15 hF h47 h48 h49 (hm.beyond (Beyond.re w2 τ d))) ?_ (λ_ _ h=>h.elim)
 . exact λa w τ d h=>⟨h.1,h.2.1,h.2.2.1,h.2.2.2.1,h.2.2.2.2.1,h.2.2.2.2.2.beyond (Beyond.re _ _ _)⟩
 clear hF h47 h48 h49 hm;rintro T2 w3 ⟨hF,h47,h48,h49,h50,hm⟩;simp only at hF h47 h48 h49 h50;show wpJ _ _ _ s _ _;refine zqw hJ ?_;refine zq2m (t:=decide (j<n2)) hJ (by show T2.getD 50 undef=_;rw[al_gd,h50];rfl) ?_
 by_cases hlt:j<n2
 . rw[decide_eq_true hlt,if_pos rfl];refine zqcq hJ ?_;show wpJ _ _ _ s _ _;refine zqw hJ (zq7i hJ ?_);rw[oaI0];obtain⟨op',hop'⟩:∃op',(oaOps l)[j]?=some op':=⟨_,List.getElem?_eq_getElem zyo⟩;obtain⟨op,hop,he⟩:∃op,l[j]?=some op/\zeroA op=op':=by
    have h:=hop';unfold oaOps at h;rw[List.getElem?_take,if_pos zyo,List.getElem?_map]at h;cases hl:l[j]? with
    |none=>rw[hl]at h;cases h
    |some o=>rw[hl]at h;exact⟨o,rfl,Option.some.inj h⟩
   subst he;obtain⟨gb,rfl,hcl⟩:=zqg3 hO hL hop;have hans:=zq9i (zeroA op) (oaOps l) nz j hop';obtain⟨qb,qo,rfl,hqc⟩:=hq (by intro e;rw[e]at hans;simp at hans);obtain⟨a0,a1,lv,a2,a3⟩:=hqc j _ hans;have hnil:(oA (zeroA op) (oseqG ((oaOps l).take j) nz)).l=[]:=by
    have hb:=(hW.bnd.2 0 Nat.zero_lt_one).2;refine hb _ ?_;have e:(onceT 1 (λ_=>(l.map zeroA).take 65536) 1 1048576 []).s.2 0=oseqA (oaOps l) nz:=hA;rw[e];exact List.mem_of_getElem? hans
   rw[hnil]at a3;obtain⟨lp,lc,rfl,-⟩:=a3;obtain⟨e1,e2⟩:=zqfr hop' nz;refine zqw hJ ?_;refine zq18 (j0_JS hFin) (zq1d hFin) zqp zyk (λa' w'=>∃b11,OF K Wb (.slice (some ⟨gb,0,none⟩) L C') a'.tmps/\a'.tmps[10]?=some (.int .i64 j)/\a'.tmps[11]?=some (.pointer (some ⟨b11,0,none⟩))/\a'.tmps[47]?=some (.slice (some ⟨qb,qo,none⟩) n2 cq)/\a'.tmps[48]?=some (.int .i64 n2)/\a'.tmps[49]?=some (.int .i64 j)/\K+3<=b11/\w'.heap[b11]?=some (.cells #[.bool (oA (zeroA op) (oseqG ((oaOps l).take j) nz)).ok,.int .i64 (oA (zeroA op) (oseqG ((oaOps l).take j) nz)).n,.slice lp 0 lc] 49)/\OAM w0 K (oseqG ((oaOps l).take j) nz) (oseqG ((oaOps l).take j) nz) (oseqN ((oaOps l).take j) nz) w') (λ_ _=>False) ?_ (λ_ _ _ _ h=>h) (λτ d=>oa_r16 hF h47 h48 h49 hlt ⟨(hm.be.trans (Beyond.re w3 τ d)).cell a0,(hm.be.trans (Beyond.re w3 τ d)).cell a1,(hm.be.trans (Beyond.re w3 τ d)).cell a2⟩ (hm.beyond (Beyond.re w3 τ d))) ?_ (λ_ _ h=>h.elim)
   . rintro a w τ d ⟨b11,h1,h2,h3,h4,h5,h6,h7,h8,h9⟩;exact⟨b11,h1,h2,h3,h4,h5,h6,h7,h8,h9.beyond (Beyond.re _ _ _)⟩
   clear hF h47 h48 h49 h50 hm;rintro T3 w4 ⟨b11,hF,h10,h11,h47,h48,h49,hlo,hb11,hm⟩;simp only at hF h10 h11 h47 h48 h49;show wpJ _ _ _ s _ _;refine zqw hJ ?_;refine oa_calls hFin hF h10 (Lib.hid ⟨hcl,by omega⟩) hm hb11 hlo ?_;clear hF hm hb11;intro T4 w5 b12 b13 hF k10 k11 k47 k48 k49 h12 h13 hm hb11 hb12 hb13;rw[h11]at k11;rw[h47]at k47;rw[h48]at k48;rw[h49]at k49;show wpJ _ _ _ s _ _;rw[<-e1,<-e2]at hm;refine zq18 (j0_JS hFin) (zq1d hFin) zqp zyk (λa' w'=>OF K Wb (.slice (some ⟨gb,0,none⟩) L C') a'.tmps/\a'.tmps[47]?=some (.slice (some ⟨qb,qo,none⟩) n2 cq)/\a'.tmps[48]?=some (.int .i64 n2)/\a'.tmps[49]?=some (.int .i64 j)/\OAM w0 K (oseqG ((oaOps l).take (j+1)) nz) (oseqG ((oaOps l).take (j+1)) nz) (oseqN ((oaOps l).take (j+1)) nz) w') (λ_ _=>False) ?_ (λ_ _ _ _ h=>h) (λτ d=>oa_r18 (w:=re w5 τ d) (A:=oA (zeroA op) (oseqG ((oaOps l).take j) nz)) hF k11 h12 h13 k47 k48 k49 hb11 hb12 hb13 (hm.beyond (Beyond.re w5 τ d))) ?_ (λ_ _ h=>h.elim)
   . exact zx1u
   clear hF hm hb11 hb12 hb13 k10 k11 k47 k48 k49 h12 h13 h10 h11 h47 h48 h49;rintro T5 w6 ⟨hF,h47,h48,h49,hm⟩;simp only at hF h47 h48 h49;show wpJ _ _ _ s _ _;refine zq18 (j0_JS hFin) (zq1d hFin) zqp zyk (λa' w'=>OF K Wb (.slice (some ⟨gb,0,none⟩) L C') a'.tmps/\a'.tmps[47]?=some (.slice (some ⟨qb,qo,none⟩) n2 cq)/\a'.tmps[48]?=some (.int .i64 n2)/\a'.tmps[49]?=some (.int .i64 (j+1:Nat))/\OAM w0 K (oseqG ((oaOps l).take (j+1)) nz) (oseqG ((oaOps l).take (j+1)) nz) (oseqN ((oaOps l).take (j+1)) nz) w') (λ_ _=>False) ?_ (λ_ _ _ _ h=>h) (λτ d=>oa_r20 hF h47 h48 h49 hlt hn6 (hm.beyond (Beyond.re w6 τ d))) ?_ (λ_ _ h=>h.elim)
   . exact zx1u
   clear hF hm h47 h48 h49;rintro T6 w7 ⟨hF,h47,h48,h49,hm⟩;exact⟨n2 - (j+1),by omega,j+1,rfl,hlt,rfl,rfl,hF,h47,h48,h49,hm⟩
 . rw[decide_eq_false hlt,if_neg zyd];refine wpJ_exit hJ ?_;show(if(2:Nat)=2 then Q s .normal ⟨T2,[]⟩ w3 else Q s (.exit 2) ⟨T2,[]⟩ w3);rw[if_pos rfl];have ej:j=n2:=by omega
   rw[ej,<-hno,List.take_length]at hm;exact hQ T2 w3 hF hm
theorem zqgg{w:World}{va vb:Value}{l:List Int}(hl:l.length<=1099511627776)(ha:IntsAt w va l)(hb:IntsAt w vb l):
 Calls Try.prog 16 #[va,vb] w λe w'=>e=.returned (.bool true)/\∃n,w'=w.drewN n:=by
 obtain⟨pa,ca,rfl,ha⟩:=ha;obtain⟨pb,cb,rfl,hb⟩:=hb;have HA:=Lib.hid (And.intro ha hb);clear ha hb;obtain⟨L,hL⟩:∃L,l.length=L:=⟨_,rfl⟩;rw[hL]at hl |-;have HL:=Lib.hid hL;clear hL
 go_enter Try.func16,Try.ntmps16
 go_wp2
 go_loopg [5] L (λk i wr=>∃(j n:Nat),k=L - j/\j<=L/\i=.int .i64 j/\wr=w.drewN n)
 case atStart=>exact⟨0,0,rfl,Nat.zero_le _,rfl,rfl⟩
 case round=>
  obtain⟨j,n,hk,hj,rfl,rfl⟩:=hrel
  by_cases hlt:j<L
  . have hlt':(j:Int)<(L:Int):=by omega
    have hj0:(0:Int)<=j:=by omega
    have hne:l≠[]:=λe=>by have:=HL.out;rw[e]at this;simp at this;omega
    obtain⟨b1,o1,rfl,h1⟩:=HA.out.1 hne;obtain⟨b2,o2,rfl,h2⟩:=HA.out.2 hne;have k1:=h1 j (by rw[HL.out];exact hlt);have k2:=h2 j (by rw[HL.out];exact hlt);generalize l.getD j 0=x at k1 k2;clear h1 h2 hne HA
    go_wp2_with (fail)
    go_quiet (fail)
    go_wp2;go_roundg (L - (j+1))
    case measure=>omega
    case rel=>exact⟨j+1,_,rfl,by omega,rfl,rfl⟩
  . obtain rfl:L=j:=by omega
    go_wp2;go_ret;exact⟨rfl,n,rfl⟩
end Go.Proofs
namespace Go.Car
open Go Go.Conc Go.RowKit
open Go.ConcN (upd upd_ne upd_same)
def chkGd(ops:Array Oper)(n:Nat):Bool:=
 (List.range ops.size).all (λi=>match ops[i]? with
  |some o=>match o.dst with|some d=>decide (d<n)|none=>true
  |none=>false)&&
 (List.range ops.size).all (λi=>(List.range i).all λj=>(dstOf ops i).isNone || dstOf ops i !=dstOf ops j)
section
variable {P:Program} {main:Bool} {γ:Type} {J:γ->Goroutine->World->Prop}
theorem zqcz(hJ:JS P main (λ_=>none) J){b:Frame}{k:List Item}{cs:List Frame}(hb:b.kind≠.early)(hm:P.follows .mixedOrders=true){id:Nat}{ops:Array Oper}{T₀:Array Value}{ds:List Deferred}{s:γ}{w:World}(hback:zq2z ops=true)(hchk:chkGd ops T₀.size=true)
 (W:γ->(Nat->Bool)->List Value->World->Prop) (hWre:∀s L v w τ d,W s L v w->W s L v (re w τ d)) (v₀:List Value) (hv₀:v₀.length=ops.size) (hW:W s (λ_=>false) v₀ w)
 (hstep:∀(s:γ)(L:Nat->Bool)(vals:List Value)(T:Array Value)(w:World)(i:Nat)(o:Oper),vals.length=ops.size->W s L vals w->L i=false->ops[i]?=some o->(∀e∈o.after,Region.binds .any e=true->L e.on=true)->
  (∀j t,dstOf ops j=some t->L j=true->T[t]?=vals[j]?)->(∀t,noD ops t=true->T[t]?=T₀[t]?)->
  Region.wanted o (yielded ops T)=true/\DrawX P J s T o w (λs' v w'=>W s' (upd L i true) (vals.set i v) w') (λw'=>W s (upd L i true) vals w'))
 (hend:∀s L vals w,(∀i,i<ops.size->L i=true)->vals.length=ops.size->W s L vals w->J s (G (b.at ⟨putv ops vals 0 T₀,ds⟩ (.inRegion ops []::k)) cs) w):J s (G (b.at ⟨T₀,ds⟩ (.code (.region id ops true)::k)) cs) w:=by
 unfold chkGd at hchk;simp only[Bool.and_eq_true,List.all_eq_true,List.mem_range]at hchk;obtain⟨h1,h2⟩:=hchk;have plain:∀(i:Nat)(o:Oper),ops[i]?=some o->∀d,o.dst=some d->d<T₀.size:=λi o ho=>by
  have:=h1 i (Array.getElem?_eq_some_iff.1 ho).1;rw[ho]at this;simp only at this;intro d hd;rw[hd]at this;simpa using this
 have dlt:∀i d,dstOf ops i=some d->i<ops.size/\d<T₀.size:=λi d hd=>by
  unfold dstOf at hd;cases ho:ops[i]? with
  |none=>rw[ho]at hd;cases hd
  |some o=>rw[ho]at hd;exact⟨(Array.getElem?_eq_some_iff.1 ho).1,plain i o ho d hd⟩
 have apart:∀(i j:Nat)(d:Tmp),dstOf ops i=some d->dstOf ops j=some d->i=j:=λi j d hd hd'=>by
  rcases Nat.lt_trichotomy i j with h|h|h
  . have:=h2 j (dlt j d hd').1 i h;rw[hd,hd']at this;simp at this
  . exact h
  . have:=h2 i (dlt i d hd).1 j h;rw[hd,hd']at this;simp at this
 have final:∀(vals:List Value),vals.length=ops.size->∀i x,dstOf ops i=some x->(putv ops vals 0 T₀)[x]?=vals[i]?:=λvals hlen i x hd=>by
  obtain⟨hi,hlt⟩:=dlt i x hd;rw[List.getElem?_eq_getElem zyo];refine zq23 vals 0 _ i _ x (List.getElem?_eq_getElem zyo) zx3w hlt λm a b e=>?_;have:=apart m i x e hd;omega
 let I:γ->(Nat->Bool)->Array Value->World->Prop:=λs L T w=>∃vals:List Value,vals.length=ops.size/\W s L vals w/\T.size=T₀.size/\(∀t,(∀j,dstOf ops j≠some t)->T[t]?=T₀[t]?)/\∀j t,dstOf ops j=some t->L j=true->T[t]?=vals[j]?
 refine zq7x hJ hb hm I hback (λs L T w τ d⟨vals,a1,a2,a3⟩=>⟨vals,a1,hWre _ _ _ _ _ _ a2,a3⟩) ⟨v₀,hv₀,hW,rfl,λ_ _=>rfl,λ_ _ _ h=>zx3j⟩ ?_ ?_
 . rintro s L T w i o ⟨vals,hlen,hw,hsz,hout,hin⟩ hLi ho hdep rest hnext;have hdo:=plain i o ho;have hil:i<ops.size:=(Array.getElem?_eq_some_iff.1 ho).1;have hst1:=λw hw=>hstep s L vals T w i o hlen hw hLi ho hdep hin λt ht=>hout t (zq3g ht);have hst0:=λw hw=>(hst1 w hw).2;have hwan:=(hst1 w hw).1;have value:∀s' d v w',o.dst=some d->W s' (upd L i true) (vals.set i v) w'->I s' (upd L i true) (T.setIfInBounds d v) w':=λs' d v w' hd hW'=>by
    have hdi:dstOf ops i=some d:=by unfold dstOf;rw[ho];exact hd
    refine⟨vals.set i v,by simpa using hlen,hW',by simpa using hsz,λt ht=>?_,λj t hdj hl=>?_⟩
    . have:d≠t:=λe=>ht i (e▸hdi);rw[al_gn this];exact hout t ht
    . exact zxw
   have skip:∀w',o.dst=none->W s (upd L i true) vals w'->I s (upd L i true) T w':=λw' hd hW'=>by
    refine⟨vals,hlen,hW',hsz,hout,λj t hdj hl=>?_⟩;have e:j≠i:=λe=>by
     subst e;unfold dstOf at hdj;rw[ho]at hdj;simp only[al_ob]at hdj;rw[hd]at hdj;cases hdj
    rw[upd_ne _ _ e]at hl;exact hin j t hdj hl
   rcases hst0 w hw with⟨hok,hpl⟩|⟨d,f,args,hd,hrun,hev,hcall⟩
   . exact zxb
   . exact zxj
 . exact zxs
end
end Go.Car
