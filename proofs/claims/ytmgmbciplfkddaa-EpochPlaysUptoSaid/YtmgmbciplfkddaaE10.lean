/- YtmgmbciplfkddaaEPlays2: part 10 of the proof (the texts behind it, in order). -/
import Derived.Test.YtmgmbciplfkddaaE09
set_option maxHeartbeats 4000000
set_option maxRecDepth 100000
set_option linter.all false
namespace Go.Proofs
open Go Go.Conc Go.RowKit Go.Car
def clF(db mb k:Nat)(sv:Value)(e:Int)(v:Nat->Value):Array Value:=#[.pointer (some ⟨db,0,none⟩),sv,.int .i64 k,v 3,v 4,v 5,.slice none 0 0,.int .i64 0,.pointer (some ⟨mb,k*3,none⟩),.int .i64 e,v 10,v 11,v 12,v 13,v 14,v 15,v 16,v 17,v 18,v 19,v 20,v 21,v 22,v 23,v 24,v 25,v 26,v 27,v 28,v 29,v 30,v 31,v 32,v 33,v 34,v 35,v 36,v 37,v 38,v 39,v 40,v 41,v 42,v 43,v 44,v 45,v 46,v 47,v 48,v 49,v 50]
def doneL(e:Int)(l:List (Int×Int)):List Int:=(l.filter (oldT e)).map Prod.fst
def leftL(e:Int)(l:List (Int×Int)):List (Int×Int):=l.filter λt=>!oldT e t
theorem zq7q{e:Int}{l:List (Int×Int)}{x:Int×Int}{j:Nat}(hx:l[j]?=some x)(h:oldT e x=true):doneL e (l.take (j+1))=doneL e (l.take j)++[x.1]/\leftL e (l.take (j+1))=leftL e (l.take j):=by
 rw[List.take_add_one,hx];unfold doneL leftL;constructor
 . simp[List.filter_append,h]
 . simp[List.filter_append,h]
theorem zq7r{e:Int}{l:List (Int×Int)}{x:Int×Int}{j:Nat}(hx:l[j]?=some x)(h:oldT e x=false):doneL e (l.take (j+1))=doneL e (l.take j)/\leftL e (l.take (j+1))=leftL e (l.take j)++[x]:=by
 rw[List.take_add_one,hx];unfold doneL leftL;constructor
 . simp[List.filter_append,h]
 . simp[List.filter_append,h]
theorem zq3e(e:Int)(l:List (Int×Int)):(doneL e l).length<=l.length/\(leftL e l).length<=l.length:=by
 unfold doneL leftL;rw[List.length_map];exact⟨List.length_filter_le _ _,List.length_filter_le _ _⟩
structure CollI(w:World)(e:Int)(l:List (Int×Int))(dv lv:Value)(wr:World):Prop where
 be:Ext w wr
 done:wr.ownsRow w.heap.size 2 1 dv (doneL e l).length ((doneL e l).map (Value.int .i64))
 left:wr.ownsRow w.heap.size 125 2 lv (leftL e l).length (thC (leftL e l))
theorem CollI.hit {w wr w7:World}{e:Int}{l l':List (Int×Int)}{dv lv:Value}{x:Int}{o1 o2:Obj}{g7 n cap7:Nat}(h:CollI w e l dv lv wr)(h1:doneL e l'=doneL e l++[x])(h2:leftL e l'=leftL e l)
 (ho:w7.ownsRow w.heap.size 2 1 (.slice (some ⟨g7,0,none⟩) n cap7) (doneL e l').length ((doneL e l').map (Value.int .i64))) (hg:((wr.alloc o1).alloc o2).grownBy w7 dv.ownBlock):CollI w e l' (.slice (some ⟨g7,0,none⟩) n cap7) lv w7:=by
 have hs:=h.be.size;have hs7:=hg.size;rw[zq3,zq3]at hs7;refine⟨⟨by omega,λb hb=>?_⟩,ho,?_⟩
 . rw[hg.block b (by rw[zq3,zq3];omega) (λe=>by have:=(own_lt h.done e.symm).2.1;omega),zq5,if_neg (by rw[zq3];omega),zq5,if_neg (by omega)];exact h.be.old b hb
 . rw[h2];refine zqj h.left λb hb=>?_;obtain⟨⟨cc,hcc⟩,_,hlt⟩:=own_lt h.left hb;rw[hg.block b (by rw[zq3,zq3];omega) (λe=>zqx h.done hcc (by decide) e.symm),zq5,if_neg (by rw[zq3];omega),zq5,if_neg (by omega)]
theorem CollI.miss {w wr w7:World}{e:Int}{l l':List (Int×Int)}{dv lv:Value}{x:Int×Int}{o1 o2:Obj}{g7 n cap7:Nat}(h:CollI w e l dv lv wr)(h1:doneL e l'=doneL e l)(h2:leftL e l'=leftL e l++[x])
 (ho:w7.ownsRow w.heap.size 125 2 (.slice (some ⟨g7,0,none⟩) n cap7) (leftL e l').length (thC (leftL e l'))) (hg:((wr.alloc o1).alloc o2).grownBy w7 lv.ownBlock):CollI w e l' dv (.slice (some ⟨g7,0,none⟩) n cap7) w7:=by
 have hs:=h.be.size;have hs7:=hg.size;rw[zq3,zq3]at hs7;refine⟨⟨by omega,λb hb=>?_⟩,?_,ho⟩
 . rw[hg.block b (by rw[zq3,zq3];omega) (λe=>by have:=(own_lt h.left e.symm).2.1;omega),zq5,if_neg (by rw[zq3];omega),zq5,if_neg (by omega)];exact h.be.old b hb
 . rw[h1];refine zqj h.done λb hb=>?_;obtain⟨⟨cc,hcc⟩,_,hlt⟩:=own_lt h.done hb;rw[hg.block b (by rw[zq3,zq3];omega) (λe=>zqx h.left hcc (by decide) e.symm),zq5,if_neg (by rw[zq3];omega),zq5,if_neg (by omega)]
section
variable {db mb k:Nat} {sv:Value} {e:Int} {v:Nat->Value} {w:World} {p:Option Addr} {C:Nat} {l:List (Int×Int)}
theorem coll_wp(hv:w.cell? ⟨mb,k*3+2,none⟩=some (.slice p l.length C))(hf:w.frozen? ⟨mb,k*3+2,none⟩=false)
 (hl:l.length<=mostT) (hx:∀j x,l[j]?=some x->∃g,p=some ⟨g,0,none⟩/\w.cell? ⟨g,j*2,none⟩=some (.int .i64 x.1)/\w.cell? ⟨g,j*2+1,none⟩=some (.int .i64 x.2)) (hmb:mb<w.heap.size)
 {X:Act->World->Prop} (hX:∀(t:Array Value)dv lv wr,t[6]?=some dv->t[7]?=some (.int .i64 0)->CollI w e l dv lv wr->X ⟨t,[]⟩ (wr.setCell ⟨mb,k*3+2,none⟩ lv)):
 Code.wp Try.prog (clT 4) (ends X X) ⟨clF db mb k sv e v,[]⟩ w:=by
 have HX:=Lib.hid hX;have HL:=Lib.hid (And.intro hl hmb);have HT:=Lib.hid hx;clear hX hl hx;have h0:RowKit.Hid (CollI w e (l.take 0) (.slice none 0 0) (.slice none 0 0) w):=Lib.hid ⟨Ext.refl w,World.ownsRow_nil _ _ _ _,World.ownsRow_nil _ _ _ _⟩;unfold clF;obtain⟨u_,hu_⟩:∃c,clT 4=c:=⟨_,rfl⟩;have eu_:=hu_;rw[hu_];simp only[clT,headC,tailN,Try.f26,al_od]at eu_;subst eu_;clear hu_
 go_wp2_with (fail)
 go_loopg [10,11,27] l.length (λq s10 s11 s27 wr=>∃(j:Nat)(dv lv:Value),dv=s10/\lv=s11/\q=l.length - j/\j<=l.length/\s27=.int .i64 j/\CollI w e (l.take j) dv lv wr)
 case atStart=>exact⟨0,_,_,rfl,rfl,rfl,Nat.zero_le _,rfl,h0.out⟩
 case round=>
  obtain⟨j,dv,lv,rfl,rfl,hq,hj,rfl,hR⟩:=hrel;have HR:=Lib.hid hR;clear hR
  by_cases hlt:j<l.length
  . have hlt':(j:Int)<(l.length:Int):=by omega
    have hj0:(0:Int)<=j:=by omega
    obtain⟨x,hxj⟩:∃x,l[j]?=some x:=⟨_,List.getElem?_eq_getElem hlt⟩;obtain⟨g,rfl,t1,t2⟩:=HT.out j x hxj;have t1':wr.cell? ⟨g,j*2,none⟩=some (.int .i64 x.1):=(zqu (HR.out.be.old g (cell_lt t1))).trans t1;have t2':wr.cell? ⟨g,j*2+1,none⟩=some (.int .i64 x.2):=(zqu (HR.out.be.old g (cell_lt t2))).trans t2;have HJ:=Lib.hid (And.intro hxj (And.intro hlt hq));clear t1 t2 hxj hq
    by_cases hc:x.2<=wrap64 (e - 2)
    . have ho:oldT e x=true:=decide_eq_true hc;have HO:=Lib.hid (And.intro (zq7q HJ.out.1 ho) ho);clear ho;obtain⟨tj,htj,hy0,hy1,hy2⟩:∃ti,Try.prog.info? 2=some ti/\ti.zero=some (.int .i64 0)/\ti.size=1/\ti.bytes=8:=⟨_,rfl,rfl,rfl,rfl⟩;have TJ:=Lib.hid (And.intro htj (And.intro hy0 (And.intro hy1 hy2)));clear htj hy0 hy1 hy2;have HLN:RowKit.Hid ((doneL e (l.take j)).length<=mostT/\j<l.length):=Lib.hid ⟨Nat.le_trans (zq3e e _).1 (Nat.le_trans (by simp;omega) HL.out.1),HJ.out.2.1⟩;clear hlt
      go_wp2_with (at_builtin;go_loud (refine wpList_append_lies _ rfl (.tmp 36) (.tmp 39) 22 rfl w.heap.size 2 tj (.int .i64 0) 1 8 (by kernel_rfl) TJ.out.1 TJ.out.2.1 TJ.out.2.2.1 TJ.out.2.2.2 rfl (by decide) _ (doneL e (l.take j)).length ((doneL e (l.take j)).map (Value.int .i64)) rfl (zq1d (zq1d HR.out.done _) _) _ 1 1 [.int .i64 x.1] rfl rfl (zq22 (zq3 _ _)) (λu hu=>by simp only[List.mem_cons,List.not_mem_nil,or_false]at hu;subst hu;rfl) (by decide) (by simp only[maxLen];have:=HLN.out.1;simp only[mostT]at this;omega) (by have:=HLN.out.1;simp only[mostT]at this;omega) (by rw[zq3,zq3];have:=HR.out.be.size;omega) _ rfl ?next))
      case next=>
       intro g7 cap7 w7 hown7 hgrow7 hat7 hlt7;have L7:=Lib.hid (And.intro hown7 hgrow7);clear hown7 hgrow7 hat7 hlt7;go_wp2;go_roundg (l.length - (j+1))
       case measure=>have:=HJ.out.2.2;have:=HJ.out.2.1;omega
       case rel=>
        obtain⟨o7,q7⟩:=L7.out;refine⟨j+1,_,_,rfl,rfl,rfl,HLN.out.2,congrArg (Value.int .i64) (by have:=HL.out.1;simp only[mostT]at this;simp only[wrap64];have:=HLN.out.2;omega),?_⟩;refine HR.out.hit HO.out.1.1 HO.out.1.2 ?_ q7;rw[HO.out.1.1,List.length_append,List.map_append];exact o7
    . have ho:oldT e x=false:=decide_eq_false hc;have HO:=Lib.hid (And.intro (zq7r HJ.out.1 ho) ho);clear ho;obtain⟨tj,htj,hy0,hy1,hy2⟩:∃ti,Try.prog.info? 125=some ti/\ti.zero=some (.agg #[.int .i64 0,.int .i64 0])/\ti.size=2/\ti.bytes=16:=⟨_,rfl,rfl,rfl,rfl⟩;have TJ:=Lib.hid (And.intro htj (And.intro hy0 (And.intro hy1 hy2)));clear htj hy0 hy1 hy2;have HLN:RowKit.Hid ((leftL e (l.take j)).length<=mostT/\j<l.length):=Lib.hid ⟨Nat.le_trans (zq3e e _).2 (Nat.le_trans (by simp;omega) HL.out.1),HJ.out.2.1⟩;clear hlt
      go_wp2_with (at_builtin;go_loud (refine wpList_append_lies _ rfl (.tmp 41) (.tmp 43) 119 rfl w.heap.size 125 tj (.agg #[.int .i64 0,.int .i64 0]) 2 16 (by kernel_rfl) TJ.out.1 TJ.out.2.1 TJ.out.2.2.1 TJ.out.2.2.2 rfl (by decide) _ (leftL e (l.take j)).length (thC (leftL e (l.take j))) rfl (zq1d (zq1d HR.out.left _) _) _ 1 1 [.int .i64 x.1,.int .i64 x.2] rfl rfl (World.news_of_block (by rw[<-zq3 wr (.cells #[.int .i64 x.1,.int .i64 x.2] 125)];exact zqo _ _)) (λu hu=>by simp only[List.mem_cons,List.not_mem_nil,or_false]at hu;rcases hu with rfl |rfl<;>rfl) (by decide) (by simp only[maxLen];have:=HLN.out.1;simp only[mostT]at this;omega) (by have:=HLN.out.1;simp only[mostT]at this;omega) (by rw[zq3,zq3];have:=HR.out.be.size;omega) _ rfl ?next))
      case next=>
       intro g7 cap7 w7 hown7 hgrow7 hat7 hlt7;have L7:=Lib.hid (And.intro hown7 hgrow7);clear hown7 hgrow7 hat7 hlt7;go_wp2;go_roundg (l.length - (j+1))
       case measure=>have:=HJ.out.2.2;have:=HJ.out.2.1;omega
       case rel=>
        obtain⟨o7,q7⟩:=L7.out;refine⟨j+1,_,_,rfl,rfl,rfl,HLN.out.2,congrArg (Value.int .i64) (by have:=HL.out.1;simp only[mostT]at this;simp only[wrap64];have:=HLN.out.2;omega),?_⟩;refine HR.out.miss HO.out.1.1 HO.out.1.2 ?_ q7;rw[HO.out.1.2,List.length_append,zq5i];exact o7
  . obtain rfl:j=l.length:=by omega
    have e1:l.take l.length=l:=List.take_length;rw[e1]at HR;clear hlt hj hq HT h0;have hwm:wr.heap[mb]?=w.heap[mb]?:=HR.out.be.old mb HL.out.2;have c9:wr.cell? ⟨mb,k*3+2,none⟩=some (.slice p l.length C):=(zqu hwm).trans hv;have f9:wr.frozen? ⟨mb,k*3+2,none⟩=false:=(zq86 hwm).trans hf;clear hv hf hwm e1;have HM:=HR;obtain⟨lp,lc,rfl,_⟩:=zq1b HR.out.left;obtain⟨dp,dc,rfl,_⟩:=zq1b HR.out.done;clear HR;go_wp2;exact⟨rfl,HX.out _ _ _ _ rfl rfl HM.out⟩
end
theorem zq6a{w:World}{base size n:Nat}{ty:TypeId}{v:Value}{xs:List Value}(h:w.ownsRow base ty size v n xs):∃X,RowB X ty size v n xs/\(∀b o,X b=some o->w.heap[b]?=some o/\∃c,o=.cells c ty)/\∀b,X b≠none->base<=b:=by
 obtain⟨h1,h2⟩:=h;rcases h2 with⟨a,b⟩|⟨g,cap,cur,a,hb,hh,c1,c2,c3,c4⟩
 . exact⟨λ_=>none,⟨h1,.inl ⟨a,b,rfl⟩⟩,λb o h=>(by cases h),λb h=>absurd rfl h⟩
 . refine⟨λb=>if b=g then some (.cells cur ty (0,0))else none,⟨h1,.inr ⟨g,cap,cur,a,rfl,c1,c2,c3,c4⟩⟩,λb o h=>?_,λb h=>?_⟩
   . by_cases e:b=g
     . subst e;simp only[if_true,al_oi]at h;subst h;exact⟨hh,cur,rfl⟩
     . simp[e]at h
   . by_cases e:b=g
     . subst e;exact hb
     . simp[e]at h
section
variable {M2 S2 β:Type} {D:Core M2 S2} {ro:Nat->Option Obj} {i:Nat} {T:EpT}
structure EpoC(T:EpT)(k:Nat)(Y:YSys Try.prog aM (zqi (zqm T) D) ro i β)(sv:Value):Prop where
 coll:∀{Post:Y.γ->Ending->World->Prop}{s w t B}{K:List Int->Proc (EpS×S2) β}{e:Int},t=clF T.db T.mb k sv e (λj=>t.getD j undef)->Y.AtB B s w ((onE (takeT k e)).bind K)->
  (∀l X dv w',l.length<=mostT->RowB X 2 1 dv l.length (l.map (Value.int .i64))->(∀b,X b≠none->B b=none)->Y.AtB (orB X B) s w' (K l)->Post s (.returned (.tuple #[dv,.int .i64 0])) w')->
  wpJ Y.J (clT 4) (bodyC (Y.Bd Try.f26 Post) Post) s ⟨t,[]⟩ w
theorem zqd1(Z:Alone Try.prog aM (zqi (zqm T) D) ro i β){I:EpS×S2->Prop}(hty:EpTy T){k:Nat}(hk:k<T.N)(hI:∀g g' s,I (g,s)->I (g',s))(hO:∀g g' s,(∀j,j≠k->g'.th j=g.th j)->Z.Oth (g,s) (g',s))(sv:Value):EpoC T k (Z.sys I) sv where
 coll ht h hy:=by
  rename_i Post s w t B K e;obtain⟨v,hv⟩:∃v:Nat->Value,(λj=>t.getD j undef)=v:=⟨_,rfl⟩;rw[hv]at ht;clear hv;subst ht;obtain⟨m,hmB,h⟩:=h;refine Z.restS (g:=λs=>(((takeT k e s.1).1,s.2),(takeT k e s.1).2)) (λt B'=>∃dv X,t[6]?=some dv/\t[7]?=some (.int .i64 0)/\(doneL e (m.l.1.s.th k)).length<=mostT/\RowB X 2 1 dv (doneL e (m.l.1.s.th k)).length ((doneL e (m.l.1.s.th k)).map (Value.int .i64))/\(∀b,X b≠none->m.box i b=none)/\B'=orB X (m.box i)) h (by kernel_rfl) (λs h=>hI _ _ _ h) (λs=>hO _ _ _ λj hj=>zqd _ _ hj) ?_ ?_
  . intro wc hB _ X hX;have hE:=ep_at hB;obtain⟨p,C,hv,hx⟩:=zqls (hE.row k hk) (λb o=>hE.blk k b o hk);have c2:=hE.cellT hk;rw[hv]at c2;refine coll_wp c2 (hE.frzM _) (hE.cap k hk) (λj x hj=>?_) (zqc hE.mem) λt dv lv wr h6 h7 hC=>?_
    . obtain⟨g,h1,_,h3,h4⟩:=hx j x hj;exact⟨g,h1,h3,h4⟩
    have hmb:=zqc hE.mem;have hwm:wr.heap[T.mb]?=some (.cells (memA T.N m.l.1) T.tM):=(hC.be.old _ hmb).trans hE.mem;obtain⟨Xd,d1,d2,d3⟩:=zq6a hC.done;obtain⟨Xl,l1,l2,l3⟩:=zq6a hC.left;have hset:∀b,b≠T.mb->(wr.setCell ⟨T.mb,k*3+2,none⟩ lv).heap[b]?=wr.heap[b]?:=λb hb=>zq8 _ _ _ _ hb;have hfr:∀b,m.box i b≠none->b<wc.heap.size:=λb hb=>hB.lt (.inr (.inl ⟨i,hb⟩));have hXd:∀b,Xd b≠none->m.box i b=none:=λb hb=>Classical.byContradiction λy=>by have:=hfr b y;have:=d3 b hb;omega
    have hmbx:∀b,m.box i b≠none->b≠T.mb:=λb hb e=>hB.apart i b hb (.inl (.inr (.inl e)));refine hX t _ (orB Xd (m.box i)) _ (zq7u hB k hk (l':=leftL e (m.l.1.s.th k)) (v':=lv) (X':=Xl) ?_ (λb hb h1 _=>(hset b h1).trans (hC.be.old b hb)) (zqn _ _ _ _ hwm) (Nat.le_trans (zq3e e _).2 (hE.cap k hk)) ?_ (λb o hb=>?_) (λb hb=>.inr (l3 b hb)) (λb o hb=>?_) (λb hb=>?_) (λb hb=>?_)) rfl ⟨dv,Xd,h6,h7,Nat.le_trans (zq3e e _).1 (hE.cap k hk),d1,hXd,rfl⟩
    . rw[zqv];exact hC.be.size
    . rw[hty.tT];exact l1
    . rw[hset b (λe=>by have:=l3 b (by rw[hb];simp);omega)];exact(l2 b o hb).1
    . cases hd:Xd b with
      |some o'=>
       have e:o'=o:=by simpa[orB,hd]using hb
       subst e;rw[hset b (λe=>by have:=d3 b (by rw[hd];simp);omega)];exact(d2 b _ hd).1
      |none=>
       have e:m.box i b=some o:=by simpa[orB,hd]using hb
       have hn:m.box i b≠none:=by rw[e];simp
       rw[hset b (hmbx b hn),hC.be.old b (hfr b hn)];exact hB.box i b o e
    . cases hd:Xd b with
      |some o'=>exact .inr (d3 b (by rw[hd];simp))
      |none=>exact .inl (by simpa[orB,hd]using hb)
    . have hd:Xd b=none:=by
       cases hd:Xd b with
       |none=>rfl
       |some o'=>
        obtain⟨h1,c1,rfl⟩:=d2 b o' hd;cases hl:Xl b with
        |none=>exact absurd hl hb
        |some o2=>
         obtain⟨h2,c2,rfl⟩:=l2 b o2 hl;rw[h1]at h2;cases h2
      have hn:m.box i b=none:=Classical.byContradiction λy=>by have:=hfr b y;have:=l3 b hb;omega
      simp[orB,hd,hn]
  . rintro t m' w' ⟨dv,X,h6,h7,h0,h1,h2,h3⟩ hA;refine YSys.left (B:=orB X B) ⟨m',by rw[h3,hmB],hA⟩ (λwc _=>?_) (λw' hA'=>hy _ X dv w' h0 h1 (λb hb=>by rw[<-hmB];exact h2 b hb) hA');simp[results,Try.f26,al_gd,h6,h7,go_sem]
end
section
variable {S2:Type}
def loadP:Proc (EpS×S2) Int:=Proc.tick.bind λ_=>onE loadE
def zq2i(k:Nat):Proc (EpS×S2) (Int×Int):=(onE (getI k)).bind λb=>if b=true then Proc.ret (0,7)else loadP.bind λe=>(Proc.tick.bind λ_=>onE (zq4b k (wrap64 (e+1)))).bind λ_=>(onE (setI k true)).bind λ_=>Proc.ret (e,0)
def zq2k(k:Nat):Proc (EpS×S2) Int:=(onE (getI k)).bind λb=>if b=true then(onE (setI k false)).bind λ_=>(Proc.tick.bind λ_=>onE (zq4b k 0)).bind λ_=>Proc.ret 0 else Proc.ret 6
def zq3n(k:Nat)(n:Int):Proc (EpS×S2) (Int×Int):=loadP.bind λe=>(onE (pushT k (n,e))).bind λb=>if b=true then Proc.ret (e,0)else Proc.out
def advL(N:Nat)(e:Int):Nat->Proc (EpS×S2) (Bool×Int)
 |0=>(Proc.tick.bind λ_=>onE (casE e (wrap64 (e+1)))).bind λb=>Proc.ret (b,0)
 |r+1=>(Proc.tick.bind λ_=>onE (loadM (N - (r+1)))).bind λm=>if m≠0/\m≠wrap64 (e+1)then Proc.ret (false,0)else advL N e r
def advP(N:Nat):Proc (EpS×S2) (Bool×Int):=loadP.bind λe=>advL N e N
def collP(k:Nat):Proc (EpS×S2) (List Int):=loadP.bind λe=>(onE (takeT k e)).bind λl=>Proc.ret l
end
abbrev errV(x:Int×Int):Value:=.tuple #[.int .i64 x.1,.int .i64 x.2]
abbrev errB(x:Bool×Int):Value:=.tuple #[.bool x.1,.int .i64 x.2]
section
variable {M2 S2 β:Type} {D:Core M2 S2} {ro:Nat->Option Obj} {i:Nat} {T:EpT}
theorem zq3u(Y:YSys Try.prog aM (zqi (zqm T) D) ro i β){sv:Value}{k j:Nat}(hst:EpoY T k Y sv)(hj:j<T.N)(hN:T.N<=64):PureY Y 47 #[.pointer (some ⟨T.db,0,none⟩),.int .i64 j] (.pointer (some ⟨T.mb,j*3,none⟩)):=
 PureY.of Try.func47 rfl (by kernel_rfl) λB wc hB=>Calls.mono (zqdh (hst.hdr hB) hj (by omega)) λe w' h=>by
  obtain⟨rfl,rfl⟩:=h;exact⟨Ext1.refl _,rfl⟩
theorem zq53(Y:YSys Try.prog aM (zqi (zqm T) D) ro i β){sv:Value}{k:Nat}(hst:EpoY T k Y sv):SpecB Y 48 #[.pointer (some ⟨T.db,0,none⟩),sv] loadP (λx=>.int .i64 x):=by
 refine SpecB.of Try.func48 rfl ?_;intro K s B w hK hA;simp only[zqw,Try.ntmps48,List.size_toArray,List.length_cons,List.length_nil,Nat.reduceAdd,Nat.reduceSub,Array.replicate_succ,Array.replicate_zero,List.push_toArray,List.append_toArray,List.nil_append,List.cons_append];apply YSys.seq0 hA (by kernel_rfl)
 . intro wc hB;go_wp2;exact⟨rfl,Ext1.refl _,rfl⟩
 intro w hA;refine zqs Y.jc (zq15 Y.jc ?_);rw[loadP,Proc.bind_bind]at hA;apply YSys.callS 0 1 0 hA hst.step rfl rfl rfl (by rfl) rfl rfl rfl
 . intro wc hB X hX;have HX:=Lib.hid hX;clear hX;go_wp2;exact HX.out _ (Ext1.refl _)
 . intro w;simp[go_sem,execOp,Act.eval,resolve,Deferred.ofValue,invoke,callFunc,Try.func49,Try.f49]
 . intro w;simp[go_sem,execOp,Act.eval,resolve,Deferred.ofValue,invoke,callFunc,Try.func49,Try.f49]
 . intro s' ch w' h;exact⟨rfl,h⟩
 intro s w hA;refine zq2l Y.jc ?_;show wpJ Y.J _ _ _ _ _;refine zqs Y.jc (zq15 Y.jc ?_);apply YSys.callR 0 3 1 hA hst.load (λ_=>hK _) rfl rfl rfl (by rfl) rfl rfl rfl
 . intro wc hB X hX;have HX:=Lib.hid hX;clear hX;go_wp2;exact HX.out _ (Ext1.refl _)
 . intro w;simp[go_sem,execOp,Act.eval,resolve,Deferred.ofValue,invoke,callFunc,Try.func46,Try.f46]
 . intro w;simp[go_sem,execOp,Act.eval,resolve,Deferred.ofValue,invoke,callFunc,Try.func46,Try.f46]
 . intro s' ch w' h;exact⟨rfl,h⟩
 intro s x w hA;apply YSys.ops0 4 1 hA rfl rfl (by kernel_rfl)
 . intro wc hB;go_wp2;exact⟨rfl,Ext1.refl _,rfl⟩
 intro w hA;show wpJ Y.J _ _ _ _ _;refine zq1r Y.jc ?_;exact⟨rfl,.inl ⟨_,resultsC_tmp rfl _,x,rfl,hA⟩⟩
theorem zqcz(Y:YSys Try.prog aM (zqi (zqm T) D) ro i β){sv:Value}{k:Nat}(hst:EpoY T k Y sv)(hk:k<T.N)(hN:T.N<=64):SpecB Y 23 #[.pointer (some ⟨T.db,0,none⟩),sv,.int .i64 k] (zq2i k) errV:=by
 refine SpecB.of Try.func23 rfl ?_;intro K s B w hK hA;simp only[zqw,Try.ntmps23,List.size_toArray,List.length_cons,List.length_nil,Nat.reduceAdd,Nat.reduceSub,Array.replicate_succ,Array.replicate_zero,List.push_toArray,List.append_toArray,List.nil_append,List.cons_append];apply YSys.seq0 hA (by kernel_rfl)
 . intro wc hB;go_wp2;exact⟨rfl,Ext1.refl _,rfl⟩
 intro w hA;refine zqs Y.jc (zq15 Y.jc ?_);apply YSys.callP 0 2 1 hA (zq3u Y hst hk hN) rfl rfl rfl (by rfl) rfl rfl rfl
 . intro wc hB X hX;have HX:=Lib.hid hX;clear hX;go_wp2;exact HX.out _ (Ext1.refl _)
 . intro w;simp[go_sem,execOp,Act.eval,resolve,Deferred.ofValue,invoke,callFunc,Try.func47,Try.f47]
 . intro w;simp[go_sem,execOp,Act.eval,resolve,Deferred.ofValue,invoke,callFunc,Try.func47,Try.f47]
 intro w hA;apply YSys.ops0 3 1 hA rfl rfl (by kernel_rfl)
 . intro wc hB;go_wp2;exact⟨rfl,Ext1.refl _,rfl⟩
 intro w hA;show wpJ Y.J _ _ _ _ _;refine zqs Y.jc (zq39 Y.jc ?_);apply YSys.seq0 hA (by kernel_rfl)
 . intro wc hB;go_wp2;exact⟨rfl,Ext1.refl _,rfl⟩
 intro w hA;refine zq1a Y.jc rfl ?_;rw[if_neg (by decide)];rw[zq2i,Proc.bind_bind]at hA;apply hst.readI hA (by kernel_rfl)
 . intro wc b hB c0;go_wp2;exact⟨rfl,Ext1.refl _,rfl⟩
 intro b w hA;refine zq1a Y.jc rfl ?_;cases b with
 |true=>
  rw[if_pos rfl]at hA |-;apply YSys.seq0 hA (by kernel_rfl)
  . intro wc hB;go_wp2;exact⟨rfl,Ext1.refl _,rfl⟩
  intro w hA;refine zq1r Y.jc ?_;simp only[thenJ,zq1y,bodyC];exact⟨rfl,.inl ⟨_,resultsC_tmp2 rfl _,(0,7),rfl,hA⟩⟩
 |false=>
  rw[if_neg (by decide)]at hA |-;refine zq28 Y.jc ?_;show wpJ Y.J _ _ _ _ _;rw[Proc.bind_bind]at hA;refine zqs Y.jc (zq15 Y.jc ?_);apply YSys.callR 0 2 1 hA (zq53 Y hst).spec (λe=>by rw[Proc.bind_bind,Proc.bind_bind];exact Y.sil_tick _) rfl rfl rfl (by rfl) rfl rfl rfl
  . intro wc hB X hX;have HX:=Lib.hid hX;clear hX;go_wp2;exact HX.out _ (Ext1.refl _)
  . intro w;simp[go_sem,execOp,Act.eval,resolve,Deferred.ofValue,invoke,callFunc,Try.func48,Try.f48]
  . intro w;simp[go_sem,execOp,Act.eval,resolve,Deferred.ofValue,invoke,callFunc,Try.func48,Try.f48]
  . intro s' ch w' h;exact⟨rfl,h⟩
  intro s e w hA;apply YSys.ops0 3 1 hA rfl rfl (by kernel_rfl)
  . intro wc hB;go_wp2;exact⟨rfl,Ext1.refl _,rfl⟩
  intro w hA;show wpJ Y.J _ _ _ _ _;rw[Proc.bind_bind,Proc.bind_bind]at hA;refine zqs Y.jc (zq15 Y.jc ?_);apply YSys.callS 0 1 0 hA hst.step rfl rfl rfl (by rfl) rfl rfl rfl
  . intro wc hB X hX;have HX:=Lib.hid hX;clear hX;go_wp2;exact HX.out _ (Ext1.refl _)
  . intro w;simp[go_sem,execOp,Act.eval,resolve,Deferred.ofValue,invoke,callFunc,Try.func49,Try.f49]
  . intro w;simp[go_sem,execOp,Act.eval,resolve,Deferred.ofValue,invoke,callFunc,Try.func49,Try.f49]
  . intro s' ch w' h;exact⟨rfl,h⟩
  intro s w hA;refine zq2l Y.jc ?_;show wpJ Y.J _ _ _ _ _;refine zqs Y.jc (zq15 Y.jc ?_);apply YSys.callR 0 5 0 hA (hst.storem _) (λ_=>by rw[Proc.bind_bind];exact hst.silS (λ_=>hK _)) rfl rfl rfl (by rfl) rfl rfl rfl
  . intro wc hB X hX;have HX:=Lib.hid hX;clear hX;go_wp2;exact HX.out _ (Ext1.refl _)
  . intro w;simp[go_sem,execOp,Act.eval,resolve,Deferred.ofValue,invoke,callFunc,Try.func50,Try.f50]
  . intro w;simp[go_sem,execOp,Act.eval,resolve,Deferred.ofValue,invoke,callFunc,Try.func50,Try.f50]
  . intro s' ch w' h;exact⟨rfl,h⟩
  intro s x w hA;refine zq2l Y.jc ?_;show wpJ Y.J _ _ _ _ _;rw[Proc.bind_bind]at hA;apply hst.writeI true hA (by kernel_rfl)
  . intro wc b0 hB c0 f0;go_wp2;exact⟨rfl,rfl,rfl⟩
  intro w hA;apply YSys.seq0 hA (by kernel_rfl)
  . intro wc hB;go_wp2;exact⟨rfl,Ext1.refl _,rfl⟩
  intro w hA;refine zq1r Y.jc ?_;exact⟨rfl,.inl ⟨_,resultsC_tmp2 rfl _,(e,0),rfl,hA⟩⟩
theorem zqea(Y:YSys Try.prog aM (zqi (zqm T) D) ro i β){sv:Value}{k:Nat}(hst:EpoY T k Y sv)(hk:k<T.N)(hN:T.N<=64):SpecB Y 27 #[.pointer (some ⟨T.db,0,none⟩),sv,.int .i64 k] (zq2k k) (λx=>.int .i64 x):=by
 refine SpecB.of Try.func27 rfl ?_;intro K s B w hK hA;simp only[zqw,Try.ntmps27,List.size_toArray,List.length_cons,List.length_nil,Nat.reduceAdd,Nat.reduceSub,Array.replicate_succ,Array.replicate_zero,List.push_toArray,List.append_toArray,List.nil_append,List.cons_append];apply YSys.seq0 hA (by kernel_rfl)
 . intro wc hB;go_wp2;exact⟨rfl,Ext1.refl _,rfl⟩
 intro w hA;refine zqs Y.jc (zq15 Y.jc ?_);apply YSys.callP 0 2 1 hA (zq3u Y hst hk hN) rfl rfl rfl (by rfl) rfl rfl rfl
 . intro wc hB X hX;have HX:=Lib.hid hX;clear hX;go_wp2;exact HX.out _ (Ext1.refl _)
 . intro w;simp[go_sem,execOp,Act.eval,resolve,Deferred.ofValue,invoke,callFunc,Try.func47,Try.f47]
 . intro w;simp[go_sem,execOp,Act.eval,resolve,Deferred.ofValue,invoke,callFunc,Try.func47,Try.f47]
 intro w hA;apply YSys.ops0 3 1 hA rfl rfl (by kernel_rfl)
 . intro wc hB;go_wp2;exact⟨rfl,Ext1.refl _,rfl⟩
 intro w hA;show wpJ Y.J _ _ _ _ _;refine zqs Y.jc (zq39 Y.jc ?_);apply YSys.seq0 hA (by kernel_rfl)
 . intro wc hB;go_wp2;exact⟨rfl,Ext1.refl _,rfl⟩
 intro w hA;refine zq1a Y.jc rfl ?_;rw[if_neg (by decide)];rw[zq2k,Proc.bind_bind]at hA;apply hst.readI hA (by kernel_rfl)
 . intro wc b hB c0;go_wp2;exact⟨rfl,Ext1.refl _,rfl⟩
 intro b w hA;refine zq1a Y.jc rfl ?_;cases b with
 |false=>
  rw[if_neg (by decide)]at hA;rw[if_pos (by decide)];apply YSys.seq0 hA (by kernel_rfl)
  . intro wc hB;go_wp2;exact⟨rfl,Ext1.refl _,rfl⟩
  intro w hA;refine zq1r Y.jc ?_;simp only[thenJ,zq1y,bodyC];exact⟨rfl,.inl ⟨_,resultsC_tmp rfl _,6,rfl,hA⟩⟩
 |true=>
  rw[if_pos rfl]at hA;rw[if_neg (by decide)];refine zq28 Y.jc ?_;show wpJ Y.J _ _ _ _ _;rw[Proc.bind_bind]at hA;apply hst.writeI false hA (by kernel_rfl)
  . intro wc b0 hB c0 f0;go_wp2;exact⟨rfl,rfl,rfl⟩
  intro w hA;show wpJ Y.J _ _ _ _ _;rw[Proc.bind_bind,Proc.bind_bind]at hA;refine zqs Y.jc (zq15 Y.jc ?_);apply YSys.callS 0 1 0 hA hst.step rfl rfl rfl (by rfl) rfl rfl rfl
  . intro wc hB X hX;have HX:=Lib.hid hX;clear hX;go_wp2;exact HX.out _ (Ext1.refl _)
  . intro w;simp[go_sem,execOp,Act.eval,resolve,Deferred.ofValue,invoke,callFunc,Try.func49,Try.f49]
  . intro w;simp[go_sem,execOp,Act.eval,resolve,Deferred.ofValue,invoke,callFunc,Try.func49,Try.f49]
  . intro s' ch w' h;exact⟨rfl,h⟩
  intro s w hA;refine zq2l Y.jc ?_;show wpJ Y.J _ _ _ _ _;refine zqs Y.jc (zq15 Y.jc ?_);apply YSys.callR 0 3 0 hA (hst.storem 0) (λ_=>hK _) rfl rfl rfl (by rfl) rfl rfl rfl
  . intro wc hB X hX;have HX:=Lib.hid hX;clear hX;go_wp2;exact HX.out _ (Ext1.refl _)
  . intro w;simp[go_sem,execOp,Act.eval,resolve,Deferred.ofValue,invoke,callFunc,Try.func50,Try.f50]
  . intro w;simp[go_sem,execOp,Act.eval,resolve,Deferred.ofValue,invoke,callFunc,Try.func50,Try.f50]
  . intro s' ch w' h;exact⟨rfl,h⟩
  intro s x w hA;refine zq2l Y.jc ?_;show wpJ Y.J _ _ _ _ _;apply YSys.seq0 hA (by kernel_rfl)
  . intro wc hB;go_wp2;exact⟨rfl,Ext1.refl _,rfl⟩
  intro w hA;refine zq1r Y.jc ?_;exact⟨rfl,.inl ⟨_,resultsC_tmp rfl _,0,rfl,hA⟩⟩
theorem zqfz(Y:YSys Try.prog aM (zqi (zqm T) D) ro i β){sv:Value}{k:Nat}(hst:EpoY T k Y sv)(hk:k<T.N)(hN:T.N<=64)(n:Int):SpecB Y 24 #[.pointer (some ⟨T.db,0,none⟩),sv,.int .i64 k,.int .i64 n] (zq3n k n) errV:=by
 refine SpecB.of Try.func24 rfl ?_;intro K s B w hK hA;simp only[zqw,Try.ntmps24,List.size_toArray,List.length_cons,List.length_nil,Nat.reduceAdd,Nat.reduceSub,Array.replicate_succ,Array.replicate_zero,List.push_toArray,List.append_toArray,List.nil_append,List.cons_append];apply YSys.seq0 hA (by kernel_rfl)
 . intro wc hB;go_wp2;exact⟨rfl,Ext1.refl _,rfl⟩
 intro w hA;refine zqs Y.jc (zq15 Y.jc ?_);apply YSys.callP 0 2 1 hA (zq3u Y hst hk hN) rfl rfl rfl (by rfl) rfl rfl rfl
 . intro wc hB X hX;have HX:=Lib.hid hX;clear hX;go_wp2;exact HX.out _ (Ext1.refl _)
 . intro w;simp[go_sem,execOp,Act.eval,resolve,Deferred.ofValue,invoke,callFunc,Try.func47,Try.f47]
 . intro w;simp[go_sem,execOp,Act.eval,resolve,Deferred.ofValue,invoke,callFunc,Try.func47,Try.f47]
 intro w hA;apply YSys.ops0 3 1 hA rfl rfl (by kernel_rfl)
 . intro wc hB;go_wp2;exact⟨rfl,Ext1.refl _,rfl⟩
 intro w hA;show wpJ Y.J _ _ _ _ _;refine zqs Y.jc ?_;apply YSys.seq0 hA (by kernel_rfl)
 . intro wc hB;go_wp2;exact⟨rfl,Ext1.refl _,rfl⟩
 intro w hA;refine zq1a Y.jc rfl ?_;rw[if_neg (by decide)];refine zq28 Y.jc ?_;show wpJ Y.J _ _ _ _ _;rw[zq3n,Proc.bind_bind]at hA;refine zqs Y.jc (zq15 Y.jc ?_);apply YSys.callR 0 2 1 hA (zq53 Y hst).spec (λe=>by rw[Proc.bind_bind];exact hst.silP (λb=>by split;exact hK _;exact hst.silO)) rfl rfl rfl (by rfl) rfl rfl rfl
 . intro wc hB X hX;have HX:=Lib.hid hX;clear hX;go_wp2;exact HX.out _ (Ext1.refl _)
 . intro w;simp[go_sem,execOp,Act.eval,resolve,Deferred.ofValue,invoke,callFunc,Try.func48,Try.f48]
 . intro w;simp[go_sem,execOp,Act.eval,resolve,Deferred.ofValue,invoke,callFunc,Try.func48,Try.f48]
 . intro s' ch w' h;exact⟨rfl,h⟩
 intro s e w hA;apply YSys.ops0 3 1 hA rfl rfl (by kernel_rfl)
 . intro wc hB;go_wp2;exact⟨rfl,Ext1.refl _,rfl⟩
 intro w hA;show wpJ Y.J _ _ _ _ _;rw[Proc.bind_bind]at hA;refine hst.push (n:=n) (e:=e) (by kernel_rfl) hA (λs w h=>hst.nout h) ?_;intro v' w hA;rw[if_pos rfl]at hA;unfold rtF;apply YSys.seq0 hA (by kernel_rfl)
 . intro wc hB;go_wp2;exact⟨rfl,Ext1.refl _,rfl⟩
 intro w hA;refine zq1r Y.jc ?_;exact⟨rfl,.inl ⟨_,resultsC_tmp2 rfl _,(e,0),rfl,hA⟩⟩
end
section
variable {M2 S2 β:Type} {D:Core M2 S2} {ro:Nat->Option Obj} {i:Nat} {T:EpT}
theorem zq76(Y:YSys Try.prog aM (zqi (zqm T) D) ro i β){K:Bool×Int->Proc (EpS×S2) β}(N:Nat)(e:Int)(r:Nat):Y.sil ((advL N e r).bind K):=by
 cases r with
 |zero=>rw[advL,Proc.bind_bind,Proc.bind_bind];exact Y.sil_tick _
 |succ r=>rw[advL,Proc.bind_bind,Proc.bind_bind];exact Y.sil_tick _
theorem adv_spec(Y:YSys Try.prog aM (zqi (zqm T) D) ro i β){sv:Value}{k:Nat}(hst:EpoY T k Y sv)(hk:k<T.N)(hN:T.N<=64):SpecB Y 25 #[.pointer (some ⟨T.db,0,none⟩),sv,.int .i64 k] (advP T.N) errB:=by
 refine SpecB.of Try.func25 rfl ?_;intro K s B w hK hA;simp only[zqw,Try.ntmps25,List.size_toArray,List.length_cons,List.length_nil,Nat.reduceAdd,Nat.reduceSub,Array.replicate_succ,Array.replicate_zero,List.push_toArray,List.append_toArray,List.nil_append,List.cons_append];apply YSys.seq0 hA (by kernel_rfl)
 . intro wc hB;go_wp2;exact⟨rfl,Ext1.refl _,rfl⟩
 intro w hA;refine zqs Y.jc ?_;refine zqs Y.jc (zq15 Y.jc ?_);apply YSys.callP 0 2 1 hA (zq3u Y hst hk hN) rfl rfl rfl (by rfl) rfl rfl rfl
 . intro wc hB X hX;have HX:=Lib.hid hX;clear hX;go_wp2;exact HX.out _ (Ext1.refl _)
 . intro w;simp[go_sem,execOp,Act.eval,resolve,Deferred.ofValue,invoke,callFunc,Try.func47,Try.f47]
 . intro w;simp[go_sem,execOp,Act.eval,resolve,Deferred.ofValue,invoke,callFunc,Try.func47,Try.f47]
 intro w hA;apply YSys.ops0 3 1 hA rfl rfl (by kernel_rfl)
 . intro wc hB;go_wp2;exact⟨rfl,Ext1.refl _,rfl⟩
 intro w hA;show wpJ Y.J _ _ _ _ _;refine zq1a Y.jc rfl ?_;rw[if_neg (by decide)];refine zq28 Y.jc ?_;show wpJ Y.J _ _ _ _ _;rw[advP,Proc.bind_bind]at hA;refine zqs Y.jc (zq15 Y.jc ?_);apply YSys.callR 0 2 1 hA (zq53 Y hst).spec (λe=>zq76 Y T.N e T.N) rfl rfl rfl (by rfl) rfl rfl rfl
 . intro wc hB X hX;have HX:=Lib.hid hX;clear hX;go_wp2;exact HX.out _ (Ext1.refl _)
 . intro w;simp[go_sem,execOp,Act.eval,resolve,Deferred.ofValue,invoke,callFunc,Try.func48,Try.f48]
 . intro w;simp[go_sem,execOp,Act.eval,resolve,Deferred.ofValue,invoke,callFunc,Try.func48,Try.f48]
 . intro s' ch w' h;exact⟨rfl,h⟩
 intro s e w hA;apply YSys.ops0 3 1 hA rfl rfl (by kernel_rfl)
 . intro wc hB;go_wp2;exact⟨rfl,Ext1.refl _,rfl⟩
 intro w hA;show wpJ Y.J _ _ _ _ _;refine zqs Y.jc ?_;apply YSys.seq0 hA (by kernel_rfl)
 . intro wc hB;have c1:=hst.hdr hB;go_wp2;exact⟨rfl,Ext1.refl _,rfl⟩
 intro w hA;refine zq39 Y.jc (zqbw Y.jc (λs a w n=>∃(j:Nat)(x3 x4 x5 x9 x10 x11 x12 x13 x14 x15 x16 x17 x18 x19 x20 x21 x24 x25 x26 x27 x28 x29 x30 x31 x32 x33 x34 x35 x36 x37 x38 x39 x40 x41 x42 x43 x44 x45 x46 x47 x48 x49 x50 x51 x52 x53:Value),j+n=T.N/\a=⟨#[.pointer (some ⟨T.db,0,none⟩),sv,.int .i64 k,x3,x4,x5,.bool false,.int .i64 0,.int .i64 e,x9,x10,x11,x12,x13,x14,x15,x16,x17,x18,x19,x20,x21,.int .i64 T.N,.int .i64 j,x24,x25,x26,x27,x28,x29,x30,x31,x32,x33,x34,x35,x36,x37,x38,x39,x40,x41,x42,x43,x44,x45,x46,x47,x48,x49,x50,x51,x52,x53],[]⟩/\Y.AtB B s w ((advL T.N e n).bind K)) T.N ?_ ?_)
 . exact⟨0,_,_,_,_,_,_,_,_,_,_,_,_,_,_,_,_,_,_,_,_,_,_,_,_,_,_,_,_,_,_,_,_,_,_,_,_,_,_,_,_,_,_,_,_,_,_,by omega,rfl,hA⟩
 clear hA;rintro s a w n ⟨j,x3,x4,x5,x9,x10,x11,x12,x13,x14,x15,x16,x17,x18,x19,x20,x21,x24,x25,x26,x27,x28,x29,x30,x31,x32,x33,x34,x35,x36,x37,x38,x39,x40,x41,x42,x43,x44,x45,x46,x47,x48,x49,x50,x51,x52,x53,hjn,rfl,hA⟩;have HJ:=Lib.hid (And.intro hjn hN);clear hjn;cases n with
 |zero=>
  apply YSys.seq0 hA (by kernel_rfl)
  . intro wc hB;go_wp2;exact⟨rfl,Ext1.refl _,rfl⟩
  intro w hA;refine zqs Y.jc (zq1a Y.jc rfl ?_);rw[if_neg (by have:=HJ.out;simp only[decide_eq_true_eq];omega)];refine zqbv Y.jc ?_;show wpJ Y.J _ _ _ _ _;rw[advL,Proc.bind_bind,Proc.bind_bind]at hA;refine zqs Y.jc (zq15 Y.jc ?_);apply YSys.callS 0 1 0 hA hst.step rfl rfl rfl (by rfl) rfl rfl rfl
  . intro wc hB X hX;have HX:=Lib.hid hX;clear hX;go_wp2;exact HX.out _ (Ext1.refl _)
  . intro w;simp[go_sem,execOp,Act.eval,resolve,Deferred.ofValue,invoke,callFunc,Try.func49,Try.f49]
  . intro w;simp[go_sem,execOp,Act.eval,resolve,Deferred.ofValue,invoke,callFunc,Try.func49,Try.f49]
  . intro s' ch w' h;exact⟨rfl,h⟩
  intro s w hA;refine zq2l Y.jc ?_;show wpJ Y.J _ _ _ _ _;refine zqs Y.jc (zq15 Y.jc ?_);apply YSys.callR 0 6 2 hA (hst.cas _ _) (λ_=>hK _) rfl rfl rfl (by rfl) rfl rfl rfl
  . intro wc hB X hX;have HX:=Lib.hid hX;clear hX;go_wp2;exact HX.out _ (Ext1.refl _)
  . intro w;simp[go_sem,execOp,Act.eval,resolve,Deferred.ofValue,invoke,callFunc,Try.func51,Try.f51]
  . intro w;simp[go_sem,execOp,Act.eval,resolve,Deferred.ofValue,invoke,callFunc,Try.func51,Try.f51]
  . intro s' ch w' h;exact⟨rfl,h⟩
  intro s x w hA;apply YSys.ops0 7 2 hA rfl rfl (by kernel_rfl)
  . intro wc hB;go_wp2;exact⟨rfl,Ext1.refl _,rfl⟩
  intro w hA;show wpJ Y.J _ _ _ _ _;refine zq1r Y.jc ?_;exact⟨rfl,.inl ⟨_,resultsC_tmp2 rfl _,(x,0),rfl,hA⟩⟩
 |succ n=>
  have hlt:(j:Int)<(T.N:Int):=by have:=HJ.out;omega
  have hj0:(0:Int)<=(j:Int):=by omega
  have e1:wrap64 ((j:Int)+1)=((j+1:Nat):Int):=by have:=HJ.out;simp only[wrap64];omega
  apply YSys.seq0 hA (by kernel_rfl)
  . intro wc hB;go_wp2;exact⟨rfl,Ext1.refl _,rfl⟩
  intro w hA;refine zqs Y.jc (zq1a Y.jc rfl ?_);rw[if_pos (by simpa using hlt)];refine zq28 Y.jc ?_;show wpJ Y.J _ _ _ _ _;refine zqs Y.jc (zq39 Y.jc ?_);apply YSys.seq0 hA (by kernel_rfl)
  . intro wc hB;go_wp2;exact⟨rfl,Ext1.refl _,rfl⟩
  intro w hA;rw[advL,Proc.bind_bind,Proc.bind_bind,show T.N - (n+1)=j from by have:=HJ.out;omega]at hA;refine zqs Y.jc (zq15 Y.jc ?_);apply YSys.callS 0 1 0 hA hst.step rfl rfl rfl (by rfl) rfl rfl rfl
  . intro wc hB X hX;have HX:=Lib.hid hX;clear hX;go_wp2;exact HX.out _ (Ext1.refl _)
  . intro w;simp[go_sem,execOp,Act.eval,resolve,Deferred.ofValue,invoke,callFunc,Try.func49,Try.f49]
  . intro w;simp[go_sem,execOp,Act.eval,resolve,Deferred.ofValue,invoke,callFunc,Try.func49,Try.f49]
  . intro s' ch w' h;exact⟨rfl,h⟩
  intro s w hA;refine zq2l Y.jc ?_;show wpJ Y.J _ _ _ _ _;refine zqs Y.jc (zq15 Y.jc ?_);apply YSys.callR 0 7 1 hA (hst.loadm j (by have:=HJ.out;omega)) (λm=>by split;exact hK _;exact zq76 Y T.N e n) rfl rfl rfl (by rfl) rfl rfl rfl
  . intro wc hB X hX;have HX:=Lib.hid hX;clear hX;have c1:=hst.hdr hB;go_wp2;exact HX.out _ (Ext1.refl _)
  . intro w;simp[go_sem,execOp,Act.eval,resolve,Deferred.ofValue,invoke,callFunc,Try.func46,Try.f46]
  . intro w;simp[go_sem,execOp,Act.eval,resolve,Deferred.ofValue,invoke,callFunc,Try.func46,Try.f46]
  . intro s' ch w' h;exact⟨rfl,h⟩
  intro s m w hA;apply YSys.ops0 8 1 hA rfl rfl (by kernel_rfl)
  . intro wc hB;go_wp2;exact⟨rfl,Ext1.refl _,rfl⟩
  intro w hA;show wpJ Y.J _ _ _ _ _;have hm3:m=0\/(¬m=0/\m=wrap64 (e+1))\/(¬m=0/\¬m=wrap64 (e+1)):=by
   by_cases h:m=0
   . exact .inl h
   . by_cases h2:m=wrap64 (e+1)
     . exact .inr (.inl ⟨h,h2⟩)
     . exact .inr (.inr ⟨h,h2⟩)
  rcases hm3 with hm0|⟨hm0,hm1⟩|⟨hm0,hm1⟩
  . rw[if_neg (by rw[hm0];simp)]at hA;apply YSys.seq0 hA (by kernel_rfl)
    . intro wc hB;go_wp2;exact⟨rfl,Ext1.refl _,rfl⟩
    intro w hA;refine zq1a Y.jc rfl ?_;rw[if_neg (by decide)];refine zq28 Y.jc ?_;show wpJ Y.J _ _ _ _ _;apply YSys.code0 hA (by kernel_rfl)
    . intro wc hB;go_wp2;exact⟨rfl,Ext1.refl _,rfl⟩
    intro w hA;exact⟨n,by omega,j+1,_,_,_,_,_,_,_,_,_,_,_,_,_,_,_,_,_,_,_,_,_,_,_,_,_,_,_,_,_,_,_,_,_,_,_,_,_,_,_,_,_,_,_,_,_,_,by have:=HJ.out;omega,rfl,hA⟩
  . rw[if_neg (by rw[hm1];simp)]at hA;apply YSys.seq0 hA (by kernel_rfl)
    . intro wc hB;go_wp2;exact⟨rfl,Ext1.refl _,rfl⟩
    intro w hA;refine zq1a Y.jc rfl ?_;rw[if_neg (by decide)];refine zq28 Y.jc ?_;show wpJ Y.J _ _ _ _ _;apply YSys.code0 hA (by kernel_rfl)
    . intro wc hB;go_wp2;exact⟨rfl,Ext1.refl _,rfl⟩
    intro w hA;exact⟨n,by omega,j+1,_,_,_,_,_,_,_,_,_,_,_,_,_,_,_,_,_,_,_,_,_,_,_,_,_,_,_,_,_,_,_,_,_,_,_,_,_,_,_,_,_,_,_,_,_,_,by have:=HJ.out;omega,rfl,hA⟩
  . rw[if_pos ⟨hm0,hm1⟩]at hA;apply YSys.seq0 hA (by kernel_rfl)
    . intro wc hB;go_wp2;exact⟨rfl,Ext1.refl _,rfl⟩
    intro w hA;refine zq1a Y.jc rfl ?_;rw[if_pos (by simp[hm0,hm1])];apply YSys.seq0 hA (by kernel_rfl)
    . intro wc hB;go_wp2;exact⟨rfl,Ext1.refl _,rfl⟩
    intro w hA;refine zq1r Y.jc ?_;simp only[thenJ,zq1y,bodyC];exact⟨rfl,.inl ⟨_,resultsC_tmp2 rfl _,(false,0),rfl,hA⟩⟩
end
section
variable {M2 S2 β:Type} {D:Core M2 S2} {ro:Nat->Option Obj} {i:Nat} {T:EpT}
def collR(l:List Int)(v:Value)(X:Nat->Option Obj):Prop:=∃dv,v=.tuple #[dv,.int .i64 0]/\RowB X 2 1 dv l.length (l.map (Value.int .i64))/\l.length<=mostT
theorem zqcq(Y:YSys Try.prog aM (zqi (zqm T) D) ro i β){sv:Value}{k:Nat}(hst:EpoY T k Y sv)(hk:k<T.N)(hN:T.N<=64)(hc:EpoC T k Y sv):SpecR Y 26 #[.pointer (some ⟨T.db,0,none⟩),sv,.int .i64 k] (collP k) collR:=by
 refine SpecR.of Try.func26 rfl ?_;intro K s B w hK hA;simp only[zqw,Try.ntmps26,List.size_toArray,List.length_cons,List.length_nil,Nat.reduceAdd,Nat.reduceSub,Array.replicate_succ,Array.replicate_zero,List.push_toArray,List.append_toArray,List.nil_append,List.cons_append];have eb:Try.f26.body.getD .skip=.seq (headC (clT 0)) (.seq (headC (clT 1)) (.seq (headC (clT 2)) (.seq (headC (clT 3)) (clT 4)))):=cl0;apply YSys.seq0 hA (by kernel_rfl)
 . intro wc hB;go_wp2;exact⟨rfl,Ext1.refl _,rfl⟩
 intro w hA;refine zqs Y.jc (zq15 Y.jc ?_);apply YSys.callP 0 2 1 hA (zq3u Y hst hk hN) rfl rfl rfl (by rfl) rfl rfl rfl
 . intro wc hB X hX;have HX:=Lib.hid hX;clear hX;go_wp2;exact HX.out _ (Ext1.refl _)
 . intro w;simp[go_sem,execOp,Act.eval,resolve,Deferred.ofValue,invoke,callFunc,Try.func47,Try.f47]
 . intro w;simp[go_sem,execOp,Act.eval,resolve,Deferred.ofValue,invoke,callFunc,Try.func47,Try.f47]
 intro w hA;apply YSys.ops0 3 1 hA rfl rfl (by kernel_rfl)
 . intro wc hB;go_wp2;exact⟨rfl,Ext1.refl _,rfl⟩
 intro w hA;show wpJ Y.J _ _ _ _ _;refine zqs Y.jc ?_;apply YSys.seq0 hA (by kernel_rfl)
 . intro wc hB;go_wp2;exact⟨rfl,Ext1.refl _,rfl⟩
 intro w hA;refine zq1a Y.jc rfl ?_;rw[if_neg (by decide)];refine zq28 Y.jc ?_;show wpJ Y.J _ _ _ _ _;rw[collP,Proc.bind_bind]at hA;refine zqs Y.jc (zq15 Y.jc ?_);apply YSys.callR 0 2 1 hA (zq53 Y hst).spec (λe=>by rw[Proc.bind_bind];exact hst.silT (λl=>hK _)) rfl rfl rfl (by rfl) rfl rfl rfl
 . intro wc hB X hX;have HX:=Lib.hid hX;clear hX;go_wp2;exact HX.out _ (Ext1.refl _)
 . intro w;simp[go_sem,execOp,Act.eval,resolve,Deferred.ofValue,invoke,callFunc,Try.func48,Try.f48]
 . intro w;simp[go_sem,execOp,Act.eval,resolve,Deferred.ofValue,invoke,callFunc,Try.func48,Try.f48]
 . intro s' ch w' h;exact⟨rfl,h⟩
 intro s e w hA;apply YSys.ops0 3 1 hA rfl rfl (by kernel_rfl)
 . intro wc hB;go_wp2;exact⟨rfl,Ext1.refl _,rfl⟩
 intro w hA;show wpJ Y.J _ _ _ _ _;rw[Proc.bind_bind]at hA;refine hc.coll (e:=e) (by kernel_rfl) hA ?_;intro l X dv w' h0 h1 h2 h3;exact⟨l,X,⟨dv,rfl,h1,h0⟩,h2,h3⟩
end
set_option maxHeartbeats 16000000
def opE{S2:Type}(N k:Nat)(op:OpX):Proc (EpS×S2) Ans:=
 if op.k=1 then(zq2i k).bind λx=>Proc.ret ⟨x.2==0,x.1,[]⟩
 else if op.k=2 then(zq2k k).bind λx=>Proc.ret ⟨x==0,0,[]⟩
 else if op.k=3 then(zq3n k op.a).bind λx=>Proc.ret ⟨x.2==0,x.1,[]⟩
 else if op.k=4 then(advP N).bind λx=>Proc.ret ⟨x.2==0,if x.1=true then 1 else 0,[]⟩
 else if op.k=5 then(collP k).bind λl=>Proc.ret ⟨true,0,l⟩
 else Proc.ret Ans.none
def condT:Code->Code
 |.cond _ a _=>a
 |c=>c
def condE:Code->Code
 |.cond _ _ b=>b
 |c=>c
def zq3d:Code->Code
 |.block _ c=>c
 |c=>c
def sndC:Code->Code
 |.seq _ b=>b
 |c=>c
noncomputable def doCh:Nat->Code
 |0=>zq3d (sndC (headC (tailN 1 (Try.f33.body.getD .skip))))
 |j+1=>condE (sndC (doCh j))
noncomputable def doC(j:Nat):Code:=condT (sndC (doCh j))
def doF(db k:Nat)(sv:Value)(op:OpX)(b7 b8:Nat)(v:Nat->Value):Array Value:=#[.pointer (some ⟨db,0,none⟩),sv,.int .i64 k,op.val,v 4,v 5,v 6,.pointer (some ⟨b7,0,none⟩),.pointer (some ⟨b8,0,none⟩),v 9,v 10,v 11,v 12,v 13,v 14,v 15,v 16,v 17,v 18,.int .i64 op.k,v 20,v 21,v 22,v 23,v 24,v 25,v 26,v 27,v 28,v 29,v 30,v 31,v 32,v 33,v 34,v 35,v 36,v 37,v 38,v 39,v 40,v 41,v 42,v 43,v 44,v 45,v 46,v 47,v 48,v 49,v 50,v 51,v 52,v 53,v 54,v 55,v 56,v 57,v 58,v 59,v 60,v 61,v 62,v 63,v 64,v 65,v 66,v 67,v 68,v 69,v 70,v 71,v 72,v 73,v 74,v 75,v 76,v 77,v 78,v 79,v 80,v 81,v 82,v 83,v 84]
structure DoB(B Bq:Nat->Option Obj)(op:OpX)(b7 b8:Nat):Prop where
 h7:Bq b7=some (.cells op.cells.toArray 44)
 h8:Bq b8=some (.cells #[.bool false,.int .i64 0,.slice none 0 0] 48)
 hle:∀x y,B x=some y->Bq x=some y
 hn:B b8=none
section
variable {M2 S2 β:Type} {D:Core M2 S2} {ro:Nat->Option Obj} {i:Nat} {T:EpT}
theorem edo_c1(Y:YSys Try.prog aM (zqi (zqm T) D) ro i β){sv:Value}{k:Nat}(hst:EpoY T k Y sv)(hk:k<T.N)(hN:T.N<=64)(hc:EpoC T k Y sv){op:OpX}{B Bq:Nat->Option Obj}{b7 b8:Nat}(hd:DoB B Bq op b7 b8){K:Ans->Proc (EpS×S2) β}(hK:∀a,Y.sil (K a)){Q:Y.γ->Exit->Act->World->Prop}{s:Y.γ}{w:World}{v:Nat->Value}
 (hret:∀s a w,(Y.Bd Try.f33 (PostR Y K (AnsV 2) B)) s a w->Q s .ret a w) (hpan:∀s ch t w,Y.Dead s ch w->Q s (.panic ch) ⟨t,[]⟩ w)
 (hA:Y.AtB Bq s w (((zq2i k).bind λx=>Proc.ret ⟨x.2==0,x.1,[]⟩).bind K)):wpJ Y.J (doC 0) Q s ⟨doF T.db k sv op b7 b8 v,[]⟩ w:=by
 have HKK:=Lib.hid hK;have H7:=Lib.hid hd.h7;have H8:=Lib.hid hd.h8;have HLE:=Lib.hid hd.hle;have HN:=Lib.hid hd.hn;clear hK hd;obtain⟨u_,hu_⟩:∃c,doC 0=c:=⟨_,rfl⟩;have eu_:=hu_;rw[hu_];simp only[doC,doCh,condT,condE,sndC,zq3d,headC,tailN,Try.f33,al_od]at eu_;subst eu_;clear hu_;unfold doF;rw[Proc.bind_bind]at hA;refine zqs Y.jc (zq15 Y.jc ?_);apply YSys.callR 0 3 5 hA (zqcz Y hst hk hN).spec (λx=>HKK.out _) rfl rfl rfl (by rfl) rfl rfl rfl
 . intro wc hB X hX;have HX:=Lib.hid hX;clear hX;go_wp2;exact HX.out _ (Ext1.refl _)
 . intro w;simp[go_sem,execOp,Act.eval,resolve,Deferred.ofValue,invoke,callFunc,Try.func23,Try.f23]
 . intro w;simp[go_sem,execOp,Act.eval,resolve,Deferred.ofValue,invoke,callFunc,Try.func23,Try.f23]
 . intro s' ch w' h;exact hpan _ _ _ _ h
 intro s x w hA;apply YSys.ops0 4 5 hA rfl rfl (by kernel_rfl)
 . intro wc hB;go_wp2;exact⟨rfl,Ext1.refl _,rfl⟩
 intro w hA;show wpJ Y.J _ _ _ _ _;refine YSys.seqX (λt B'=>t.getD 8 undef=.pointer (some ⟨b8,0,none⟩)/\B'=upB Bq b8 (.cells #[.bool (x.2==0),.int .i64 x.1,.slice none 0 0] 48)) hA (by kernel_rfl) ?_ ?_
 . intro wc hB X0 hX0;have HX0:=Lib.hid hX0;clear hX0;have k8:=hB.own.box b8 _ H8.out;have c80:wc.cell? ⟨b8,0,none⟩=some (.bool false):=(zq0 k8).trans rfl;have c81:wc.cell? ⟨b8,1,none⟩=some (.int .i64 0):=(zq0 k8).trans rfl;have c82:wc.cell? ⟨b8,2,none⟩=some (.slice none 0 0):=(zq0 k8).trans rfl;have f80:wc.frozen? ⟨b8,0,none⟩=false:=zq6 k8;have f81:wc.frozen? ⟨b8,1,none⟩=false:=zq6 k8;have f82:wc.frozen? ⟨b8,2,none⟩=false:=zq6 k8;have hm:=OMoved.set3 (o1:=0) (o2:=1) (o3:=2) hB.own H8.out (.bool (x.2==0)) (.int .i64 x.1) (.slice none 0 0);have HM:=Lib.hid hm;clear hm k8;go_wp2;exact⟨rfl,HX0.out _ _ _ HM.out ⟨rfl,rfl⟩⟩
 rintro t _ w ⟨ht8,rfl⟩ hA;refine zq1r Y.jc (hret _ _ _ ?_);refine YSys.left hA (v:=.agg #[.bool (x.2==0),.int .i64 x.1,.slice none 0 0]) (λwc hB=>results_cell_row rfl t wc b8 48 _ _ _ ht8 (hB.own.box b8 _ (upB_same _ _ _)) rfl rfl rfl) λw hA=>?_;exact⟨⟨(x.2==0),x.1,[]⟩,λ_=>none,AnsV.plain _ _ _,λb hb=>absurd rfl hb,hA.drop (zq38 HLE.out HN.out)⟩
end
section
variable {M2 S2 β:Type} {D:Core M2 S2} {ro:Nat->Option Obj} {i:Nat} {T:EpT}
theorem edo_c2(Y:YSys Try.prog aM (zqi (zqm T) D) ro i β){sv:Value}{k:Nat}(hst:EpoY T k Y sv)(hk:k<T.N)(hN:T.N<=64)(hc:EpoC T k Y sv){op:OpX}{B Bq:Nat->Option Obj}{b7 b8:Nat}(hd:DoB B Bq op b7 b8){K:Ans->Proc (EpS×S2) β}(hK:∀a,Y.sil (K a)){Q:Y.γ->Exit->Act->World->Prop}{s:Y.γ}{w:World}{v:Nat->Value}
 (hret:∀s a w,(Y.Bd Try.f33 (PostR Y K (AnsV 2) B)) s a w->Q s .ret a w) (hpan:∀s ch t w,Y.Dead s ch w->Q s (.panic ch) ⟨t,[]⟩ w)
 (hA:Y.AtB Bq s w (((zq2k k).bind λx=>Proc.ret ⟨x==0,0,[]⟩).bind K)):wpJ Y.J (doC 1) Q s ⟨doF T.db k sv op b7 b8 v,[]⟩ w:=by
 have HKK:=Lib.hid hK;have H7:=Lib.hid hd.h7;have H8:=Lib.hid hd.h8;have HLE:=Lib.hid hd.hle;have HN:=Lib.hid hd.hn;clear hK hd;obtain⟨u_,hu_⟩:∃c,doC 1=c:=⟨_,rfl⟩;have eu_:=hu_;rw[hu_];simp only[doC,doCh,condT,condE,sndC,zq3d,headC,tailN,Try.f33,al_od]at eu_;subst eu_;clear hu_;unfold doF;rw[Proc.bind_bind]at hA;refine zqs Y.jc (zq15 Y.jc ?_);apply YSys.callR 0 3 3 hA (zqea Y hst hk hN).spec (λx=>HKK.out _) rfl rfl rfl (by rfl) rfl rfl rfl
 . intro wc hB X hX;have HX:=Lib.hid hX;clear hX;go_wp2;exact HX.out _ (Ext1.refl _)
 . intro w;simp[go_sem,execOp,Act.eval,resolve,Deferred.ofValue,invoke,callFunc,Try.func27,Try.f27]
 . intro w;simp[go_sem,execOp,Act.eval,resolve,Deferred.ofValue,invoke,callFunc,Try.func27,Try.f27]
 . intro s' ch w' h;exact hpan _ _ _ _ h
 intro s x w hA;refine YSys.opsX 4 3 (λt B'=>t.getD 8 undef=.pointer (some ⟨b8,0,none⟩)/\B'=upB Bq b8 (.cells #[.bool (x==0),.int .i64 0,.slice none 0 0] 48)) hA rfl rfl (by kernel_rfl) ?_ ?_
 . intro wc hB X0 hX0;have HX0:=Lib.hid hX0;clear hX0;have k8:=hB.own.box b8 _ H8.out;have c80:wc.cell? ⟨b8,0,none⟩=some (.bool false):=(zq0 k8).trans rfl;have c81:wc.cell? ⟨b8,1,none⟩=some (.int .i64 0):=(zq0 k8).trans rfl;have c82:wc.cell? ⟨b8,2,none⟩=some (.slice none 0 0):=(zq0 k8).trans rfl;have f80:wc.frozen? ⟨b8,0,none⟩=false:=zq6 k8;have f81:wc.frozen? ⟨b8,1,none⟩=false:=zq6 k8;have f82:wc.frozen? ⟨b8,2,none⟩=false:=zq6 k8;have hm:=OMoved.set3 (o1:=0) (o2:=1) (o3:=2) hB.own H8.out (.bool (x==0)) (.int .i64 0) (.slice none 0 0);have HM:=Lib.hid hm;clear hm k8;go_wp2;exact⟨rfl,HX0.out _ _ _ HM.out ⟨rfl,rfl⟩⟩
 rintro t _ w ⟨ht8,rfl⟩ hA;show wpJ Y.J _ _ _ _ _;refine zq1r Y.jc (hret _ _ _ ?_);refine YSys.left hA (v:=.agg #[.bool (x==0),.int .i64 0,.slice none 0 0]) (λwc hB=>results_cell_row rfl t wc b8 48 _ _ _ ht8 (hB.own.box b8 _ (upB_same _ _ _)) rfl rfl rfl) λw hA=>?_;exact⟨⟨(x==0),0,[]⟩,λ_=>none,AnsV.plain _ _ _,λb hb=>absurd rfl hb,hA.drop (zq38 HLE.out HN.out)⟩
end
section
variable {M2 S2 β:Type} {D:Core M2 S2} {ro:Nat->Option Obj} {i:Nat} {T:EpT}
theorem edo_c3(Y:YSys Try.prog aM (zqi (zqm T) D) ro i β){sv:Value}{k:Nat}(hst:EpoY T k Y sv)(hk:k<T.N)(hN:T.N<=64)(hc:EpoC T k Y sv){op:OpX}{B Bq:Nat->Option Obj}{b7 b8:Nat}(hd:DoB B Bq op b7 b8){K:Ans->Proc (EpS×S2) β}(hK:∀a,Y.sil (K a)){Q:Y.γ->Exit->Act->World->Prop}{s:Y.γ}{w:World}{v:Nat->Value}
 (hret:∀s a w,(Y.Bd Try.f33 (PostR Y K (AnsV 2) B)) s a w->Q s .ret a w) (hpan:∀s ch t w,Y.Dead s ch w->Q s (.panic ch) ⟨t,[]⟩ w)
 (hA:Y.AtB Bq s w (((zq3n k op.a).bind λx=>Proc.ret ⟨x.2==0,x.1,[]⟩).bind K)):wpJ Y.J (doC 2) Q s ⟨doF T.db k sv op b7 b8 v,[]⟩ w:=by
 have HKK:=Lib.hid hK;have H7:=Lib.hid hd.h7;have H8:=Lib.hid hd.h8;have HLE:=Lib.hid hd.hle;have HN:=Lib.hid hd.hn;clear hK hd;obtain⟨u_,hu_⟩:∃c,doC 2=c:=⟨_,rfl⟩;have eu_:=hu_;rw[hu_];simp only[doC,doCh,condT,condE,sndC,zq3d,headC,tailN,Try.f33,al_od]at eu_;subst eu_;clear hu_;unfold doF;rw[Proc.bind_bind]at hA;refine zqs Y.jc (zq15 Y.jc ?_);apply YSys.callR 0 5 5 hA (zqfz Y hst hk hN op.a).spec (λx=>HKK.out _) rfl rfl rfl (by rfl) rfl rfl rfl
 . intro wc hB X hX;have HX:=Lib.hid hX;clear hX;have c70:wc.cell? ⟨b7,0,none⟩=some (.int .i64 op.k):=(zq0 (hB.own.box b7 _ H7.out)).trans rfl;have c71:wc.cell? ⟨b7,1,none⟩=some (.int .i64 op.a):=(zq0 (hB.own.box b7 _ H7.out)).trans rfl;have c72:wc.cell? ⟨b7,2,none⟩=some (.int .i64 op.b):=(zq0 (hB.own.box b7 _ H7.out)).trans rfl;have c73:wc.cell? ⟨b7,3,none⟩=some (.int .i64 op.c):=(zq0 (hB.own.box b7 _ H7.out)).trans rfl;go_wp2;exact HX.out _ (Ext1.refl _)
 . intro w;simp[go_sem,execOp,Act.eval,resolve,Deferred.ofValue,invoke,callFunc,Try.func24,Try.f24]
 . intro w;simp[go_sem,execOp,Act.eval,resolve,Deferred.ofValue,invoke,callFunc,Try.func24,Try.f24]
 . intro s' ch w' h;exact hpan _ _ _ _ h
 intro s x w hA;apply YSys.ops0 6 5 hA rfl rfl (by kernel_rfl)
 . intro wc hB;go_wp2;exact⟨rfl,Ext1.refl _,rfl⟩
 intro w hA;show wpJ Y.J _ _ _ _ _;refine YSys.seqX (λt B'=>t.getD 8 undef=.pointer (some ⟨b8,0,none⟩)/\B'=upB Bq b8 (.cells #[.bool (x.2==0),.int .i64 x.1,.slice none 0 0] 48)) hA (by kernel_rfl) ?_ ?_
 . intro wc hB X0 hX0;have HX0:=Lib.hid hX0;clear hX0;have k8:=hB.own.box b8 _ H8.out;have c80:wc.cell? ⟨b8,0,none⟩=some (.bool false):=(zq0 k8).trans rfl;have c81:wc.cell? ⟨b8,1,none⟩=some (.int .i64 0):=(zq0 k8).trans rfl;have c82:wc.cell? ⟨b8,2,none⟩=some (.slice none 0 0):=(zq0 k8).trans rfl;have f80:wc.frozen? ⟨b8,0,none⟩=false:=zq6 k8;have f81:wc.frozen? ⟨b8,1,none⟩=false:=zq6 k8;have f82:wc.frozen? ⟨b8,2,none⟩=false:=zq6 k8;have hm:=OMoved.set3 (o1:=0) (o2:=1) (o3:=2) hB.own H8.out (.bool (x.2==0)) (.int .i64 x.1) (.slice none 0 0);have HM:=Lib.hid hm;clear hm k8;go_wp2;exact⟨rfl,HX0.out _ _ _ HM.out ⟨rfl,rfl⟩⟩
 rintro t _ w ⟨ht8,rfl⟩ hA;refine zq1r Y.jc (hret _ _ _ ?_);refine YSys.left hA (v:=.agg #[.bool (x.2==0),.int .i64 x.1,.slice none 0 0]) (λwc hB=>results_cell_row rfl t wc b8 48 _ _ _ ht8 (hB.own.box b8 _ (upB_same _ _ _)) rfl rfl rfl) λw hA=>?_;exact⟨⟨(x.2==0),x.1,[]⟩,λ_=>none,AnsV.plain _ _ _,λb hb=>absurd rfl hb,hA.drop (zq38 HLE.out HN.out)⟩
end
section
variable {M2 S2 β:Type} {D:Core M2 S2} {ro:Nat->Option Obj} {i:Nat} {T:EpT}
theorem edo_c4(Y:YSys Try.prog aM (zqi (zqm T) D) ro i β){sv:Value}{k:Nat}(hst:EpoY T k Y sv)(hk:k<T.N)(hN:T.N<=64)(hc:EpoC T k Y sv){op:OpX}{B Bq:Nat->Option Obj}{b7 b8:Nat}(hd:DoB B Bq op b7 b8){K:Ans->Proc (EpS×S2) β}(hK:∀a,Y.sil (K a)){Q:Y.γ->Exit->Act->World->Prop}{s:Y.γ}{w:World}{v:Nat->Value}
 (hret:∀s a w,(Y.Bd Try.f33 (PostR Y K (AnsV 2) B)) s a w->Q s .ret a w) (hpan:∀s ch t w,Y.Dead s ch w->Q s (.panic ch) ⟨t,[]⟩ w)
 (hA:Y.AtB Bq s w (((advP T.N).bind λx=>Proc.ret ⟨x.2==0,if x.1=true then 1 else 0,[]⟩).bind K)):wpJ Y.J (doC 3) Q s ⟨doF T.db k sv op b7 b8 v,[]⟩ w:=by
 have HKK:=Lib.hid hK;have H7:=Lib.hid hd.h7;have H8:=Lib.hid hd.h8;have HLE:=Lib.hid hd.hle;have HN:=Lib.hid hd.hn;clear hK hd;obtain⟨u_,hu_⟩:∃c,doC 3=c:=⟨_,rfl⟩;have eu_:=hu_;rw[hu_];simp only[doC,doCh,condT,condE,sndC,zq3d,headC,tailN,Try.f33,al_od]at eu_;subst eu_;clear hu_;unfold doF;rw[Proc.bind_bind]at hA;refine zqs Y.jc (zq15 Y.jc ?_);apply YSys.callR 0 3 5 hA (adv_spec Y hst hk hN).spec (λx=>HKK.out _) rfl rfl rfl (by rfl) rfl rfl rfl
 . intro wc hB X hX;have HX:=Lib.hid hX;clear hX;go_wp2;exact HX.out _ (Ext1.refl _)
 . intro w;simp[go_sem,execOp,Act.eval,resolve,Deferred.ofValue,invoke,callFunc,Try.func25,Try.f25]
 . intro w;simp[go_sem,execOp,Act.eval,resolve,Deferred.ofValue,invoke,callFunc,Try.func25,Try.f25]
 . intro s' ch w' h;exact hpan _ _ _ _ h
 intro s x w hA;apply YSys.ops0 4 5 hA rfl rfl (by kernel_rfl)
 . intro wc hB;go_wp2;exact⟨rfl,Ext1.refl _,rfl⟩
 intro w hA;show wpJ Y.J _ _ _ _ _;obtain⟨mv,xe⟩:=x;refine YSys.endX (λt B'=>t.getD 8 undef=.pointer (some ⟨b8,0,none⟩)/\B'=upB Bq b8 (.cells #[.bool (xe==0),.int .i64 (if mv=true then 1 else 0),.slice none 0 0] 48)) hA (by kernel_rfl) ?_ ?_
 . intro wc hB X0 hX0;have HX0:=Lib.hid hX0;clear hX0;have k8:=hB.own.box b8 _ H8.out;have c80:wc.cell? ⟨b8,0,none⟩=some (.bool false):=(zq0 k8).trans rfl;have c81:wc.cell? ⟨b8,1,none⟩=some (.int .i64 0):=(zq0 k8).trans rfl;have c82:wc.cell? ⟨b8,2,none⟩=some (.slice none 0 0):=(zq0 k8).trans rfl;have f80:wc.frozen? ⟨b8,0,none⟩=false:=zq6 k8;have f81:wc.frozen? ⟨b8,1,none⟩=false:=zq6 k8;have f82:wc.frozen? ⟨b8,2,none⟩=false:=zq6 k8;have hlt8:=zqc k8;have HOB:=Lib.hid (And.intro hB.own hlt8);have k9:∀o:Obj,(wc.alloc o).heap[b8]?=some (.cells #[.bool false,.int .i64 0,.slice none 0 0] 48):=λo=>(Ext1.alloc wc o).heap k8;have c90:∀o:Obj,(wc.alloc o).cell? ⟨b8,0,none⟩=some (.bool false):=λo=>(zq0 (k9 o)).trans rfl;have c91:∀o:Obj,(wc.alloc o).cell? ⟨b8,1,none⟩=some (.int .i64 0):=λo=>(zq0 (k9 o)).trans rfl;have c92:∀o:Obj,(wc.alloc o).cell? ⟨b8,2,none⟩=some (.slice none 0 0):=λo=>(zq0 (k9 o)).trans rfl;have f9:∀(o:Obj)(j:Nat),(wc.alloc o).frozen? ⟨b8,j,none⟩=false:=λo j=>zq6 (k9 o);have hne8:¬wc.heap.size=b8:=by omega
   clear k8 k9 hlt8;cases mv with
   |true=>
    go_wp2;exact⟨rfl,HX0.out _ _ _ (OMoved.behind (Ext1.alloc wc _) (OMoved.set3 (o1:=0) (o2:=1) (o3:=2) (HOB.out.1.ext (Ext1.alloc wc _).toExt) H8.out (.bool (xe==0)) (.int .i64 1) (.slice none 0 0)) (λb hb=>HOB.out.1.lt hb) (by simp only[zqv])) ⟨rfl,rfl⟩⟩
   |false=>
    go_wp2;exact⟨rfl,HX0.out _ _ _ (OMoved.behind (Ext1.alloc wc _) (OMoved.set3 (o1:=0) (o2:=1) (o3:=2) (HOB.out.1.ext (Ext1.alloc wc _).toExt) H8.out (.bool (xe==0)) (.int .i64 0) (.slice none 0 0)) (λb hb=>HOB.out.1.lt hb) (by simp only[zqv])) ⟨rfl,rfl⟩⟩
 rintro t _ w ⟨ht8,rfl⟩ hA;refine hret _ _ _ ?_;refine YSys.left hA (v:=.agg #[.bool (xe==0),.int .i64 (if mv=true then 1 else 0),.slice none 0 0]) (λwc hB=>results_cell_row rfl t wc b8 48 _ _ _ ht8 (hB.own.box b8 _ (upB_same _ _ _)) rfl rfl rfl) λw hA=>?_;exact⟨⟨(xe==0),(if mv=true then 1 else 0),[]⟩,λ_=>none,AnsV.plain _ _ _,λb hb=>absurd rfl hb,hA.drop (zq38 HLE.out HN.out)⟩
end
section
variable {M2 S2 β:Type} {D:Core M2 S2} {ro:Nat->Option Obj} {i:Nat} {T:EpT}
theorem edo_c5(Y:YSys Try.prog aM (zqi (zqm T) D) ro i β){sv:Value}{k:Nat}(hst:EpoY T k Y sv)(hk:k<T.N)(hN:T.N<=64)(hc:EpoC T k Y sv){op:OpX}{B Bq:Nat->Option Obj}{b7 b8:Nat}(hd:DoB B Bq op b7 b8){K:Ans->Proc (EpS×S2) β}(hK:∀a,Y.sil (K a)){Q:Y.γ->Exit->Act->World->Prop}{s:Y.γ}{w:World}{v:Nat->Value}
 (hret:∀s a w,(Y.Bd Try.f33 (PostR Y K (AnsV 2) B)) s a w->Q s .ret a w) (hpan:∀s ch t w,Y.Dead s ch w->Q s (.panic ch) ⟨t,[]⟩ w)
 (hA:Y.AtB Bq s w (((collP k).bind λl=>Proc.ret ⟨true,0,l⟩).bind K)):wpJ Y.J (doC 4) Q s ⟨doF T.db k sv op b7 b8 v,[]⟩ w:=by
 have HKK:=Lib.hid hK;have H7:=Lib.hid hd.h7;have H8:=Lib.hid hd.h8;have HLE:=Lib.hid hd.hle;have HN:=Lib.hid hd.hn;clear hK hd;obtain⟨u_,hu_⟩:∃c,doC 4=c:=⟨_,rfl⟩;have eu_:=hu_;rw[hu_];simp only[doC,doCh,condT,condE,sndC,zq3d,headC,tailN,Try.f33,al_od]at eu_;subst eu_;clear hu_;unfold doF;rw[Proc.bind_bind]at hA;refine zqs Y.jc (zq15 Y.jc ?_);apply YSys.callQ 0 3 5 hA (zqcq Y hst hk hN hc) (λx=>HKK.out _) rfl rfl rfl (by rfl) rfl rfl rfl
 . intro wc hB X hX;have HX:=Lib.hid hX;clear hX;go_wp2;exact HX.out _ (Ext1.refl _)
 . intro w;simp[go_sem,execOp,Act.eval,resolve,Deferred.ofValue,invoke,callFunc,Try.func26,Try.f26]
 . intro w;simp[go_sem,execOp,Act.eval,resolve,Deferred.ofValue,invoke,callFunc,Try.func26,Try.f26]
 . intro s' ch w' h;exact hpan _ _ _ _ h
 intro s l vv X w hrel hXB hA;obtain⟨dv,rfl,hrow,_⟩:=hrel;obtain⟨dp,dc,rfl⟩:∃dp dc,dv=.slice dp l.length dc:=by
  rcases hrow.2 with⟨a,b,_⟩|⟨g,cap,cur,a,_⟩
  . exact⟨none,0,by rw[a,b]⟩
  . exact⟨_,cap,a⟩
 have h8x:orB X Bq b8=some (.cells #[.bool false,.int .i64 0,.slice none 0 0] 48):=by
  have hx:X b8=none:=Classical.byContradiction λy=>by have:=hXB b8 y;rw[H8.out]at this;cases this
  simp[orB,hx,H8.out]
 have H8X:=Lib.hid h8x;have HRW:=Lib.hid (And.intro hrow hXB);clear h8x hrow hXB;apply YSys.ops0 4 5 hA rfl rfl (by kernel_rfl)
 . intro wc hB;go_wp2;exact⟨rfl,Ext1.refl _,rfl⟩
 intro w hA;show wpJ Y.J _ _ _ _ _;refine YSys.seqX (λt B'=>t.getD 8 undef=.pointer (some ⟨b8,0,none⟩)/\B'=upB (orB X Bq) b8 (.cells #[.bool true,.int .i64 0,.slice dp l.length dc] 48)) hA (by kernel_rfl) ?_ ?_
 . intro wc hB X0 hX0;have HX0:=Lib.hid hX0;clear hX0;have k8:=hB.own.box b8 _ H8X.out;have c80:wc.cell? ⟨b8,0,none⟩=some (.bool false):=(zq0 k8).trans rfl;have c81:wc.cell? ⟨b8,1,none⟩=some (.int .i64 0):=(zq0 k8).trans rfl;have c82:wc.cell? ⟨b8,2,none⟩=some (.slice none 0 0):=(zq0 k8).trans rfl;have f80:wc.frozen? ⟨b8,0,none⟩=false:=zq6 k8;have f81:wc.frozen? ⟨b8,1,none⟩=false:=zq6 k8;have f82:wc.frozen? ⟨b8,2,none⟩=false:=zq6 k8;have hm:=OMoved.set3 (o1:=0) (o2:=1) (o3:=2) hB.own H8X.out (.bool true) (.int .i64 0) (.slice dp l.length dc);have HM:=Lib.hid hm;clear hm k8;go_wp2;exact⟨rfl,HX0.out _ _ _ HM.out ⟨rfl,rfl⟩⟩
 rintro t _ w ⟨ht8,rfl⟩ hA;refine zq1r Y.jc (hret _ _ _ ?_);refine YSys.left hA (v:=.agg #[.bool true,.int .i64 0,.slice dp l.length dc]) (λwc hB=>results_cell_row rfl t wc b8 48 _ _ _ ht8 (hB.own.box b8 _ (upB_same _ _ _)) rfl rfl rfl) λw hA=>?_;refine⟨⟨true,0,l⟩,X,⟨_,rfl,HRW.out.1⟩,λb hb=>?_,hA.drop λb o hb=>?_⟩
 . have:=HRW.out.2 b hb;cases ho:B b with
   |none=>rfl
   |some o=>rw[HLE.out b o ho]at this;cases this
 . by_cases e:b=b8
   . subst e;have hx:X b=none:=Classical.byContradiction λy=>by have:=HRW.out.2 b y;rw[H8.out]at this;cases this
     rw[orB,hx]at hb;rw[HN.out]at hb;cases hb
   . rw[zq2g _ _ e];cases hx:X b with
     |some o'=>simp only[orB,hx]at hb |-;exact hb
     |none=>simp only[orB,hx]at hb |-;exact HLE.out b o hb
end
section
variable {M2 S2 β:Type} {D:Core M2 S2} {ro:Nat->Option Obj} {i:Nat} {T:EpT}
theorem edo_spec(Y:YSys Try.prog aM (zqi (zqm T) D) ro i β){sv:Value}{k:Nat}(hst:EpoY T k Y sv)(hk:k<T.N)(hN:T.N<=64)(hc:EpoC T k Y sv)(op:OpX):
 SpecR Y 33 #[.pointer (some ⟨T.db,0,none⟩),sv,.int .i64 k,op.val] (opE T.N k op) (AnsV 2):=by
 refine SpecR.of Try.func33 rfl ?_;intro K s B w hK hA;simp only[zqw,Try.ntmps33,List.size_toArray,List.length_cons,List.length_nil,Nat.reduceAdd,Nat.reduceSub,Array.replicate_succ,Array.replicate_zero,List.push_toArray,List.append_toArray,List.nil_append,List.cons_append];unfold opE at hA;refine zqs Y.jc (zq15 Y.jc ?_);refine YSys.preX 0 1 1 (λt B'=>∃(b7:Nat)(v:Nat->Value),t=#[.pointer (some ⟨T.db,0,none⟩),sv,.int .i64 k,op.val,v 4,v 5,v 6,.pointer (some ⟨b7,0,none⟩),v 8,v 9,v 10,v 11,v 12,v 13,v 14,v 15,v 16,v 17,v 18,v 19,v 20,v 21,v 22,v 23,v 24,v 25,v 26,v 27,v 28,v 29,v 30,v 31,v 32,v 33,v 34,v 35,v 36,v 37,v 38,v 39,v 40,v 41,v 42,v 43,v 44,v 45,v 46,v 47,v 48,v 49,v 50,v 51,v 52,v 53,v 54,v 55,v 56,v 57,v 58,v 59,v 60,v 61,v 62,v 63,v 64,v 65,v 66,v 67,v 68,v 69,v 70,v 71,v 72,v 73,v 74,v 75,v 76,v 77,v 78,v 79,v 80,v 81,v 82,v 83,v 84]/\(B) b7=none/\B'=upB (B) b7 (.cells op.cells.toArray 44)) hA rfl rfl rfl rfl ?_ ?_
 . intro wc hB X0 hX0;have HX0:=Lib.hid hX0;clear hX0;have hm:=OMoved.push (o:=.cells op.cells.toArray 44) hB.own (Ext1.alloc wc (.cells op.cells.toArray 44)) (Nat.le_refl _) (by rw[zq5];simp);have hf:=hB.own.fresh (Nat.le_refl _);have HM:=Lib.hid (And.intro hm hf);clear hm hf;unfold OpX.val;go_wp2;exact HX0.out _ _ _ HM.out.1 ⟨_,(λ_=>undef),rfl,HM.out.2,rfl⟩
 clear hA;rintro _ _ w ⟨b7,v,rfl,hb7,rfl⟩ hA;refine YSys.opsX 1 1 (λt B'=>∃(b8:Nat)(v:Nat->Value),t=#[.pointer (some ⟨T.db,0,none⟩),sv,.int .i64 k,op.val,v 4,v 5,v 6,.pointer (some ⟨b7,0,none⟩),.pointer (some ⟨b8,0,none⟩),v 9,v 10,v 11,v 12,v 13,v 14,v 15,v 16,v 17,v 18,v 19,v 20,v 21,v 22,v 23,v 24,v 25,v 26,v 27,v 28,v 29,v 30,v 31,v 32,v 33,v 34,v 35,v 36,v 37,v 38,v 39,v 40,v 41,v 42,v 43,v 44,v 45,v 46,v 47,v 48,v 49,v 50,v 51,v 52,v 53,v 54,v 55,v 56,v 57,v 58,v 59,v 60,v 61,v 62,v 63,v 64,v 65,v 66,v 67,v 68,v 69,v 70,v 71,v 72,v 73,v 74,v 75,v 76,v 77,v 78,v 79,v 80,v 81,v 82,v 83,v 84]/\(upB B b7 (.cells op.cells.toArray 44)) b8=none/\B'=upB (upB B b7 (.cells op.cells.toArray 44)) b8 (.cells #[.bool false,.int .i64 0,.slice none 0 0] 48)) hA rfl rfl (by kernel_rfl) ?_ ?_
 . intro wc hB X0 hX0;have HX0:=Lib.hid hX0;clear hX0;have hm:=OMoved.push (o:=.cells #[.bool false,.int .i64 0,.slice none 0 0] 48) hB.own (Ext1.alloc wc (.cells #[.bool false,.int .i64 0,.slice none 0 0] 48)) (Nat.le_refl _) (by rw[zq5];simp);have hf:=hB.own.fresh (Nat.le_refl _);have HM:=Lib.hid (And.intro hm hf);clear hm hf;go_wp2;exact⟨rfl,HX0.out _ _ _ HM.out.1 ⟨_,v,rfl,HM.out.2,rfl⟩⟩
 clear hA;rintro _ _ w ⟨b8,v,rfl,hb8,rfl⟩ hA;have h7:(upB (upB B b7 (.cells op.cells.toArray 44)) b8 (.cells #[.bool false,.int .i64 0,.slice none 0 0] 48)) b7=some (.cells op.cells.toArray 44):=zq5l (upB_same _ _ _) (zq8s (upB_same _ _ _) hb8);have h8:(upB (upB B b7 (.cells op.cells.toArray 44)) b8 (.cells #[.bool false,.int .i64 0,.slice none 0 0] 48)) b8=some (.cells #[.bool false,.int .i64 0,.slice none 0 0] 48):=upB_same _ _ _;have hB8:B b8=none:=Classical.byContradiction λh=>by
  cases ho:B b8 with
  |none=>exact h ho
  |some o=>rw[zq5k (o:=.cells op.cells.toArray 44) hb7 b8 o ho]at hb8;cases hb8
 have hle:∀x y,B x=some y->(upB (upB B b7 (.cells op.cells.toArray 44)) b8 (.cells #[.bool false,.int .i64 0,.slice none 0 0] 48)) x=some y:=zq38 (zq5k (o:=.cells op.cells.toArray 44) hb7) hB8;obtain⟨Bq,hBq⟩:∃X,upB (upB B b7 (.cells op.cells.toArray 44)) b8 (.cells #[.bool false,.int .i64 0,.slice none 0 0] 48)=X:=⟨_,rfl⟩;rw[hBq]at h7 h8 hle hA;have HD:=Lib.hid (DoB.mk h7 h8 hle hB8);have H7:=Lib.hid h7;have HK:=Lib.hid hK;clear h7 h8 hle hBq hb7 hb8 hB8 hK;show wpJ Y.J _ _ _ _ _;refine zqs Y.jc ?_;refine YSys.seqX (λt B'=>(∃v,t=doF T.db k sv op b7 b8 v)/\B'=Bq) hA (by kernel_rfl) ?_ ?_
 . intro wc hB X0 hX0;have HX0:=Lib.hid hX0;clear hX0;have HOM:=Lib.hid (OMoved.ext hB.own (Ext1.refl wc));have c70:wc.cell? ⟨b7,0,none⟩=some (.int .i64 op.k):=(zq0 (hB.own.box b7 _ H7.out)).trans rfl;have c71:wc.cell? ⟨b7,1,none⟩=some (.int .i64 op.a):=(zq0 (hB.own.box b7 _ H7.out)).trans rfl;have c72:wc.cell? ⟨b7,2,none⟩=some (.int .i64 op.b):=(zq0 (hB.own.box b7 _ H7.out)).trans rfl;have c73:wc.cell? ⟨b7,3,none⟩=some (.int .i64 op.c):=(zq0 (hB.own.box b7 _ H7.out)).trans rfl;go_wp2;exact⟨rfl,HX0.out _ _ _ HOM.out ⟨⟨λj=>if j=18 then .pointer (some ⟨b7,0,none⟩)else v j,rfl⟩,rfl⟩⟩
 rintro _ Bz w ⟨⟨v,rfl⟩,hBz⟩ hA;rw[hBz]at hA;clear hBz;refine zq39 Y.jc ?_;have eb:∀c,c=doCh 0->c=doCh 0:=λ_ h=>h;refine YSys.seqX (λt B'=>(∃v,t=(doF T.db k sv op b7 b8 v).setIfInBounds 20 (.bool (op.k==1)))/\B'=Bq) hA (by kernel_rfl) ?_ ?_
 . intro wc hB X0 hX0;have HX0:=Lib.hid hX0;clear hX0;have HOM:=Lib.hid (OMoved.ext hB.own (Ext1.refl wc));unfold doF;go_wp2;exact⟨rfl,HX0.out _ _ _ HOM.out ⟨⟨λj=>if j=21 then .bool (op.k==1)else v j,rfl⟩,rfl⟩⟩
 rintro _ Bz w ⟨⟨v',hv⟩,hBz⟩ hA;have hcd:(doF T.db k sv op b7 b8 v').setIfInBounds 20 (.bool (op.k==1))=doF T.db k sv op b7 b8 (λj=>if j=20 then .bool (op.k==1)else v' j):=rfl;rw[hcd]at hv;subst hv;rw[hBz]at hA;clear hBz hcd v;obtain⟨v,hv⟩:∃v:Nat->Value,(λj=>if j=20 then .bool (op.k==1)else v' j)=v:=⟨_,rfl⟩;have hvk:v 20=.bool (op.k==1):=by rw[<-hv];rfl
 rw[hv];clear hv;refine zq1a Y.jc (t:=(op.k==1)) (by show(doF T.db k sv op b7 b8 v)[20]?.getD undef=_;unfold doF;exact hvk) ?_;clear hvk v'
 by_cases hk1:op.k=1
 . rw[if_pos (by simp[hk1])];rw[if_pos hk1]at hA;refine edo_c1 Y hst hk hN hc HD.out HK.out (λs a w h=>?_) (λs ch a w h=>?_) hA
   . simp only[thenJ,zq1y,bodyC];exact h
   . exact⟨rfl,h⟩
 rw[if_neg (by simp[hk1])];rw[if_neg hk1]at hA;clear hk1;refine YSys.seqX (λt B'=>(∃v,t=(doF T.db k sv op b7 b8 v).setIfInBounds 33 (.bool (op.k==2)))/\B'=Bq) hA (by kernel_rfl) ?_ ?_
 . intro wc hB X0 hX0;have HX0:=Lib.hid hX0;clear hX0;have HOM:=Lib.hid (OMoved.ext hB.own (Ext1.refl wc));unfold doF;go_wp2;exact⟨rfl,HX0.out _ _ _ HOM.out ⟨⟨λj=>if j=34 then .bool (op.k==2)else v j,rfl⟩,rfl⟩⟩
 rintro _ Bz w ⟨⟨v',hv⟩,hBz⟩ hA;have hcd:(doF T.db k sv op b7 b8 v').setIfInBounds 33 (.bool (op.k==2))=doF T.db k sv op b7 b8 (λj=>if j=33 then .bool (op.k==2)else v' j):=rfl;rw[hcd]at hv;subst hv;rw[hBz]at hA;clear hBz hcd v;obtain⟨v,hv⟩:∃v:Nat->Value,(λj=>if j=33 then .bool (op.k==2)else v' j)=v:=⟨_,rfl⟩;have hvk:v 33=.bool (op.k==2):=by rw[<-hv];rfl
 rw[hv];clear hv;refine zq1a Y.jc (t:=(op.k==2)) (by show(doF T.db k sv op b7 b8 v)[33]?.getD undef=_;unfold doF;exact hvk) ?_;clear hvk v'
 by_cases hk2:op.k=2
 . rw[if_pos (by simp[hk2])];rw[if_pos hk2]at hA;refine edo_c2 Y hst hk hN hc HD.out HK.out (λs a w h=>?_) (λs ch a w h=>?_) hA
   . simp only[thenJ,zq1y,bodyC];exact h
   . exact⟨rfl,h⟩
 rw[if_neg (by simp[hk2])];rw[if_neg hk2]at hA;clear hk2;refine YSys.seqX (λt B'=>(∃v,t=(doF T.db k sv op b7 b8 v).setIfInBounds 41 (.bool (op.k==3)))/\B'=Bq) hA (by kernel_rfl) ?_ ?_
 . intro wc hB X0 hX0;have HX0:=Lib.hid hX0;clear hX0;have HOM:=Lib.hid (OMoved.ext hB.own (Ext1.refl wc));unfold doF;go_wp2;exact⟨rfl,HX0.out _ _ _ HOM.out ⟨⟨λj=>if j=42 then .bool (op.k==3)else v j,rfl⟩,rfl⟩⟩
 rintro _ Bz w ⟨⟨v',hv⟩,hBz⟩ hA;have hcd:(doF T.db k sv op b7 b8 v').setIfInBounds 41 (.bool (op.k==3))=doF T.db k sv op b7 b8 (λj=>if j=41 then .bool (op.k==3)else v' j):=rfl;rw[hcd]at hv;subst hv;rw[hBz]at hA;clear hBz hcd v;obtain⟨v,hv⟩:∃v:Nat->Value,(λj=>if j=41 then .bool (op.k==3)else v' j)=v:=⟨_,rfl⟩;have hvk:v 41=.bool (op.k==3):=by rw[<-hv];rfl
 rw[hv];clear hv;refine zq1a Y.jc (t:=(op.k==3)) (by show(doF T.db k sv op b7 b8 v)[41]?.getD undef=_;unfold doF;exact hvk) ?_;clear hvk v'
 by_cases hk3:op.k=3
 . rw[if_pos (by simp[hk3])];rw[if_pos hk3]at hA;refine edo_c3 Y hst hk hN hc HD.out HK.out (λs a w h=>?_) (λs ch a w h=>?_) hA
   . simp only[thenJ,zq1y,bodyC];exact h
   . exact⟨rfl,h⟩
 rw[if_neg (by simp[hk3])];rw[if_neg hk3]at hA;clear hk3;refine YSys.seqX (λt B'=>(∃v,t=(doF T.db k sv op b7 b8 v).setIfInBounds 56 (.bool (op.k==4)))/\B'=Bq) hA (by kernel_rfl) ?_ ?_
 . intro wc hB X0 hX0;have HX0:=Lib.hid hX0;clear hX0;have HOM:=Lib.hid (OMoved.ext hB.own (Ext1.refl wc));unfold doF;go_wp2;exact⟨rfl,HX0.out _ _ _ HOM.out ⟨⟨λj=>if j=57 then .bool (op.k==4)else v j,rfl⟩,rfl⟩⟩
 rintro _ Bz w ⟨⟨v',hv⟩,hBz⟩ hA;have hcd:(doF T.db k sv op b7 b8 v').setIfInBounds 56 (.bool (op.k==4))=doF T.db k sv op b7 b8 (λj=>if j=56 then .bool (op.k==4)else v' j):=rfl;rw[hcd]at hv;subst hv;rw[hBz]at hA;clear hBz hcd v;obtain⟨v,hv⟩:∃v:Nat->Value,(λj=>if j=56 then .bool (op.k==4)else v' j)=v:=⟨_,rfl⟩;have hvk:v 56=.bool (op.k==4):=by rw[<-hv];rfl
 rw[hv];clear hv;refine zq1a Y.jc (t:=(op.k==4)) (by show(doF T.db k sv op b7 b8 v)[56]?.getD undef=_;unfold doF;exact hvk) ?_;clear hvk v'
 by_cases hk4:op.k=4
 . rw[if_pos (by simp[hk4])];rw[if_pos hk4]at hA;refine edo_c4 Y hst hk hN hc HD.out HK.out (λs a w h=>?_) (λs ch a w h=>?_) hA
   . simp only[thenJ,zq1y,bodyC];exact h
   . exact⟨rfl,h⟩
 rw[if_neg (by simp[hk4])];rw[if_neg hk4]at hA;clear hk4;refine YSys.seqX (λt B'=>(∃v,t=(doF T.db k sv op b7 b8 v).setIfInBounds 71 (.bool (op.k==5)))/\B'=Bq) hA (by kernel_rfl) ?_ ?_
 . intro wc hB X0 hX0;have HX0:=Lib.hid hX0;clear hX0;have HOM:=Lib.hid (OMoved.ext hB.own (Ext1.refl wc));unfold doF;go_wp2;exact⟨rfl,HX0.out _ _ _ HOM.out ⟨⟨λj=>if j=72 then .bool (op.k==5)else v j,rfl⟩,rfl⟩⟩
 rintro _ Bz w ⟨⟨v',hv⟩,hBz⟩ hA;have hcd:(doF T.db k sv op b7 b8 v').setIfInBounds 71 (.bool (op.k==5))=doF T.db k sv op b7 b8 (λj=>if j=71 then .bool (op.k==5)else v' j):=rfl;rw[hcd]at hv;subst hv;rw[hBz]at hA;clear hBz hcd v;obtain⟨v,hv⟩:∃v:Nat->Value,(λj=>if j=71 then .bool (op.k==5)else v' j)=v:=⟨_,rfl⟩;have hvk:v 71=.bool (op.k==5):=by rw[<-hv];rfl
 rw[hv];clear hv;refine zq1a Y.jc (t:=(op.k==5)) (by show(doF T.db k sv op b7 b8 v)[71]?.getD undef=_;unfold doF;exact hvk) ?_;clear hvk v'
 by_cases hk5:op.k=5
 . rw[if_pos (by simp[hk5])];rw[if_pos hk5]at hA;refine edo_c5 Y hst hk hN hc HD.out HK.out (λs a w h=>?_) (λs ch a w h=>?_) hA
   . simp only[thenJ,zq1y,bodyC];exact h
   . exact⟨rfl,h⟩
 rw[if_neg (by simp[hk5])];rw[if_neg hk5]at hA;clear hk5;refine zq28 Y.jc ?_;have H8:=Lib.hid HD.out.h8;have HLE:=Lib.hid HD.out.hle;have HN:=Lib.hid HD.out.hn;show wpJ Y.J _ _ _ _ _;unfold doF;refine YSys.seqX (λt B'=>t.getD 8 undef=.pointer (some ⟨b8,0,none⟩)/\B'=upB Bq b8 (.cells #[.bool false,.int .i64 0,.slice none 0 0] 48)) hA (by kernel_rfl) ?_ ?_
 . intro wc hB X0 hX0;have HX0:=Lib.hid hX0;clear hX0;have k8:=hB.own.box b8 _ H8.out;have c80:wc.cell? ⟨b8,0,none⟩=some (.bool false):=(zq0 k8).trans rfl;have c81:wc.cell? ⟨b8,1,none⟩=some (.int .i64 0):=(zq0 k8).trans rfl;have c82:wc.cell? ⟨b8,2,none⟩=some (.slice none 0 0):=(zq0 k8).trans rfl;have f80:wc.frozen? ⟨b8,0,none⟩=false:=zq6 k8;have f81:wc.frozen? ⟨b8,1,none⟩=false:=zq6 k8;have f82:wc.frozen? ⟨b8,2,none⟩=false:=zq6 k8;have hm:=OMoved.set3 (o1:=0) (o2:=1) (o3:=2) hB.own H8.out (.bool false) (.int .i64 0) (.slice none 0 0);have HM:=Lib.hid hm;clear hm k8;go_wp2;exact⟨rfl,HX0.out _ _ _ HM.out ⟨rfl,rfl⟩⟩
 rintro t _ w ⟨ht8,rfl⟩ hA;refine zq1r Y.jc ?_;refine YSys.left hA (v:=.agg #[.bool false,.int .i64 0,.slice none 0 0]) (λwc hB=>results_cell_row rfl t wc b8 48 _ _ _ ht8 (hB.own.box b8 _ (upB_same _ _ _)) rfl rfl rfl) λw hA=>?_;exact⟨Ans.none,λ_=>none,AnsV.plain _ _ _,λb hb=>absurd rfl hb,hA.drop (zq38 HLE.out HN.out)⟩
end
theorem zq8p(n:Nat)(st:Nat)(w:World):(Go.method (n+1) 150 (.pointer (some ⟨st,0,none⟩)) "Step").run Try.prog w=.ok (81,.pointer (some ⟨st,0,none⟩)) w:=by kernel_rfl
theorem zq8q(n:Nat)(st:Nat)(w:World)(es:Array Event):(Go.method (n+1) 150 (.pointer (some ⟨st,0,none⟩)) "Step").events Try.prog w es=es:=by kernel_rfl
section
variable {Ml S β:Type} {C:Core Ml S} {ro:Nat->Option Obj} {i:Nat}
theorem zqjk(Y:YSys Try.prog aM C ro i β){st:Nat}(h:StepY Y 81 #[.pointer (some ⟨st,0,none⟩)]):StepY Y 49 #[.iface 150 (.pointer (some ⟨st,0,none⟩))]:=by
 intro K s m w hA;refine BodyY.calls ⟨_,_,Try.func49,rfl,?_⟩;simp only[zqw,Try.ntmps49,List.size_toArray,List.length_cons,List.length_nil,Nat.reduceAdd,Nat.reduceSub,Array.replicate_succ,Array.replicate_zero,List.push_toArray,List.append_toArray,List.nil_append,List.cons_append];have hA:Y.AtB (m.box i) s w (Proc.tick.bind K):=⟨m,rfl,hA⟩;obtain⟨B,hB0⟩:∃B,m.box i=B:=⟨_,rfl⟩;rw[hB0]at hA |-;clear hB0;apply YSys.seq0 hA (by kernel_rfl)
 . intro wc hB;go_wp2;exact⟨rfl,Ext1.refl _,rfl⟩
 intro w hA;refine zq1a Y.jc rfl ?_;rw[if_pos rfl];refine zq15 Y.jc ?_;apply YSys.callS 0 1 0 hA h rfl rfl rfl (by rfl) rfl rfl rfl
 . intro wc hB X hX;have HX:=Lib.hid hX;clear hX;go_wp2;exact HX.out _ (Ext1.refl _)
 . intro w;simp[go_sem,execOp,Act.eval,resolve,Deferred.ofValue,invoke,callFunc,zq8p,zq8q,Try.func81,Try.f81]
 . intro w;simp[go_sem,execOp,Act.eval,resolve,Deferred.ofValue,invoke,callFunc,zq8p,zq8q,Try.func81,Try.f81]
 . intro s' ch w' h;exact⟨rfl,h⟩
 intro s w hA;refine zq2l Y.jc ?_;exact⟨rfl,.inl ⟨_,resultsC_none rfl _,(),hA.choose,rfl,hA.choose_spec⟩⟩
end
end Go.Proofs
namespace Go.Car
open Go Go.Conc Go.RowKit
def Tree.DeepO {S O α:Type}(ow:S->O):Nat->S->Tree S α->Prop
 |0,_,_=>True
 |_+1,_,.ret _=>True
 |_+1,_,.out=>False
 |n+1,s,.step u k=>∀s',ow s'=ow s->(k s').DeepO ow n (u s')
theorem Tree.DeepO.less {S O α:Type}{ow:S->O}{n:Nat}:∀{m:Nat}{s:S}{t:Tree S α},m<=n->t.DeepO ow n s->t.DeepO ow m s:=by
 induction n with
 |zero=>intro m s t h _;obtain rfl:m=0:=by omega
        cases t<;>trivial
 |succ n ih=>
  intro m s t h hd;cases m with
  |zero=>cases t<;>trivial
  |succ m=>
   cases t with
   |ret a=>trivial
   |out=>exact hd
   |step u k=>exact λs' e=>ih (by omega) (hd s' e)
theorem Tree.DeepO.own {S O α:Type}{ow:S->O}{n:Nat}{s s':S}{t:Tree S α}(h:t.DeepO ow n s)(e:ow s'=ow s):t.DeepO ow n s':=by
 cases n with
 |zero=>cases t<;>trivial
 |succ n=>
  cases t with
  |ret a=>trivial
  |out=>exact h
  |step u k=>exact λs2 e2=>h s2 (e2.trans e)
def Proc.DeepO {S O α:Type}(ow:S->O)(n:Nat)(s:S)(p:Proc S α):Prop:=(p s).2.DeepO ow n (p s).1
section
variable {Ml S:Type}
def zq1g{O:Type}(C:Core Ml S)(own:Nat->S->O)(ro:Nat->Option Obj)(pr:Nat->Proc S Unit):Thr (TM Ml S) where
 foot m b:=m.bm.foot C ro b
 Rep m w:=BRep C ro m.bm w/\∀i,(m.at' i).DeepO (own i) (m.room+1) (C.st m.bm.l)
 Start i m o:=Came C own i (pr i (C.st m.bm.l)) m m.room o
 Go i m o:=∃u k,m.at' i=.step u k/\Came C own i (u (C.st m.bm.l),k (C.st m.bm.l)) m (m.room - 1) o
 Kill i m m':=C.st m'.bm.l=C.st m.bm.l/\m'.at'=m.at'/\m'.bm.box=m.bm.box/\m'.room=m.room - 1
 Same i m m':=m'.at' i=m.at' i/\m'.bm.box i=m.bm.box i/\m'.room<=m.room/\own i (C.st m'.bm.l)=own i (C.st m.bm.l)
 left m:=m.room
 frame m w w' h hs:=⟨h.1.frame hs,h.2⟩
 lt m w b h hb:=h.1.lt hb
 refl i m:=⟨rfl,rfl,Nat.le_refl _,rfl⟩
 trans i a b c h k:=⟨k.1.trans h.1,k.2.1.trans h.2.1,Nat.le_trans k.2.2.1 h.2.2.1,k.2.2.2.trans h.2.2.2⟩
 start_same i j m o hij h:=⟨(h.others i hij).1,(h.others i hij).2,by rw[h.room];exact Nat.le_refl _,by rw[h.st];exact h.oth i hij⟩
 go_same i j m o hij h:=by
  obtain⟨u,k,_,h⟩:=h;exact⟨(h.others i hij).1,(h.others i hij).2,by rw[h.room];omega,by rw[h.st];exact h.oth i hij⟩
 kill_same i j m m' hij h:=⟨by rw[h.2.1],by rw[h.2.2.1],by rw[h.2.2.2];omega,by rw[h.1]⟩
section
variable {P:Program} {A:FuncId->Bool} {O:Type} {own:Nat->S->O} {C:Core Ml S} {ro:Nat->Option Obj} {pr:Nat->Proc S Unit} {fStep:FuncId} {sx:Value} {cr:Frame} {rest:List Frame} {NE EN:List PanicEntry->Prop} {i:Nat}
structure TurnAt2{O:Type}(P:Program)(C:Core Ml S)(own:Nat->S->O)(ro:Nat->Option Obj)(pr:Nat->Proc S Unit)(fStep:FuncId)(sx:Value)(cr:Frame)(rest:List Frame)(NE EN:List PanicEntry->Prop)(i:Nat)(s:Turn P Ml S)(m:BM Ml)(w:World)(r:S×Tree S Unit):Prop where
 env:Env P (zq1g C own ro pr) s.Kc s.X s.J s.m₀ s.w₀
 conts:Conts P (zq1g C own ro pr) fStep sx cr rest NE (Susp P (zq1g C own ro pr) fStep sx cr rest NE EN i s.k) s.R s.room s.J s.m₀ s.w₀
 grow:Grow (zq1g C own ro pr) s.m₀ s.w₀ ⟨m,s.m₀.at',s.room⟩ w
 rep:BRep C ro m w
 deep:∀j,j≠i->(s.m₀.at' j).DeepO (own j) (s.room+1) (C.st s.m₀.bm.l)
 deepr:r.2.DeepO (own i) (s.room+1) r.1
 others:∀j,j≠i->m.box j=s.m₀.bm.box j
 oth:∀j,j≠i->own j (C.st m.l)=own j (C.st s.m₀.bm.l)
 come:∀o,Came C own i r s.m₀ s.room o->s.R s.m₀ o
theorem TurnAt2.rows_none {s:Turn P Ml S}{m:BM Ml}{w:World}{r:S×Tree S Unit}(h:TurnAt2 P C own ro pr fStep sx cr rest NE EN i s m w r){b:Nat}(hb:m.foot C ro b):s.X b=none:=by
 have hE:=h.env.grow h.grow;cases hx:s.X b with
 |none=>rfl
 |some p=>exact absurd hb (hE.free b p hx)
theorem TurnAt2.cut {s:Turn P Ml S}{m:BM Ml}{w:World}{r:S×Tree S Unit}(h:TurnAt2 P C own ro pr fStep sx cr rest NE EN i s m w r){wc:World}(hcut:∃τ d,Cut s.X (re w τ d) wc):BRep C ro m wc:=by
 obtain⟨τ,d,hcut⟩:=hcut;exact h.rep.frame λb hb=>hcut.no b (h.rows_none hb)
theorem TurnAt2.moved {s:Turn P Ml S}{m:BM Ml}{w:World}{r:S×Tree S Unit}(h:TurnAt2 P C own ro pr fStep sx cr rest NE EN i s m w r){wc wc' w':World}{l':Ml}{B':Nat->Option Obj}(hcut:∃τ d,Cut s.X (re w τ d) wc)(k:Moved C m.l (m.box i) wc l' B' wc')(hcut':Cut s.X w' wc'):Moved C m.l (m.box i) w l' B' w':=by
 obtain⟨τ,d,hcut⟩:=hcut;have hE:=h.env.grow h.grow;have hs1:wc.heap.size=w.heap.size:=hcut.size;have hs2:wc'.heap.size=w'.heap.size:=hcut'.size;have lt:∀b x,s.X b=some x->b<w.heap.size:=λb x hx=>by obtain⟨c,e⟩:=x;exact zqc (hE.rows b c e hx)
 have hnew:∀b,w.heap.size<=b->s.X b=none:=λb hb=>by
  cases hx:s.X b with
  |none=>rfl
  |some p=>exact absurd (lt b p hx) (Nat.not_lt_of_le hb)
 have hX:∀b,(m.foot C ro b\/wc.heap.size<=b)->s.X b=none:=λb hb=>hb.elim h.rows_none λhb=>hnew b (by omega);have gl:∀b,C.foot l' b->s.X b=none:=λb hb=>hX b ((k.growl b hb).elim (λx=>.inl (.inl x)) (λx=>x.elim (λy=>.inl (.inr (.inl ⟨i,y⟩))) .inr));have gb:∀b,B' b≠none->s.X b=none:=λb hb=>hX b ((k.growb b hb).imp (λx=>.inr (.inl ⟨i,x⟩)) id);refine⟨by have:=k.size;omega,λb hb h1 h2=>?_,C.frame _ _ _ k.rep λb hb=>(hcut'.no b (gl b hb)).symm,λb o hb=>?_,λb hb=>(k.growl b hb).imp id (λx=>x.imp id λx=>by omega),λb hb=>(k.growb b hb).imp id (λx=>by omega),k.apart,k.pin⟩
 . have hold:=k.old b (by omega) h1 h2;cases hx:s.X b with
   |none=>rw[<-hcut'.no b hx,hold];exact hcut.no b hx
   |some p=>
    obtain⟨c,e⟩:=p;rw[(hcut'.is b c e hx).1];exact((hcut.is b c e hx).1).symm
 . rw[<-hcut'.no b (gb b (by rw[hb];simp))];exact k.box b o hb
theorem TurnAt2.done {s:Turn P Ml S}{m:BM Ml}{w w':World}{r:S×Tree S Unit}{l':Ml}{B':Nat->Option Obj}(h:TurnAt2 P C own ro pr fStep sx cr rest NE EN i s m w r)(k:Moved C m.l (m.box i) w l' B' w')(ho:∀j,j≠i->own j (C.st l')=own j (C.st m.l)):TurnAt2 P C own ro pr fStep sx cr rest NE EN i s (m.put i l' B') w' r:=
 ⟨h.env,h.conts,h.grow.trans ⟨k.size,Moved.foot_old h.rep k,k.foot_grow⟩,k.done h.rep,h.deep,h.deepr,λj hj=>(BM.put_other _ _ _ hj).trans (h.others j hj),λj hj=>(ho j hj).trans (h.oth j hj),h.come⟩
def zq5j{O:Type}(hP:Plain P A)(hRS:RowsS P A)(C:Core Ml S)(own:Nat->S->O)(ro:Nat->Option Obj)(pr:Nat->Proc S Unit)(fStep:FuncId)(sx:Value)(cr:Frame)(rest:List Frame)(NE EN:List PanicEntry->Prop)(i:Nat):Alone P A C ro i Unit where
 main:=false
 γ:=Turn P Ml S
 J s:=s.J
 js s:=⟨s.Kc,s.js⟩
 AtE:=TurnAt2 P C own ro pr fStep sx cr rest NE EN i
 Dead s ch w:=s.J (G (cr.raise ch) rest) w
 Oth a b:=∀j,j≠i->own j b=own j a
 oth _ _ _:=rfl
 rep h:=h.rep
 move h k ho:=h.done k ho
 item {s m w r it t ds} Φ Ψ h hok hw:=by
  have hE:=h.env.grow h.grow;intro b k cs hb hk;refine wpI_away (J:=λ(_:Unit)=>s.J) (s:=()) (main:=false) (Kc:=s.Kc) (X:=s.X) (A:=A) (a:=⟨t,ds⟩) (w:=w)
   (Q:=λ_ e a w'=>a.defers=ds/\∃l' B',((e=.normal/\Φ a.tmps l' B')\/(e=.ret/\Ψ a.tmps l' B'))/\TurnAt2 P C own ro pr fStep sx cr rest NE EN i s (m.put i l' B') w' r) hE.js hE.calm hP hRS hok
   (λa w'=>∃wc,(∃τ d,Cut s.X (re w τ d) wc)/\∃l' B',(Moved C m.l (m.box i) wc l' B' w'/\∀j,j≠i->own j (C.st l')=own j (C.st m.l))/\Φ a.tmps l' B') (λa w'=>∃wc,(∃τ d,Cut s.X (re w τ d) wc)/\∃l' B',(Moved C m.l (m.box i) wc l' B' w'/\∀j,j≠i->own j (C.st l')=own j (C.st m.l))/\Ψ a.tmps l' B')
   (λa w' τ d⟨wc,h1,l',B',h2,h3⟩=>⟨wc,h1,l',B',⟨h2.1.re τ d,h2.2⟩,h3⟩) (λa w' τ d⟨wc,h1,l',B',h2,h3⟩=>⟨wc,h1,l',B',⟨h2.1.re τ d,h2.2⟩,h3⟩) hE.rows ?_ ?_ ?_ b k cs hb ?_
  . intro wc hc;refine zq2t (hw wc (h.cut hc) (by obtain⟨τ,d,hc⟩:=hc;exact hc.size)) ?_;intro e a w' q;cases e with
    |normal=>exact⟨q.1,wc,hc,q.2⟩
    |ret=>exact⟨q.1,wc,hc,q.2⟩
    |_=>exact q
  . rintro t' wc' w' ⟨wc,hc,l',B',h2,h3⟩ hc' _;exact⟨rfl,l',B',.inl ⟨rfl,h3⟩,h.done (h.moved hc h2.1 hc') h2.2⟩
  . rintro t' wc' w' ⟨wc,hc,l',B',h2,h3⟩ hc' _;exact⟨rfl,l',B',.inr ⟨rfl,h3⟩,h.done (h.moved hc h2.1 hc') h2.2⟩
  . rintro _ e a w' ⟨h1,l',B',h2,h3⟩;have:=hk s e a w' ⟨rfl,h1,l',B',h2,h3⟩;cases e<;>exact this
 call {s m w r f fn c args} R h hf hb hok hw:=by
  have hE:=h.env.grow h.grow;intro cl cs h1 h2;refine zqce (J:=λ(_:Unit)=>s.J) (s:=()) (main:=false) (Kc:=s.Kc) (X:=s.X) (A:=A) (w:=w) hE.js hE.calm hP hRS hf hb hok (R:=λv w'=>∃wc,(∃τ d,Cut s.X (re w τ d) wc)/\∃l' B',(Moved C m.l (m.box i) wc l' B' w'/\∀j,j≠i->own j (C.st l')=own j (C.st m.l))/\R v l' B')
   (λv w' τ d⟨wc,h1,l',B',h2,h3⟩=>⟨wc,h1,l',B',⟨h2.1.re τ d,h2.2⟩,h3⟩) hE.rows ?_ (Post:=λ_ e w'=>∃v l' B',e=.returned v/\R v l' B'/\TurnAt2 P C own ro pr fStep sx cr rest NE EN i s (m.put i l' B') w' r) ?_ cl cs ?_ ?_
  . intro wc hc;refine Calls.mono (hw wc (h.cut hc) (by obtain⟨τ,d,hc⟩:=hc;exact hc.size)) ?_;intro e w' q;cases e with
    |returned v=>exact⟨wc,hc,q⟩
    |_=>exact q
  . rintro v wc' w' ⟨wc,hc,l',B',k1,k2⟩ hc' _;exact⟨v,l',B',rfl,k2,h.done (h.moved hc k1.1 hc') k1.2⟩
  . rintro _ v w' hp;exact h1 s v w' ⟨rfl,hp⟩
  . rintro _ ch w' ⟨v,l',B',k1,_⟩;cases k1
abbrev zq37(hP:Plain P A)(hRS:RowsS P A)(C:Core Ml S)(own:Nat->S->O)(ro:Nat->Option Obj)(pr:Nat->Proc S Unit)(fStep:FuncId)(sx:Value)(cr:Frame)(rest:List Frame)(NE EN:List PanicEntry->Prop)(i:Nat)(I:S->Prop):YSys P A C ro i Unit:=(zq5j hP hRS C own ro pr fStep sx cr rest NE EN i).sys I
theorem zqlv(hP:Plain P A)(hRS:RowsS P A){I:S->Prop}(hIo:∀s s',own i s'=own i s->I s->I s'):StepY (zq37 hP hRS C own ro pr fStep sx cr rest NE EN i I) fStep #[sx]:=by
 rintro K s m w ⟨h,hI⟩ cl cs h1 h2;have hE:=h.env.grow h.grow
 let m':TM Ml S:=⟨m,λj=>if j=i then(Proc.tick.bind K (C.st m.l)).2 else s.m₀.at' j,s.room⟩
 have hm':m'.at' i=(Proc.tick.bind K (C.st m.l)).2:=by simp[m']
 have hmo:∀j,j≠i->m'.at' j=s.m₀.at' j:=λj hj=>by simp[m',hj]
 refine h.conts.yield m' cl cs w (h.come _ ⟨rfl,hm',λj hj=>⟨hmo j hj,h.others j hj⟩,rfl,λj hj=>h.oth j hj,rfl⟩) ⟨h.grow.size,h.grow.old,h.grow.grow⟩ ⟨h.rep,λj=>?_⟩ (Nat.le_refl _) ?_
 . show(m'.at' j).DeepO (own j) (s.room+1) (C.st m.l)
   by_cases hj:j=i
   . subst hj;rw[hm'];exact h.deepr
   . rw[hmo j hj];exact(h.deep j hj).own (h.oth j hj)
 . cases hk:s.k with
   |zero=>trivial
   |succ k=>
    intro Kc' X' J' m1 w1 hE1 hSame hRep hleft;obtain⟨hsa,hsb,hsr,hso⟩:=hSame;have hleft':0<m1.room:=hleft;have hat:m1.at' i=(Proc.tick.bind K (C.st m.l)).2:=hsa.trans hm'
    let s':Turn P Ml S:=⟨Kc',X',J',hE1.js,m1,w1,(zq1g C own ro pr).Go i,m1.room - 1,k⟩
    constructor
    . intro hC;refine h1 s' (.tuple #[]) w1 ⟨(),m1.bm,rfl,hsb,?_,hIo _ _ hso hI⟩;have hd:=hRep.2 i;rw[hat]at hd;refine⟨hE1,hC,⟨Nat.le_refl _,λ_ _ _=>rfl,λ_ h=>.inl h⟩,hRep.1,λj _=>?_,?_,λ_ _=>rfl,λ_ _=>rfl,λo ho=>?_⟩
      . exact Tree.DeepO.less (by show m1.room - 1+1<=m1.room+1;omega) (hRep.2 j)
      . have:=hd (C.st m1.bm.l) rfl;exact Tree.DeepO.less (by show m1.room - 1+1<=m1.room;omega) this
      . exact⟨_,_,hat,ho⟩
    . intro ch hch hmain;refine h2 s' ch w1 ?_;refine hmain ⟨m1.bm,m1.at',m1.room - 1⟩ ch w1 hch ⟨rfl,rfl,rfl,rfl⟩ ⟨Nat.le_refl _,λ_ _ _=>rfl,λ_ h=>.inl h⟩ ⟨hRep.1,λj=>?_⟩ (Nat.le_refl _);exact Tree.DeepO.less (by show m1.room - 1+1<=m1.room+1;omega) (hRep.2 j)
theorem zqlu(hP:Plain P A)(hRS:RowsS P A){ti:TypeId}{m₀:TM Ml S}{f:FuncId}{first caps:Array Value}{fn:Func}{c:Code}(hf:P.funcs[f]?=some fn)(hb:fn.body=some c)(hn:(fn.name== "runtime.NumGoroutine")=false)(hpd:∀s,own i s=own i (C.st m₀.bm.l)->∀n,(pr i).DeepO (own i) n s)
 (hspec:∀(st:Nat)(cr:Frame)(rest:List Frame)(EN:List PanicEntry->Prop)(s:Turn P Ml S)(m:BM Ml)(w:World),TurnAt2 P C own ro pr fStep (.pointer (some ⟨st,0,none⟩)) cr rest NE EN i s m w ((pr i).bind Proc.ret (C.st m.l))->own i (C.st m.l)=own i (C.st m₀.bm.l)->
  zq1l P (λ(s:Turn P Ml S)=>s.J) f (first++#[.iface ti (.pointer (some ⟨st,0,none⟩))]++caps) (λs e w=>match e with
   |.returned _=>∃m',TurnAt2 P C own ro pr fStep (.pointer (some ⟨st,0,none⟩)) cr rest NE EN i s m' w (C.st m'.l,.ret ())
   |.panicked ch=>s.J (G (cr.raise ch) rest) w
   |.outgrown=>False) s w):
 Runs P (zq1g C own ro pr) fStep ti NE m₀ i (.func (.func f) first caps):=by
 refine .inr ⟨f,first,caps,fn,c,rfl,hf,hb,hn,?_⟩;intro cr rest st EN k Kc X J m w hE hRep hSame hC
 let s:Turn P Ml S:=⟨Kc,X,J,hE.js,m,w,(zq1g C own ro pr).Start i,m.room,k⟩
 have hAt:TurnAt2 P C own ro pr fStep (.pointer (some ⟨st,0,none⟩)) cr rest NE EN i s m.bm w ((pr i).bind Proc.ret (C.st m.bm.l)):=by
  rw[Proc.bind_pure];exact⟨hE,hC,⟨Nat.le_refl _,λ_ _ _=>rfl,λ_ h=>.inl h⟩,hRep.1,λj _=>hRep.2 j,hpd _ hSame.2.2.2 _,λ_ _=>rfl,λ_ _=>rfl,λo ho=>ho⟩
 refine hspec st cr rest EN s m.bm w hAt hSame.2.2.2 cr rest ?_ ?_
 . rintro s' v w' ⟨m',hA'⟩
   let m'':TM Ml S:=⟨m',λj=>if j=i then .ret ()else s'.m₀.at' j,s'.room⟩
   have hm':m''.at' i=.ret ():=by simp[m'']
   have hmo:∀j,j≠i->m''.at' j=s'.m₀.at' j:=λj hj=>by simp[m'',hj]
   refine hA'.conts.done m'' _ w' (hA'.come _ ⟨rfl,hm',λj hj=>⟨hmo j hj,hA'.others j hj⟩,rfl,λj hj=>hA'.oth j hj,rfl⟩) ⟨hA'.grow.size,hA'.grow.old,hA'.grow.grow⟩ ⟨hA'.rep,λj=>?_⟩ (Nat.le_refl _);show(m''.at' j).DeepO (own j) (s'.room+1) (C.st m'.l)
   by_cases hj:j=i
   . subst hj;rw[hm'];trivial
   . rw[hmo j hj];exact(hA'.deep j hj).own (hA'.oth j hj)
 . intro s' ch w' hD;exact hD
end
end
end Go.Car
def Go.Car.ownE {S1 O1:Type}(oe:Nat->S1->O1)(i:Nat)(s:S1×(Nat->List Go.Car.Ans)):List Go.Car.Ans×O1:=(s.2 i,oe i s.1)
