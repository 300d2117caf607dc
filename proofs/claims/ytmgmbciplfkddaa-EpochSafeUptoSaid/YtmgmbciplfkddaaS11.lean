/- YtmgmbciplfkddaaESaf16: part 11 of the proof (the texts behind it, in order). -/
import Derived.Test.YtmgmbciplfkddaaS10
set_option maxHeartbeats 4000000
set_option maxRecDepth 100000
set_option linter.all false
namespace Go.Car
open Go
structure RTh where
 at':Nat
 pc:Nat
 n:Nat->Int
 ans:List Ans
 en:Bool
structure RM(S1:Type)where
 bg:Nat->OpX->S1->RTh->S1×RTh
 stp:Nat->OpX->S1->RTh->S1×RTh
section
variable {S1:Type}
variable {M:RM S1} {dop:Nat->OpX->Proc (S1×(Nat->List Ans)) Ans} {Ok:Nat->OpX->RTh->Prop} {cont:Nat->OpX->RTh->Proc (S1×(Nat->List Ans)) Ans} {i:Nat} {ops:List OpX}
variable {n N:Nat} {ops':Nat->List OpX} {a:TSt (S1×(Nat->List Ans))} {C C₀:S1} {T:Nat->RTh}
end
section
variable {S1:Type}
variable {M:RM S1} {dop:Nat->OpX->Proc (S1×(Nat->List Ans)) Ans} {Ok:Nat->OpX->RTh->Prop} {cont:Nat->OpX->RTh->Proc (S1×(Nat->List Ans)) Ans} {Q:Nat->S1->RTh->Prop} {L:Nat} {i:Nat} {ops:List OpX}
variable {n N:Nat} {ops':Nat->List OpX} {a:TSt (S1×(Nat->List Ans))} {C C₀:S1} {T:Nat->RTh}
end
end Go.Car
namespace Go.Proofs
open Go Go.Conc Go.RowKit Go.Car
abbrev SE:=EpS×(Nat->List Ans)
def aC(l:List Int):Proc SE Ans:=Proc.ret ⟨true,0,l⟩
section
variable {N:Nat}
end
section
variable {N:Nat}
end
set_option maxHeartbeats 16000000
section
variable {Ml S β:Type} {C:Core Ml S} {ro:Nat->Option Obj} {i:Nat}
end
section
variable {Ml S β:Type} {C:Core Ml S} {ro:Nat->Option Obj} {i:Nat}
end
section
variable {Ml S β:Type} {C:Core Ml S} {ro:Nat->Option Obj} {i:Nat}
end
section
variable {Ml S β:Type} {C:Core Ml S} {ro:Nat->Option Obj} {i:Nat}
end
end Go.Proofs
namespace Go.Car
open Go Go.Conc Go.RowKit
theorem hao(w:World)(o:Obj)(b:Nat)(h:b<w.heap.size):(w.alloc o).heap[b]?=w.heap[b]?:=by first|exact heap_alloc_old w o b h|exact heap_alloc_old w o h
structure Wr(X:Nat->Prop)(w w':World):Prop where
 size:w.heap.size<=w'.heap.size
 shp:∀(b:Nat)(c:Array Value)(T:TypeId),w.heap[b]?=some (.cells c T)->∃c',w'.heap[b]?=some (.cells c' T)/\c'.size=c.size
 old:∀b,b<w.heap.size->¬X b->w'.heap[b]?=w.heap[b]?
section
variable {X:Nat->Prop} {w w' w'':World}
theorem Wr.refl (X:Nat->Prop)(w:World):Wr X w w:=⟨Nat.le_refl _,λb c T h=>⟨c,h,rfl⟩,λ_ _ _=>rfl⟩
end
section
variable {P:Program}
theorem app_wr(w:World)(t ty e:TypeId)(i:TypeInfo)(z:Value)(size bytes:Nat)(ht:P.underlying t=some (.slice e))(hi:P.info? e=some i)(hz:i.zero=some z)(hsize:i.size=size)(hby:i.bytes=bytes)(hzs:z.cells.size=size)(hsz:0<size)
 {v:Value} {n:Nat} {xs:List Value} {B:Nat} (hown:w.ownsRow B e size v n xs) (hB:B<=w.heap.size) (pa:Option Addr) (m c:Nat) (news:List Value) (hl:news.length=m*size) (hnews:0<m->∃a,pa=some a/\∀j u,news[j]?=some u->w.cell? (a.add j)=some u) (h1:∀u∈news,u.oneCell'=true)
 (h63:n+m<=maxLen) (hbytes:(n+m)*bytes<=140737488355328):
 ∃v' w',(Builtin.append_ #[t,t] ty #[v,.slice pa m c]).run P w=.ok v' w'/\w'.ownsRow B e size v' (n+m) (xs++news)/\Wr (λb=>v.ownBlock=some b) w w'/\(v'.ownBlock=v.ownBlock\/v'.ownBlock=some w.heap.size)/\
  (∀g o,v.ownBlock=some g->o<n*size->w'.cell? ⟨g,o,none⟩=w.cell? ⟨g,o,none⟩)/\(m=0->w'=w/\v'=v):=by
 subst hsize;subst hby
 have hsmall:n+m<=9223372036854775807:=by simp only[maxLen]at h63;omega
 by_cases hm:m=0
 . subst hm;have hn:news=[]:=List.eq_nil_of_length_eq_zero (by simpa using hl);subst hn;refine⟨v,w,?_,by simpa using hown,Wr.refl _ _,.inl rfl,λ_ _ _ _=>rfl,λ_=>⟨rfl,rfl⟩⟩;rcases hown.2 with⟨rfl,rfl⟩|⟨g,cap,cur,rfl,hbg,hg,hnc,hcm,hcs,htake⟩
   . cases pa<;>simp[Builtin.append_,run_underlying ht,sizeOf,typeInfo,hi,Builtin.lenOf,Builtin.firstCells,loadCells,loadCellsFrom,storeCells]
   . cases pa<;>simp[Builtin.append_,run_underlying ht,sizeOf,typeInfo,hi,Builtin.lenOf,Builtin.firstCells,loadCells,loadCellsFrom,storeCells,hnc]
 . obtain⟨a,rfl,hnw⟩:=hnews (Nat.pos_of_ne_zero hm);clear hnews;rcases hown.2 with⟨rfl,rfl⟩|⟨g,cap,cur,rfl,hbg,hg,hnc,hcm,hcs,htake⟩
   . obtain⟨g,cap,w',hr,h2,h3,h4,_⟩:=run_append_lies (P:=P) w t ty B e i z i.size i.bytes ht hi hz rfl rfl hzs hsz _ 0 xs hown a m c news hl hnw h1 (Nat.pos_of_ne_zero hm) h63 hbytes hB _ rfl;have same:∀b,b<w.heap.size->w'.heap[b]?=w.heap[b]?:=λb hb=>h3.block b hb (by simp[Value.ownBlock]);refine⟨_,_,hr,h2,⟨h3.size,λb c T hb=>⟨c,(same b (zqi hb)).trans hb,rfl⟩,λb hb _=>same b hb⟩,?_,λg o h=>(by simp[Value.ownBlock]at h),λh=>absurd h hm⟩;rcases h4 with h|h
     . simp[Value.ownBlock]at h
     . exact .inr (by simp[Value.ownBlock,h])
   . have hlen:(xs++news).length=(n+m)*i.size:=by rw[List.length_append,hown.1,hl,Nat.add_mul]
     by_cases hroom:n+m<=cap
     . have hfit:n*i.size+news.length<=cur.size:=by rw[hl,hcs,<-Nat.add_mul];exact Nat.mul_le_mul_right _ hroom
       have hr:=run_append_room (P:=P) w t ty e i ht hi g n cap cur hg a m c news hl hnw h1 hroom hfit;have hsz2:(cur.toList.take (n*i.size)++news++cur.toList.drop (n*i.size+news.length)).toArray.size=cur.size:=by
        simp only[List.size_toArray,List.length_append,List.length_take,List.length_drop,Array.length_toList];omega
       have hh:=setRow_heap w g cur (cur.toList.take (n*i.size)++news++cur.toList.drop (n*i.size+news.length)).toArray e (0,0) hg;refine⟨_,_,hr,⟨hlen,.inr ⟨g,cap,_,rfl,hbg,hh,hroom,hcm,by rw[hsz2,hcs],?_⟩⟩,⟨by simp,λb c T hb=>?_,λb _ hx=>setRow_other w g b _ (λe=>hx (by simp[Value.ownBlock,e]))⟩,.inl rfl,λg2 o h ho=>?_,λh=>absurd h hm⟩
       . rw[htake,<-hlen];exact List.take_left
       . by_cases e2:b=g
         . subst e2;have:=hg.symm.trans hb;simp only[al_oi,Obj.cells.injEq]at this;obtain⟨rfl,rfl,-⟩:=this;exact⟨_,hh,hsz2⟩
         . exact⟨c,(setRow_other w g b _ e2).trans hb,rfl⟩
       . simp only[Value.ownBlock,al_oi]at h;subst h;rw[zq1 hg];rw[zq1 hh,al_gl,List.append_assoc,List.getElem?_append_left (by rw[List.length_take,Array.length_toList];omega),List.getElem?_take,if_pos ho,Array.getElem?_toList]
     . have holds:∀j u,xs[j]?=some u->w.cell? ((⟨g,0,none⟩:Addr).add j)=some u:=hown.cells (g:=g) rfl;have hr:=run_append_grow (P:=P) w t ty e i z ht hi hz ⟨g,0,none⟩ n cap xs hown.1 holds a m c news hl hnw (by omega) (by omega) (growslice_fits (by omega) hbytes);have hge:=grownCap_ge w (n+m) cap e;have hcm':grownCap w (n+m) cap e<=maxLen:=grownCap_le_maxLen w (n+m) cap e h63;refine⟨_,_,hr,⟨hlen,.inr ⟨w.heap.size,_,_,rfl,hB,heap_alloc_new w.drew _,hge,hcm',?_,?_⟩⟩,⟨by simp,λb c T hb=>⟨c,(hao w.drew _ b (zqi hb)).trans hb,rfl⟩,λb hb _=>hao w.drew _ b hb⟩,.inr rfl,λg2 o h _=>?_,λh=>absurd h hm⟩
       . simp only[Array.size_append,List.size_toArray,size_zeroCells,hzs,hown.1,hl,<-Nat.add_mul];congr 1;omega
       . simp only[Array.toList_append,List.append_assoc];rw[<-List.append_assoc,<-hlen];exact List.take_left
       . simp only[Value.ownBlock,al_oi]at h;subst h;exact zq17 (hao w.drew _ g (zqi hg))
theorem zqjv{ops:Array Oper}{rest:List Oper}{o:Oper}{a:Act}{Q:Exit->Act->World->Prop}{w w':World}{v:Value}(hgd:o.guard=none)(s x:Operand)(t:TypeId)
 (ho:o.op=.call {callee:=.builtin .append,args:=#[s,x],argTypes:=#[t,t]}) (hr:(Builtin.append_ #[t,t] o.type #[a.eval s,a.eval x]).run P w=.ok v w') (h:wpList P ops Q rest (a.put o.dst v) w'):wpList P ops Q (o::rest) a w:=
 wpList_plain hgd λ_ hK=>by
  unfold Oper.wp execOp;simp only[ho,resolve,invoke,builtin,Sem.run_bind,Sem.run_pure,Result.andThen_ok,List.map_toArray,List.map_cons,List.map_nil,hr];exact hK _ _ h
end
end Go.Car
set_option maxHeartbeats 16000000
namespace Go.Proofs
open Go Go.Conc Go.RowKit Go.Car
section
variable {Ml S β:Type} {C:Core Ml S} {ro:Nat->Option Obj} {i:Nat}
end
section
variable {Ml S β:Type} {C:Core Ml S} {ro:Nat->Option Obj} {i:Nat}
end
end Go.Proofs
namespace Go.Car
open Go Go.Conc Go.RowKit
section
variable {P:Program} {A:FuncId->Bool} {Ml S β α:Type} {C:Core Ml S} {ro:Nat->Option Obj} {i:Nat} {Y:YSys P A C ro i β} {B:Nat->Option Obj}
variable {Q:Y.γ->Exit->Act->World->Prop} {s:Y.γ} {w:World} {p:Proc S β} {t:Array Value} {ds:List Deferred}
end
section
variable {P:Program} {A:FuncId->Bool} {Ml S α:Type} {C:Core Ml S} {ro:Nat->Option Obj} {i:Nat}
end
theorem jU0{P:Program}{Fin:Machine->Trace->Prop}(hFin:Back P Fin)(n:Nat):JS P true (λ_=>none) (λ(_:Unit)=>J0 P Fin n):=⟨λ_ g w τ d h=>(j0_JS hFin).re' n g w τ d h,λ_ g w h1 h2=>(j0_JS hFin).step n g w h1 h2⟩
theorem jC0{P:Program}{Fin:Machine->Trace->Prop}(hFin:Back P Fin)(n:Nat):CalmJ P true (λ(_:Unit)=>J0 P Fin n):=λ_ fr cs w h=>zq15 hFin n fr cs w h
end Go.Car
namespace Go.Proofs
open Go Go.Conc Go.RowKit Go.Car
def zCore:Core Unit Unit where
 foot _ _:=False
 Rep _ _:=True
 st _:=()
 frame _ _ _ _ _:=trivial
 lt _ _ _ _ h:=h.elim
 pin _:=0
section
variable {main:Bool} {Kc:Addr->Option Value} {J:Goroutine->World->Prop}
end
end Go.Proofs
namespace Go.Car
open Go Go.Conc Go.RowKit
section
variable {P:Program} {A:FuncId->Bool} {Ml S α:Type} {C:Core Ml S} {ro:Nat->Option Obj} {i:Nat}
theorem zqeh(hP:Plain P A){main:Bool}{Kc:Addr->Option Value}{J:Goroutine->World->Prop}(hJ:JS P main Kc (λ(_:Unit)=>J))(hC:CalmJ P main (λ(_:Unit)=>J)){f:FuncId}{args:Array Value}{p:Proc S α}{rel:α->Value->(Nat->Option Obj)->Prop}{m₀:BM Ml}{w₀:World}(hrep:BRep C ro m₀ w₀)(hT:∃a,(p.run (C.st m₀.l)).2.1=some a)(cf:Nat)
 (hspec:SpecR (zq41 hP hJ hC C ro i cf m₀ w₀ (p.run (C.st m₀.l))) f args p rel) {cl:Frame} {cs:List Frame}
 (hq:∀a v X m' w',rel a v X->(∀b,X b≠none->m₀.box i b=none)->m'.box i=orB X (m₀.box i)->LoneAt C ro i cf m₀ w₀ (p.run (C.st m₀.l)) m' w' (C.st m'.l,.ret a)->J (G (cl.finish v) cs) w'):J (G (Frame.enter P f args .normal) (cl::cs)) w₀:=by
 have h0:LoneAt C ro i cf m₀ w₀ (p.run (C.st m₀.l)) m₀ w₀ (p.bind Proc.ret (C.st m₀.l)):=by
  rw[Proc.bind_pure];exact⟨hrep,Nat.le_refl _,λ_ _ _=>rfl,λ_ h=>.inl h,⟨_,rfl,hT,rfl⟩,λ_ _=>rfl⟩
 refine hspec Proc.ret () (m₀.box i) w₀ (λ_=>trivial) ⟨m₀,rfl,h0,trivial⟩ cl cs ?_ ?_
 . rintro s' v w' ⟨a,X,k0,k1,m',k2,k3,_⟩;exact hq a v X m' w' k0 k1 k2 k3
 . intro s' ch w' hf;exact hf.elim
end
end Go.Car
namespace Go.Proofs
open Go Go.Conc Go.RowKit Go.Car
section
variable {main:Bool} {Kc:Addr->Option Value} {J:Goroutine->World->Prop}
end
section
variable {Ml S β:Type} {C:Core Ml S} {ro:Nat->Option Obj} {i:Nat}
end
def epT(db mb N:Nat):EpT:=⟨db,mb,N,81,121,125⟩
def ep0(e:Int):EpS:=⟨e,λ_=>0,λ_=>false,λ_=>[]⟩
def epM0(e:Int):EpM:=⟨ep0 e,λ_=>.slice none 0 0,λ_ _=>none⟩
theorem zqd8(w:World)(N:Nat)(hN:N<=64):(Instr.makeSlice 79 (.int .i64 N) (.int .i64 N)).run Try.prog w=.ok (.slice (some ⟨w.heap.size,0,none⟩) N N) (w.alloc (.cells (memA N (epM0 0)) 121)):=by
 obtain⟨ti,hti,hz0,hz1,hz2⟩:∃ti,Try.prog.info? 121=some ti/\ti.zero=some (.agg #[.int .i64 0,.bool false,.slice none 0 0])/\ti.size=3/\ti.bytes=40:=⟨_,rfl,rfl,rfl,rfl⟩;have:=run_make (P:=Try.prog) w 79 121 ti (.agg #[.int .i64 0,.bool false,.slice none 0 0]) (by kernel_rfl) hti hz0 .i64 .i64 N N (by omega) (Int.le_refl _) (by rw[hz2];omega) (by omega);simp only[Int.toNat_natCast,hz1]at this;rw[this];congr 3;apply Array.ext_getElem?;intro i
 by_cases hi:i<N*3
 . rw[zq2q hi];have h3:i % 3=0\/i % 3=1\/i % 3=2:=by omega
   rcases h3 with h|h|h<;>simp[madeCells,hi,Value.cells,memC,h,epM0,ep0]
 . rw[zq5p hi];simp[madeCells,hi]
structure NewDom(w:World)(db mb N:Nat)(e:Int)(w':World):Prop where
 be:Beyond w w'
 lo:w.heap.size<=db/\w.heap.size<=mb
 rep:EpRep (epT db mb N) (epM0 e) w'
theorem zq70{w:World}{db mb N:Nat}{e:Int}(h1:w.heap[db]?=some (.cells #[.int .i64 e,.slice (some ⟨mb,0,none⟩) N N] 81))(h2:w.heap[mb]?=some (.cells (memA N (epM0 e)) 121)):EpRep (epT db mb N) (epM0 e) w:=
 ⟨h1,h2,zq2a h1 h2 (by decide),(λi _=>RowB.nil _ _),λi b o _ h=>(by cases h),λi _=>rfl,λi _=>rfl,λi j b _ _ _ h=>absurd rfl h,λi _=>Nat.zero_le _⟩
theorem zq6y(N:Nat)(hN:N<=64)(w:World):Calls Try.prog 11 #[.int .i64 N] w λe w'=>∃db mb,e=.returned (.tuple #[.pointer (some ⟨db,0,none⟩),.int .i64 0])/\NewDom w db mb N 0 w':=by
 have h1:¬(N:Int)<0:=by omega
 have h2:¬(64:Int)<(N:Int):=by omega
 have h3:(N:Int)<=64:=by omega
 have hm:=zqd8 w N hN;have hR:NewDom w (w.heap.size+1) w.heap.size N 0 ((w.alloc (.cells (memA N (epM0 0)) 121)).alloc (.cells #[.int .i64 0,.slice (some ⟨w.heap.size,0,none⟩) N N] 81)):=by
  have hs:=zq8 w (.cells (memA N (epM0 0)) 121);exact⟨(Beyond.alloc _ _).trans (Beyond.alloc _ _),⟨by omega,by omega⟩,zq70 (by rw[<-hs];exact zq13 _ _) (zqt (zq13 _ _))⟩
 have HR:=Lib.hid hR;clear hR
 go_enter Try.func11,Try.ntmps11
 go_wp2
 go_ret2
 exact⟨_,rfl,_,HR.out⟩
theorem zq4i{T:EpT}{m:EpM}{w:World}(h:EpRep T m w):Calls Try.prog 18 #[.pointer (some ⟨T.db,0,none⟩)] w λe w'=>e=.returned (.int .i64 m.s.e)/\w'=w:=by
 have hl:=zq4r ⟨T.db,0,none⟩ m.s.e w h.cellE;clear h
 go_enter Try.func18,Try.ntmps18
 go_wp2_with (fail)
 refine Calls.mono hl ?_;rintro e w' ⟨rfl,rfl⟩;go_wp2;go_ret;exact⟨rfl,rfl⟩
structure NumsI(w0:World)(l:List Int)(v:Value)(w:World):Prop where
 be:Beyond w0 w
 row:w.ownsRow w0.heap.size 2 1 v l.length (l.map (Value.int .i64))
def markL(s:EpS)(n:Nat):List Int:=(List.range n).map s.mark
theorem zqda(s:EpS)(n:Nat):markL s (n+1)=markL s n++[s.mark n]:=by
 unfold markL;rw[List.range_succ,List.map_append];rfl
theorem zq5o(s:EpS)(n:Nat):(markL s n).length=n:=by simp[markL]
theorem zqdb{T:EpT}{m:EpM}{w:World}(h:EpRep T m w)(hN:T.N<=64):Calls Try.prog 20 #[.pointer (some ⟨T.db,0,none⟩)] w λe w'=>∃v,e=.returned v/\NumsI w (markL m.s T.N) v w':=by
 obtain⟨N,hNN⟩:∃N,T.N=N:=⟨_,rfl⟩;have hm:=zq7u h.hdr (by omega);have hd:=h.hdr;rw[hNN]at hm hd;have HR:=Lib.hid (And.intro h (And.intro hNN hN));rw[hNN];clear h hNN hN;have HM:=Lib.hid hm;have HD:=Lib.hid hd;clear hm hd
 go_enter Try.func20,Try.ntmps20
 go_wp2_with (fail)
 refine Calls.mono HM.out ?_;rintro e w' ⟨rfl,rfl⟩;clear HM
 go_wp2_with (fail)
 go_loopg [3,7] N (λk s3 s7 wr=>∃(j:Nat)(p:Option Addr)(C:Nat),k=N - j/\j<=N/\s7=.int .i64 j/\s3=.slice p j C/\NumsI w' (markL m.s j) (.slice p j C) wr)
 case atStart=>exact⟨0,none,0,rfl,Nat.zero_le _,rfl,rfl,Beyond.refl _,World.ownsRow_nil _ _ _ _⟩
 case round=>
  obtain⟨j,p,C,hk,hj,rfl,rfl,hI⟩:=hrel;have HI:=Lib.hid hI
  by_cases hlt:j<N
  . have hlt':(j:Int)<(N:Int):=by omega
    have hj0:(0:Int)<=j:=by omega
    have hjT:j<T.N:=by have:=HR.out.2.1;omega
    have hd:wr.cell? ⟨T.db,1,none⟩=some (.slice (some ⟨T.mb,0,none⟩) N N):=hI.be.cell HD.out;have HC:=Lib.hid (zq4r ⟨T.mb,j*3,none⟩ (m.s.mark j) wr (hI.be.cell (HR.out.1.cellM hjT)));obtain⟨tj,htj,hy0,hy1,hy2⟩:∃ti,Try.prog.info? 2=some ti/\ti.zero=some (.int .i64 0)/\ti.size=1/\ti.bytes=8:=⟨_,rfl,rfl,rfl,rfl⟩;have TJ:=Lib.hid (And.intro htj (And.intro hy0 (And.intro hy1 hy2)));have HB:=Lib.hid (And.intro hlt (And.intro HR.out.2.2 HR.out.2.1));have HK:=Lib.hid hk;clear htj hy0 hy1 hy2 hI hjT hlt hk
    go_wp2_with (fail)
    refine Calls.mono HC.out ?_;rintro e w2 ⟨rfl,rfl⟩
    go_wp2_with (at_builtin;go_loud (refine wpList_append_lies _ rfl (.tmp 10) (.tmp 19) 22 rfl w'.heap.size 2 tj (.int .i64 0) 1 8 (by kernel_rfl) TJ.out.1 TJ.out.2.1 TJ.out.2.2.1 TJ.out.2.2.2 rfl (by decide) _ j ((markL m.s j).map (Value.int .i64)) rfl (zq1r (by have:=HI.out.row;rw[zq5o]at this;exact this) _) _ 1 1 [.int .i64 (m.s.mark j)] rfl rfl (zq3t rfl) (λu hu=>by simp only[List.mem_cons,List.not_mem_nil,or_false]at hu;subst hu;rfl) (by decide) (by simp only[maxLen];have:=HB.out;omega) (by have:=HB.out;omega) (by rw[zq8];have:=HI.out.be.1;omega) _ rfl ?next))
    case next=>
     intro g7 cap7 w7 hown7 hgrow7 hat7 hlt7;have L7:=Lib.hid (And.intro hown7 hgrow7);clear hown7 hgrow7 hat7 hlt7;go_wp2;go_roundg (N - (j+1))
     case measure=>have:=HK.out;have:=HB.out;omega
     case rel=>
      obtain⟨o7,q7⟩:=L7.out;refine⟨j+1,_,_,rfl,HB.out.1,congrArg (Value.int .i64) (by have:=HB.out;simp only[wrap64];omega),rfl,?_,?_⟩
      . have hb:=HI.out.be;have hz:=q7.size;rw[zq8]at hz;refine⟨by have:=hb.1;omega,λb hb2=>?_⟩;rw[q7.block b (by rw[zq8];have:=hb.1;omega) (λe=>by have:=(own_lt HI.out.row e.symm).2.1;omega),zqc,if_neg (by have:=hb.1;omega)];exact hb.2 b hb2
      . rw[zqda,List.length_append,List.map_append,zq5o];exact o7
  . obtain rfl:j=N:=by omega
    clear hk hj hlt;go_wp2;go_ret;exact⟨_,rfl,HI.out⟩
def epL(s:EpS)(n:Nat):List Int:=s.e::markL s n
theorem zqc2{T:EpT}{m:EpM}{w:World}(h:EpRep T m w)(hN:T.N<=64):Calls Try.prog 34 #[.pointer (some ⟨T.db,0,none⟩)] w λe w'=>∃v,e=.returned v/\NumsI w (epL m.s T.N) v w':=by
 have HE:=Lib.hid (zq4i h);have HR:=Lib.hid (And.intro h hN);obtain⟨ev,hev⟩:∃ev,m.s.e=ev:=⟨_,rfl⟩;rw[hev]at HE;clear h hN
 go_enter Try.func34,Try.ntmps34
 go_wp2_with (fail)
 refine Calls.mono HE.out ?_;rintro e w' ⟨rfl,rfl⟩;clear HE
 go_wp2_with (fail)
 have hB1:Beyond w' (w'.alloc (.cells #[.int .i64 ev] 2)):=Beyond.alloc _ _;have hm2:=zqdb (w:=w'.alloc (.cells #[.int .i64 ev] 2)) ((zqb T).frame _ _ _ HR.out.1 λb hb=>hB1.2 b ((zqb T).lt _ _ _ HR.out.1 hb)) HR.out.2;refine Calls.mono hm2 ?_;rintro e w3 ⟨v,rfl,hI⟩;have hrow1:w3.ownsRow w'.heap.size 2 1 (.slice (some ⟨w'.heap.size,0,none⟩) 1 1) 1 [.int .i64 ev]:=by
  refine⟨rfl,.inr ⟨w'.heap.size,1,#[.int .i64 ev],rfl,Nat.le_refl _,?_,by decide,by decide,rfl,rfl⟩⟩;rw[hI.be.2 _ (by rw[zq8];omega)];exact zq13 _ _
 obtain⟨p2,c2,rfl,_,hp0⟩:=zq2d hI.row;have hs:=hI.be.1;rw[zq8]at hs;have hlen:(markL m.s T.N).length=T.N:=zq5o _ _;obtain⟨ti,hti,hz,hz1,hz2⟩:∃ti,Try.prog.info? 2=some ti/\ti.zero=some (.int .i64 0)/\ti.size=1/\ti.bytes=8:=⟨_,rfl,rfl,rfl,rfl⟩;obtain⟨v',w4,hrun,ho,hw,hat,hkeep,_⟩:=app_wr (P:=Try.prog) w3 22 22 2 ti (.int .i64 0) 1 8 (by kernel_rfl) hti hz hz1 hz2 rfl (by decide) hrow1 (by omega) p2 (markL m.s T.N).length c2 ((markL m.s T.N).map (Value.int .i64)) (by simp) (λh0=>by
  rcases hI.row.2 with⟨hv,h1⟩|⟨g,cap,cur,hv,_,hg,h2,_,h4,h5⟩
  . omega
  . cases hv;refine⟨_,rfl,λj u hj=>?_⟩;have hjl:=(List.getElem?_eq_some_iff.1 hj).1;rw[Go.Proofs.add_at rfl,show 0+j=j from by omega];refine(zq1 hg).trans ?_;rw[<-h5,Nat.mul_one,List.getElem?_take]at hj;simp only[List.length_map]at hjl;rw[if_pos hjl,Array.getElem?_toList]at hj;exact hj) (by simp[Value.oneCell']) (by rw[hlen];simp only[maxLen];have:=HR.out.2;omega) (by rw[hlen];have:=HR.out.2;omega)
 obtain⟨p3,c3,rfl,-,-⟩:=zq2d ho;have HRUN:=Lib.hid hrun;have HO:RowKit.Hid (NumsI w' (epL m.s T.N) (.slice p3 (1+(markL m.s T.N).length) c3) w4):=Lib.hid (by
  refine⟨⟨by have:=hw.size;omega,λb hb=>?_⟩,?_⟩
  . rw[hw.old b (by omega) (λe=>by simp[Value.ownBlock]at e;omega),hI.be.2 b (by rw[zq8];omega)];exact hB1.2 b hb
  . unfold epL;rw[hev,List.length_cons,List.map_cons,Nat.add_comm];exact(Nat.add_comm 1 _▸ho))
 clear hrow1 hI hB1 hm2 hrun ho hw hat hkeep hs hlen hp0 hti hz hz1 hz2
 go_wp2_with (at_builtin;go_loud (refine zqjv rfl (.tmp 5) (.tmp 7) 22 rfl HRUN.out ?_))
 go_ret;exact⟨_,rfl,HO.out⟩
theorem zq5m{w:World}{B:Nat}{T:TypeId}{v:Value}{l:List Int}(h:w.ownsRow B T 1 v l.length (l.map (Value.int .i64))):zq49 w v l:=by
 rcases h.2 with⟨hv,h0⟩|⟨g,cap,cur,hv,hb,hh,h1,h2,h3,h4⟩
 . exact⟨none,0,by rw[hv,h0],λhne=>absurd (List.length_eq_zero_iff.1 h0) hne⟩
 . refine⟨_,cap,hv,λ_=>⟨g,0,rfl,λi hi=>?_⟩⟩;rw[zq1 hh,Nat.zero_add];have e:(l.map (Value.int .i64))[i]?=some (.int .i64 (l.getD i 0)):=by simp[hi]
   rw[<-h4,List.getElem?_take,if_pos (by omega)]at e;simpa using e
theorem zqct{w:World}{B:Nat}{T:TypeId}{v:Value}{l:List Nat}(h:w.ownsRow B T 1 v l.length (l.map λ(i:Nat)=>.int .i64 i)):zq49 w v (l.map λ(i:Nat)=>(i:Int)):=by
 refine zq5m (B:=B) (T:=T) ?_;rw[List.length_map,List.map_map];exact h
theorem zqe7{X:Nat->Option Obj}{T:TypeId}{v:Value}{l:List Int}{w:World}(h:RowB X T 1 v l.length (l.map (Value.int .i64)))(hX:∀b o,X b=some o->w.heap[b]?=some o):zq49 w v l:=zq5m (h.own hX)
theorem ansL_get{tI:TypeId}{X:Nat->Option Obj}{l:List Ans}{cs:List Value}(h:AnsL tI X l cs):∀{i:Nat}{a:Ans},l[i]?=some a->∃Y sl,cs[i*3]?=some (.bool a.ok)/\cs[i*3+1]?=some (.int .i64 a.n)/\cs[i*3+2]?=some sl/\RowB Y tI 1 sl a.l.length (a.l.map (Value.int .i64))/\∀b o,Y b=some o->X b=some o:=by
 induction h with
 |nil=>intro i a hi;simp at hi
 |snoc h ha hd ih=>
  rename_i X Y l cs cs' a';intro i a hi;have hlen:=h.len;rcases Nat.lt_or_ge i l.length with hlt|hge
  . rw[List.getElem?_append_left hlt]at hi;obtain⟨Z,sl,h1,h2,h3,h4,h5⟩:=ih hi;refine⟨Z,sl,?_,?_,?_,h4,λb o hb=>?_⟩
    . rw[List.getElem?_append_left (by omega)];exact h1
    . rw[List.getElem?_append_left (by omega)];exact h2
    . rw[List.getElem?_append_left (by omega)];exact h3
    . have h6:=h5 b o hb;unfold orB;cases hY:Y b with
      |none=>simp[h6]
      |some y=>have:=hd b (by rw[hY];simp);rw[this]at h6;cases h6
  . have e:i=l.length:=by
     have:=(List.getElem?_eq_some_iff.1 hi).1;simp at this;omega
    subst e;simp at hi;subst hi;obtain⟨sl,rfl,hr⟩:=ha;refine⟨Y,sl,?_,?_,?_,hr,λb o hb=>by simp[orB,hb]⟩
    . rw[List.getElem?_append_right (by omega),hlen];simp
    . rw[List.getElem?_append_right (by omega),hlen];simp
    . rw[List.getElem?_append_right (by omega),hlen];simp
theorem ansR_at{tA tI:TypeId}{X:Nat->Option Obj}{hv:Value}{l:List Ans}{w:World}(h:AnsR tA tI X hv l)(hX:∀b o,X b=some o->w.heap[b]?=some o):AnsAt w hv l:=by
 obtain⟨Xr,XL,cs,hr,hL,rfl,hd⟩:=h;rcases hr.2 with⟨hv,h0,_⟩|⟨g,cap,cur,rfl,rfl,h1,h2,h3,h4⟩
 . exact⟨none,0,by rw[hv,h0],λhne=>absurd (List.length_eq_zero_iff.1 h0) hne⟩
 . refine⟨_,cap,rfl,λ_=>⟨g,0,rfl,λi a hi=>?_⟩⟩;have hg:w.heap[g]?=some (.cells cur tA (0,0)):=hX g _ (by simp[orB]);obtain⟨Y,sl,e1,e2,e3,e4,e5⟩:=ansL_get hL hi;have hil:=(List.getElem?_eq_some_iff.1 hi).1;have get:∀{j:Nat}{v:Value},j<l.length*3->cs[j]?=some v->w.cell? ⟨g,0+j,none⟩=some v:=λ{j v}hj e=>by
    rw[zq1 hg,Nat.zero_add];rw[<-h4,List.getElem?_take,if_pos hj]at e;simpa using e
   refine⟨get (by omega) e1,?_,sl,?_,zqe7 e4 λb o hb=>hX b o ?_⟩
   . exact get (by omega) e2
   . exact get (by omega) e3
   . have h6:=e5 b o hb
     by_cases hbg:b=g
     . subst hbg;have:=hd b (by simp);rw[this]at h6;cases h6
     . simp[orB,hbg,h6]
theorem zq6l{ab N:Nat}{m:AnsM}{w:World}(h:zq30 tT ab N m w){i:Nat}(hi:i<N):w.cell? ⟨ab,i,none⟩=some (m.hv i)/\AnsAt w (m.hv i) (m.st i):=by
 refine⟨(zq1 h.hd).trans ?_,ansR_at (h.row i hi) λb o hb=>h.blk i b o hi hb⟩;simp[hi]
section
variable {ub:Nat} {lv:Value} {most:Nat} {l:List Int} {a r:Nat} {ov:Value} {ord:List Nat} {ev:Value} {en:Nat->Bool} {N base:Nat} {w:World}
end
structure CR where
 k:Int
 a:Int
 ph:Nat
 e:Int
 i:Nat
 done:Bool
 ok:Bool
 n:Int
section
variable {cb who:Nat} {K:CR} {lv:Value} {w:World}
variable {rb gm gM N:Nat} {e:Int} {ms Ms:Array Value}
end
section
variable {cb who:Nat} {K:CR} {lv:Value} {w:World} {rb gm gM N:Nat} {e:Int} {ms Ms:Array Value}
end
section
variable {cb who:Nat} {K:CR} {lv:Value} {w:World} {rb gm gM N:Nat} {e:Int} {ms Ms:Array Value}
end
section
variable {w wr:World} {cb who:Nat} {K:CR} {e:Int} {l:List (Int×Int)} {dv lv:Value}
end
section
variable {cb who:Nat} {K:CR} {lv:Value} {w:World} {rb gm gM N:Nat} {e:Int} {ms Ms:Array Value}
end
section
variable {cb who:Nat} {K:CR} {lv:Value} {w:World} {rb gm gM N:Nat} {e:Int} {ms Ms:Array Value}
end
def thN(l:List (Int×Int)):List Int:=l.map Prod.fst
theorem thN_take{l:List (Int×Int)}{j:Nat}{x:Int×Int}(h:l[j]?=some x):thN (l.take (j+1))=thN (l.take j)++[x.1]:=by
 unfold thN;rw[List.take_add_one,h,List.map_append];rfl
theorem thN_len(l:List (Int×Int)):(thN l).length=l.length:=by simp[thN]
theorem NumsI.push {w0 wr w7:World}{l:List Int}{v:Value}{o:Obj}{x:Int}{g cap:Nat}(h:NumsI w0 l v wr)(hown:w7.ownsRow w0.heap.size 2 1 (.slice (some ⟨g,0,none⟩) (l.length+1) cap) (l.length+1) (l.map (Value.int .i64)++[.int .i64 x]))(hg:(wr.alloc o).grownBy w7 v.ownBlock):NumsI w0 (l++[x]) (.slice (some ⟨g,0,none⟩) (l.length+1) cap) w7:=by
 have hb:=h.be;have hz:=hg.size;rw[zq8]at hz;refine⟨⟨by have:=hb.1;omega,λb hb2=>?_⟩,?_⟩
 . rw[hg.block b (by rw[zq8];have:=hb.1;omega) (λe=>by have:=(own_lt h.row e.symm).2.1;omega),zqc,if_neg (by have:=hb.1;omega)];exact hb.2 b hb2
 . rw[List.length_append,List.map_append];exact hown
theorem NumsI.more {w0 wr w':World}{l:List Int}{v:Value}(h:NumsI w0 l v wr)(hb:Beyond wr w'):NumsI w0 l v w':=⟨h.be.trans hb,zq1v h.row λg hg=>hb.2 g (own_lt h.row hg).2.2⟩
theorem zqc5{T:EpT}{m:EpM}{w:World}{k:Nat}(h:EpRep T m w)(hty:T.tT=125)(hN:T.N<=64)(hk:k<T.N)(hl:(m.s.th k).length<=1099511627776):Calls Try.prog 21 #[.pointer (some ⟨T.db,0,none⟩),.int .i64 k] w λe w'=>∃v,e=.returned v/\NumsI w (thN (m.s.th k)) v w':=by
 have hf:=zq7a h.hdr hk (by omega);obtain⟨p,C,hv,hx⟩:=zqal (h.row k hk) (λb o=>h.blk k b o hk);have c2:=h.cellT hk;rw[hv]at c2;obtain⟨L,hL⟩:∃L,(m.s.th k).length=L:=⟨_,rfl⟩;rw[hL]at c2 hl;have HX:=Lib.hid (And.intro hx hL);have HF:=Lib.hid hf;clear hf hx hv hty h hL
 go_enter Try.func21,Try.ntmps21
 go_wp2_with (fail)
 refine Calls.mono HF.out ?_;rintro e w' ⟨rfl,hww⟩;obtain rfl:=hww.symm;clear hww
 go_wp2_with (fail)
 go_loopg [5,19] L (λq s5 s19 wr=>∃(j:Nat)(pp:Option Addr)(Cp:Nat),q=L - j/\j<=L/\s19=.int .i64 j/\s5=.slice pp j Cp/\NumsI w (thN ((m.s.th k).take j)) (.slice pp j Cp) wr)
 case atStart=>exact⟨0,none,0,rfl,Nat.zero_le _,rfl,rfl,Beyond.refl _,World.ownsRow_nil _ _ _ _⟩
 case round=>
  obtain⟨j,pp,Cp,hq,hj,rfl,rfl,hI⟩:=hrel;have HI:=Lib.hid hI;clear hI
  by_cases hlt:j<L
  . have hlt':(j:Int)<(L:Int):=by omega
    have hj0:(0:Int)<=j:=by omega
    obtain⟨x,hxj⟩:∃x,(m.s.th k)[j]?=some x:=⟨_,List.getElem?_eq_getElem (by rw[HX.out.2];exact hlt)⟩;obtain⟨g,hp,_,x0,x1⟩:=HX.out.1 j x hxj;subst hp;have y0:=HI.out.be.cell x0;have y1:=HI.out.be.cell x1;have hlen:(thN ((m.s.th k).take j)).length=j:=by rw[thN_len,List.length_take,HX.out.2];omega
    obtain⟨tj,htj,hy0,hy1,hy2⟩:∃ti,Try.prog.info? 2=some ti/\ti.zero=some (.int .i64 0)/\ti.size=1/\ti.bytes=8:=⟨_,rfl,rfl,rfl,rfl⟩;have TJ:=Lib.hid (And.intro htj (And.intro hy0 (And.intro hy1 hy2)));have HLN:=Lib.hid (And.intro hlen hxj);have hgl:g<wr.heap.size:=cell_lt y0;clear x0 x1 htj hy0 hy1 hy2 hlen hxj
    go_wp2_with (at_builtin;go_loud (refine wpList_append_lies _ rfl (.tmp 23) (.tmp 26) 22 rfl w.heap.size 2 tj (.int .i64 0) 1 8 (by kernel_rfl) TJ.out.1 TJ.out.2.1 TJ.out.2.2.1 TJ.out.2.2.2 rfl (by decide) _ j ((thN ((m.s.th k).take j)).map (Value.int .i64)) rfl (zq1r (zq1r (by have:=HI.out.row;rw[HLN.out.1]at this;exact this) _) _) _ 1 1 [.int .i64 x.1] rfl rfl (zq3t (zq8 _ _)) (λu hu=>by simp only[List.mem_cons,List.not_mem_nil,or_false]at hu;subst hu;rfl) (by decide) (by simp only[maxLen];omega) (by omega) (by rw[zq8,zq8];have:=HI.out.be.1;omega) _ rfl ?next))
    case next=>
     intro g7 cap7 w7 hown7 hgrow7 hat7 hlt7;have h7:=(HI.out.more (Beyond.alloc wr _)).push (g:=g7) (cap:=cap7) (x:=x.1) (by rw[HLN.out.1];exact hown7) hgrow7;rw[<-thN_take HLN.out.2,HLN.out.1]at h7;have L7:=Lib.hid h7;clear hown7 hgrow7 hat7 hlt7 h7;go_wp2;go_roundg (L - (j+1))
     case measure=>omega
     case rel=>exact⟨j+1,_,_,rfl,by omega,congrArg (Value.int .i64) (by first|rfl |omega |(simp only[wrap64];omega)|(rw[IntWalk.i64_in _ (by omega)];omega)),rfl,L7.out⟩
  . obtain rfl:j=L:=by omega
    clear hq hj hlt;go_wp2;go_ret;refine⟨_,rfl,?_⟩;have:=HI.out;rw[List.take_of_length_le (by rw[HX.out.2];exact Nat.le_refl _)]at this;exact this
section
variable {Ml S α:Type} {C:Core Ml S} {ro:Nat->Option Obj} {i:Nat}
theorem zqc3{main:Bool}{Kc:Addr->Option Value}{J:Goroutine->World->Prop}(hJ:JS Try.prog main Kc (λ(_:Unit)=>J))(hC:CalmJ Try.prog main (λ(_:Unit)=>J))(m₀:BM Ml)(w₀:World)(T:S×Option α×Nat):
 StepY (zq41 zqk hJ hC C ro i 0 m₀ w₀ T) 49 #[.nilIface]:=by
 obtain⟨Y,hY⟩:∃Y,zq41 zqk hJ hC C ro i 0 m₀ w₀ T=Y:=⟨_,rfl⟩;have hskip:∀(K:Unit->Proc S α)(s:Y.γ)(B:Nat->Option Obj)(w:World),Y.AtB B s w (Proc.tick.bind K)->Y.AtB B s w (K ()):=by
  subst hY;rintro K s B w ⟨m,h1,h2,h3⟩;exact⟨m,h1,LoneAt.skip h2,h3⟩
 rw[hY];clear hY;intro K s m w hA;refine BodyY.calls ⟨_,_,Try.func49,rfl,?_⟩;simp only[zqm,Try.ntmps49,List.size_toArray,List.length_cons,List.length_nil,Nat.reduceAdd,Nat.reduceSub,Array.replicate_succ,Array.replicate_zero,List.push_toArray,List.append_toArray,List.nil_append,List.cons_append];have hA:Y.AtB (m.box i) s w (Proc.tick.bind K):=⟨m,rfl,hA⟩;obtain⟨B,hB0⟩:∃B,m.box i=B:=⟨_,rfl⟩;rw[hB0]at hA |-;clear hB0;apply YSys.seq0 hA (by kernel_rfl)
 . intro wc hB;go_wp2;exact⟨rfl,Ext1.refl _,rfl⟩
 intro w hA;refine zq19 Y.jc rfl ?_;rw[if_neg (by decide)];refine zq1s Y.jc ?_;have h:=hskip K s B w hA;exact⟨rfl,.inl ⟨_,resultsC_none rfl _,(),h.choose,rfl,h.choose_spec⟩⟩
end
structure ESAft(T:EpT)(m m':EpM)(X:Nat->Option Obj)(w w':World):Prop where
 rep:EpRep T m' w'
 x:∀b o,X b=some o->w'.heap[b]?=some o
 grow:∀b,(zqb T).foot m' b->(zqb T).foot m b\/w.heap.size<=b
 size:w.heap.size<=w'.heap.size
 old:∀b,b<w.heap.size->¬(zqb T).foot m b->w'.heap[b]?=w.heap[b]?
section
variable {Fin:Machine->Trace->Prop} {n:Nat} {T:EpT} {m:EpM} {w:World}
abbrev SU:=EpS×Unit
abbrev esY(hFin:Back Try.prog Fin)(n:Nat)(T:EpT)(m:EpM)(w:World){α:Type}(R:SU×Option α×Nat):YSys Try.prog aM (zqd (zqb T) zCore) (λ_=>none) 0 α:=zq41 zqk (jU0 hFin n) (jC0 hFin n) (zqd (zqb T) zCore) (λ_=>none) 0 0 ⟨(m,()),λ_ _=>none⟩ w R
theorem es_rep(h:EpRep T m w):BRep (zqd (zqb T) zCore) (λ_=>none) ⟨(m,()),λ_ _=>none⟩ w:=⟨⟨h,trivial,λb _ hb=>hb⟩,λi b o h=>(by cases h),λb o h=>(by cases h),λi b h=>absurd rfl h,λi j b _ h=>absurd rfl h,λb h=>absurd rfl h,λi b h=>absurd rfl h⟩
theorem es_aft{α:Type}{R:SU×Option α×Nat}{m':BM (EpM×Unit)}{w':World}{r:SU×Tree SU α}(hL:LoneAt (zqd (zqb T) zCore) (λ_=>none) 0 0 ⟨(m,()),λ_ _=>none⟩ w R m' w' r){X:Nat->Option Obj}(hX:m'.box 0=orB X λ_=>none):ESAft T m m'.l.1 X w w':=by
 refine⟨hL.rep.core.1,λb o hb=>?_,λb hb=>?_,hL.size,λb hb h1=>hL.old b hb ?_⟩
 . exact hL.rep.box 0 b o (by rw[hX];unfold orB;simp[hb])
 . rcases hL.grow b (.inl (.inl hb))with(hf|hf)|hf
   . exact hf.elim .inl (λx=>x.elim)
   . rcases hf with⟨_,hf⟩|hf
     . exact absurd rfl hf
     . exact absurd rfl hf
   . exact .inr hf
 . rintro(hf|⟨_,hf⟩|hf)
   . exact hf.elim h1 (λx=>x.elim)
   . exact absurd rfl hf
   . exact absurd rfl hf
theorem es_Y{α:Type}(hFin:Back Try.prog Fin){k:Nat}(hty:EpTy T)(hk:k<T.N){R:SU×Option α×Nat}(hR:∃a,R.2.1=some a):EpoY T k (esY hFin n T m w R) .nilIface/\EpoC T k (esY hFin n T m w R) .nilIface:=by
 refine⟨zq73 (zq5v zqk (jU0 hFin n) (jC0 hFin n) (zqd (zqb T) zCore) (λ_=>none) 0 0 ⟨(m,()),λ_ _=>none⟩ w R) (I:=λ_=>True) hty hk (λ_ _ _ _=>trivial) (λ_ _ _ _=>trivial) (λ{s m w r}h he=>?_) (zqc3 _ _ _ _ _),zq72 (zq5v zqk (jU0 hFin n) (jC0 hFin n) (zqd (zqb T) zCore) (λ_=>none) 0 0 ⟨(m,()),λ_ _=>none⟩ w R) (I:=λ_=>True) hty hk (λ_ _ _ _=>trivial) (λ_ _ _ _=>trivial) .nilIface⟩;obtain⟨n,h1,⟨a',h2⟩,h3⟩:=h.run;rw[he]at h1;have:=congrArg (λx=>x.2.1) h1;rw[h2]at this;cases this
theorem zq3j{α:Type}{f:FuncId}{args:Array Value}{p:Proc SU α}{val:α->Value}{a:α}{C':EpS}{q:Nat}(hFin:Back Try.prog Fin)(hty:EpTy T)(h:EpRep T m w){k:Nat}(hk:k<T.N)(hrun:p.run (m.s,())=((C',()),some a,q))
 (hspec:∀R:SU×Option α×Nat,EpoY T k (esY hFin n T m w R) .nilIface->SpecB (esY hFin n T m w R) f args p val) {cl:Frame} {cs:List Frame}
 (hq:∀m' w',m'.s=C'->ESAft T m m' (λ_=>none) w w'->J0 Try.prog Fin n (G (cl.finish (val a)) cs) w'):J0 Try.prog Fin n (G (Frame.enter Try.prog f args .normal) (cl::cs)) w:=by
 have e0:p.run ((zqd (zqb T) zCore).st (m,()))=((C',()),some a,q):=hrun;refine zqeg (J:=J0 Try.prog Fin n) (C:=zqd (zqb T) zCore) (ro:=λ_=>none) (i:=0) (p:=p) (val:=val) zqk (jU0 hFin n) (jC0 hFin n) (m₀:=⟨(m,()),λ_ _=>none⟩) (es_rep h) ⟨a,by rw[e0]⟩ 0 (hspec _ (es_Y hFin hty hk ⟨a,by rw[e0]⟩).1).spec ?_;intro a' m' w' hb hL;obtain⟨n',g1,_,g3⟩:=hL.run;rw[show p.run ((zqd (zqb T) zCore).st ((⟨(m,()),λ_ _=>none⟩:BM (EpM×Unit)).l))=((C',()),some a,q)from e0]at g1;simp only[Tree.run,Prod.mk.injEq]at g1;obtain⟨g1,g2,_⟩:=g1;obtain rfl:a'=a:=Option.some.inj g2;exact hq m'.l.1 w' (congrArg Prod.fst g1) (es_aft hL hb)
theorem zqc1{α:Type}{f:FuncId}{args:Array Value}{p:Proc SU α}{rel:α->Value->(Nat->Option Obj)->Prop}{a:α}{C':EpS}{q:Nat}(hFin:Back Try.prog Fin)(hty:EpTy T)(h:EpRep T m w){k:Nat}(hk:k<T.N)(hrun:p.run (m.s,())=((C',()),some a,q))
 (hspec:∀R:SU×Option α×Nat,EpoY T k (esY hFin n T m w R) .nilIface->EpoC T k (esY hFin n T m w R) .nilIface->SpecR (esY hFin n T m w R) f args p rel) {cl:Frame} {cs:List Frame}
 (hq:∀v X m' w',rel a v X->m'.s=C'->ESAft T m m' X w w'->(∀b,X b≠none->¬(zqb T).foot m' b)->J0 Try.prog Fin n (G (cl.finish v) cs) w'):J0 Try.prog Fin n (G (Frame.enter Try.prog f args .normal) (cl::cs)) w:=by
 have e0:p.run ((zqd (zqb T) zCore).st (m,()))=((C',()),some a,q):=hrun;have hYC:=es_Y (n:=n) (m:=m) (w:=w) hFin hty hk (R:=p.run ((zqd (zqb T) zCore).st (m,()))) ⟨a,by rw[e0]⟩;refine zqeh (J:=J0 Try.prog Fin n) (C:=zqd (zqb T) zCore) (ro:=λ_=>none) (i:=0) (p:=p) (rel:=rel) zqk (jU0 hFin n) (jC0 hFin n) (m₀:=⟨(m,()),λ_ _=>none⟩) (es_rep h) ⟨a,by rw[e0]⟩ 0 (hspec _ hYC.1 hYC.2) ?_;intro a' v X m' w' hv _ hb hL;obtain⟨n',g1,_,g3⟩:=hL.run;rw[show p.run ((zqd (zqb T) zCore).st ((⟨(m,()),λ_ _=>none⟩:BM (EpM×Unit)).l))=((C',()),some a,q)from e0]at g1;simp only[Tree.run,Prod.mk.injEq]at g1;obtain⟨g1,g2,_⟩:=g1;obtain rfl:a'=a:=Option.some.inj g2;refine hq v X m'.l.1 w' hv (congrArg Prod.fst g1) (es_aft hL hb) λb hX hf=>hL.rep.apart 0 b ?_ (.inl hf);rw[hb];unfold orB;cases hXb:X b with
 |none=>exact absurd hXb hX
 |some o=>simp
end
structure STh where
 who:Nat
 ins:Nat->Nat
 back:Bool
structure SW where
 V:Nat->Nat
 T:List STh
structure SInv(N c E:Nat)(s:EpS)(W:SW):Prop where
 e:s.e=(E:Int)
 le:E<=c
 m1:∀k,k<N->W.V k % 2=1->∃f:Nat,s.mark k=(f:Int)+1/\f<=E/\E<=f+1
 t1:∀i x,i<N->x∈s.th i->∃(n te:Nat)(t:STh),x=((n:Int),(te:Int))/\te<=E/\W.T[n]?=some t/\t.who=i/\t.back=false/\∀(k f:Nat),k<N->t.ins k=W.V k->W.V k % 2=1->s.mark k=(f:Int)+1->f<=te
 m0:∀k,k<N->W.V k % 2=0->s.mark k=0
 ins:∀k,k<N->s.ins k=decide (W.V k % 2=1)
 V:∀k,k<N->W.V k<=c
 len:W.T.length<=c
 th:∀(n:Nat)(t:STh),W.T[n]?=some t->t.who<N/\∀k,k<N->t.ins k<=W.V k
 nd:∀i,i<N->((s.th i).map Prod.fst).Nodup
 all:∀(n:Nat)(t:STh),W.T[n]?=some t->t.back=false->∃x∈s.th t.who,x.1=(n:Int)
theorem zq7y:∀(l r:List Int),l.Nodup->(∀x∈l,x∈r)->l.length<=r.length
 |[],_,_,_=>Nat.zero_le _
 |a::l,r,hn,hs=>by
  obtain⟨h1,h2⟩:=List.nodup_cons.1 hn;have ha:a∈r:=hs a (List.mem_cons_self ..);have:=zq7y l (r.erase a) h2 λx hx=>by
   have hne:x≠a:=λe=>h1 (e▸hx);exact(List.mem_erase_of_ne hne).2 (hs x (List.mem_cons_of_mem _ hx))
  rw[List.length_erase_of_mem ha]at this;have hp:0<r.length:=List.length_pos_of_mem ha;simp only[List.length_cons];omega
theorem zq7g{x y:Int×Int}:∀{l:List (Int×Int)},(l.map Prod.fst).Nodup->x∈l->y∈l->x.1=y.1->x=y
 |[],_,hx,_,_=>absurd hx List.not_mem_nil
 |a::l,hn,hx,hy,he=>by
  obtain⟨h1,h2⟩:=List.nodup_cons.1 hn;rcases List.mem_cons.1 hx with rfl |hx
  . rcases List.mem_cons.1 hy with rfl |hy
    . rfl
    . exact absurd (he▸List.mem_map.2 ⟨y,hy,rfl⟩) h1
  . rcases List.mem_cons.1 hy with rfl |hy
    . exact absurd (he▸List.mem_map.2 ⟨x,by assumption,rfl⟩) h1
    . exact zq7g h2 hx hy he
def mostC:Nat:=1099511627776
theorem zq2x{x:Int}(h: -4611686018427387904<=x/\x<=4611686018427387904):wrap64 x=x:=by unfold wrap64;omega
section
variable {N c E k:Nat} {s:EpS} {W:SW}
theorem SInv.more (h:SInv N c E s W){c':Nat}(hc:c<=c'):SInv N c' E s W:=⟨h.e,Nat.le_trans h.le hc,h.m1,h.t1,h.m0,h.ins,λk hk=>Nat.le_trans (h.V k hk) hc,Nat.le_trans h.len hc,h.th,h.nd,h.all⟩
def SW.step (W:SW)(k:Nat):SW:=⟨upd' W.V k (W.V k+1),W.T⟩
def zq33(s:EpS)(k:Nat):EpS:=(s.putM k (wrap64 (s.e+1))).putI k true
def zq37(s:EpS)(k:Nat):EpS:=(s.putI k false).putM k 0
theorem SInv.enter (h:SInv N c E s W)(hk:k<N)(hV:W.V k % 2=0)(hc:c<=mostC):SInv N (c+1) E (zq33 s k) (W.step k):=by
 have hw:wrap64 (s.e+1)=(E:Int)+1:=by rw[h.e];have:=h.le;unfold mostC at hc;exact zq2x (by omega)
 have hVk:(W.step k).V k=W.V k+1:=upd'_same _ _ _;have hVn:∀j,j≠k->(W.step k).V j=W.V j:=λj hj=>zqx _ _ hj;have hMk:(zq33 s k).mark k=(E:Int)+1:=(upd'_same _ _ _).trans hw;have hMn:∀j,j≠k->(zq33 s k).mark j=s.mark j:=λj hj=>zqx _ _ hj;refine⟨h.e,by have:=h.le;omega,λj hj hV'=>?_,λi x hi hx=>?_,λj hj hV'=>?_,λj hj=>?_,λj hj=>?_,by have:=h.len;show W.T.length<=_;omega,λn t ht=>⟨(h.th n t ht).1,λj hj=>?_⟩,h.nd,h.all⟩
 . by_cases e:j=k
   . subst e;exact⟨E,hMk,Nat.le_refl _,Nat.le_succ _⟩
   . rw[hVn j e]at hV';rw[hMn j e];exact h.m1 j hj hV'
 . obtain⟨n,te,t,h1,h2,h3,h4,h5,h6⟩:=h.t1 i x hi hx;refine⟨n,te,t,h1,h2,h3,h4,h5,λj f hj h7 h8 h9=>?_⟩
   by_cases e:j=k
   . subst e;rw[hVk]at h7;have:=(h.th n t h3).2 j hj;omega
   . rw[hVn j e]at h7 h8;rw[hMn j e]at h9;exact h6 j f hj h7 h8 h9
 . by_cases e:j=k
   . subst e;rw[hVk]at hV';omega
   . rw[hVn j e]at hV';rw[hMn j e];exact h.m0 j hj hV'
 . by_cases e:j=k
   . subst e;rw[hVk];refine(upd'_same _ _ _).trans ?_;exact(decide_eq_true (by omega)).symm
   . rw[hVn j e];exact(zqx _ _ e).trans (h.ins j hj)
 . by_cases e:j=k
   . subst e;rw[hVk];have:=h.V j hj;omega
   . rw[hVn j e];have:=h.V j hj;omega
 . have:=(h.th n t ht).2 j hj
   by_cases e:j=k
   . subst e;rw[hVk];omega
   . rw[hVn j e];exact this
theorem SInv.leave (h:SInv N c E s W)(hk:k<N)(hV:W.V k % 2=1):SInv N (c+1) E (zq37 s k) (W.step k):=by
 have hVk:(W.step k).V k=W.V k+1:=upd'_same _ _ _;have hVn:∀j,j≠k->(W.step k).V j=W.V j:=λj hj=>zqx _ _ hj;have hMk:(zq37 s k).mark k=0:=upd'_same _ _ _;have hMn:∀j,j≠k->(zq37 s k).mark j=s.mark j:=λj hj=>zqx _ _ hj;refine⟨h.e,by have:=h.le;omega,λj hj hV'=>?_,λi x hi hx=>?_,λj hj hV'=>?_,λj hj=>?_,λj hj=>?_,by have:=h.len;show W.T.length<=_;omega,λn t ht=>⟨(h.th n t ht).1,λj hj=>?_⟩,h.nd,h.all⟩
 . by_cases e:j=k
   . subst e;rw[hVk]at hV';omega
   . rw[hVn j e]at hV';rw[hMn j e];exact h.m1 j hj hV'
 . obtain⟨n,te,t,h1,h2,h3,h4,h5,h6⟩:=h.t1 i x hi hx;refine⟨n,te,t,h1,h2,h3,h4,h5,λj f hj h7 h8 h9=>?_⟩
   by_cases e:j=k
   . subst e;rw[hVk]at h8;omega
   . rw[hVn j e]at h7 h8;rw[hMn j e]at h9;exact h6 j f hj h7 h8 h9
 . by_cases e:j=k
   . subst e;exact hMk
   . rw[hVn j e]at hV';rw[hMn j e];exact h.m0 j hj hV'
 . by_cases e:j=k
   . subst e;rw[hVk];refine(upd'_same _ _ _).trans ?_;exact(decide_eq_false (by omega)).symm
   . rw[hVn j e];exact(zqx _ _ e).trans (h.ins j hj)
 . by_cases e:j=k
   . subst e;rw[hVk];have:=h.V j hj;omega
   . rw[hVn j e];have:=h.V j hj;omega
 . have:=(h.th n t ht).2 j hj
   by_cases e:j=k
   . subst e;rw[hVk];omega
   . rw[hVn j e];exact this
def zq2r(s:EpS)(k n:Nat):EpS:=s.putT k (s.th k++[((n:Int),s.e)])
def SW.ret (W:SW)(k:Nat):SW:=⟨W.V,W.T++[⟨k,W.V,false⟩]⟩
theorem SInv.numlt (h:SInv N c E s W){i:Nat}{x:Int×Int}(hi:i<N)(hx:x∈s.th i):∃n:Nat,x.1=(n:Int)/\n<W.T.length:=by
 obtain⟨n,te,t,h1,h2,h3,h4,h5,h6⟩:=h.t1 i x hi hx;exact⟨n,by rw[h1],(List.getElem?_eq_some_iff.1 h3).1⟩
theorem SInv.thlen (h:SInv N c E s W)(hk:k<N):(s.th k).length<=W.T.length:=by
 have h1:=h.nd k hk;have h2:∀x∈(s.th k).map Prod.fst,x∈(List.range W.T.length).map λ(n:Nat)=>(n:Int):=λx hx=>by
  obtain⟨y,hy,rfl⟩:=List.mem_map.1 hx;obtain⟨n,hn,hl⟩:=h.numlt hk hy;exact List.mem_map.2 ⟨n,List.mem_range.2 hl,hn.symm⟩
 have:=zq7y _ _ h1 h2;simpa using this
theorem SInv.retire (h:SInv N c E s W)(hk:k<N):SInv N (c+1) E (zq2r s k W.T.length) (W.ret k):=by
 have hT:∀(n:Nat)(t:STh),W.T[n]?=some t->(W.ret k).T[n]?=some t:=λn t ht=>by
  show(W.T++_)[n]?=_;rw[List.getElem?_append_left (List.getElem?_eq_some_iff.1 ht).1];exact ht
 have hTn:(W.ret k).T[W.T.length]?=some ⟨k,W.V,false⟩:=by
  show(W.T++_)[_]?=_;rw[List.getElem?_append_right (Nat.le_refl _)];simp
 have hTi:∀(n:Nat)(t:STh),(W.ret k).T[n]?=some t->W.T[n]?=some t\/(n=W.T.length/\t=⟨k,W.V,false⟩):=λn t ht=>by
  change (W.T++_)[n]?=_ at ht
  by_cases hl:n<W.T.length
  . rw[List.getElem?_append_left hl]at ht;exact .inl ht
  . rw[List.getElem?_append_right (by omega)]at ht;have hn:n=W.T.length:=by have:=(List.getElem?_eq_some_iff.1 ht).1;simp at this;omega
    subst hn;simp at ht;exact .inr ⟨rfl,ht.symm⟩
 have hth:∀i,i≠k->(zq2r s k W.T.length).th i=s.th i:=λi hi=>zqx _ _ hi;have hthk:(zq2r s k W.T.length).th k=s.th k++[((W.T.length:Int),s.e)]:=upd'_same _ _ _;have old:∀i x,i<N->x∈s.th i->∃(n te:Nat)(t:STh),x=((n:Int),(te:Int))/\te<=E/\(W.ret k).T[n]?=some t/\t.who=i/\t.back=false/\∀(k f:Nat),k<N->t.ins k=W.V k->W.V k % 2=1->s.mark k=(f:Int)+1->f<=te:=λi x hi hx=>by
  obtain⟨n,te,t,h1,h2,h3,h4⟩:=h.t1 i x hi hx;exact⟨n,te,t,h1,h2,hT n t h3,h4⟩
 refine⟨h.e,by have:=h.le;omega,h.m1,λi x hi hx=>?_,h.m0,h.ins,λj hj=>by have:=h.V j hj;show W.V j<=_;omega,?_,λn t ht=>?_,λi hi=>?_,λn t ht hb=>?_⟩
 . by_cases e:i=k
   . subst e;rw[hthk]at hx;rcases List.mem_append.1 hx with hx|hx
     . exact old i x hi hx
     . obtain rfl:=List.mem_singleton.1 hx;refine⟨W.T.length,E,_,by rw[h.e],Nat.le_refl _,hTn,rfl,rfl,λj f hj h7 h8 h9=>?_⟩;obtain⟨f',hf,hf1,hf2⟩:=h.m1 j hj h8;have h9':s.mark j=(f:Int)+1:=h9;omega
   . rw[hth i e]at hx;exact old i x hi hx
 . show(W.T++[_]).length<=_;have:=h.len;simp;omega
 . rcases hTi n t ht with ht|⟨_,rfl⟩
   . exact h.th n t ht
   . exact⟨hk,λj hj=>Nat.le_refl _⟩
 . by_cases e:i=k
   . subst e;rw[hthk,List.map_append];refine List.nodup_append.2 ⟨h.nd i hi,by simp,λa ha b hb=>?_⟩;obtain⟨y,hy,rfl⟩:=List.mem_map.1 ha;obtain⟨n,hn,hl⟩:=h.numlt hi hy;simp at hb;subst hb;rw[hn];omega
   . rw[hth i e];exact h.nd i hi
 . rcases hTi n t ht with ht|⟨rfl,rfl⟩
   . obtain⟨x,hx,hx1⟩:=h.all n t ht hb
     by_cases e:t.who=k
     . exact⟨x,by rw[e,hthk];rw[e]at hx;exact List.mem_append.2 (.inl hx),hx1⟩
     . exact⟨x,by rw[hth _ e];exact hx,hx1⟩
   . exact⟨_,by rw[hthk];exact List.mem_append.2 (.inr (List.mem_singleton.2 rfl)),rfl⟩
def freeM(N:Nat)(s:EpS):Prop:=∀j,j<N->s.mark j=0\/s.mark j=wrap64 (s.e+1)
instance (N:Nat) (s:EpS):Decidable (freeM N s):=inferInstanceAs (Decidable (∀j,j<N->_))
theorem SInv.adv (h:SInv N c E s W)(hf:freeM N s)(hc:c<=mostC):SInv N (c+1) (E+1) (s.putE (wrap64 (s.e+1))) W:=by
 have hw:wrap64 (s.e+1)=(E:Int)+1:=by rw[h.e];have:=h.le;unfold mostC at hc;exact zq2x (by omega)
 refine⟨by show wrap64 (s.e+1)=_;rw[hw];omega,by have:=h.le;omega,λj hj hV=>?_,λi x hi hx=>?_,h.m0,h.ins,λj hj=>by have:=h.V j hj;omega,by have:=h.len;omega,h.th,h.nd,h.all⟩
 . obtain⟨f,h1,h2,h3⟩:=h.m1 j hj hV;refine⟨f,h1,by omega,?_⟩;rcases hf j hj with h4|h4
   . rw[h1]at h4;omega
   . rw[hw,h1]at h4;omega
 . obtain⟨n,te,t,h1,h2,h3⟩:=h.t1 i x hi hx;exact⟨n,te,t,h1,by omega,h3⟩
theorem SInv.free (h:SInv N c E s W)(hV:∀k,k<N->W.V k % 2=0):freeM N s:=λj hj=>.inl (h.m0 j hj (hV j hj))
def backs(L:List Int)(T:List STh):List STh:=T.mapIdx λn t=>if(n:Int)∈L then{t with back:=true}else t
theorem zq3f{L:List Int}{T:List STh}(n:Nat):(backs L T)[n]?=(T[n]?).map λt=>if(n:Int)∈L then{t with back:=true}else t:=List.getElem?_mapIdx
theorem zq3g(L:List Int)(T:List STh):(backs L T).length=T.length:=List.length_mapIdx
theorem zqb7(T:List STh):backs [] T=T:=by
 apply List.ext_getElem?;intro n;rw[zq3f];cases T[n]?<;>simp
theorem zqb8{L:List Int}{T:List STh}{n:Nat}{t:STh}(ht:T[n]?=some t)(hn:(n:Int)∉L):(backs L T)[n]?=some t/\(backs L T).set n {t with back:=true}=backs (L++[(n:Int)]) T:=by
 refine⟨by rw[zq3f,ht];simp[hn],?_⟩;apply List.ext_getElem?;intro j;rw[List.getElem?_set,zq3f,zq3f,zq3g]
 by_cases e:n=j
 . subst e;rw[if_pos rfl,if_pos (List.getElem?_eq_some_iff.1 ht).1,ht];simp
 . rw[if_neg e];cases hj:T[j]? with
   |none=>rfl
   |some u=>
    simp only[Option.map_some,List.mem_append,List.mem_singleton];have:(j:Int)≠(n:Int):=by omega
    simp[this]
theorem SInv.done (h:SInv N c E s W)(hk:k<N)(hc:c<=mostC){j:Nat}{x:Int}(hx:(doneL s.e (s.th k))[j]?=some x):
 ∃(n:Nat)(t:STh),x=(n:Int)/\W.T[n]?=some t/\t.who=k/\t.back=false/\(n:Int)∉(doneL s.e (s.th k)).take j/\∀i,i<N->¬(t.ins i % 2=1/\W.V i=t.ins i):=by
 have hm:x∈doneL s.e (s.th k):=List.mem_of_getElem? hx;obtain⟨y,hy,rfl⟩:=List.mem_map.1 hm;obtain⟨hy1,hy2⟩:=List.mem_filter.1 hy;obtain⟨n,te,t,rfl,h2,h3,h4,h5,h6⟩:=h.t1 k y hk hy1;have hold:(te:Int)<=(E:Int) - 2:=by
  have:=of_decide_eq_true hy2;rw[h.e,zq2x (by have:=h.le;unfold mostC at hc;omega)]at this;exact this
 refine⟨n,t,rfl,h3,h4,h5,λhin=>?_,λi hi⟨h7,h8⟩=>?_⟩
 . have hnd:(doneL s.e (s.th k)).Nodup:=by
    have:=h.nd k hk;unfold doneL;exact(List.Sublist.map Prod.fst List.filter_sublist).nodup this
   have hlt:=(List.getElem?_eq_some_iff.1 hx).1;rw[<-List.take_append_drop j (doneL s.e (s.th k))]at hnd;have hd:=(List.nodup_append.1 hnd).2.2 _ hin;refine hd (n:Int) ?_ rfl;refine List.mem_of_getElem? (i:=0) ?_;rw[List.getElem?_drop];exact hx
 . obtain⟨f,hf,hf1,hf2⟩:=h.m1 i hi (by omega);have:=h6 i f hi h8.symm (by omega) hf;omega
def collS(s:EpS)(k:Nat):EpS:=s.putT k (leftL s.e (s.th k))
def SW.coll (W:SW)(s:EpS)(k:Nat):SW:=⟨W.V,backs (doneL s.e (s.th k)) W.T⟩
theorem SInv.coll (h:SInv N c E s W)(hk:k<N):SInv N (c+1) E (collS s k) (W.coll s k):=by
 have hth:∀i,i≠k->(collS s k).th i=s.th i:=λi hi=>zqx _ _ hi;have hthk:(collS s k).th k=leftL s.e (s.th k):=upd'_same _ _ _;have hT:∀n:Nat,(W.coll s k).T[n]?=(W.T[n]?).map λt=>if(n:Int)∈doneL s.e (s.th k)then{t with back:=true}else t:=λn=>zq3f n
 have keep:∀i x,i<N->x∈(collS s k).th i->x∈s.th i/\∀n:Nat,x.1=(n:Int)->(n:Int)∉doneL s.e (s.th k):=λi x hi hx=>by
  by_cases e:i=k
  . subst e;rw[hthk]at hx;obtain⟨h1,h2⟩:=List.mem_filter.1 hx;refine⟨h1,λn hn hin=>?_⟩;obtain⟨y,hy,hy1⟩:=List.mem_map.1 hin;obtain⟨h3,h4⟩:=List.mem_filter.1 hy;have hxy:x=y:=by
     have hnd:=h.nd i hi;exact zq7g hnd h1 h3 (hn.trans hy1.symm)
    subst hxy;rw[h4]at h2;cases h2
  . rw[hth i e]at hx;refine⟨hx,λn hn hin=>?_⟩;obtain⟨y,hy,hy1⟩:=List.mem_map.1 hin;obtain⟨h3,h4⟩:=List.mem_filter.1 hy;obtain⟨n1,te1,t1,r1,_,r3,r4,_⟩:=h.t1 i x hi hx;obtain⟨n2,te2,t2,q1,_,q3,q4,_⟩:=h.t1 k y hk h3;subst r1 q1;simp only at hn hy1;have a1:n1=n:=by omega
    have a2:n2=n:=by omega
    subst a1 a2;rw[r3]at q3;cases q3;exact e (r4.symm.trans q4)
 refine⟨h.e,by have:=h.le;omega,h.m1,λi x hi hx=>?_,h.m0,h.ins,λj hj=>by have:=h.V j hj;show W.V j<=_;omega,?_,λn t ht=>?_,λi hi=>?_,λn t ht hb=>?_⟩
 . obtain⟨h1,h2⟩:=keep i x hi hx;obtain⟨n,te,t,rfl,r2,r3,r4⟩:=h.t1 i x hi h1;exact⟨n,te,t,rfl,r2,by rw[hT,r3];simp[h2 n rfl],r4⟩
 . show(backs _ _).length<=_;rw[zq3g];have:=h.len;omega
 . rw[hT]at ht;cases hn:W.T[n]? with
   |none=>rw[hn]at ht;cases ht
   |some u=>
    rw[hn]at ht;simp only[Option.map_some,al_oi]at ht;have:=h.th n u hn;split at ht<;>(subst ht;exact this)
 . by_cases e:i=k
   . subst e;rw[hthk];exact(List.Sublist.map Prod.fst List.filter_sublist).nodup (h.nd i hi)
   . rw[hth i e];exact h.nd i hi
 . rw[hT]at ht;cases hn:W.T[n]? with
   |none=>rw[hn]at ht;cases ht
   |some u=>
    rw[hn]at ht;simp only[Option.map_some,al_oi]at ht;split at ht
    . subst ht;cases hb
    . rename_i hin;subst ht;obtain⟨x,hx,hx1⟩:=h.all n u hn hb;refine⟨x,?_,hx1⟩
      by_cases e:u.who=k
      . rw[e,hthk];rw[e]at hx;refine List.mem_filter.2 ⟨hx,?_⟩;cases ho:oldT s.e x with
        |false=>rfl
        |true=>exact absurd (List.mem_map.2 ⟨x,List.mem_filter.2 ⟨hx,ho⟩,hx1⟩) hin
      . rw[hth _ e];exact hx
end
section
variable {N k:Nat} {s:EpS}
def entB(k:Nat)(b:Bool):Proc SU (Int×Int):=if b=true then Proc.ret (0,7)else loadP.bind λe=>(Proc.tick.bind λ_=>onE (zq42 k (wrap64 (e+1)))).bind λ_=>(onE (setI k true)).bind λ_=>Proc.ret (e,0)
theorem enter_in(h:s.ins k=true):(enterP k:Proc SU (Int×Int)).run (s,())=((s,()),some (0,7),0):=by
 have e:(enterP k:Proc SU (Int×Int)).run (s,())=(entB k (s.ins k)).run (s,()):=rfl;rw[e,h];rfl
theorem zqbx(h:s.ins k=false):(enterP k:Proc SU (Int×Int)).run (s,())=((zq33 s k,()),some (s.e,0),2):=by
 have e:(enterP k:Proc SU (Int×Int)).run (s,())=(entB k (s.ins k)).run (s,()):=rfl;rw[e,h];rfl
def levB(k:Nat)(b:Bool):Proc SU Int:=if b=true then(onE (setI k false)).bind λ_=>(Proc.tick.bind λ_=>onE (zq42 k 0)).bind λ_=>Proc.ret 0 else Proc.ret 6
theorem leave_in(h:s.ins k=true):(leaveP k:Proc SU Int).run (s,())=((zq37 s k,()),some 0,1):=by
 have e:(leaveP k:Proc SU Int).run (s,())=(levB k (s.ins k)).run (s,()):=rfl;rw[e,h];rfl
theorem zqd4(h:s.ins k=false):(leaveP k:Proc SU Int).run (s,())=((s,()),some 6,0):=by
 have e:(leaveP k:Proc SU Int).run (s,())=(levB k (s.ins k)).run (s,()):=rfl;rw[e,h];rfl
theorem zqe3{n:Nat}(h:(s.th k).length<mostT):(zq2e k (n:Int):Proc SU (Int×Int)).run (s,())=((zq2r s k n,()),some (s.e,0),1):=by
 have e:(zq2e k (n:Int):Proc SU (Int×Int)).run (s,())=((λ(r:EpS×Bool)=>(((if r.2=true then Proc.ret (s.e,0)else Proc.out:Proc SU (Int×Int)) (r.1,())).2.run ((if r.2=true then Proc.ret (s.e,0)else Proc.out:Proc SU (Int×Int)) (r.1,())).1)) (pushT k ((n:Int),s.e) s)).map id (Prod.map id (· +1)):=rfl;have e2:pushT k ((n:Int),s.e) s=(zq2r s k n,true):=if_pos h;rw[e,e2];rfl
theorem coll_run:(collP k:Proc SU (List Int)).run (s,())=((collS s k,()),some (doneL s.e (s.th k)),1):=rfl
def freeF(N r:Nat)(s:EpS):Prop:=∀j,N - r<=j->j<N->s.mark j=0\/s.mark j=wrap64 (s.e+1)
theorem zq5b(s:EpS)(N:Nat):∀(r:Nat),r<=N->∃q,(freeF N r s->(advL N s.e r:Proc SU (Bool×Int)).run (s,())=((s.putE (wrap64 (s.e+1)),()),some (true,0),q))/\(¬freeF N r s->(advL N s.e r:Proc SU (Bool×Int)).run (s,())=((s,()),some (false,0),q))
 |0,_=>by
  refine⟨1,λ_=>?_,λh=>absurd (λj h1 h2=>by omega) h⟩;have e:(advL N s.e 0:Proc SU (Bool×Int)).run (s,())=(((casE s.e (wrap64 (s.e+1)) s).1,()),some ((casE s.e (wrap64 (s.e+1)) s).2,0),1):=rfl;have e2:casE s.e (wrap64 (s.e+1)) s=(s.putE (wrap64 (s.e+1)),true):=if_pos rfl;rw[e,e2]
 |r+1,hr=>by
  obtain⟨q,hq1,hq2⟩:=zq5b s N r (by omega);have e:(advL N s.e (r+1):Proc SU (Bool×Int)).run (s,())=((λ(p:Proc SU (Bool×Int))=>((p.run (s,())).1,(p.run (s,())).2.1,(p.run (s,())).2.2+1)) (if s.mark (N - (r+1))≠0/\s.mark (N - (r+1))≠wrap64 (s.e+1)then Proc.ret (false,0)else advL N s.e r)):=rfl
  by_cases hm:s.mark (N - (r+1))≠0/\s.mark (N - (r+1))≠wrap64 (s.e+1)
  . refine⟨0+1,λh=>?_,λ_=>?_⟩
    . rcases h (N - (r+1)) (Nat.le_refl _) (by omega)with h1|h1
      . exact absurd h1 hm.1
      . exact absurd h1 hm.2
    . rw[e,if_pos hm];rfl
  . have h0:s.mark (N - (r+1))=0\/s.mark (N - (r+1))=wrap64 (s.e+1):=by
     by_cases h0:s.mark (N - (r+1))=0
     . exact .inl h0
     . exact .inr (Classical.byContradiction λh3=>hm ⟨h0,h3⟩)
    refine⟨q+1,λh=>?_,λh=>?_⟩
    . rw[e,if_neg hm];simp only;rw[hq1 λj h1 h2=>h j (by omega) h2]
    . rw[e,if_neg hm];simp only;rw[hq2 λh'=>h λj h1 h2=>?_]
      by_cases hj:j=N - (r+1)
      . subst hj;exact h0
      . exact h' j (by omega) h2
theorem adv_e:(advP N:Proc SU (Bool×Int)).run (s,())=(((advL N s.e N:Proc SU (Bool×Int)).run (s,())).1,((advL N s.e N:Proc SU (Bool×Int)).run (s,())).2.1,((advL N s.e N:Proc SU (Bool×Int)).run (s,())).2.2+1):=rfl
theorem zq6i(h:freeM N s):∃q,(advP N:Proc SU (Bool×Int)).run (s,())=((s.putE (wrap64 (s.e+1)),()),some (true,0),q):=by
 obtain⟨q,hq,_⟩:=zq5b s N N (Nat.le_refl _);exact⟨q+1,by rw[adv_e,hq λj _ h2=>h j h2]⟩
theorem adv_no(h:¬freeM N s):∃q,(advP N:Proc SU (Bool×Int)).run (s,())=((s,()),some (false,0),q):=by
 obtain⟨q,_,hq⟩:=zq5b s N N (Nat.le_refl _);exact⟨q+1,by rw[adv_e,hq λh'=>h λj h2=>h' j (by omega) h2]⟩
end
def OldAll(N:Nat)(E0:Int)(s:EpS):Prop:=∀i x,i<N->x∈s.th i->x.2<=E0
theorem SInv.oldAll {N c E:Nat}{s:EpS}{W:SW}(h:SInv N c E s W):OldAll N s.e s:=λi x hi hx=>by
 obtain⟨n,te,t,rfl,h2,_⟩:=h.t1 i x hi hx;rw[h.e];show(te:Int)<=_;omega
theorem OldAll.left {N:Nat}{E0:Int}{s:EpS}{k:Nat}(h:OldAll N E0 s)(hk:k<N)(he:wrap64 (s.e - 2)=E0):leftL s.e (s.th k)=[]:=by
 unfold leftL;rw[List.filter_eq_nil_iff];intro x hx;have:=h k x hk hx;unfold oldT;rw[he];simp[this]
theorem OldAll.coll {N:Nat}{E0:Int}{s:EpS}{k:Nat}(h:OldAll N E0 s):OldAll N E0 (collS s k):=λi x hi hx=>by
 by_cases e:i=k
 . subst e;have e2:(collS s i).th i=leftL s.e (s.th i):=upd'_same _ _ _;rw[e2]at hx;exact h i x hi (List.mem_filter.1 hx).1
 . have e2:(collS s k).th i=s.th i:=zqx _ _ e;rw[e2]at hx;exact h i x hi hx
theorem SInv.allBack {N c E:Nat}{s:EpS}{W:SW}(h:SInv N c E s W)(h0:∀i,i<N->s.th i=[]):∀(n:Nat)(t:STh),W.T[n]?=some t->t.back=true:=λn t ht=>by
 cases hb:t.back with
 |true=>rfl
 |false=>
  obtain⟨x,hx,_⟩:=h.all n t ht hb;rw[h0 _ (h.th n t ht).1]at hx;cases hx
def loopC:Code->Code
 |.loop c=>c
 |c=>c
section
variable {main:Bool} {J:Goroutine->World->Prop}
end
end Go.Proofs
namespace Go.Car
open Go Go.Conc Go.RowKit
end Go.Car
namespace Go.Proofs
open Go Go.Conc Go.RowKit Go.Car
section
variable {P:Ans->Value->Prop} {B rb gm gM N who tb:Nat} {opv:Value} {hv:Nat->Value} {ov0:Value} {w wr:World} {C:EpS} {t:RTh} {cp ov:Value} {lvs:List Value}
end
section
variable {N:Nat} {op:OpX} {t:RTh} {C:EpS}
end
section
variable {X:Nat->Prop} {G:Nat->Option Obj} {B rb gm gM N n:Nat} {opv:Nat->Value} {ops:Nat->List OpX} {C:EpS} {T:Nat->RTh} {hv ov cp:Nat->Value} {tb:Nat->Nat} {lvs:Nat->List Value} {w w':World}
end
section
variable {X:Nat->Prop} {G:Nat->Option Obj} {B rb gm gM N n:Nat} {opv:Nat->Value} {ops:Nat->List OpX} {C C':EpS} {T:Nat->RTh} {hv ov cp:Nat->Value} {tb:Nat->Nat} {lvs:Nat->List Value} {w w':World}
end
section
variable {G:Nat->Option Obj} {B rb gm gM N n:Nat} {opv:Nat->Value} {ops:Nat->List OpX} {C C':EpS} {T:Nat->RTh} {hv ov cp:Nat->Value} {tb:Nat->Nat} {lvs:Nat->List Value} {w w':World}
end
section
variable {X:Nat->Prop} {G:Nat->Option Obj} {B rb gm gM N n:Nat} {opv:Nat->Value} {ops:Nat->List OpX} {C:EpS} {T:Nat->RTh} {hv ov cp:Nat->Value} {tb:Nat->Nat} {lvs:Nat->List Value} {w:World}
end
section
variable {G:Nat->Option Obj} {B rb gm gM N n:Nat} {opv:Nat->Value} {ops:Nat->List OpX} {C C':EpS} {T:Nat->RTh} {hv ov cp:Nat->Value} {tb:Nat->Nat} {lvs:Nat->List Value} {w w':World} {x cb:Nat} {op:OpX}
theorem wrapE(x:Int):IntKind.i64.wrap x=wrap64 x:=by rw[IntKind.wrap_i64];simp only[wrap64];try omega
end
section
variable {P:Ans->Value->Prop} {B rb gm gM N who tb:Nat} {opv:Value} {hv:Nat->Value} {ov0:Value} {w wr:World} {C:EpS} {t:RTh} {cp ov:Value} {lvs:List Value}
end
section
variable {N i:Nat} {op:OpX} {ops:List OpX} {C:EpS} {t:RTh}
end
section
variable {X:Nat->Prop} {G:Nat->Option Obj} {B rb gm gM N n:Nat} {opv:Nat->Value} {ops:Nat->List OpX} {C:EpS} {T:Nat->RTh} {hv ov cp:Nat->Value} {tb:Nat->Nat} {lvs:Nat->List Value} {w w':World} {x cb:Nat} {op:OpX} {t':RTh} {K:CR} {lv:Value}
end
structure PlayedR{S1:Type}(N:Nat)(w:World)(r:TSt (S1×(Nat->List Ans)))(st:List Int)(ab:Nat)(ov sv:Value)(am:AnsM)(w':World):Prop where
 size:w.heap.size<=w'.heap.size
 old:∀b,b<w.heap.size->w'.heap[b]?=w.heap[b]?
 ans:zq30 tT ab N am w'
 ast:am.st=r.s.2
 abl:w.heap.size<=ab
 ansn:∀i b,i<N->am.X i b≠none->w.heap.size<=b
 orow:w'.ownsRow w.heap.size 3 1 ov r.ord.length (r.ord.map λ(i:Nat)=>.int .i64 i)
 srow:w'.ownsRow w.heap.size 2 1 sv st.length (st.map (Value.int .i64))
 rowf:∀x,ov.ownBlock=some x->x≠ab/\∀i,i<N->am.X i x=none
 srowf:∀x,sv.ownBlock=some x->x≠ab/\(∀i,i<N->am.X i x=none)/\ov.ownBlock≠some x
theorem PlayedR.re {S1:Type}{N:Nat}{w w':World}{r:TSt (S1×(Nat->List Ans))}{st:List Int}{ab:Nat}{ov sv:Value}{am:AnsM}(h:PlayedR N w r st ab ov sv am w')(τ:Nat->Question->Nat)(d:Nat):PlayedR N w r st ab ov sv am (Go.Car.re w' τ d):=
 ⟨h.size,h.old,⟨h.ans.hd,h.ans.row,h.ans.blk,h.ans.nab,h.ans.sep⟩,h.ast,h.abl,h.ansn,h.orow,h.srow,h.rowf,h.srowf⟩
theorem zqdy{M1 S1:Type}{C:Core M1 S1}{N H:Nat}{l₀ l':M1}{w wb w2 w':World}{r:TSt (S1×(Nat->List Ans))}{ab:Nat}{v sv:Value}{am:AnsM}{st:List Int}(h:OpsRes C N l₀ wb r ab v l' am w2)(hw:w.heap.size=H)(hwb:H+1<=wb.heap.size)(hob:∀b,b<H->wb.heap[b]?=w.heap[b]?)
 (hl:∀b,C.foot l₀ b->H+1<=b) (hsz:w2.heap.size<=w'.heap.size) (hold:∀x,x<w2.heap.size->x≠H->w'.heap[x]?=w2.heap[x]?) (hs:w'.ownsRow w2.heap.size 2 1 sv st.length (st.map (Value.int .i64))):PlayedR N w r st ab v sv am w':=by
 have h1:=h.size;have h2:=h.abl;have han:∀i b,i<N->am.X i b≠none->H+1<=b:=λi b hi hb=>(h.ansn i b hi hb).elim (hl b) (λx=>by omega);refine⟨by omega,λb hb=>(hold b (by omega) (by omega)).trans ((h.old b (by omega) λx=>by have:=hl b x;omega).trans (hob b (by omega))),⟨(hold ab (zqs h.ans.hd) (by omega)).trans h.ans.hd,h.ans.row,λi b o hi hb=>(hold b (zqs (h.ans.blk i b o hi hb)) (by have:=han i b hi (by rw[hb];simp);omega)).trans (h.ans.blk i b o hi hb),h.ans.nab,h.ans.sep⟩,h.ast,by omega,λi b hi hb=>by have:=han i b hi hb;omega,?_,zq3u hs (by omega),λx hx=>(h.rowf x hx).2,λx hx=>?_⟩
 . refine zq3u (zq1v h.row λg hg=>hold g (own_lt h.row hg).2.2 ?_) (by omega);have:=(own_lt h.row hg).2.1;omega
 . have h3:=(own_lt hs hx).2.1;refine⟨?_,λi hi=>?_,λe=>?_⟩
   . have:=zqs h.ans.hd;omega
   . cases ho:am.X i x with
     |none=>rfl
     |some o=>have:=zqs (h.ans.blk i x o hi ho);omega
   . have:=(own_lt h.row e).2.2;omega
def begE:List Int->Int
 |[]=>0
 |x::_=>min (max x 0) 4611686018427387904
theorem zq6p(x:Int)(l:List Int):(if 4611686018427387904<if x<0 then 0 else x then 4611686018427387904 else if x<0 then 0 else x)=begE (x::l):=by
 show _=min (max x 0) 4611686018427387904
 by_cases h:x<0
 . simp only[if_pos h];rw[if_neg (by omega)];omega
 . simp only[if_neg h]
   by_cases h2:4611686018427387904<x
   . rw[if_pos h2];omega
   . rw[if_neg h2];omega
theorem NewDom.setE {w w1:World}{db mb N:Nat}{e x:Int}{τ:Nat->Question->Nat}{d:Nat}(h:NewDom w db mb N e w1):NewDom w db mb N x ((re w1 τ d).setCell ⟨db,0,none⟩ (.int .i64 x)):=by
 have h1:=h.rep.dom;have h2:=h.rep.mem;have hne:db≠mb:=h.rep.ne;refine⟨⟨?_,λb hb=>?_⟩,h.lo,zq70 ?_ ?_⟩
 . show w.heap.size<=((re w1 τ d).setCell _ _).heap.size;rw[zqz];exact h.be.1
 . rw[zql _ _ _ _ (by have:=h.lo.1;show b≠db;omega)];exact h.be.2 b hb
 . exact(zqy (re w1 τ d) _ _ _ h1).trans rfl
 . exact(zql (re w1 τ d) _ _ _ (Ne.symm hne)).trans h2
theorem zqb9{start:List Int}{sp tp:Option Addr}{sC tl tC:Nat}(w:World)(hs:start≠[]->∃g off,sp=some ⟨g,off,none⟩/\w.cell? ⟨g,off,none⟩=some (.int .i64 (start.headD 0)))(htl:tl<=4611686018427387904):
 Calls Try.prog 31 #[.slice sp start.length sC,.slice tp tl tC] w λe w'=>∃db mb,e=.returned (.pointer (some ⟨db,0,none⟩))/\NewDom w db mb (min tl 64) (begE start) w':=by
 obtain⟨N,hN⟩:∃N,min tl 64=N:=⟨_,rfl⟩;have HN:=Lib.hid (zq6y N (by omega) w);have hmin:(tl<=64/\N=tl)\/(¬tl<=64/\N=64):=by omega
 have HS:=Lib.hid hs;rw[hN];clear hs hN;obtain⟨sl,hsl⟩:∃sl,start.length=sl:=⟨_,rfl⟩;rw[hsl];have HSL:=Lib.hid hsl;clear hsl
 go_enter Try.func31,Try.ntmps31
 rcases hmin with⟨hc,hNt⟩|⟨hc,hNt⟩
 . have hc':(tl:Int)<=64:=by omega
   subst hNt;clear hc
   go_wp2_with (fail)
   refine Calls.mono HN.out ?_;rintro e w' ⟨db,mb,rfl,hD⟩;have HD:=Lib.hid hD;clear HN hD;cases start with
   |nil=>
    have hs0:sl=0:=HSL.out.symm;subst hs0;go_wp2;go_ret;exact⟨_,_,rfl,HD.out⟩
   |cons x l=>
    have hs1:(0:Int)<(sl:Int):=by have:=HSL.out;simp only[List.length_cons]at this;omega
    obtain⟨g,off,rfl,hc⟩:=HS.out (by simp);have c0:w'.cell? ⟨g,off,none⟩=some (.int .i64 x):=HD.out.be.cell hc;clear HS hc
    go_wp2_with (fail)
    refine zqax (k:=8) (C:=λw''=>∃n,w''=w'.drewN n) (by kernel_rfl) (by kernel_rfl) (by kernel_rfl) (by kernel_rfl) (by kernel_rfl) ⟨1,rfl⟩ ?_;simp only[List.take_succ_cons,List.take_zero]
    repeat (quiet_step (fail))
    refine wpQuiet_nil ?_;rintro w'' ⟨nq,rfl⟩;refine zq46 (i:=8) (by kernel_rfl) ?_;simp only[wpOp,al_gl,al_g0,al_g1];rw[if_pos (by rfl)];refine .inl ?_;go_simp;rw[zq6p x l];refine Calls.mono (zq61 ⟨db,0,none⟩ 0 (begE (x::l)) (w'.drewN nq) HD.out.rep.cellE (HD.out.rep.frzE 0)) ?_;rintro e w'' ⟨rfl,rfl⟩;refine zq45 (by kernel_rfl) ?_;go_wp2
    all_goals go_ret
    all_goals exact⟨db,rfl,mb,HD.out.setE (x:=begE (x::l)) (τ:=(w'.drewN nq).tape) (d:=(w'.drewN nq).drawn)⟩
 . have hc':(64:Int)<=(tl:Int):=by omega
   have hc2:¬(tl:Int)<=64:=by omega
   have hc3:¬(tl:Int)<64:=by omega
   have e64:((64:Nat):Int)=64:=rfl;subst hNt;clear hc
   go_wp2_with (fail)
   refine Calls.mono HN.out ?_;rintro e w' ⟨db,mb,rfl,hD⟩;have HD:=Lib.hid hD;clear HN hD;cases start with
   |nil=>
    have hs0:sl=0:=HSL.out.symm;subst hs0;go_wp2;go_ret;exact⟨_,_,rfl,HD.out⟩
   |cons x l=>
    have hs1:(0:Int)<(sl:Int):=by have:=HSL.out;simp only[List.length_cons]at this;omega
    obtain⟨g,off,rfl,hc⟩:=HS.out (by simp);have c0:w'.cell? ⟨g,off,none⟩=some (.int .i64 x):=HD.out.be.cell hc;clear HS hc
    go_wp2_with (fail)
    refine zqax (k:=8) (C:=λw''=>∃n,w''=w'.drewN n) (by kernel_rfl) (by kernel_rfl) (by kernel_rfl) (by kernel_rfl) (by kernel_rfl) ⟨1,rfl⟩ ?_;simp only[List.take_succ_cons,List.take_zero]
    repeat (quiet_step (fail))
    refine wpQuiet_nil ?_;rintro w'' ⟨nq,rfl⟩;refine zq46 (i:=8) (by kernel_rfl) ?_;simp only[wpOp,al_gl,al_g0,al_g1];rw[if_pos (by rfl)];refine .inl ?_;go_simp;rw[zq6p x l];refine Calls.mono (zq61 ⟨db,0,none⟩ 0 (begE (x::l)) (w'.drewN nq) HD.out.rep.cellE (HD.out.rep.frzE 0)) ?_;rintro e w'' ⟨rfl,rfl⟩;refine zq45 (by kernel_rfl) ?_;go_wp2
    all_goals go_ret
    all_goals exact⟨db,rfl,mb,HD.out.setE (x:=begE (x::l)) (τ:=(w'.drewN nq).tape) (d:=(w'.drewN nq).drawn)⟩
noncomputable def eplT(n:Nat):Code:=tailN n (Try.f9.body.getD .skip)
theorem epl0:Try.f9.body.getD .skip=.seq (headC (eplT 0)) (.seq (headC (eplT 1)) (.seq (headC (eplT 2)) (eplT 3))):=by kernel_rfl
def zq1a(start:List Int)(ops:Nat->List OpX)(N:Nat)(mo:Int)(sched:List Int):TSt (EpS×(Nat->List Ans)):=playT (λi=>opsP i (opE N i) (ops i)) N (min mo.toNat 1048576) sched (ep0 (begE start),λ_=>[])
theorem zqbz{Fin:Machine->Trace->Prop}(hFin:Back Try.prog Fin){n:Nat}(hn:0<n){RP:Nat->Option Obj}{w:World}{np Cn N Cs:Nat}{pp scp:Option Addr}{sp:Nat->Option Addr}{L Cp:Nat->Nat}{ops:Nat->List OpX}{sched:List Int}{mo:Int}{start:List Int}{stp:Option Addr}{stC:Nat}(hst:start≠[]->∃g off,stp=some ⟨g,off,none⟩/\w.cell? ⟨g,off,none⟩=some (.int .i64 (start.headD 0)))
 (hRP:∀b o,RP b=some o->w.heap[b]?=some o) (ho:OpsAt w RP pp np N sp L Cp ops) (hsl:sched.length<=4611686018427387904)
 (hs:sched≠[]->∃sb off,scp=some ⟨sb,off,none⟩/\∀j x,sched[j]?=some x->w.cell? ⟨sb,off+j,none⟩=some (.int .i64 x))
 {c:Frame} {cs:List Frame}
 (hmain:∀ab ov sv am w',PlayedR N w (zq1a start ops N mo sched) (epL (zq1a start ops N mo sched).s.1 N) ab ov sv am w'->
  J0 Try.prog Fin (n+N) (G (c.finish (.agg #[.slice (some ⟨ab,0,none⟩) N N,ov,sv,.bool (decide (0<leftN (zq1a start ops N mo sched).ov N))])) cs) w'):
 J0 Try.prog Fin n (G (Frame.enter Try.prog 9 #[.slice stp start.length stC,.slice pp np Cn,.slice scp sched.length Cs,.int .i64 mo] .normal) (c::cs)) w:=by
 have hJ:=j0_JS hFin;have hC:=zq15 hFin;have e:Frame.enter Try.prog 9 #[.slice stp start.length stC,.slice pp np Cn,.slice scp sched.length Cs,.int .i64 mo] .normal=(bN 9).at (zqm Try.f9 #[.slice stp start.length stC,.slice pp np Cn,.slice scp sched.length Cs,.int .i64 mo]) [.code ((Try.f9.body).getD .skip)]:=by kernel_rfl
 have ea:zqm Try.f9 #[.slice stp start.length stC,.slice pp np Cn,.slice scp sched.length Cs,.int .i64 mo]=⟨#[.slice stp start.length stC,.slice pp np Cn,.slice scp sched.length Cs,.int .i64 mo,undef,undef,undef,undef,undef,undef,undef,undef,undef,undef,undef,undef,undef,undef,undef,undef,undef,undef,undef,undef],[]⟩:=by kernel_rfl
 rw[e,ea,epl0];clear e ea;have hm:=Lib.hid hmain;clear hmain;obtain⟨H,hH⟩:∃H,w.heap.size=H:=⟨_,rfl⟩;refine hJ.ctl (s:=n) (λw=>stepG_seq) ?_;refine zqv hJ hC zqk (by kernel_rfl) (λt w'=>t=#[.slice stp start.length stC,.slice pp np Cn,.slice scp sched.length Cs,.int .i64 mo,undef,undef,undef,undef,.pointer (some ⟨H,0,none⟩),undef,undef,undef,undef,undef,undef,undef,undef,undef,undef,undef,undef,undef,undef,undef]/\∃τ d,w'=re (w.alloc (.cells #[.slice none 0 0,.slice none 0 0,.slice none 0 0,.bool false] 29)) τ d) (λt w' τ d h=>⟨h.1,by obtain⟨τ',d',rfl⟩:=h.2;exact⟨τ,d,by rw[re_re]⟩⟩) (by decide) (λτ d=>?_) ?_
 . obtain⟨u0,hu0⟩:∃c,headC (eplT 0)=c:=⟨_,rfl⟩;have eu0:=hu0;rw[hu0];simp only[eplT,headC,tailN,Try.f9,al_od]at eu0;subst eu0;clear hu0;clear hs ho hRP;go_wp2;exact⟨rfl,rfl,τ,d,rfl⟩
 rintro t w' ⟨rfl,τ,d,rfl⟩;refine hJ.re' n _ _ τ d ?_;have hwa:(w.alloc (.cells #[.slice none 0 0,.slice none 0 0,.slice none 0 0,.bool false] 29)).heap.size=H+1:=by rw[zq8,hH]
 have hob:∀b,b<H->(w.alloc (.cells #[.slice none 0 0,.slice none 0 0,.slice none 0 0,.bool false] 29)).heap[b]?=w.heap[b]?:=λb hb=>by rw[zqc,if_neg (by omega)]
 have hzb:(w.alloc (.cells #[.slice none 0 0,.slice none 0 0,.slice none 0 0,.bool false] 29)).heap[H]?=some (.cells #[.slice none 0 0,.slice none 0 0,.slice none 0 0,.bool false] 29):=hH▸zq13 w _;obtain⟨wa,hwae⟩:∃wa,w.alloc (.cells #[.slice none 0 0,.slice none 0 0,.slice none 0 0,.bool false] 29)=wa:=⟨_,rfl⟩;rw[hwae]at hwa hob hzb |-;clear hwae;refine hJ.ctl (s:=n) (λw=>stepG_seq) ?_;refine zqv hJ hC zqk (by kernel_rfl) (λt w'=>∃db mb,t=#[.slice stp start.length stC,.slice pp np Cn,.slice scp sched.length Cs,.int .i64 mo,undef,undef,undef,undef,.pointer (some ⟨H,0,none⟩),.pointer (some ⟨db,0,none⟩),undef,.slice stp start.length stC,.slice pp np Cn,.pointer (some ⟨db,0,none⟩),undef,undef,undef,undef,undef,undef,undef,undef,undef,undef]/\NewDom wa db mb N (begE start) w') (λt w' τ d⟨db,mb,h1,h2⟩=>⟨db,mb,h1,⟨h2.be.1,h2.be.2⟩,h2.lo,h2.rep.re τ d⟩) (by decide) (λτ d=>?_) ?_
 . obtain⟨u0,hu0⟩:∃c,headC (eplT 1)=c:=⟨_,rfl⟩;have eu0:=hu0;rw[hu0];simp only[eplT,headC,tailN,Try.f9,al_od]at eu0;subst eu0;clear hu0;have HM:=Lib.hid (zqb9 (start:=start) (sp:=stp) (sC:=stC) (tp:=pp) (tl:=np) (tC:=Cn) (re wa τ d) (λh0=>by
    obtain⟨g,off,e,h1⟩:=hst h0;exact⟨g,off,e,(zq17 (hob g (by rw[<-hH];exact cell_lt h1))).trans h1⟩) ho.le)
   have HEQ:=Lib.hid ho.eq;obtain⟨sl,hsl9⟩:∃sl,start.length=sl:=⟨_,rfl⟩;rw[hsl9]at HM |-;clear hs ho hRP hob hzb hH hwa hsl hst hsl9
   go_wp2_with (fail)
   refine Calls.mono HM.out ?_;rintro e w' ⟨db,mb,rfl,hR⟩;rw[<-HEQ.out]at hR;have HR:RowKit.Hid (NewDom wa db mb N (begE start) w'):=Lib.hid ⟨⟨hR.be.1,hR.be.2⟩,hR.lo,hR.rep⟩;clear hR;go_wp2;exact⟨rfl,_,_,rfl,HR.out⟩
 rintro t wb ⟨db,mb,rfl,hR⟩;have hwb:H+1<=wb.heap.size:=by have:=hR.be.1;omega
 have hobb:∀b,b<H->wb.heap[b]?=w.heap[b]?:=λb hb=>(hR.be.2 b (by omega)).trans (hob b hb);have hzb2:wb.heap[H]?=some (.cells #[.slice none 0 0,.slice none 0 0,.slice none 0 0,.bool false] 29):=(hR.be.2 H (by omega)).trans hzb;have hlo:=hR.lo;rw[hwa]at hlo;clear hzb hob hwa;have hlt:∀b o,RP b=some o->b<H:=λb o h=>by rw[<-hH];exact zqs (hRP b o h)
 have hnf:∀b,(zqb (epT db mb N)).foot (epM0 (begE start)) b->H+1<=b:=λb hb=>by
  rcases hb with e|e|⟨i,_,e⟩
  . rw[e];exact hlo.1
  . rw[e];exact hlo.2
  . exact absurd rfl e
 have hB:BRep (zqb (epT db mb N)) RP ⟨epM0 (begE start),λ_ _=>none⟩ wb:=by
  refine⟨hR.rep,λi b o h=>(by cases h),λb o h=>(hobb b (hlt b o h)).trans (hRP b o h),λi b h=>absurd rfl h,λi j b _ h=>absurd rfl h,λb h hf=>?_,λi b _=>rfl⟩;cases ho:RP b with
  |none=>exact h ho
  |some o=>have:=hlt b o ho;have:=hnf b hf;omega
 have hOp:OpsAt wb RP pp np N sp L Cp ops:=by
  refine⟨ho.eq,ho.le,λh0=>?_,ho.row,ho.len,ho.op⟩;obtain⟨tb,to',e,h1⟩:=ho.at' h0;exact⟨tb,to',e,λi hi=>(zq17 (hobb tb (by rw[<-hH];exact cell_lt (h1 i hi)))).trans (h1 i hi)⟩
 have hsc:sched≠[]->∃sb off,scp=some ⟨sb,off,none⟩/\¬(zqb (epT db mb N)).foot (epM0 (begE start)) sb/\∀j x,sched[j]?=some x->wb.cell? ⟨sb,off+j,none⟩=some (.int .i64 x):=λh0=>by
  obtain⟨sb,off,e,h2⟩:=hs h0;obtain⟨x,l,hsl⟩:=List.exists_cons_of_ne_nil h0;have hlt:sb<H:=by rw[<-hH];exact cell_lt (h2 0 x (by rw[hsl];rfl))
  exact⟨sb,off,e,λhf=>by have:=hnf sb hf;omega,λj x hj=>(zq17 (hobb sb hlt)).trans (h2 j x hj)⟩
 have hN64:N<=64:=by have:=ho.eq;omega
 have hlen:=ho.len;clear ho hs hRP hlt hR hst;refine hJ.ctl (s:=n) (λw=>stepG_seq) ?_;obtain⟨u0,hu0⟩:∃c,headC (eplT 2)=c:=⟨_,rfl⟩;have eu0:=hu0;rw[hu0];simp only[eplT,headC,tailN,Try.f9,al_od]at eu0;subst eu0;clear hu0;refine hJ.ctl (s:=n) (λw=>stepG_region) ?_;have HX:=Lib.hid (And.intro hB (And.intro hOp (And.intro hsc (And.intro hnf (And.intro hobb (And.intro hzb2 hwb))))));have HE:=Lib.hid (And.intro hH (And.intro hN64 hlen));obtain⟨sl,hsl9⟩:∃sl,start.length=sl:=⟨_,rfl⟩;rw[hsl9];clear hB hOp hsc hnf hobb hzb2 hwb hH hlo hN64 hlen hsl9;refine zqg (s:=n) (by decide) hJ (zqf _) true (.inl rfl) 0 5 3 rfl rfl rfl (by rfl) ?_;intro τ d;simp only[List.drop_zero,List.take_succ_cons,List.take_zero];go_wp2;simp only[zq7];refine hJ.re' n _ _ τ d ?_;refine zq14 (by decide) hJ (s:=n) rfl rfl (f:=32) (args:=#[.slice pp np Cn,.func (.func 33) #[.pointer (some ⟨db,0,none⟩)] #[],.slice scp sched.length Cs,.int .i64 mo]) (λτ d=>?_) (λτ d=>?_) ?_
 . simp[go_sem,execOp,Act.eval,resolve,Deferred.ofValue,invoke,callFunc,Try.func32,Try.f32]
 . intro e he;simp[go_sem,execOp,Act.eval,resolve,Deferred.ofValue,invoke,callFunc,Try.func32,Try.f32,Sem.runT_eq]at he
 obtain⟨hB,hOp,hsc,hnf,hobb,hzb2,hwb⟩:=HX.out;obtain⟨hH,hN64,hlen⟩:=HE.out;refine zqdk hFin hn zqk rowsM (oe:=oeE) (fn:=Try.f33) (cc:=(Try.f33.body).getD .skip) Try.func33 rfl rfl hB hOp hsl hsc (dop:=λi=>opE N i) (λi s hi h k=>Proc.Keep.deep (b:=0) (zq83 N (ops i) 0 (by rw[hlen i hi];simp only[mostT];omega)) (by
  have:=congrArg (λx=>x.2.length) h;show(s.1.th i).length<=0;exact Nat.le_of_eq this) k) (λro ab pr st cr rest EN i o op hro hi=>edo_turn ⟨rfl,rfl,rfl,hN64⟩ rfl hN64 ro pr st cr rest EN i hi o op) ?_
 intro ab v l' am w2 hO;rw[Frame.finish_at]
 walk_nrm
 have hTe:playT (λi=>opsP i (opE N i) (ops i)) N (min mo.toNat 1048576) sched ((zqb (epT db mb N)).st (epM0 (begE start)),λ_=>[])=zq1a start ops N mo sched:=rfl;rw[hTe]at hO |-;obtain⟨pv',cv',rfl,_⟩:=zq2d hO.row;have hl':(zq1a start ops N mo sched).s.1=l'.s:=hO.st.symm;have hze:w2.heap[H]?=some (.cells #[.slice none 0 0,.slice none 0 0,.slice none 0 0,.bool false] 29):=(hO.old H (by omega) (λh=>by have:=hnf H h;omega)).trans hzb2;generalize (zq1a start ops N mo sched).ord.length=nv' at hO |-;have HO:=Lib.hid hO;have HZ:=Lib.hid (And.intro hze hl');obtain⟨stuck,hstuck⟩:∃x,decide (0<leftN (zq1a start ops N mo sched).ov N)=x:=⟨_,rfl⟩;rw[hstuck];have HST:=Lib.hid hstuck;clear hstuck hO hze hl' hTe hB hOp hsc hnf hobb hzb2 hwb hH hN64 hlen;refine zqg (s:=n+N) (by decide) hJ (zqf _) false (.inr rfl) 6 2 0 rfl rfl rfl (by rfl) ?_;intro τ d;simp only[List.drop_succ_cons,List.drop_zero,List.take_succ_cons,List.take_zero];have HO2:=Lib.hid (HO.out.re τ d);have HZ2:RowKit.Hid ((re w2 τ d).heap[H]?=some (.cells #[.slice none 0 0,.slice none 0 0,.slice none 0 0,.bool false] 29)/\(zq1a start ops N mo sched).s.1=l'.s):=Lib.hid HZ.out;clear HO HZ;generalize re w2 τ d=w3 at HO2 HZ2 |-;go_wp2;simp only[zq7];refine hJ.ctl (s:=n+N) (λw=>stepG_region_end) ?_;have hT:=zq13 w3 (.cells #[.slice (some ⟨ab,0,none⟩) N N,.slice pv' nv' cv',.slice none 0 0,.bool stuck] 29);have hoT:∀b,b<w3.heap.size->(w3.alloc (.cells #[.slice (some ⟨ab,0,none⟩) N N,.slice pv' nv' cv',.slice none 0 0,.bool stuck] 29)).heap[b]?=w3.heap[b]?:=λb hb=>by rw[zqc,if_neg (by omega)]
 have hsT:(w3.alloc (.cells #[.slice (some ⟨ab,0,none⟩) N N,.slice pv' nv' cv',.slice none 0 0,.bool stuck] 29)).heap.size=w3.heap.size+1:=zq8 _ _;generalize (w3.alloc (.cells #[.slice (some ⟨ab,0,none⟩) N N,.slice pv' nv' cv',.slice none 0 0,.bool stuck] 29))=w4 at hT hoT hsT |-;obtain⟨T,hTT⟩:∃T,w3.heap.size=T:=⟨_,rfl⟩;rw[hTT]at hT hoT hsT |-;have HT:=Lib.hid (And.intro hT (And.intro hoT (And.intro hsT hTT)));clear hT hoT hsT hTT;refine zq32 hJ hC zqk (by kernel_rfl) (λv w'=>∃sv am,v=.agg #[.slice (some ⟨ab,0,none⟩) N N,.slice pv' nv' cv',sv,.bool stuck]/\PlayedR N w (zq1a start ops N mo sched) (epL (zq1a start ops N mo sched).s.1 N) ab (.slice pv' nv' cv') sv am w') (λv w' τ d⟨sv,am,h1,h2⟩=>⟨sv,am,h1,h2.re τ d⟩) rfl Try.func9 (λτ d=>?_) ?_
 . obtain⟨u0,hu0⟩:∃c,eplT 3=c:=⟨_,rfl⟩;have eu0:=hu0;rw[hu0];simp only[eplT,headC,tailN,Try.f9,al_od]at eu0;subst eu0;clear hu0;obtain⟨hT,hoT,hsT,hTT⟩:=HT.out;have hT':(re w4 τ d).heap[T]?=some (.cells #[.slice (some ⟨ab,0,none⟩) N N,.slice pv' nv' cv',.slice none 0 0,.bool stuck] 29):=hT;have hoT':∀b,b<T->(re w4 τ d).heap[b]?=w3.heap[b]?:=hoT;have hsT':(re w4 τ d).heap.size=T+1:=hsT;have hHl:H<T:=by rw[<-hTT];exact zqs HZ2.out.1
   have hall:=zqc2 (T:=epT db mb N) (m:=l') ((zqb (epT db mb N)).frame _ _ (re w4 τ d) HO2.out.rep λb hb=>hoT' b (by rw[<-hTT];exact(zqb (epT db mb N)).lt _ _ _ HO2.out.rep hb)) HE.out.2.1;rw[show(epT db mb N).N=N from rfl]at hall;generalize re w4 τ d=w5 at hT' hoT' hsT' hall |-;have HA:=Lib.hid hall;have HW:=Lib.hid (And.intro hT' (And.intro hoT' (And.intro hsT' (And.intro hTT hHl))));clear hT hoT hsT hTT hT' hoT' hsT' hall HT hHl hm
   go_wp2_with (fail)
   refine Calls.mono HA.out ?_;rintro e w6 ⟨sv,rfl,hI⟩;obtain⟨sp',sc',rfl,-,-⟩:=zq2d hI.row;obtain⟨sl,hsl'⟩:∃x,(epL l'.s N).length=x:=⟨_,rfl⟩;rw[hsl']at hI |-;have hI2:=Lib.hid (And.intro hI hsl');clear hsl';have b1:w6.heap[T]?=some (.cells #[.slice (some ⟨ab,0,none⟩) N N,.slice pv' nv' cv',.slice none 0 0,.bool stuck] 29):=(hI.be.2 T (by have:=HW.out.2.2.1;omega)).trans HW.out.1;have b0:w6.heap[H]?=some (.cells #[.slice none 0 0,.slice none 0 0,.slice none 0 0,.bool false] 29):=(hI.be.2 H (by have:=HW.out.2.2.1;have:=HW.out.2.2.2.2;omega)).trans ((HW.out.2.1 H HW.out.2.2.2.2).trans HZ2.out.1);have hne:¬(T=H):=by have:=HW.out.2.2.2.2;omega
   have hne2:¬(H=T):=by omega
   clear hI;have c0:=(zq1 (off:=0) b1).trans rfl;have c1:=(zq1 (off:=1) b1).trans rfl;have c2:=(zq1 (off:=2) b1).trans rfl;have c3:=(zq1 (off:=3) b1).trans rfl;have y2:=zqh (off:=2) b1;have r0:=(zq1 (off:=0) b0).trans rfl;have r1:=(zq1 (off:=1) b0).trans rfl;have r2:=(zq1 (off:=2) b0).trans rfl;have r3:=(zq1 (off:=3) b0).trans rfl;have z0:=zqh (off:=0) b0;have z1:=zqh (off:=1) b0;have z2:=zqh (off:=2) b0;have z3:=zqh (off:=3) b0;have B0:=Lib.hid b0;have B1:=Lib.hid b1;clear b0 b1;go_wp2;clear c0 c1 c2 c3 y2 r0 r1 r2 r3 z0 z1 z2 z3;have b0:(w6.setCell ⟨T,2,none⟩ (.slice sp' sl sc')).heap[H]?=some (.cells #[.slice none 0 0,.slice none 0 0,.slice none 0 0,.bool false] 29):=by rw[zql _ _ _ _ hne2];exact B0.out
   have b1':=zqy _ H 0 (.slice (some ⟨ab,0,none⟩) N N) b0;have b2':=zqy _ H 1 (.slice pv' nv' cv') b1';have b3':=zqy _ H 2 (.slice sp' sl sc') b2';have b4':=zqy _ H 3 (.bool stuck) b3';have hext:∀x,x≠T->x≠H->(((((w6.setCell ⟨T,2,none⟩ (.slice sp' sl sc')).setCell ⟨H,0,none⟩ (.slice (some ⟨ab,0,none⟩) N N)).setCell ⟨H,1,none⟩ (.slice pv' nv' cv')).setCell ⟨H,2,none⟩ (.slice sp' sl sc')).setCell ⟨H,3,none⟩ (.bool stuck)).heap[x]?=w6.heap[x]?:=λx hx1 hx=>by
    rw[zql _ _ _ _ hx,zql _ _ _ _ hx,zql _ _ _ _ hx,zql _ _ _ _ hx,zql _ _ _ _ hx1]
   have hsz8:(((((w6.setCell ⟨T,2,none⟩ (.slice sp' sl sc')).setCell ⟨H,0,none⟩ (.slice (some ⟨ab,0,none⟩) N N)).setCell ⟨H,1,none⟩ (.slice pv' nv' cv')).setCell ⟨H,2,none⟩ (.slice sp' sl sc')).setCell ⟨H,3,none⟩ (.bool stuck)).heap.size=w6.heap.size:=by simp only[zqz]
   generalize (((((w6.setCell ⟨T,2,none⟩ (.slice sp' sl sc')).setCell ⟨H,0,none⟩ (.slice (some ⟨ab,0,none⟩) N N)).setCell ⟨H,1,none⟩ (.slice pv' nv' cv')).setCell ⟨H,2,none⟩ (.slice sp' sl sc')).setCell ⟨H,3,none⟩ (.bool stuck))=w8 at b4' hext hsz8 |-;clear b1' b2' b3' b0;have k0:=(zq1 (off:=0) b4').trans rfl;have k1:=(zq1 (off:=1) b4').trans rfl;have k2:=(zq1 (off:=2) b4').trans rfl;have k3:=(zq1 (off:=3) b4').trans rfl;obtain⟨_,hoT,hsT,hTT,hHl⟩:=HW.out;obtain⟨hI,hsl2⟩:=hI2.out;have hwl:=HE.out.1;obtain⟨hB,hOp,hsc,hnf,hobb,hzb2,hwb⟩:=HX.out;have hrow:w8.ownsRow w3.heap.size 2 1 (.slice sp' sl sc') (epL (zq1a start ops N mo sched).s.1 N).length ((epL (zq1a start ops N mo sched).s.1 N).map (Value.int .i64)):=by
    rw[HZ2.out.2,hsl2];have hrI:=hI.row;rw[hsl2]at hrI;have q:w8.ownsRow w5.heap.size 2 1 (.slice sp' sl sc') sl ((epL l'.s N).map (Value.int .i64)):=zq1v hrI λg hg=>by
     have h1:=(own_lt hrI hg).2.1;exact hext g (by omega) (by omega)
    exact zq3u q (by omega)
   have hfin:PlayedR N w (zq1a start ops N mo sched) (epL (zq1a start ops N mo sched).s.1 N) ab (.slice pv' nv' cv') (.slice sp' sl sc') am w8:=by
    refine zqdy HO2.out HE.out.1 (by omega) hobb hnf (by have:=hI.be.1;omega) (λx hx hxH=>?_) hrow;rw[hext x (by omega) hxH,hI.be.2 x (by omega)];exact hoT x (by omega)
   refine⟨rfl,.agg #[.slice (some ⟨ab,0,none⟩) N N,.slice pv' nv' cv',.slice sp' sl sc',.bool stuck],?_,_,rfl,_,_,rfl,hfin⟩;simp only[results,Try.f9];simp[go_sem,k0,k1,k2,k3]
 . rintro v w' ⟨sv,am,rfl,h⟩;have h2:=hm.out _ _ sv am w' h;rw[HST.out]at h2;exact h2
section
variable {X:Nat->Prop} {G:Nat->Option Obj} {B rb gm gM N n:Nat} {opv:Nat->Value} {ops:Nat->List OpX} {C:EpS} {T:Nat->RTh} {hv ov cp:Nat->Value} {tb:Nat->Nat} {lvs:Nat->List Value} {w w':World}
end
section
variable {G:Nat->Option Obj} {B rb gm gM N n k m:Nat} {lv ev:Value} {opv:Nat->Value} {ops:Nat->List OpX} {C:EpS} {T:Nat->RTh} {hv ov cp:Nat->Value} {tb:Nat->Nat} {lvs:Nat->List Value} {w w':World}
end
section
variable {B rb gm gM N most ub:Nat} {lv ev slv:Value} {opv:Nat->Value} {ops:Nat->List OpX} {tb:Nat->Nat} {l:List Int} {P:TSt SE} {w0:World} {G:Nat->Option Obj} {C:EpS} {T:Nat->RTh} {hv ov cp:Nat->Value} {lvs:Nat->List Value} {a r:Nat} {sov:Value} {s:TSt SE} {w w2:World}
end
section
variable {B rb gm gM N most ub H:Nat} {lv ev slv:Value} {opv:Nat->Value} {ops:Nat->List OpX} {tb:Nat->Nat} {l:List Int} {P:TSt SE} {w0:World} {G:Nat->Option Obj} {C:EpS} {T:Nat->RTh} {hv ov cp:Nat->Value} {lvs:Nat->List Value} {a r:Nat} {sov:Value} {s:TSt SE} {w w':World} {lp:Option Addr} {lC:Nat}
end
section
variable {G:Nat->Option Obj} {B rb gm gM N n k m:Nat} {lv ev:Value} {opv:Nat->Value} {ops:Nat->List OpX} {C:EpS} {T:Nat->RTh} {hv ov cp:Nat->Value} {tb:Nat->Nat} {lvs:Nat->List Value} {w w5:World}
end
section
variable {X:Nat->Prop} {G:Nat->Option Obj} {B rb gm gM N:Nat} {opv:Nat->Value} {ops:Nat->List OpX} {C C':EpS} {T:Nat->RTh} {hv ov cp:Nat->Value} {tb:Nat->Nat} {lvs:Nat->List Value} {w w':World}
end
end Go.Proofs
namespace Go.Car
open Go Go.Conc Go.RowKit
open Go.ConcN (upd upd_ne upd_same)
section
variable {P:Program} {main:Bool} {γ:Type} {J:γ->Goroutine->World->Prop}
end
section
variable {P:Program} {main:Bool} {γ:Type} {J:γ->Goroutine->World->Prop}
end
section
variable {P:Program} {main:Bool} {γ:Type} {J:γ->Goroutine->World->Prop}
end
section
variable {P:Program} {main:Bool} {γ:Type} {J:γ->Goroutine->World->Prop}
end
section
variable {P:Program} {main:Bool} {γ:Type} {J:γ->Goroutine->World->Prop} {A:FuncId->Bool}
end
end Go.Car
namespace Go.Proofs
open Go Go.Conc Go.RowKit Go.Car
open Go.ConcN (upd upd_ne upd_same)
theorem zqu{T:Array Value}{k:Nat}{x:Value}(h:T[k]?=some x):T.getD k undef=x:=by rw[al_gd,h];rfl
section
variable {N:Int} {aL aC db rb kb:Nat} {ap:Option Addr} {i:Int} {T:Array Value}
end
section
variable {main:Bool} {γ:Type} {J:γ->Goroutine->World->Prop} {s:γ} {b:Frame} {kk:List Item} {cs:List Frame}
end
end Go.Proofs
namespace Go.Proofs
open Go Go.Conc Go.RowKit Go.Car
def zq2z(w:World)(ap:Option Addr)(acts:List (Int×OpX)):Prop:=acts≠[]->∃ab ao,ap=some ⟨ab,ao,none⟩/\∀(i:Nat)(x:Int×OpX),acts[i]?=some x->w.cell? ⟨ab,ao+i*5,none⟩=some (.int .i64 x.1)/\w.cell? ⟨ab,ao+i*5+1,none⟩=some (.int .i64 x.2.k)/\w.cell? ⟨ab,ao+i*5+2,none⟩=some (.int .i64 x.2.a)/\w.cell? ⟨ab,ao+i*5+3,none⟩=some (.int .i64 x.2.b)/\w.cell? ⟨ab,ao+i*5+4,none⟩=some (.int .i64 x.2.c)
section
variable {N:Int} {aL aC db rb kb b10 b12:Nat} {ap:Option Addr} {i:Int} {T:Array Value} {w:World}
end
section
variable {T:EpT} {m m':EpM} {w w':World}
theorem zq5i(hty:EpTy T)(h:EpRep T m w){b:Nat}(hf:(zqb T).foot m b):∃c ty,w.heap[b]?=some (.cells c ty)/\(ty=81\/ty=121\/ty=125):=by
 rcases hf with rfl |rfl |⟨i,hi,hX⟩
 . exact⟨_,_,h.dom,.inl hty.tD⟩
 . exact⟨_,_,h.mem,.inr (.inl hty.tM)⟩
 . rcases(h.row i hi).2 with⟨_,_,e⟩|⟨g,cap,cur,_,e,_⟩
   . rw[e]at hX;exact absurd rfl hX
   . have hbg:b=g:=Classical.byContradiction λhn=>hX (by rw[e];exact if_neg hn);subst hbg;exact⟨cur,T.tT,h.blk i b _ hi (by rw[e];exact if_pos rfl),.inr (.inr hty.tT)⟩
theorem zq4h(hty:EpTy T)(h:EpRep T m w)(hk:∀(b:Nat)(c:Array Value)(ty:TypeId),w.heap[b]?=some (.cells c ty)->ty=81\/ty=121\/ty=125->w'.heap[b]?=w.heap[b]?):EpRep T m w':=
 (zqb T).frame _ _ _ h λb hb=>by
  obtain⟨c,ty,h1,h2⟩:=zq5i hty h hb;exact hk b c ty h1 h2
end
def visA(N:Nat)(V:Nat->Nat):Array Value:=((List.range N).map λk=>Value.int .i64 (V k:Int)).toArray
theorem zq43{N k:Nat}{V:Nat->Nat}(h:k<N):(visA N V)[k]?=some (.int .i64 (V k:Int)):=by
 unfold visA;rw[al_gl,List.getElem?_map,List.getElem?_range h];rfl
theorem zq6a{N k:Nat}{V:Nat->Nat}(h:¬k<N):(visA N V)[k]?=none:=by unfold visA;simp[h]
theorem visA_set{N k:Nat}{V:Nat->Nat}(x:Nat)(h:k<N):(visA N V).setIfInBounds k (.int .i64 (x:Int))=visA N (upd' V k x):=by
 apply Array.ext_getElem?;intro j;rw[al_gs]
 by_cases hj:j<N
 . rw[zq43 hj,zq43 hj]
   by_cases e:k=j
   . subst e;rw[if_pos rfl,if_pos (by unfold visA;simpa using hj),upd'_same]
   . rw[if_neg e,zqx _ _ (λx=>e x.symm)]
 . rw[zq6a hj,zq6a hj]
   by_cases e:k=j
   . subst e;exact absurd h hj
   . rw[if_neg e]
def sthV(iv:Nat->Value)(T:List STh)(j:Nat):Value:=match T[j / 4]? with
 |none=>undef
 |some t=>if j % 4=0 then .int .i64 ((j / 4:Nat):Int)else if j % 4=1 then .int .i64 (t.who:Int)else if j % 4=2 then iv (j / 4)else .bool t.back
def sthL(iv:Nat->Value)(T:List STh):List Value:=(List.range (T.length*4)).map (sthV iv T)
theorem zq2k(iv:Nat->Value)(T:List STh):(sthL iv T).length=T.length*4:=by simp[sthL]
theorem zq3c{iv:Nat->Value}{T:List STh}{j:Nat}(h:j<T.length*4):(sthL iv T)[j]?=some (sthV iv T j):=by
 unfold sthL;rw[List.getElem?_map,List.getElem?_range h];rfl
section
variable {iv:Nat->Value} {T:List STh} {n:Nat} {t:STh}
theorem sth0(h:T[n]?=some t):sthV iv T (n*4+0)=.int .i64 (n:Int):=by unfold sthV;rw[show(n*4+0) / 4=n by omega,h];simp
theorem sth1(h:T[n]?=some t):sthV iv T (n*4+1)=.int .i64 (t.who:Int):=by unfold sthV;rw[show(n*4+1) / 4=n by omega,h];simp only[show(n*4+1) % 4=1 by omega];rfl
theorem sth2(h:T[n]?=some t):sthV iv T (n*4+2)=iv n:=by unfold sthV;rw[show(n*4+2) / 4=n by omega,h];simp only[show(n*4+2) % 4=2 by omega];rfl
theorem sth3(h:T[n]?=some t):sthV iv T (n*4+3)=.bool t.back:=by unfold sthV;rw[show(n*4+3) / 4=n by omega,h];simp only[show(n*4+3) % 4=3 by omega];rfl
theorem zqhh(h:T[n]?=some t):(sthL iv T).set (n*4+3) (.bool true)=sthL iv (T.set n {t with back:=true}):=by
 have hn:=(List.getElem?_eq_some_iff.1 h).1;apply List.ext_getElem?;intro j;rw[List.getElem?_set]
 by_cases hj:j<T.length*4
 . rw[zq3c hj,zq3c (by rw[List.length_set];exact hj)]
   by_cases e:n*4+3=j
   . subst e;rw[if_pos rfl,if_pos (by rw[zq2k];exact hj)];rw[sth3 (t:={t with back:=true}) (by rw[List.getElem?_set,if_pos rfl,if_pos hn])]
   . rw[if_neg e];unfold sthV;rw[List.getElem?_set]
     by_cases e2:n=j / 4
     . subst e2;rw[if_pos rfl,if_pos hn,h];simp only
       by_cases a0:j % 4=0
       . rw[if_pos a0,if_pos a0]
       rw[if_neg a0,if_neg a0]
       by_cases a1:j % 4=1
       . rw[if_pos a1,if_pos a1]
       rw[if_neg a1,if_neg a1]
       by_cases a2:j % 4=2
       . rw[if_pos a2,if_pos a2]
       exfalso;omega
     . rw[if_neg e2]
 . rw[if_neg (by omega),List.getElem?_eq_none (by rw[zq2k];omega),List.getElem?_eq_none (by rw[zq2k,List.length_set];omega)]
theorem zqhi{iv':Nat->Value}(h:∀j,j<T.length->iv' j=iv j):sthL iv' (T++[t])=sthL iv T++[.int .i64 (T.length:Int),.int .i64 (t.who:Int),iv' T.length,.bool t.back]:=by
 have hl:(T++[t])[T.length]?=some t:=by rw[List.getElem?_append_right (Nat.le_refl _)];simp
 apply List.ext_getElem?;intro j
 by_cases hj:j<T.length*4
 . rw[zq3c (by simp;omega),List.getElem?_append_left (by rw[zq2k];exact hj),zq3c hj];unfold sthV;rw[List.getElem?_append_left (by omega),h (j / 4) (by omega)]
 . rw[List.getElem?_append_right (by rw[zq2k];omega),zq2k]
   by_cases hj4:j<T.length*4+4
   . rw[zq3c (by simp;omega)];obtain⟨c,rfl⟩:∃c,j=T.length*4+c:=⟨j - T.length*4,by omega⟩;rw[show T.length*4+c - T.length*4=c by omega];have hc:c<4:=by omega
     match c,hc with
     |0,_=>rw[sth0 hl];rfl
     |1,_=>rw[sth1 hl];rfl
     |2,_=>rw[sth2 hl];rfl
     |3,_=>rw[sth3 hl];rfl
   . rw[List.getElem?_eq_none (by rw[zq2k];simp;omega),List.getElem?_eq_none (by simp;omega)]
end
structure SAt(W0:World)(T:EpT)(m:EpM)(wb vb:Nat)(tv:Value)(iv:Nat->Value)(W:SW)(w:World):Prop where
 ty:EpTy T
 ep:EpRep T m w
 wld:w.heap[wb]?=some (.cells #[.pointer (some ⟨T.db,0,none⟩),.slice (some ⟨vb,0,none⟩) T.N T.N,tv] 87)
 vis:w.heap[vb]?=some (.cells (visA T.N W.V) 3)
 be:Beyond W0 w
 lo:W0.heap.size<=wb/\W0.heap.size<=vb/\∀b,(zqb T).foot m b->W0.heap.size<=b
 row:w.ownsRow W0.heap.size 90 4 tv W.T.length (sthL iv W.T)
 ins:∀(n:Nat)(t:STh),W.T[n]?=some t->∃g cur cap,iv n=.slice (some ⟨g,0,none⟩) T.N cap/\w.heap[g]?=some (.cells cur 3)/\g≠vb/\∀k,k<T.N->cur[k]?=some (.int .i64 (t.ins k:Int))
section
variable {W0:World} {T:EpT} {m m':EpM} {wb vb:Nat} {tv:Value} {iv:Nat->Value} {W:SW} {w w':World}
theorem SAt.re (h:SAt W0 T m wb vb tv iv W w)(τ:Nat->Question->Nat)(d:Nat):SAt W0 T m wb vb tv iv W (re w τ d):=⟨h.ty,h.ep.re τ d,h.wld,h.vis,h.be,h.lo,h.row,h.ins⟩
theorem SAt.keep (h:SAt W0 T m wb vb tv iv W w)(hep:EpRep T m' w')(hs:w.heap.size<=w'.heap.size)(ho:∀b,b<W0.heap.size->w'.heap[b]?=w.heap[b]?)(hf:∀b,(zqb T).foot m' b->W0.heap.size<=b)(hk:∀(b:Nat)(c:Array Value)(ty:TypeId),w.heap[b]?=some (.cells c ty)->ty=87\/ty=3\/ty=90->w'.heap[b]?=w.heap[b]?):SAt W0 T m' wb vb tv iv W w':=by
 refine⟨h.ty,hep,(hk _ _ _ h.wld (.inl rfl)).trans h.wld,(hk _ _ _ h.vis (.inr (.inl rfl))).trans h.vis,⟨Nat.le_trans h.be.1 hs,λb hb=>(ho b hb).trans (h.be.2 b hb)⟩,⟨h.lo.1,h.lo.2.1,hf⟩,?_,λn t ht=>?_⟩
 . obtain⟨h1,h2⟩:=h.row;refine⟨h1,?_⟩;rcases h2 with h2|⟨g,cap,cur,a,b,c,d⟩
   . exact .inl h2
   . exact .inr ⟨g,cap,cur,a,b,(hk _ _ _ c (.inr (.inr rfl))).trans c,d⟩
 . obtain⟨g,cur,cap,h1,h2,h3⟩:=h.ins n t ht;exact⟨g,cur,cap,h1,(hk _ _ _ h2 (.inr (.inl rfl))).trans h2,h3⟩
theorem SAt.more (h:SAt W0 T m wb vb tv iv W w)(hb:Beyond w w'):SAt W0 T m wb vb tv iv W w':=
 h.keep (zq4h h.ty h.ep λb c ty hc _=>hb.2 b (zqs hc)) hb.1 (λb hl=>hb.2 b (Nat.lt_of_lt_of_le hl h.be.1)) h.lo.2.2 λb c ty hc _=>hb.2 b (zqs hc)
theorem SAt.aft {X:Nat->Option Obj}(h:SAt W0 T m wb vb tv iv W w)(ha:ESAft T m m' X w w'):SAt W0 T m' wb vb tv iv W w':=by
 refine h.keep ha.rep ha.size (λb hl=>ha.old b (Nat.lt_of_lt_of_le hl h.be.1) λhf=>by have:=h.lo.2.2 b hf;omega) (λb hf=>(ha.grow b hf).elim (h.lo.2.2 b) λhb=>Nat.le_trans h.be.1 hb) λb c ty hc hty=>ha.old b (zqs hc) λhf=>?_;obtain⟨c',ty',h1,h2⟩:=zq5i h.ty h.ep hf;rw[hc]at h1;cases h1;rcases h2 with rfl |rfl |rfl<;>exact absurd hty (by decide)
theorem SAt.c0 (h:SAt W0 T m wb vb tv iv W w):w.cell? ⟨wb,0,none⟩=some (.pointer (some ⟨T.db,0,none⟩)):=(zq1 (off:=0) h.wld).trans rfl
theorem SAt.c1 (h:SAt W0 T m wb vb tv iv W w):w.cell? ⟨wb,1,none⟩=some (.slice (some ⟨vb,0,none⟩) T.N T.N):=(zq1 (off:=1) h.wld).trans rfl
theorem SAt.c2 (h:SAt W0 T m wb vb tv iv W w):w.cell? ⟨wb,2,none⟩=some tv:=(zq1 (off:=2) h.wld).trans rfl
theorem SAt.v (h:SAt W0 T m wb vb tv iv W w){k:Nat}(hk:k<T.N):w.cell? ⟨vb,k,none⟩=some (.int .i64 (W.V k:Int)):=(zq1 h.vis).trans (zq43 hk)
theorem SAt.row' (h:SAt W0 T m wb vb tv iv W w):∃p C,tv=.slice p W.T.length C/\∀(n:Nat)(t:STh),W.T[n]?=some t->∃g,p=some ⟨g,0,none⟩/\w.cell? ⟨g,n*4+0,none⟩=some (.int .i64 (n:Int))/\w.cell? ⟨g,n*4+1,none⟩=some (.int .i64 (t.who:Int))/\w.cell? ⟨g,n*4+2,none⟩=some (iv n)/\w.cell? ⟨g,n*4+3,none⟩=some (.bool t.back)/\w.frozen? ⟨g,n*4+3,none⟩=false:=by
 obtain⟨h1,h2⟩:=h.row;rcases h2 with⟨rfl,h2⟩|⟨g,cap,cur,rfl,_,hg,hc1,hc2,hc3,hc4⟩
 . exact⟨none,0,by rw[h2],λn t ht=>by have:=(List.getElem?_eq_some_iff.1 ht).1;omega⟩
 . refine⟨_,cap,rfl,λn t ht=>⟨g,rfl,?_⟩⟩;have hn:=(List.getElem?_eq_some_iff.1 ht).1;have key:∀k,k<W.T.length*4->w.cell? ⟨g,k,none⟩=some (sthV iv W.T k):=λk hk=>(zq1 hg).trans (by
    rw[<-zq3c hk,<-hc4,List.getElem?_take,if_pos hk,Array.getElem?_toList])
   exact⟨by rw[key _ (by omega),sth0 ht],by rw[key _ (by omega),sth1 ht],by rw[key _ (by omega),sth2 ht],by rw[key _ (by omega),sth3 ht],zqh hg⟩
theorem SAt.ins' (h:SAt W0 T m wb vb tv iv W w){n:Nat}{t:STh}(ht:W.T[n]?=some t):∃g cap,iv n=.slice (some ⟨g,0,none⟩) T.N cap/\∀k,k<T.N->w.cell? ⟨g,k,none⟩=some (.int .i64 (t.ins k:Int)):=by
 obtain⟨g,cur,cap,h1,h2,_,h3⟩:=h.ins n t ht;exact⟨g,cap,h1,λk hk=>(zq1 h2).trans (h3 k hk)⟩
theorem SAt.step (h:SAt W0 T m wb vb tv iv W w){k:Nat}(hk:k<T.N):SAt W0 T m wb vb tv iv (W.step k) (w.setCell ⟨vb,k,none⟩ (.int .i64 ((W.V k+1:Nat):Int))):=by
 have hne:∀(b:Nat)(c:Array Value)(ty:TypeId),w.heap[b]?=some (Obj.cells c ty)->ty≠3->(w.setCell ⟨vb,k,none⟩ (.int .i64 ((W.V k+1:Nat):Int))).heap[b]?=w.heap[b]?:=λb c ty hc ht=>zql _ _ _ _ (zq2a hc h.vis ht);refine⟨h.ty,zq4h h.ty h.ep λb c ty hc hty=>hne b c ty hc (by rcases hty with rfl |rfl |rfl<;>decide),(hne _ _ _ h.wld (by decide)).trans h.wld,?_,⟨by rw[zqz];exact h.be.1,λb hb=>(zql _ _ _ _ (show b≠vb by have:=h.lo.2.1;omega)).trans (h.be.2 b hb)⟩,h.lo,?_,λn t ht=>?_⟩
 . rw[zqy _ _ _ _ h.vis,visA_set _ hk];rfl
 . obtain⟨h1,h2⟩:=h.row;refine⟨h1,?_⟩;rcases h2 with h2|⟨g,cap,cur,a,b,c,d⟩
   . exact .inl h2
   . exact .inr ⟨g,cap,cur,a,b,(hne _ _ _ c (by decide)).trans c,d⟩
 . obtain⟨g,cur,cap,h1,h2,h3,h4⟩:=h.ins n t ht;exact⟨g,cur,cap,h1,(zql _ _ _ _ h3).trans h2,h3,h4⟩
theorem SAt.back {g C:Nat}(h:SAt W0 T m wb vb (.slice (some ⟨g,0,none⟩) W.T.length C) iv W w){n:Nat}{t:STh}(ht:W.T[n]?=some t):SAt W0 T m wb vb (.slice (some ⟨g,0,none⟩) W.T.length C) iv ⟨W.V,W.T.set n {t with back:=true}⟩ (w.setCell ⟨g,n*4+3,none⟩ (.bool true)):=by
 have hn:=(List.getElem?_eq_some_iff.1 ht).1;obtain⟨h1,h2⟩:=h.row;rcases h2 with⟨h2,_⟩|⟨g',cap,cur,a,b,hg,c1,c2,c3,c4⟩
 . cases h2
 . cases a;have hne:∀(b:Nat)(c:Array Value)(ty:TypeId),w.heap[b]?=some (Obj.cells c ty)->ty≠90->(w.setCell ⟨g,n*4+3,none⟩ (.bool true)).heap[b]?=w.heap[b]?:=λb c ty hc ht=>zql _ _ _ _ (zq2a hc hg ht);refine⟨h.ty,zq4h h.ty h.ep λb c ty hc hty=>hne b c ty hc (by rcases hty with rfl |rfl |rfl<;>decide),(hne _ _ _ h.wld (by decide)).trans h.wld,(hne _ _ _ h.vis (by decide)).trans h.vis,⟨by rw[zqz];exact h.be.1,λb' hb=>(zql _ _ _ _ (show b'≠g by omega)).trans (h.be.2 b' hb)⟩,h.lo,?_,λj t' hj=>?_⟩
   . refine⟨by rw[zq2k],.inr ⟨g,C,cur.setIfInBounds (n*4+3) (.bool true),by simp,b,zqy _ _ _ _ hg,by simpa using c1,c2,by simpa using c3,?_⟩⟩;rw[<-zqhh ht,<-c4,Array.toList_setIfInBounds,List.take_set];simp
   . change (W.T.set n {t with back:=true})[j]?=some t' at hj;rw[List.getElem?_set]at hj;have hold:∃u,W.T[j]?=some u/\u.ins=t'.ins:=by
      by_cases e:n=j
      . subst e;rw[if_pos rfl,if_pos hn]at hj;cases hj;exact⟨t,ht,rfl⟩
      . rw[if_neg e]at hj;exact⟨t',hj,rfl⟩
     obtain⟨u,hu,hi⟩:=hold;obtain⟨g2,cur2,cap2,k1,k2,k3,k4⟩:=h.ins j u hu;exact⟨g2,cur2,cap2,k1,(hne _ _ _ k2 (by decide)).trans k2,k3,λk hk=>by rw[<-hi];exact k4 k hk⟩
end
end Go.Proofs
