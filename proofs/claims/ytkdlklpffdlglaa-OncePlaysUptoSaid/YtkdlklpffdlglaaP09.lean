/- YtkdlklpffdlglaaOPlays2: part 9 of the proof (the texts behind it, in order). -/
import Derived.Test.YtkdlklpffdlglaaP08
set_option linter.unusedSimpArgs false
set_option linter.unusedVariables false
set_option linter.unusedSectionVars false
set_option linter.unnecessarySimpa false
set_option maxHeartbeats 4000000
set_option maxRecDepth 100000
namespace Go.Proofs
open Go Go.Conc Go.RowKit Go.Car Go.ChangeShapes Go.WideShapes Go.Deep
theorem add_at{a:Addr}(h:a.spot=none)(i:Nat):a.add i=⟨a.block,a.off+i,none⟩:=by
 obtain⟨b,o,s⟩:=a;simp only at h;subst h;unfold Addr.add;split
 · rename_i e;rw[e];rfl
 · rfl
theorem spot_none{w:World}{a:Addr}{v:Value}(h:w.cell? a=some v):a.spot=none:=by
 unfold World.cell? at h;split at h
 · split at h
   · cases h
   · rename_i hh;simpa using hh
 · cases h
theorem spot_add{w:World}{a:Addr}{v:Value}(h:w.cell? (a.add 0)=some v):a.spot=none:=spot_none (a:=a) (by simpa[Addr.add]using h)
def lenD{H:Type}:DataW H->Nat
 |.slice e _=>e.length
 |_=>0
def ThrIn(w:World)(pp:Option Addr)(n:Nat)(tops:Nat->List OpX):Prop:=
 0<n->∃pb po,pp=some ⟨pb,po,none⟩/\∀i,i<n->∃q C,w.cell? ⟨pb,po+i,none⟩=some (.slice q (tops i).length C)/\((tops i).length<=C/\(q=none->C=0))/\
  ((tops i)≠[]->∃gb go,q=some ⟨gb,go,none⟩/\∀(k:Nat)(c:OpX),(tops i)[k]?=some c->∀j,j<4->w.cell? ⟨gb,go+k*4+j,none⟩=c.cells[j]?)
section
variable {H:Type} {enc:TypeId×Value->H} {P:Program} {w:World} {held:Bool} {sp:Nat->Bool}
theorem ints_open{t e:TypeId}(ht:P.underlying t=some (.slice e))(he:P.underlying e=some (.int .i64))(hc:P.cellsOf e=1){a0:Option Addr}{len cap:Nat}{d:DataW H}{ps:List MemPlace}{fuel:Nat}
 (h:DataW.trod enc P w 0 sp held fuel t [.slice a0 len cap]=some (d,ps)):∃l:List Int,l.length=len/\IntsAt w (.slice a0 len cap) l/\lenD d=len:=by
 rcases open_ints ht he hc h with⟨hcs,hx⟩|⟨a,len',cap',zs,hcs,_,hl,hm,hz,hx,hcell,_⟩
 · simp only[List.cons.injEq,Value.slice.injEq,and_true]at hcs;obtain⟨rfl,rfl,rfl⟩:=hcs;cases hx;exact⟨[],rfl,⟨none,0,rfl,λh=>absurd rfl h⟩,rfl⟩
 · simp only[List.cons.injEq,Value.slice.injEq,and_true]at hcs;obtain⟨rfl,rfl,rfl⟩:=hcs;cases hx;have hlz:len<=zs.length:=by rw[hz];split<;>omega
   have hlt:(zs.take len).length=len:=by rw[List.length_take];omega
   refine⟨zs.take len,hlt,⟨some a,cap,by rw[hlt],λhne=>?_⟩,by simp[lenD,lits,hlt];omega⟩;have h0:0<len:=by rw[←hlt];exact List.length_pos_iff.2 hne
   have hs:=spot_add (hcell 0 (by omega));refine⟨a.block,a.off,by obtain⟨b,o,s⟩:=a;simp only at hs;rw[hs],λi hi=>?_⟩;rw[hlt]at hi;have:=hcell i (by omega);rw[add_at hs]at this;rw[this];simp[List.getD_eq_getElem?_getD,List.getElem?_take,hi]
theorem op_open{t:TypeId}{fs:Array Field}(ht:P.underlying t=some (.struct fs))(hfs:∀j,j<4->∃f,fs[j]?=some f/\f.offset=j/\P.cellsOf f.type=1/\P.underlying f.type=some (.int .i64))(hsz:fs.size=4)
 {cs:List Value} {x:DataW H×List MemPlace} {fuel:Nat} (h:DataW.trod enc P w 0 sp held fuel t cs=some x):∃c:OpX,∀j,j<4->cs[j]?=c.cells[j]?:=by
 obtain⟨xs,n,_,_,_,hxl,hx⟩:=DataW.trod_struct ht h;have each:∀j,j<4->∃z:Int,cs[j]?=some (.int .i64 z):=λj hj=>by
  obtain⟨f,h1,h2,h3,h4⟩:=hfs j hj;have h5:=hx j f h1;rw[h2,h3]at h5;obtain⟨y,hy⟩:∃y,xs[j]?=some y:=⟨_,List.getElem?_eq_getElem (by omega)⟩;rw[hy]at h5;obtain⟨z,h6,_⟩:=DataW.trod_int h4 h5;refine⟨z,?_⟩;have:((cs.drop j).take 1)[0]?=some (.int .i64 z):=by rw[h6];rfl
  rw[List.getElem?_take,if_pos (by omega),List.getElem?_drop,Nat.add_zero]at this;exact this
 obtain⟨z0,h0⟩:=each 0 (by omega);obtain⟨z1,h1⟩:=each 1 (by omega);obtain⟨z2,h2⟩:=each 2 (by omega);obtain⟨z3,h3⟩:=each 3 (by omega);refine⟨⟨z0,z1,z2,z3⟩,λj hj=>?_⟩;obtain rfl |rfl |rfl |rfl:j=0\/j=1\/j=2\/j=3:=by omega
 · exact h0
 · exact h1
 · exact h2
 · exact h3
theorem opl_open{t e:TypeId}{fs:Array Field}(ht:P.underlying t=some (.slice e))(he:P.underlying e=some (.struct fs))(hc:P.cellsOf e=4)(hfs:∀j,j<4->∃f,fs[j]?=some f/\f.offset=j/\P.cellsOf f.type=1/\P.underlying f.type=some (.int .i64))(hsz:fs.size=4)
 {cs:List Value} {d:DataW H} {ps:List MemPlace} {fuel:Nat} (h:DataW.trod enc P w 0 sp held fuel t cs=some (d,ps)):
 ∃(q:Option Addr)(l:List OpX)(C:Nat),cs=[.slice q l.length C]/\lenD d=l.length/\(l.length<=C/\(q=none->C=0))/\(l≠[]->∃gb go,q=some ⟨gb,go,none⟩/\∀(k:Nat)(c:OpX),l[k]?=some c->∀j,j<4->w.cell? ⟨gb,go+k*4+j,none⟩=c.cells[j]?):=by
 rcases open_slice ht h with⟨hcs,hx⟩|⟨a,len,cap,m,n,D,Pl,hcs,_,hl,_,hm,hx,hcell⟩
 · cases hx;exact⟨none,[],0,hcs,rfl,⟨Nat.le_refl _,λ_=>rfl⟩,λh=>absurd rfl h⟩
 · have hlm:len<=m:=by rw[hm];split<;>omega
   have each:∀i,i<len->∃c:OpX,∀j,j<4->w.cell? ((a.add (i*4)).add j)=c.cells[j]?:=λi hi=>by
    obtain⟨cs',h1,h2⟩:=hcell i (by omega);rw[hc]at h1;obtain⟨c,h3⟩:=op_open he hfs hsz h2;exact⟨c,λj hj=>((World.cells?_some h1).2.2 j hj).trans (h3 j hj)⟩
   obtain⟨c,hcc⟩:∃c:Nat->OpX,∀i,i<len->∀j,j<4->w.cell? ((a.add (i*4)).add j)=(c i).cells[j]?:=by
    classical
    refine⟨λi=>if h:i<len then(each i h).choose else⟨0,0,0,0⟩,λi hi=>?_⟩;simp only[hi,dif_pos];exact(each i hi).choose_spec
   cases hx;refine⟨some a,(List.range len).map c,cap,by simpa using hcs,by simp[lenD],⟨by simpa using hl,λe=>by cases e⟩,λhne=>?_⟩;have h0:0<len:=by have:=List.length_pos_iff.2 hne;simpa using this
   have hs:a.spot=none:=by
    have:=hcc 0 h0 0 (by omega);rw[Nat.zero_mul]at this;exact spot_add (a:=a) (v:=.int .i64 (c 0).k) (by simpa[Addr.add,OpX.cells]using this)
   refine⟨a.block,a.off,by obtain⟨b,o,s⟩:=a;simp only at hs;rw[hs],λk cc hk j hj=>?_⟩;have hkl:k<len:=by have:=(List.getElem?_eq_some_iff.1 hk).1;simpa using this
   have:=hcc k hkl j hj;rw[add_at hs,add_at rfl]at this;rw[this];rw[List.getElem?_map,List.getElem?_range hkl]at hk;cases hk;rfl
theorem thr_open{t e e2:TypeId}{fs:Array Field}(ht:P.underlying t=some (.slice e))(hc1:P.cellsOf e=1)(he:P.underlying e=some (.slice e2))(he2:P.underlying e2=some (.struct fs))(hc:P.cellsOf e2=4)(hfs:∀j,j<4->∃f,fs[j]?=some f/\f.offset=j/\P.cellsOf f.type=1/\P.underlying f.type=some (.int .i64))(hsz:fs.size=4)
 {a0:Option Addr} {len cap:Nat} {d:DataW H} {ps:List MemPlace} {fuel:Nat} (h:DataW.trod enc P w 0 sp held fuel t [.slice a0 len cap]=some (d,ps)):
 ∃tops:Nat->List OpX,ThrIn w a0 len tops/\lenD d=len/\(∀i,i<len->∃x es sp',d=.slice es sp'/\es[i]?=some x/\lenD x=(tops i).length):=by
 rcases open_slice1 ht hc1 h with⟨hcs,hx⟩|⟨a,len',cap',m,n,V,D,Pl,hcs,_,hl,_,hm,hx,hcell⟩
 · simp only[List.cons.injEq,Value.slice.injEq,and_true]at hcs;obtain⟨rfl,rfl,rfl⟩:=hcs;cases hx;exact⟨λ_=>[],λh=>absurd h (Nat.lt_irrefl _),rfl,λi hi=>absurd hi (Nat.not_lt_zero _)⟩
 · simp only[List.cons.injEq,Value.slice.injEq,and_true]at hcs;obtain⟨rfl,rfl,rfl⟩:=hcs;have hlm:len<=m:=by rw[hm];split<;>omega
   have each:∀i,i<len->∃l:List OpX,∃q C,V i=.slice q l.length C/\lenD (D i)=l.length/\(l.length<=C/\(q=none->C=0))/\(l≠[]->∃gb go,q=some ⟨gb,go,none⟩/\∀(k:Nat)(c:OpX),l[k]?=some c->∀j,j<4->w.cell? ⟨gb,go+k*4+j,none⟩=c.cells[j]?):=λi hi=>by
    obtain⟨q,l,C,h1,h2,h2',h3⟩:=opl_open he he2 hc hfs hsz (hcell i (by omega)).2;simp only[List.cons.injEq,and_true]at h1;exact⟨l,q,C,h1,h2,h2',h3⟩
   obtain⟨tops,hpr⟩:∃tops:Nat->List OpX,∀i,i<len->∃q C,V i=.slice q (tops i).length C/\lenD (D i)=(tops i).length/\((tops i).length<=C/\(q=none->C=0))/\(tops i≠[]->∃gb go,q=some ⟨gb,go,none⟩/\∀(k:Nat)(c:OpX),(tops i)[k]?=some c->∀j,j<4->w.cell? ⟨gb,go+k*4+j,none⟩=c.cells[j]?):=by
    classical
    refine⟨λi=>if h:i<len then(each i h).choose else [],λi hi=>?_⟩;simp only[hi,dif_pos];exact(each i hi).choose_spec
   cases hx;refine⟨tops,λh0=>?_,by simp[lenD],λi hi=>⟨D i,_,_,rfl,by simp[hi],(hpr i hi).choose_spec.choose_spec.2.1⟩⟩;have hs:=spot_add (hcell 0 (by omega)).1;refine⟨a.block,a.off,by obtain⟨b,o,s⟩:=a;simp only at hs;rw[hs],λi hi=>?_⟩;obtain⟨q,C,h1,_,h2,h3⟩:=hpr i hi;have:=(hcell i (by omega)).1;rw[add_at hs,h1]at this;exact⟨q,C,this,h2,h3⟩
end
end Go.Proofs
namespace Go.Car
open Go Go.Conc
theorem leaving_of_cond{H:Type}{enc:TypeId×Value->H}{a:Assume}{C:Checked}{os:Os}{f:FuncId}{fn:Func}{s:OpenSpec}{k:(H:Type)->List (DataW H)->Bool}(hk:s.cond=some k){F:Stop.Interp}{conds:List PathCond}{apart fresh handsOn again:Bool}
 (own:ownKnob C.prog.godebug=none) (started:os.Started) (hfn:C.prog.funcs[f]?=some fn)
 (witness:∃(w:World)(tape:Tape)(i:Input),w.os=os/\(w.forCall tape i).Shaped C.prog/\i.vars=[]/\Input.okWide C.prog (w.forCall tape i) .any w.heap.size f i/\
  s.pre6 enc C.prog fn conds apart (w.forCall tape i).memory i.args/\a.holds C.prog (lone (Frame.enter C.prog f i.args .normal) [] (w.forCall tape i)))
 (runs:∀(W:World)(base:Nat)(args:Array Value)(ds gs:List (DataW H))(before:List MemPlace),
  (∀(j:Nat)t v,fn.params[j]?=some t->args[j]?=some v->Value.okWide C.prog W .any base t v)->
  DataW.Whole enc C.prog fn.params.toList s.vars apart W args.toList ds gs before->k H (ds++gs)=true->
  ∃M last o w' t',runNT C.prog (M+1) (solo (G (Frame.enter C.prog f args .normal) []) W) #[]=(.ended o w',t')/\runN C.prog M (solo (G (Frame.enter C.prog f args .normal) []) W)=.next last/\
   step C.prog last=.ended o w'/\Conc.Good C.prog (λv W'=>(s.at F).post enc C.prog fn apart fresh handsOn again W args v W') last o w' t'):
 ReturnsInLeavingWide a C os f .any (s.pre6 enc C.prog fn conds apart) ((s.at F).post enc C.prog fn apart fresh handsOn again):=by
 refine returnsInLeavingWide_of_good own started witness ?_;intro w tape i _ _ _ hok hpre _;obtain⟨_,_,_,fn',hfn',_,_,_,_,hval⟩:=hok;obtain rfl:fn'=fn:=Option.some.inj (hfn'.symm.trans hfn);obtain⟨ds,gs,before,hw,_,hkk⟩:=(OpenSpec.pre_some hk conds apart _ _).1 hpre.1;obtain⟨M,last,o,w',t',h1,h2,h3,h4⟩:=runs (w.forCall tape i) w.heap.size i.args ds gs before hval (DataW.Whole.of_heap (w':=w.forCall tape i) (by rfl) hw) hkk;exact⟨M,last,o,w',t',h1,h2,h3,h4.mono λv hp=>ChangeSpec.post_blind hp⟩
theorem holds_leaving_cond{p:Pinned}{s:OpenSpec}{c:OpenClaim}(f:FuncId)(fn:Func)
 (hn:c.program=p.name) (hs:c.sum=p.sum) (hsp:c.spec=s.name)
 (hstart:c.start=.entering) (hout:c.outside=[]) (hin:c.inits=[]) (hun:c.under=none) (hi4:c.initsInPlace=[]/\c.initsUnfollowed=false/\c.initsRecurse=false/\c.initsNamed=[]/\c.initsPassed=[]) (hnb:c.noBlocks=false) (hlv:c.leaving=true) (hfo:c.followed=none) (hnar:c.narrowed=s.cond.isSome) (hstill:c.still=false)
 (hfn:p.checked.prog.funcNamed c.func=some f) (hf:p.checked.prog.funcs[f]?=some fn)
 (closed:joinedFacts p.checked.prog f fn s.bare c=true)
 (hinst:fn.isInstance p.checked.prog c.origin c.targs) (hwrap:fn.isWrapper p.checked.prog c.wrapper c.mainSum)
 (h:∀os:Os,os.Started->∀(H:Type)(enc:TypeId×Value->H),(∀a b,enc a=enc b->a=b)->∀F:Stop.Interp,
  ReturnsInLeavingWide c.assume p.checked os f .any (c.pre enc p.checked.prog fn s) ((s.at F).post enc p.checked.prog fn c.apart c.fresh c.handsOn c.again)):c.holds p s:=by
 simp only[joinedFacts,Bool.and_eq_true,beq_iff_eq,Array.all_eq_true_iff_forall_mem,List.all_eq_true,decide_eq_true_eq]at closed;obtain⟨⟨⟨⟨⟨⟨⟨⟨⟨⟨⟨⟨⟨⟨⟨⟨⟨⟨⟨⟨⟨⟨⟨⟨⟨⟨⟨⟨⟨⟨⟨a1,a2⟩,a3⟩,a4⟩,a5⟩,a6⟩,a7⟩,a8⟩,a9⟩,a10⟩,a11⟩,a12⟩,a13⟩,a14⟩,a15⟩,a16⟩,a17⟩,b17⟩,a18⟩,a19⟩,a20⟩,a21⟩,a22⟩,a23⟩,b23⟩,a24⟩,b24⟩,c24⟩,a25⟩,a26⟩,a27⟩,a28⟩:=closed;have quiet:∀os:Os,Stop.quiet p.checked.prog os:=λos k hk=>by rw[a9]at hk;cases hk
 have fits:c.startFits p.checked.prog:=by unfold OpenClaim.startFits;rw[hstart];exact a24
 have told:c.startTold p.checked.prog:=by unfold OpenClaim.startTold;rw[hstart];exact⟨hin,hun,hi4⟩
 have named:namedTie p.checked.prog c.namedList s.vars=true:=by unfold OpenClaim.namedList;rw[hfo];exact a5
 have worded:p.checked.prog.envWorded=true:=by unfold Program.envWorded;rw[a9];rfl
 have world0:∃os:Os,c.world os/\Stop.quiet p.checked.prog os:=⟨_,by unfold OpenClaim.world;rw[hout,hstart];exact WideRow.started_initial,quiet _⟩;have lists0:c.lists p.checked.prog []:=by unfold OpenClaim.lists;rw[hfo]
 refine⟨a1,hn,hs,hsp,a2,a3,fits,told,f,fn,hfn,hf,⟨a4,a19⟩,(λhb=>by rw[hnb]at hb;cases hb),named,hinst,hwrap,
  a6.trans a7.symm,⟨a8.trans a9.symm,worded,b23⟩,a10,a11,a12,a13,a14,⟨a15,a27,a28⟩,⟨a16,a20⟩,⟨a17,a21,a25,a26⟩,⟨a22,b24,c24,b17⟩,(by rw[hout,hnar];cases hsh:c.shortTexts with|none=>simp |some _=>rw[hsh]at a23;cases a23),λn hn'=>varReadable_some (a18 n hn'),
  world0,[],lists0,λos st _ H enc inj=>?_⟩
 have st':os.Started:=by unfold OpenClaim.world at st;rw[hout,hstart]at st;exact st
 rw[OpenClaim.post_not_still hstill];unfold OpenClaim.form;rw[hstart,a6];intro F;have e1:c.okInput=Input.okWide:=by unfold OpenClaim.okInput;rw[hnb]
 have e2:c.atReturn p.checked.prog=leavingAtReturn p.checked.prog:=by unfold OpenClaim.atReturn;rw[hlv]
 have e3:c.always p.checked.prog []=nothingAlways:=by unfold OpenClaim.always;rw[hfo]
 have e4:s.post enc p.checked.prog fn F c.outside c.apart c.fresh c.handsOn c.again=(s.at F).post enc p.checked.prog fn c.apart c.fresh c.handsOn c.again:=by rw[hout];rfl
 rw[e1,e2,e3];show ReturnsInOpen _ _ _ _ _ _ _ _ (s.post enc p.checked.prog fn F c.outside c.apart c.fresh c.handsOn c.again) _ _;rw[e4];exact h os st' H enc inj F a24
end Go.Car
set_option maxHeartbeats 4000000
set_option maxRecDepth 100000
namespace Go.Proofs.Ytkdlklpffdlglaa
open Go Go.Conc Go.RowKit Go.Car Go.ChangeShapes Go.WideShapes Go.ChangeAt
theorem bulk_one{H:Type}(d:DataW H):1<=Rows.uptoBulk d:=by
 cases d with
 |lit l=>cases l<;>simp[Rows.uptoBulk]
 |nil=>simp[Rows.uptoBulk]
 |ptr d=>simp[Rows.uptoBulk]
 |slice elems spare=>simp[Rows.uptoBulk]
 |agg parts=>simp[Rows.uptoBulk]
 |iface t d=>simp[Rows.uptoBulk]
 |map entries=>simp[Rows.uptoBulk]
 |held h=>simp[Rows.uptoBulk]
theorem bulk_mem{H:Type}{d:DataW H}{l:List (DataW H)}(h:d∈l):Rows.uptoBulk d<=Rows.uptoBulkAll l:=by
 induction l with
 |nil=>cases h
 |cons x r ih=>
  simp only[Rows.uptoBulkAll];rcases List.mem_cons.1 h with e|e
  · subst e;omega
  · have:=ih e;omega
theorem bulk_length{H:Type}(l:List (DataW H)):l.length<=Rows.uptoBulkAll l:=by
 induction l with
 |nil=>simp[Rows.uptoBulkAll]
 |cons x r ih=>have:=bulk_one x;simp only[Rows.uptoBulkAll,List.length_cons];omega
theorem bulk_lenD{H:Type}(d:DataW H):lenD d<=Rows.uptoBulk d:=by
 cases d with
 |slice e s=>have:=bulk_length e;simp only[lenD,Rows.uptoBulk];omega
 |_=>exact Nat.zero_le _
theorem bulk_part{H:Type}{x:DataW H}{es sp:List (DataW H)}{i:Nat}(h:es[i]?=some x):Rows.uptoBulk x<=Rows.uptoBulk (.slice es sp):=by
 have:=bulk_mem (List.mem_of_getElem? h);simp only[Rows.uptoBulk];omega
theorem bulk_small{H:Type}{l:List (DataW H)}(hk:Rows.uptoSmall H l=true){d:DataW H}(h:d∈l):Rows.uptoBulk d<=1048576:=by
 have h1:=of_decide_eq_true hk;have h2:=bulk_mem h;omega
theorem own_knob:ownKnob Try.prog.godebug=none:=by kernel_rfl
theorem laid_out:laidOutB Try.prog=true:=by kernel_rfl
theorem reads_same{H:Type}{enc:TypeId×Value->H}{t:TypeId}(hr:Try.prog.readableRec t=true)(hrow:t<Try.prog.types.size){W w':World}{v:Value}{d:DataW H}{ps:List MemPlace}
 (h:DataW.Trod enc Try.prog W 0 (λ_=>true) true t v d ps) (hb:Beyond W w') (hlt:∀x∈ps,x.block<W.heap.size):DataW.Trod enc Try.prog w' 0 (λb=>decide (b<W.heap.size)) true t v d ps:=
 DataW.Trod.of_heap (w:={w' with os:=W.os,tape:=W.tape,output:=W.output}) (by rfl) (Below.trod laid_out hr hrow h ⟨rfl,rfl,rfl,hb.1,hb.2⟩ hlt)
theorem kept_same{W w':World}(hb:Beyond W w')(ho:w'.os=W.os)(hu:w'.output=W.output)(may:MemPlace->Prop):W.keptBut w' may:=by
 have h:=Below.frame (W:=W) (w':={w' with os:=W.os,tape:=W.tape,output:=W.output}) ⟨rfl,rfl,rfl,hb.1,hb.2⟩ may;exact⟨ho,hu,h.2.2⟩
theorem op_fields:∃fs,Try.prog.underlying 34=some (.struct fs)/\fs.size=4/\∀j,j<4->∃f,fs[j]?=some f/\f.offset=j/\Try.prog.cellsOf f.type=1/\Try.prog.underlying f.type=some (.int .i64):=by
 refine⟨_,Try.underlying34,rfl,λj hj=>?_⟩;obtain rfl |rfl |rfl |rfl:j=0\/j=1\/j=2\/j=3:=by omega
 all_goals exact⟨_,rfl,rfl,by kernel_rfl,by kernel_rfl⟩
theorem ints_arg{H:Type}{enc:TypeId×Value->H}{W:World}{t e:TypeId}(ht:Try.prog.underlying t=some (.slice e))(he:Try.prog.underlying e=some (.int .i64))(hc:Try.prog.cellsOf e=1){base:Nat}{v:Value}{d:DataW H}{p:List MemPlace}(hok:Value.okWide Try.prog W .any base t v)
 (h:DataW.Trod enc Try.prog W 0 (λ_=>true) true t v d p) (hb:Rows.uptoBulk d<=1048576):∃a C,∃l:List Int,v=.slice a l.length C/\IntsAt W (.slice a l.length C) l/\l.length<=1048576:=by
 obtain⟨a,len,cap,rfl⟩:=okWide_slice ht hok;obtain⟨fuel,hf⟩:=h;obtain⟨l,h1,h2,h3⟩:=ints_open ht he hc (by simpa[Value.cells]using hf);have:=bulk_lenD d;exact⟨a,cap,l,by rw[h1],by rw[h1];exact h2,by omega⟩
end Go.Proofs.Ytkdlklpffdlglaa
set_option maxHeartbeats 1000000
set_option maxRecDepth 100000
namespace Go.Proofs
open Go Go.Conc Go.RowKit Go.Car
theorem ints_of_row{w:World}{B:Nat}{T:TypeId}{v:Value}{l:List Int}(h:w.ownsRow B T 1 v l.length (l.map (Value.int .i64))):IntsAt w v l:=by
 rcases h.2 with⟨hv,h0⟩|⟨g,cap,cur,hv,hb,hh,h1,h2,h3,h4⟩
 · exact⟨none,0,by rw[hv,h0],λhne=>absurd (List.length_eq_zero_iff.1 h0) hne⟩
 · refine⟨_,cap,hv,λ_=>⟨g,0,rfl,λi hi=>?_⟩⟩;rw[zq0 hh,Nat.zero_add];have e:(l.map (Value.int .i64))[i]?=some (.int .i64 (l.getD i 0)):=by simp[hi]
   rw[←h4,List.getElem?_take,if_pos (by omega)]at e;simpa using e
theorem ints_of_nats{w:World}{B:Nat}{T:TypeId}{v:Value}{l:List Nat}(h:w.ownsRow B T 1 v l.length (l.map λ(i:Nat)=>.int .i64 i)):IntsAt w v (l.map λ(i:Nat)=>(i:Int)):=by
 refine ints_of_row (B:=B) (T:=T) ?_;rw[List.length_map,List.map_map];exact h
theorem rowB_ints{X:Nat->Option Obj}{T:TypeId}{v:Value}{l:List Int}{w:World}(h:RowB X T 1 v l.length (l.map (Value.int .i64)))(hX:∀b o,X b=some o->w.heap[b]?=some o):IntsAt w v l:=ints_of_row (h.own hX)
theorem ansL_get{tI:TypeId}{X:Nat->Option Obj}{l:List Ans}{cs:List Value}(h:AnsL tI X l cs):∀{i:Nat}{a:Ans},l[i]?=some a->∃Y sl,cs[i*3]?=some (.bool a.ok)/\cs[i*3+1]?=some (.int .i64 a.n)/\cs[i*3+2]?=some sl/\RowB Y tI 1 sl a.l.length (a.l.map (Value.int .i64))/\∀b o,Y b=some o->X b=some o:=by
 induction h with
 |nil=>intro i a hi;simp at hi
 |snoc h ha hd ih=>
  rename_i X Y l cs cs' a';intro i a hi;have hlen:=h.len;rcases Nat.lt_or_ge i l.length with hlt|hge
  · rw[List.getElem?_append_left hlt]at hi;obtain⟨Z,sl,h1,h2,h3,h4,h5⟩:=ih hi;refine⟨Z,sl,?_,?_,?_,h4,λb o hb=>?_⟩
    · rw[List.getElem?_append_left (by omega)];exact h1
    · rw[List.getElem?_append_left (by omega)];exact h2
    · rw[List.getElem?_append_left (by omega)];exact h3
    · have h6:=h5 b o hb;unfold orB;cases hY:Y b with
      |none=>simp[h6]
      |some y=>have:=hd b (by rw[hY];simp);rw[this]at h6;cases h6
  · have e:i=l.length:=by
     have:=(List.getElem?_eq_some_iff.1 hi).1;simp at this;omega
    subst e;simp at hi;subst hi;obtain⟨sl,rfl,hr⟩:=ha;refine⟨Y,sl,?_,?_,?_,hr,λb o hb=>by simp[orB,hb]⟩
    · rw[List.getElem?_append_right (by omega),hlen];simp
    · rw[List.getElem?_append_right (by omega),hlen];simp
    · rw[List.getElem?_append_right (by omega),hlen];simp
theorem ansR_at{tA tI:TypeId}{X:Nat->Option Obj}{hv:Value}{l:List Ans}{w:World}(h:AnsR tA tI X hv l)(hX:∀b o,X b=some o->w.heap[b]?=some o):AnsAt w hv l:=by
 obtain⟨Xr,XL,cs,hr,hL,rfl,hd⟩:=h;rcases hr.2 with⟨hv,h0,_⟩|⟨g,cap,cur,rfl,rfl,h1,h2,h3,h4⟩
 · exact⟨none,0,by rw[hv,h0],λhne=>absurd (List.length_eq_zero_iff.1 h0) hne⟩
 · refine⟨_,cap,rfl,λ_=>⟨g,0,rfl,λi a hi=>?_⟩⟩;have hg:w.heap[g]?=some (.cells cur tA (0,0)):=hX g _ (by simp[orB]);obtain⟨Y,sl,e1,e2,e3,e4,e5⟩:=ansL_get hL hi;have hil:=(List.getElem?_eq_some_iff.1 hi).1;have get:∀{j:Nat}{v:Value},j<l.length*3->cs[j]?=some v->w.cell? ⟨g,0+j,none⟩=some v:=λ{j v}hj e=>by
    rw[zq0 hg,Nat.zero_add];rw[←h4,List.getElem?_take,if_pos hj]at e;simpa using e
   refine⟨get (by omega) e1,?_,sl,?_,rowB_ints e4 λb o hb=>hX b o ?_⟩
   · exact get (by omega) e2
   · exact get (by omega) e3
   · have h6:=e5 b o hb
     by_cases hbg:b=g
     · subst hbg;have:=hd b (by simp);rw[this]at h6;cases h6
     · simp[orB,hbg,h6]
theorem ansRep_at{ab N:Nat}{m:AnsM}{w:World}(h:AnsRep tT ab N m w){i:Nat}(hi:i<N):w.cell? ⟨ab,i,none⟩=some (m.hv i)/\AnsAt w (m.hv i) (m.st i):=by
 refine⟨(zq0 h.hd).trans ?_,ansR_at (h.row i hi) λb o hb=>h.blk i b o hi hb⟩;simp[hi]
theorem trace_of{w:World}{N ab:Nat}{am:AnsM}{ov sv:Value}{ord:List Nat}{st:List Int}{stk:Bool}{B B':Nat}(h:AnsRep tT ab N am w)(ho:w.ownsRow B 3 1 ov ord.length (ord.map λ(i:Nat)=>.int .i64 i))(hs:w.ownsRow B' 2 1 sv st.length (st.map (Value.int .i64))):
 TraceAt w (.agg #[.slice (some ⟨ab,0,none⟩) N N,ov,sv,.bool stk]) N am.st (ord.map λ(i:Nat)=>(i:Int)) st stk:=
 ⟨_,_,_,_,rfl,ints_of_nats ho,ints_of_row hs,λ_=>⟨ab,0,rfl,λi hi=>⟨am.hv i,by rw[Nat.zero_add];exact(ansRep_at h hi).1,(ansRep_at h hi).2⟩⟩⟩
end Go.Proofs
set_option maxHeartbeats 1000000
set_option maxRecDepth 100000
namespace Go.Proofs
open Go Go.Conc Go.RowKit Go.Car Go.ChangeShapes Go.WideShapes Go.Deep
theorem cell_in{w:World}{b o:Nat}{v:Value}(h:w.cell? ⟨b,o,none⟩=some v):∃cur e fr,w.heap[b]?=some (.cells cur e fr)/\cur[o]?=some v:=by
 unfold World.cell? at h;split at h
 · rename_i c e fr hh;exact⟨c,e,fr,hh,by simpa using h⟩
 · cases h
theorem opsat_in{W:World}{pp:Option Addr}{np:Nat}{tops:Nat->List OpX}(h:ThrIn W pp np tops)(hn:np<=4611686018427387904)(hl:∀i,i<np->(tops i).length<=1048576):
 ∃(sp:Nat->Option Addr)(Cp:Nat->Nat),OpsAt W (λb=>W.heap[b]?) pp np (min np 64) sp (λi=>(tops i).length) Cp (λi=>(tops i).take 65536):=by
 by_cases h0:0<np
 · obtain⟨pb,po,rfl,hc⟩:=h h0;obtain⟨f,hf⟩:∃f:Nat->Option Addr×Nat,∀i,i<np->W.cell? ⟨pb,po+i,none⟩=some (.slice (f i).1 (tops i).length (f i).2)/\((tops i).length<=(f i).2/\((f i).1=none->(f i).2=0))/\((tops i)≠[]->∃gb go,(f i).1=some ⟨gb,go,none⟩/\∀(k:Nat)(c:OpX),(tops i)[k]?=some c->∀j,j<4->W.cell? ⟨gb,go+k*4+j,none⟩=c.cells[j]?):=by
    classical
    refine⟨λi=>if h:i<np then((hc i h).choose,(hc i h).choose_spec.choose)else(none,0),λi hi=>?_⟩;simp only[hi,dif_pos];exact(hc i hi).choose_spec.choose_spec
   have hne:∀{i k:Nat}{op:OpX},((tops i).take 65536)[k]?=some op->tops i≠[]/\(tops i)[k]?=some op:=λ{i k op}hop=>by
    rw[List.getElem?_take]at hop;split at hop
    · exact⟨λe=>by rw[e]at hop;simp at hop,hop⟩
    · cases hop
   refine⟨λi=>(f i).1,λi=>(f i).2,⟨rfl,hn,λ_=>⟨pb,po,rfl,λi hi=>(hf i (by omega)).1⟩,λi hi=>?_,λi hi=>by rw[List.length_take,Nat.min_comm],λi hi k op hop=>?_⟩⟩
   · obtain⟨_,h1,_⟩:=hf i (by omega);exact⟨h1.1,by have:=hl i (by omega);omega,λe=>⟨by have:=h1.2 e;omega,h1.2 e⟩⟩
   · obtain⟨_,h1,h2⟩:=hf i (by omega);obtain⟨hn1,hop'⟩:=hne hop;obtain⟨gb,go,e,h3⟩:=h2 hn1;obtain⟨cur,e2,fr,hh,-⟩:=cell_in (h3 k op hop' 0 (by decide));refine⟨gb,go,cur,e2,fr,e,hh,λj hj=>?_⟩;rw[←zq0 hh];exact h3 k op hop' j hj
 · obtain rfl:np=0:=by omega
   exact⟨λ_=>none,λ_=>0,⟨rfl,hn,λh=>absurd h h0,λi hi=>absurd hi (Nat.not_lt_zero _),λi hi=>absurd hi (Nat.not_lt_zero _),λi hi=>absurd hi (Nat.not_lt_zero _)⟩⟩
theorem OpsAt.on {w w':World}{RP:Nat->Option Obj}{pp:Option Addr}{n N:Nat}{sp:Nat->Option Addr}{L Cp:Nat->Nat}{ops:Nat->List OpX}(h:OpsAt w RP pp n N sp L Cp ops)(hb:Beyond w w'):OpsAt w' RP pp n N sp L Cp ops:=
 ⟨h.eq,h.le,λh0=>by
  obtain⟨tb,to',e,h1⟩:=h.at' h0;exact⟨tb,to',e,λi hi=>hb.cell (h1 i hi)⟩,h.row,h.len,h.op⟩
theorem ThrIn.on {w w':World}{pp:Option Addr}{np:Nat}{tops:Nat->List OpX}(h:ThrIn w pp np tops)(hb:Beyond w w'):ThrIn w' pp np tops:=λh0=>by
 obtain⟨pb,po,e,h1⟩:=h h0;refine⟨pb,po,e,λi hi=>?_⟩;obtain⟨q,C,h2,h3,h4⟩:=h1 i hi;refine⟨q,C,hb.cell h2,h3,λh5=>?_⟩;obtain⟨gb,go,e2,h6⟩:=h4 h5;refine⟨gb,go,e2,λk c hk j hj=>?_⟩;have h7:=h6 k c hk j hj;obtain⟨v,hv⟩:∃v,c.cells[j]?=some v:=⟨_,List.getElem?_eq_getElem (by simpa[OpX.cells]using hj)⟩;rw[hv]at h7 ⊢;exact hb.cell h7
end Go.Proofs
set_option maxHeartbeats 4000000
set_option maxRecDepth 100000
namespace Go.Proofs
open Go Go.Conc Go.RowKit Go.Car
theorem rnumbers_same{w:World}{va vb:Value}{l:List Int}(hl:l.length<=1099511627776)(ha:IntsAt w va l)(hb:IntsAt w vb l):
 Calls Try.prog 16 #[va,vb] w λe w'=>e=.returned (.bool true)/\∃n,w'=w.drewN n:=by
 obtain⟨pa,ca,rfl,ha⟩:=ha;obtain⟨pb,cb,rfl,hb⟩:=hb;have HA:=Lib.hid (And.intro ha hb);clear ha hb;obtain⟨L,hL⟩:∃L,l.length=L:=⟨_,rfl⟩;rw[hL]at hl ⊢;have HL:=Lib.hid hL;clear hL
 go_enter Try.func16,Try.ntmps16
 go_wp2
 go_loopg [5] L (λk i wr=>∃(j n:Nat),k=L - j/\j<=L/\i=.int .i64 j/\wr=w.drewN n)
 case atStart=>exact⟨0,0,rfl,Nat.zero_le _,rfl,rfl⟩
 case round=>
  obtain⟨j,n,hk,hj,rfl,rfl⟩:=hrel
  by_cases hlt:j<L
  · have hlt':(j:Int)<(L:Int):=by omega
    have hj0:(0:Int)<=j:=by omega
    have hne:l≠[]:=λe=>by have:=HL.out;rw[e]at this;simp at this;omega
    obtain⟨b1,o1,rfl,h1⟩:=HA.out.1 hne;obtain⟨b2,o2,rfl,h2⟩:=HA.out.2 hne;have k1:=h1 j (by rw[HL.out];exact hlt);have k2:=h2 j (by rw[HL.out];exact hlt);generalize l.getD j 0=x at k1 k2;clear h1 h2 hne HA
    go_wp2_with (fail)
    go_quiet (fail)
    go_wp2;go_roundg (L - (j+1))
    case measure=>omega
    case rel=>exact⟨j+1,_,rfl,by omega,rfl,rfl⟩
  · obtain rfl:L=j:=by omega
    go_wp2;go_ret;exact⟨rfl,n,rfl⟩
theorem ranswers_same{w:World}{va vb:Value}{l:List Ans}(hl:l.length<=1099511627776)(hll:∀a∈l,a.l.length<=1099511627776)(ha:AnsAt w va l)(hb:AnsAt w vb l):
 Calls Try.prog 33 #[va,vb] w λe w'=>e=.returned (.bool true)/\∃n,w'=w.drewN n:=by
 obtain⟨pa,ca,rfl,ha⟩:=ha;obtain⟨pb,cb,rfl,hb⟩:=hb;have HA:=Lib.hid (And.intro ha (And.intro hb hll));clear ha hb hll;obtain⟨L,hL⟩:∃L,l.length=L:=⟨_,rfl⟩;rw[hL]at hl ⊢;have HL:=Lib.hid hL;clear hL
 go_enter Try.func33,Try.ntmps33
 go_wp2
 go_loopg [5] L (λk i wr=>∃(j n:Nat),k=L - j/\j<=L/\i=.int .i64 j/\wr=w.drewN n)
 case atStart=>exact⟨0,0,rfl,Nat.zero_le _,rfl,rfl⟩
 case round=>
  obtain⟨j,n,hk,hj,rfl,hwr⟩:=hrel;have HW:=Lib.hid hwr;have hcell:∀a,wr.cell? a=w.cell? a:=λa=>by rw[hwr];rfl
  clear hwr
  by_cases hlt:j<L
  · have hlt':(j:Int)<(L:Int):=by omega
    have hj0:(0:Int)<=j:=by omega
    have hne:l≠[]:=λe=>by have:=HL.out;rw[e]at this;simp at this;omega
    obtain⟨b1,o1,rfl,h1⟩:=HA.out.1 hne;obtain⟨b2,o2,rfl,h2⟩:=HA.out.2.1 hne;obtain⟨aj,haj⟩:∃aj,l[j]?=some aj:=⟨_,List.getElem?_eq_getElem (by rw[HL.out];exact hlt)⟩;obtain⟨k1,k2,lv1,k3,I1⟩:=h1 j aj haj;obtain⟨m1,m2,lv2,m3,I2⟩:=h2 j aj haj;have hlj:=HA.out.2.2 aj (List.mem_of_getElem? haj);rw[←hcell]at k1 k2 k3 m1 m2 m3;have HI:RowKit.Hid (∀W:World,(∀a,W.cell? a=w.cell? a)->Calls Try.prog 16 #[lv1,lv2] W λe w'=>e=.returned (.bool true)/\∃n,w'=W.drewN n):=Lib.hid λW hW=>rnumbers_same hlj (by
     obtain⟨p,C,e,h⟩:=I1;refine⟨p,C,e,λhl=>?_⟩;obtain⟨b,o,e2,h2⟩:=h hl;exact⟨b,o,e2,λi hi=>(hW _).trans (h2 i hi)⟩) (by
     obtain⟨p,C,e,h⟩:=I2;refine⟨p,C,e,λhl=>?_⟩;obtain⟨b,o,e2,h2⟩:=h hl;exact⟨b,o,e2,λi hi=>(hW _).trans (h2 i hi)⟩)
    obtain⟨p1,c1,rfl,_⟩:=id I1;obtain⟨p2,c2,rfl,_⟩:=id I2;generalize aj.l.length=lj at HI k3 m3;generalize aj.n=x at k2 m2;generalize aj.ok=ok at k1 m1;have HC:=Lib.hid hcell;clear h1 h2 hne HA I1 I2 hlj haj hcell
    go_wp2_with (fail)
    cases ok<;>
    · go_quiet (first|(go_at_call 16;exact Calls.quiet_of (HI.out _ (λa=>HC.out a))))
      go_wp2;go_roundg (L - (j+1))
      case measure=>omega
      case rel=>exact⟨j+1,n+nq,rfl,by omega,rfl,by rw[HW.out,World.drewN_drewN]⟩
  · obtain rfl:L=j:=by omega
    go_wp2;go_ret;exact⟨rfl,n,HW.out⟩
theorem rtrace_same{w:World}{va vb:Value}{N:Nat}{tolds:Nat->List Ans}{ord st:List Int}{stuck:Bool}(hN:N<=1099511627776)(ho:ord.length<=1099511627776)(hs:st.length<=1099511627776)(ht:∀i,i<N->(tolds i).length<=1099511627776/\∀a∈tolds i,a.l.length<=1099511627776)
 (ha:TraceAt w va N tolds ord st stuck) (hb:TraceAt w vb N tolds ord st stuck):
 Calls Try.prog 10 #[va,vb] w λe w'=>e=.returned (.bool true)/\Beyond w w':=by
 obtain⟨pa,ca,oa,sa,rfl,ha⟩:=ha;obtain⟨pb,cb,ob,sb,rfl,hb⟩:=hb;have HA:=Lib.hid (And.intro ha (And.intro hb (And.intro ho (And.intro hs ht))));clear ha hb ho hs ht;obtain⟨poa,coa,hoa,hoa2⟩:=HA.out.1.1;obtain⟨pob,cob,hob,hob2⟩:=HA.out.2.1.1;obtain⟨psa,csa,hsa,hsa2⟩:=HA.out.1.2.1;obtain⟨psb,csb,hsb,hsb2⟩:=HA.out.2.1.2.1;subst hoa hob hsa hsb;clear hoa2 hob2 hsa2 hsb2;obtain⟨lo,hlo⟩:∃x,ord.length=x:=⟨_,rfl⟩;obtain⟨ls,hls⟩:∃x,st.length=x:=⟨_,rfl⟩;rw[hlo,hls]at HA ⊢;have Ho:=Lib.hid hlo;have Hs:=Lib.hid hls;clear hlo hls;have hcc:∀w':World,∃W1,((w'.alloc (.cells #[.slice pa N ca,.slice poa lo coa,.slice psa ls csa,.bool stuck] 29)).alloc (.cells #[.slice pb N cb,.slice pob lo cob,.slice psb ls csb,.bool stuck] 29))=W1/\Beyond w' W1/\W1.heap[w'.heap.size]?=some (.cells #[.slice pa N ca,.slice poa lo coa,.slice psa ls csa,.bool stuck] 29)/\W1.heap[w'.heap.size+1]?=some (.cells #[.slice pb N cb,.slice pob lo cob,.slice psb ls csb,.bool stuck] 29):=λw'=>by
  refine⟨_,rfl,(Beyond.alloc _ _).trans (Beyond.alloc _ _),al_old (al_new _ _),?_⟩;rw[zq5,if_pos (by rw[zq3])]
 obtain⟨W1,hW1,hbe,hA1,hB1⟩:=hcc w;clear hcc;have HB:=Lib.hid hbe;have a0:=(zq0 (off:=0) hA1).trans rfl;have a1:=(zq0 (off:=1) hA1).trans rfl;have a2:=(zq0 (off:=2) hA1).trans rfl;have a3:=(zq0 (off:=3) hA1).trans rfl;have b0:=(zq0 (off:=0) hB1).trans rfl;have b1:=(zq0 (off:=1) hB1).trans rfl;have b2:=(zq0 (off:=2) hB1).trans rfl;have b3:=(zq0 (off:=3) hB1).trans rfl;clear hA1 hB1 hbe
 go_enter Try.func10,Try.ntmps10
 go_wp2_with (fail)
 refine Calls.mono (by have:=rnumbers_same (w:=W1) (by rw[Hs.out];exact HA.out.2.2.2.1) (HA.out.1.2.1.beyond HB.out) (HA.out.2.1.2.1.beyond HB.out);exact this) ?_;rintro e w' ⟨rfl,n1,rfl⟩
 go_wp2_with (fail)
 clear hW1
 go_loopg [5] N (λk i wr=>∃(j n:Nat),k=N - j/\j<=N/\i=.int .i64 j/\wr=W1.drewN n)
 case atStart=>exact⟨0,n1,rfl,Nat.zero_le _,rfl,by first|rfl |(rw[World.drewN_drewN])⟩
 case round=>
  obtain⟨j,n,hk,hj,rfl,hwr⟩:=hrel;have HW:=Lib.hid hwr;have hcell:∀a,wr.cell? a=W1.cell? a:=λa=>by rw[hwr];rfl
  have hsz:Beyond w wr:=by rw[hwr];exact HB.out.trans (Beyond.drew _ _)
  clear hwr;rw[←hcell]at a0 a1 a2 a3 b0 b1 b2 b3;clear hcell
  by_cases hlt:j<N
  · have hlt':(j:Int)<(N:Int):=by omega
    have hj0:(0:Int)<=j:=by omega
    obtain⟨q1,o1,rfl,h1⟩:=HA.out.1.2.2 (by omega);obtain⟨q2,o2,rfl,h2⟩:=HA.out.2.1.2.2 (by omega);obtain⟨v1,k1,A1⟩:=h1 j hlt;obtain⟨v2,k2,A2⟩:=h2 j hlt;have l1:=HA.out.2.2.2.2 j hlt;replace k1:=hsz.cell k1;replace k2:=hsz.cell k2;replace A1:=A1.beyond hsz;replace A2:=A2.beyond hsz;obtain⟨r1,c1,rfl,_⟩:=id A1;obtain⟨r2,c2,rfl,_⟩:=id A2;generalize tolds j=tj at A1 A2 l1 k1 k2;obtain⟨lj,hlj⟩:∃x,tj.length=x:=⟨_,rfl⟩;rw[hlj]at A1 A2 k1 k2;have HD:=Lib.hid (And.intro A1 (And.intro A2 l1));clear h1 h2 A1 A2 l1 hlj hsz
    go_wp2_with (fail)
    go_quiet (first|(go_at_call 33;exact Calls.quiet_of (ranswers_same HD.out.2.2.1 HD.out.2.2.2 HD.out.1 HD.out.2.1)))
    go_wp2;go_roundg (N - (j+1))
    case measure=>omega
    case rel=>exact⟨j+1,n+nq,rfl,by omega,rfl,by rw[HW.out,World.drewN_drewN]⟩
  · obtain rfl:N=j:=by omega
    clear hk hj hlt;have HZ:=Lib.hid hsz;clear hsz HW;generalize wr=wB at *
    go_wp2_with (fail)
    go_loopg [6] lo (λk i wx=>∃(j n:Nat),k=lo - j/\j<=lo/\i=.int .i64 j/\wx=wB.drewN n)
    case atStart=>exact⟨0,0,rfl,Nat.zero_le _,rfl,rfl⟩
    case round=>
     obtain⟨j,n,hk,hj,rfl,hwr⟩:=hrel;have HW:=Lib.hid hwr;have hcell:∀a,wr.cell? a=wB.cell? a:=λa=>by rw[hwr];rfl
     have hsz:Beyond w wr:=by rw[hwr];exact HZ.out.trans (Beyond.drew _ _)
     clear hwr;rw[←hcell]at a0 a1 a2 a3 b0 b1 b2 b3;clear hcell
     by_cases hlt:j<lo
     · have hlt':(j:Int)<(lo:Int):=by omega
       have hj0:(0:Int)<=j:=by omega
       have hne:ord≠[]:=λe=>by have:=Ho.out;rw[e]at this;simp at this;omega
       have hlo2:lo<=1099511627776:=by have:=HA.out.2.2.1;have:=Ho.out;omega
       have h1:=HA.out.1.1;have h2:=HA.out.2.1.1;unfold IntsAt at h1 h2;obtain⟨q1,e1,f1,h1⟩:=h1;obtain⟨q2,e2,f2,h2⟩:=h2;obtain⟨g1,o1,rfl,i1⟩:=h1 hne;obtain⟨g2,o2,rfl,i2⟩:=h2 hne;simp only[Value.slice.injEq]at f1 f2;obtain⟨rfl,-,-⟩:=f1;obtain⟨rfl,-,-⟩:=f2;have k1:=hsz.cell (i1 j (by rw[Ho.out];exact hlt));have k2:=hsz.cell (i2 j (by rw[Ho.out];exact hlt));generalize ord.getD j 0=x at k1 k2;clear h1 h2 i1 i2 hne hsz
       go_wp2_with (fail)
       go_quiet (fail)
       go_wp2;go_roundg (lo - (j+1))
       case measure=>omega
       case rel=>exact⟨j+1,n+nq,rfl,by omega,rfl,by rw[HW.out,World.drewN_drewN]⟩
     · obtain rfl:lo=j:=by omega
       go_wp2;go_ret;exact⟨rfl,hsz⟩
theorem opsP_deep{S1:Type}{i:Nat}{dop:OpX->Proc (S1×(Nat->List Ans)) Ans}{k:Nat}(h:∀op,(dop op).Deep k):∀l,(opsP i dop l).Deep k:=by
 intro l
 induction l with
 |nil=>exact Proc.Deep.ret _
 |cons op l ih=>exact(h op).bind λa=>(Proc.Deep.act _).bind λ_=>ih
section
variable {M1 S1:Type} {C:Core M1 S1} {RP:Nat->Option Obj} {l₀:M1} {w wa w1 w2:World} {N n most:Nat} {sp:Nat->Option Addr} {L Cp:Nat->Nat} {ob ib:Nat->Nat} {dv fv v:Value} {pr:Nat->Proc (S1×(Nat->List Ans)) Unit} {sched:List Int} {b:OSt (TM (M1×AnsM) (S1×(Nat->List Ans)))} {m':TM (M1×AnsM) (S1×(Nat->List Ans))} {g:Nat}
def mOps(l₀:M1)(room:Nat):TM (M1×AnsM) (S1×(Nat->List Ans)):=⟨⟨(l₀,ans0),λ_ _=>none⟩,λ_=>.ret (),room⟩
theorem ops_rep0{ro:Nat->Option Obj}{ab:Nat}{room:Nat}(h:BRep (prodCore C (ansCore tT ab N)) ro ⟨(l₀,ans0),λ_ _=>none⟩ w1):(thrOf (prodCore C (ansCore tT ab N)) ownA ro pr).Rep (mOps l₀ room) w1:=⟨h,λi=>trivial⟩
theorem ops_foot0{ro:Nat->Option Obj}{ab room x:Nat}(h:(thrOf (prodCore C (ansCore tT ab N)) ownA ro pr).foot (mOps l₀ room) x):C.foot l₀ x\/x=ab\/ro x≠none:=by
 rcases h with(h|h|⟨i,hi,h⟩)|⟨i,h⟩|h
 · exact .inl h
 · exact .inr (.inl h)
 · exact absurd rfl h
 · exact absurd rfl h
 · exact .inr (.inr h)
theorem ops_res(hR:DRes wa N dv sp L Cp N ob ib fv w1)(hb:BRep C RP ⟨l₀,λ_ _=>none⟩ wa){room:Nat}
 (ho:Over1 (thrOf (prodCore C (ansCore tT (wa.heap.size+1) N)) ownA (roOf RP wa.heap.size N ob ib w1) pr) N most sched (mOps l₀ room) w1 b m' v g w2):
 OpsRes C N l₀ wa (playT pr N most sched (C.st l₀,λ_=>[])) (wa.heap.size+1) v m'.bm.l.1 m'.bm.l.2 w2/\leftN b.ov N=leftN (playT pr N most sched (C.st l₀,λ_=>[])).ov N:=by
 obtain⟨hs,he⟩:=ran_T (m₀:=mOps l₀ room) rfl ho.ran;have hs0:(prodCore C (ansCore tT (wa.heap.size+1) N)).st (mOps (S1:=S1) l₀ room).bm.l=(C.st l₀,λ_=>[]):=rfl;rw[hs0]at hs;have hst:(C.st m'.bm.l.1,m'.bm.l.2.st)=(playT pr N most sched (C.st l₀,λ_=>[])).s:=he.trans hs.st;have hB:=ho.rep.1;have hsz:=hR.size;have hsz2:=ho.size;have hrl:∀x o,RP x=some o->x<wa.heap.size:=λx o h=>zq7 (hb.rod x o h);have hrn:∀x,roOf RP wa.heap.size N ob ib w1 x≠none->RP x≠none\/wa.heap.size<=x:=λx h=>by
  cases hx:roOf RP wa.heap.size N ob ib w1 x with
  |none=>exact absurd hx h
  |some o=>
   rcases roOf_some hx with h|⟨h,_⟩
   · exact .inl (by rw[h];simp)
   · right
     rcases h with h|h|⟨i,hi,h⟩
     · omega
     · omega
     · have:=hR.lo i hi;rcases h with h|h<;>omega
 have hfn:∀x,(thrOf (prodCore C (ansCore tT (wa.heap.size+1) N)) ownA (roOf RP wa.heap.size N ob ib w1) pr).foot m' x->roOf RP wa.heap.size N ob ib w1 x=none->C.foot l₀ x\/wa.heap.size<=x:=λx h hn=>by
  rcases ho.foot x h with h|h
  · rcases ops_foot0 h with h|h|h
    · exact .inl h
    · exact .inr (by omega)
    · exact absurd hn h
  · exact .inr (by omega)
 have hcr:∀x,C.foot m'.bm.l.1 x->roOf RP wa.heap.size N ob ib w1 x=none:=λx h=>Classical.byContradiction λy=>hB.rol x y (.inl h);refine⟨⟨hB.core.1,congrArg Prod.fst hst,hB.core.2.1,congrArg Prod.snd hst,by omega,λx hx hf=>?_,λx hx=>hfn x (.inl (.inl hx)) (hcr x hx),by omega,λi x hi hx=>hfn x (.inl (.inr (.inr ⟨i,hi,hx⟩))) (Classical.byContradiction λy=>hB.rol x y (.inr (.inr ⟨i,hi,hx⟩))),λx hx=>?_,?_,λx hx=>?_⟩,?_⟩
 · by_cases hro:roOf RP wa.heap.size N ob ib w1 x=none
   · refine(ho.old x (by omega) λh=>?_).trans (hR.old x hx);rcases ops_foot0 h with h|h|h
     · exact hf h
     · omega
     · exact h hro
   · cases hx2:roOf RP wa.heap.size N ob ib w1 x with
     |none=>exact absurd hx2 hro
     |some o=>
      rw[hB.rod x o hx2];rcases roOf_some hx2 with h|⟨h,_⟩
      · exact(hb.rod x o h).symm
      · exfalso;rcases h with h|h|⟨i,hi,h⟩
        · omega
        · omega
        · have:=hR.lo i hi;rcases h with h|h<;>omega
 · have h:=hB.core.2.2 x hx;exact⟨λe=>h (.inl e),λi hi=>Classical.byContradiction λy=>h (.inr ⟨i,hi,y⟩)⟩
 · have:=ho.row;rw[hs.ord]at this;exact ownsRow_base this (by omega)
 · have h:=(ho.rowf x hx).1;exact⟨λy=>h (.inl (.inl y)),λe=>h (.inl (.inr (.inl e))),λi hi=>Classical.byContradiction λy=>h (.inl (.inr (.inr ⟨i,hi,y⟩)))⟩
 · exact leftN_congr λi _=>by rw[hs.ov]
theorem OpsRes.ext {r:TSt (S1×(Nat->List Ans))}{ab:Nat}{l':M1}{am:AnsM}{w':World}(h:OpsRes C N l₀ wa r ab v l' am w2){H:Nat}(hw:w.heap.size=H)(hwa:wa.heap.size=H+1)(hoa:∀b,b<H->wa.heap[b]?=w.heap[b]?)(hl:∀b,C.foot l₀ b->b<H)(hsz:w2.heap.size<=w'.heap.size)(hold:∀x,x<w2.heap.size->x≠H->w'.heap[x]?=w2.heap[x]?):OpsRes C N l₀ w r ab v l' am w':=by
 have hs:=h.size;have hab:=h.abl;have hcn:∀b,C.foot l' b->b≠H:=λb hb e=>by
  rcases h.foot b hb with h2|h2
  · have:=hl b h2;omega
  · omega
 have han:∀i b,i<N->am.X i b≠none->b≠H:=λi b hi hb e=>by
  rcases h.ansn i b hi hb with h2|h2
  · have:=hl b h2;omega
  · omega
 refine⟨C.frame _ _ _ h.rep λb hb=>hold b (C.lt _ _ _ h.rep hb) (hcn b hb),h.st,⟨(hold ab (zq7 h.ans.hd) (by omega)).trans h.ans.hd,h.ans.row,λi b o hi hb=>(hold b (zq7 (h.ans.blk i b o hi hb)) (han i b hi (by rw[hb];simp))).trans (h.ans.blk i b o hi hb),h.ans.nab,h.ans.sep⟩,h.ast,by omega,λb hb hf=>(hold b (by omega) (by omega)).trans ((h.old b (by omega) hf).trans (hoa b (by omega))),λb hb=>(h.foot b hb).imp id (λx=>by omega),by omega,λi b hi hb=>(h.ansn i b hi hb).imp id (λx=>by omega),h.anf,?_,h.rowf⟩;refine ownsRow_base (ownsRow_of h.row λg hg=>hold g (own_lt h.row hg).2.2 ?_) (by omega);have:=(own_lt h.row hg).2.1;omega
end
theorem DRes.re {w w':World}{N n:Nat}{dv:Value}{sp:Nat->Option Addr}{L Cp:Nat->Nat}{ob ib:Nat->Nat}{fv:Value}(h:DRes w N dv sp L Cp n ob ib fv w')(τ:Nat->Question->Nat)(d:Nat):DRes w N dv sp L Cp n ob ib fv (Go.Car.re w' τ d):=h.of_heap rfl
theorem DRes.of_re {w w':World}{τ:Nat->Question->Nat}{d:Nat}{N n:Nat}{dv:Value}{sp:Nat->Option Addr}{L Cp:Nat->Nat}{ob ib:Nat->Nat}{fv:Value}(h:DRes (Go.Car.re w τ d) N dv sp L Cp n ob ib fv w'):DRes w N dv sp L Cp n ob ib fv w':=
 ⟨h.size,h.old,h.db,h.ab,h.hb,h.frow,h.obx,h.ibx,h.lo,h.inc⟩
theorem ops_row_form{w:World}{B N:Nat}{T:TypeId}{v:Value}{xs:List Value}(h:w.ownsRow B T 1 v N xs):∃p C,v=.slice p N C/\(v.ownBlock=p.map (·.block))/\(0<N->∃g,p=some ⟨g,0,none⟩/\v.ownBlock=some g/\∀i x,xs[i]?=some x->w.cell? ⟨g,i,none⟩=some x):=by
 rcases h.2 with⟨hv,h0⟩|⟨g,cap,cur,hv,hb,hh,h1,h2,h3,h4⟩
 · subst h0;exact⟨none,0,hv,by rw[hv];rfl,λh=>absurd h (Nat.lt_irrefl _)⟩
 · refine⟨_,cap,hv,by rw[hv];rfl,λ_=>⟨g,rfl,by rw[hv];rfl,λi x hx=>?_⟩⟩;rw[zq0 (off:=i) hh];have hi:i<xs.length:=(List.getElem?_eq_some_iff.1 hx).1;have hl:=h.1;rw[←h4,List.getElem?_take]at hx;split at hx
   · simpa using hx
   · cases hx
theorem ops_calls{Fin:Machine->Trace->Prop}(hFin:Back Try.prog Fin){n:Nat}(hn:0<n){A:FuncId->Bool}(hP:Plain Try.prog A)(hRS:RowsS Try.prog A){M1 S1:Type}{C:Core M1 S1}{RP:Nat->Option Obj}{l₀:M1}{w:World}
 {np Cn N Cs:Nat} {pp scp:Option Addr} {sp:Nat->Option Addr} {L Cp:Nat->Nat} {ops:Nat->List OpX} {sched:List Int} {mo:Int} {f:FuncId} {first caps:Array Value} {fn:Func} {cc:Code} (hf:Try.prog.funcs[f]?=some fn) (hb':fn.body=some cc) (hnm:(fn.name== "runtime.NumGoroutine")=false)
 (hb:BRep C RP ⟨l₀,λ_ _=>none⟩ w) (ho:OpsAt w RP pp np N sp L Cp ops) (hsl:sched.length<=4611686018427387904)
 (hs:sched≠[]->∃sb off,scp=some ⟨sb,off,none⟩/\¬C.foot l₀ sb/\∀j x,sched[j]?=some x->w.cell? ⟨sb,off+j,none⟩=some (.int .i64 x))
 {dop:Nat->OpX->Proc (S1×(Nat->List Ans)) Ans} (hdeep:∀i op k,(dop i op).Deep k)
 (hdo:∀(ro:Nat->Option Obj)(ab:Nat)(pr:Nat->Proc (S1×(Nat->List Ans)) Unit)(st:Nat)(cr:Frame)(rest:List Frame)(EN:List PanicEntry->Prop)(i:Nat)(o:List Ans)(op:OpX),(∀b x,RP b=some x->ro b=some x)->i<N->
  SpecR (thrSys hP hRS (prodCore C (ansCore tT ab N)) ownA ro pr 130 (.pointer (some ⟨st,0,none⟩)) cr rest NEnd EN i o) f (first++#[.iface 141 (.pointer (some ⟨st,0,none⟩)),.int .i64 i,op.val]++caps) (dop i op) (AnsV 2))
 {c:Frame} {cs:List Frame}
 (hmain:∀ab v l' am w',OpsRes C N l₀ w (playT (λi=>opsP i (dop i) (ops i)) N (min mo.toNat 1048576) sched (C.st l₀,λ_=>[])) ab v l' am w'->
  J0 Try.prog Fin (n+N) (G (c.finish (.agg #[.slice (some ⟨ab,0,none⟩) N N,v,.slice none 0 0,.bool (decide (0<leftN (playT (λi=>opsP i (dop i) (ops i)) N (min mo.toNat 1048576) sched (C.st l₀,λ_=>[])).ov N))])) cs) w'):
 J0 Try.prog Fin n (G (Frame.enter Try.prog 35 #[.slice pp np Cn,.func (.func f) first caps,.slice scp sched.length Cs,.int .i64 mo] .normal) (c::cs)) w:=by
 have hJ:=j0_JS hFin;have hC:=j0_calm hFin;have e:Frame.enter Try.prog 35 #[.slice pp np Cn,.func (.func f) first caps,.slice scp sched.length Cs,.int .i64 mo] .normal=(bN 35).at (enterAct Try.f35 #[.slice pp np Cn,.func (.func f) first caps,.slice scp sched.length Cs,.int .i64 mo]) [.code ((Try.f35.body).getD .skip)]:=by kernel_rfl
 have ea:enterAct Try.f35 #[.slice pp np Cn,.func (.func f) first caps,.slice scp sched.length Cs,.int .i64 mo]=⟨#[.slice pp np Cn,.func (.func f) first caps,.slice scp sched.length Cs,.int .i64 mo,undef,undef,undef,undef,undef,undef,undef,undef,undef,undef,undef,undef,undef,undef,undef,undef,undef,undef,undef,undef,undef,undef,undef,undef,undef,undef,undef,undef],[]⟩:=by kernel_rfl
 rw[e,ea,ops0];clear e ea;have hm:=Lib.hid hmain;clear hmain;obtain⟨H,hH⟩:∃H,w.heap.size=H:=⟨_,rfl⟩;refine hJ.ctl (s:=n) (λw=>stepG_seq) ?_;refine at_lone hJ hC plainMD (by kernel_rfl) (λt w'=>t=#[.slice pp np Cn,.func (.func f) first caps,.slice scp sched.length Cs,.int .i64 mo,undef,undef,undef,undef,.pointer (some ⟨H,0,none⟩),undef,undef,undef,undef,undef,undef,undef,undef,undef,undef,undef,undef,undef,undef,undef,undef,undef,undef,undef,undef,undef,undef,undef]/\∃τ d,w'=re (w.alloc (.cells #[.slice none 0 0,.slice none 0 0,.slice none 0 0,.bool false] 29)) τ d) (λt w' τ d h=>⟨h.1,by obtain⟨τ',d',rfl⟩:=h.2;exact⟨τ,d,by rw[re_re]⟩⟩) (by decide) (λτ d=>?_) ?_
 · obtain⟨u0,hu0⟩:∃c,headC (opsT 0)=c:=⟨_,rfl⟩;have eu0:=hu0;rw[hu0];simp only[opsT,headC,tailN,Try.f35,al_od]at eu0;subst eu0;clear hu0 hdo hdeep hs ho hb hf hb' hnm;go_wp2;exact⟨rfl,rfl,τ,d,rfl⟩
 rintro t w' ⟨rfl,τ,d,rfl⟩;refine hJ.re' n _ _ τ d ?_;have hwa:(w.alloc (.cells #[.slice none 0 0,.slice none 0 0,.slice none 0 0,.bool false] 29)).heap.size=H+1:=by rw[zq3,hH]
 have hob:∀b,b<H->(w.alloc (.cells #[.slice none 0 0,.slice none 0 0,.slice none 0 0,.bool false] 29)).heap[b]?=w.heap[b]?:=λb hb=>by rw[zq5,if_neg (by omega)]
 have hzb:(w.alloc (.cells #[.slice none 0 0,.slice none 0 0,.slice none 0 0,.bool false] 29)).heap[H]?=some (.cells #[.slice none 0 0,.slice none 0 0,.slice none 0 0,.bool false] 29):=hH▸al_new w _;obtain⟨wa,hwae⟩:∃wa,w.alloc (.cells #[.slice none 0 0,.slice none 0 0,.slice none 0 0,.bool false] 29)=wa:=⟨_,rfl⟩;rw[hwae]at hwa hob hzb ⊢;clear hwae;have hlw:∀b,C.foot l₀ b->b<H:=λb h=>by rw[←hH];exact C.lt _ _ _ hb.core h
 have hba:BRep C RP ⟨l₀,λ_ _=>none⟩ wa:=hb.frame λb h=>hob b (by rw[←hH];exact hb.lt h);have hat:0<np->∃tb to',pp=some ⟨tb,to',none⟩/\∀i,i<N->wa.cell? ⟨tb,to'+i,none⟩=some (.slice (sp i) (L i) (Cp i)):=λh0=>by
  obtain⟨tb,to',e,h1⟩:=ho.at' h0;exact⟨tb,to',e,λi hi=>(zqc (hob tb (by rw[←hH];exact cell_lt (h1 i hi)))).trans (h1 i hi)⟩
 have hs2:sched≠[]->∃sb off,scp=some ⟨sb,off,none⟩/\¬C.foot l₀ sb/\sb<H/\∀j x,sched[j]?=some x->wa.cell? ⟨sb,off+j,none⟩=some (.int .i64 x):=λh0=>by
  obtain⟨sb,off,e,h1',h2⟩:=hs h0;obtain⟨x,l,hsl⟩:=List.exists_cons_of_ne_nil h0;have hlt:sb<H:=by rw[←hH];exact cell_lt (h2 0 x (by rw[hsl];rfl))
  exact⟨sb,off,e,h1',hlt,λj x hj=>(zqc (hob sb hlt)).trans (h2 j x hj)⟩
 have hNe:=ho.eq;have hN64:N<=64:=by omega
 have hnp:=ho.le;have hrow:=ho.row;have hlen:=ho.len;have hop:=ho.op;clear ho hs hb;refine hJ.ctl (s:=n) (λw=>stepG_seq) ?_;refine at_lone hJ hC plainMD (by kernel_rfl) (λt w'=>∃ob ib fv,t=#[.slice pp np Cn,.func (.func f) first caps,.slice scp sched.length Cs,.int .i64 mo,undef,undef,undef,undef,.pointer (some ⟨H,0,none⟩),fv,.slice (some ⟨H+1+1,0,none⟩) N N,undef,undef,undef,.tuple #[fv,.slice (some ⟨H+1+1,0,none⟩) N N],.slice pp np Cn,.func (.func f) first caps,.tuple #[fv,.slice (some ⟨H+1+1,0,none⟩) N N],fv,.slice (some ⟨H+1+1,0,none⟩) N N,undef,undef,undef,undef,undef,undef,undef,undef,undef,undef,undef,undef]/\DRes wa N (.func (.func f) first caps) sp L Cp N ob ib fv w') (λt w' τ d h=>?_) (by decide) (λτ d=>?_) ?_
 · obtain⟨ob,ib,fv,h1,h2⟩:=h;exact⟨ob,ib,fv,h1,h2.re τ d⟩
 · obtain⟨u0,hu0⟩:∃c,headC (opsT 1)=c:=⟨_,rfl⟩;have eu0:=hu0;rw[hu0];simp only[opsT,headC,tailN,Try.f35,al_od]at eu0;subst eu0;clear hu0;have HM:=Lib.hid (doing_lone (pp:=pp) (n:=np) (Cn:=Cn) (dv:=.func (.func f) first caps) (sp:=sp) (L:=L) (Cp:=Cp) ⟨_,_,_,rfl⟩ (re wa τ d) hnp (λi hi=>hrow i (by rw[hNe];exact hi)) (λh0=>by
    obtain⟨tb,to',e,h1⟩:=hat h0;exact⟨tb,to',e,λi hi=>h1 i (by rw[hNe];exact hi)⟩))
   rw[←hNe]at HM;have HH:=Lib.hid (And.intro hH hwa);clear hs2 hat hlw hba hob hzb hH hwa hNe hN64 hnp hrow hlen hop hdo hdeep hf hb' hnm hsl
   go_wp2_with (fail)
   refine Calls.mono HM.out ?_;rintro e w' ⟨ob,ib,fv,rfl,hR⟩;have hR2:=Lib.hid hR.of_re;clear hR;rw[show(re wa τ d).heap.size=H+1 from HH.out.2];go_wp2;exact⟨rfl,ob,ib,fv,rfl,hR2.out⟩
 rintro t w1 ⟨ob,ib,fv,rfl,hR⟩;obtain⟨fp,Cf,rfl,hfo,hfp⟩:=ops_row_form hR.frow;refine hJ.ctl (s:=n) (λw=>stepG_seq) ?_;have hrep1:=ops_rep hR hba;obtain⟨u0,hu0⟩:∃c,headC (opsT 2)=c:=⟨_,rfl⟩;have eu0:=hu0;rw[hu0];simp only[opsT,headC,tailN,Try.f35,al_od]at eu0;subst eu0;clear hu0;refine hJ.ctl (s:=n) (λw=>stepG_region) ?_;have HR:=Lib.hid hR;have HP:=Lib.hid hrep1;have HX:=Lib.hid (And.intro hat (And.intro hs2 (And.intro hob (And.intro hzb (And.intro hwa (And.intro hlw (And.intro hba (And.intro hrow (And.intro hlen hop)))))))));have HA:=Lib.hid (And.intro hfo hfp);have HNE:=Lib.hid hNe;clear hNe;have HD:=Lib.hid (And.intro hdo (And.intro hdeep (And.intro hf (And.intro hb' hnm))));clear hR hrep1 hat hs2 hob hzb hwa hfo hfp hlw hba hrow hlen hop hdo hdeep hf hb' hnm;refine at_piece (s:=n) (by decide) hJ (rows0_none _) true (.inl rfl) 0 3 8 rfl rfl rfl (by rfl) ?_;intro τ d;simp only[List.drop_zero,List.take_succ_cons,List.take_zero];go_wp2;simp only[contAt];refine hJ.re' n _ _ τ d ?_;refine at_call (by decide) hJ (s:=n) rfl rfl (f:=22) (args:=#[.slice fp N Cf,.slice scp sched.length Cs,.int .i64 mo]) (λτ d=>?_) (λτ d=>?_) ?_
 · simp[go_sem,execOp,Act.eval,resolve,Deferred.ofValue,invoke,callFunc,Try.func22,Try.f22]
 · intro e he;simp[go_sem,execOp,Act.eval,resolve,Deferred.ofValue,invoke,callFunc,Try.func22,Try.f22,Sem.runT_eq]at he
 obtain⟨hat,hs2,hob,hzb,hwa,hlw,hba,hrow,hlen,hop⟩:=HX.out;obtain⟨hfo,hfp⟩:=HA.out;obtain⟨hdo,hdeep,hf,hb',hnm⟩:=HD.out;have hRo:∀i,i<N->DoRo (roOf RP wa.heap.size N ob ib w1) i N (wa.heap.size+1) (ob i) wa.heap.size (ib i) (wa.heap.size+2) (sp i) (min (L i) 65536) (Cp i) (ops i) f first caps:=λi hi=>ops_ro HR.out hba hN64 hlen hop hi
 have hfree:∀x,wa.heap.size+3<=x->w1.heap[x]?≠none->(∀i,i<N->x≠ob i/\x≠ib i)->¬(C.foot l₀ x\/x=wa.heap.size+1\/roOf RP wa.heap.size N ob ib w1 x≠none):=λx hx _ hne h=>by
  rcases h with h|h|h
  · have:=hlw x h;omega
  · omega
  · cases ho:roOf RP wa.heap.size N ob ib w1 x with
    |none=>exact h ho
    |some o=>
     rcases roOf_some ho with h2|⟨h2,_⟩
     · have:=zq7 (hba.rod x o h2);omega
     · rcases h2 with h2|h2|⟨i,hi,h2|h2⟩
       · omega
       · omega
       · exact(hne i hi).1 h2
       · exact(hne i hi).2 h2
 refine over_calls hFin (T:=thrOf (prodCore C (ansCore tT (wa.heap.size+1) N)) ownA (roOf RP wa.heap.size N ob ib w1) (λi=>opsP i (dop i) (ops i))) (m₀:=mOps l₀ (min mo.toNat 1048576+100)) (N:=N) (most:=min mo.toNat 1048576) (tv:=λi=>cloD wa.heap.size (ob i) (ib i)) (sched:=sched) hn (by have:=HNE.out;omega) rfl (ops_rep0 HP.out) (Nat.le_refl _) ?_ (λi hi=>?_) ?_ ?_
 · intro h0;obtain⟨g,e,hg,hc⟩:=hfp h0;refine⟨g,e,λhf=>?_,λi hi=>hc i _ (by simp[clsD,hi])⟩;obtain⟨⟨cc,hcc⟩,hlo,hlt⟩:=own_lt HR.out.frow hg;refine hfree g hlo (by rw[hcc];simp) (λi hi=>⟨λe=>?_,λe=>?_⟩) (ops_foot0 hf)
   · exact heap_ne hcc (HR.out.obx i hi) (by decide) e
   · exact heap_ne hcc (HR.out.ibx i hi) (by decide) e
 · refine thr_runs hP hRS (fn:=Try.f84) (c:=(Try.f84.body).getD .skip) Try.func84 rfl rfl (λk=>opsP_deep (λop=>hdeep i op k) _) (λst cr rest EN s m w hA hown=>?_);exact doing_calls hP hRS hf hb' hnm (hRo i hi) (λo op=>hdo _ _ _ st cr rest EN i o op (λb x h=>roOf_rp h) hi) s m w hA hown
 · refine⟨hsl,scp,Cs,rfl,λh0=>?_⟩;obtain⟨sb,off,e,h1',h2,h3⟩:=hs2 h0;refine⟨sb,off,e,λj x hj=>?_⟩;cases h1:RP sb with
   |some o=>exact .inr λm w h=>(zqc ((h.1.rod sb o (roOf_rp h1)).trans (hba.rod sb o h1).symm)).trans (h3 j x hj)
   |none=>
   refine .inl ⟨(zqc (HR.out.old sb (by omega))).trans (h3 j x hj),by have:=HR.out.size;omega,λhf=>?_⟩;rcases ops_foot0 hf with h4|h4|h4
   · exact h1' h4
   · omega
   · cases ho:roOf RP wa.heap.size N ob ib w1 sb with
     |none=>exact h4 ho
     |some o=>
      rcases roOf_some ho with h5|⟨h5,_⟩
      · rw[h1]at h5;cases h5
      · rcases h5 with h5|h5|⟨i,hi,h5⟩
        · omega
        · omega
        · have:=HR.out.lo i hi;rcases h5 with h5|h5<;>omega
 intro b m' v g capg w2 ho;obtain⟨hres,hleft⟩:=ops_res HR.out hba ho;have hvrow:=ho.row;clear ho;rw[Frame.finish_at]
 walk_nrm
 obtain⟨pv',cv',rfl,_⟩:=own_slice hvrow;clear hvrow;generalize b.ord.length=nv' at hres ⊢;have HO:=Lib.hid hres;rw[hleft];have hHw:=zq7 hzb;clear hleft hres;obtain⟨stuck,hstuck⟩:∃x,decide (0<leftN (playT (λi=>opsP i (dop i) (ops i)) N (min mo.toNat 1048576) sched (C.st l₀,λ_=>[])).ov N)=x:=⟨_,rfl⟩;rw[hstuck];have HST:=Lib.hid hstuck;clear hstuck;refine at_piece (s:=n+N) (by decide) hJ (rows0_none _) true (.inl rfl) 4 7 0 rfl rfl rfl (by rfl) ?_;intro τ d;simp only[List.drop_succ_cons,List.drop_zero,List.take_succ_cons,List.take_zero];go_wp2;simp only[contAt];refine hJ.re' (n+N) _ _ τ d ?_;refine hJ.ctl (s:=n+N) (λw=>stepG_region_end) ?_;have hze:w2.heap[H]?=some (.cells #[.slice none 0 0,.slice none 0 0,.slice none 0 0,.bool false] 29):=(HO.out.old H hHw (λh=>by have:=hlw H h;omega)).trans hzb;refine at_rest_lone hJ hC plainMD (by kernel_rfl) (λv w'=>v=.agg #[.slice (some ⟨H+1+1,0,none⟩) N N,.slice pv' nv' cv',.slice none 0 0,.bool stuck]/\∃l' am,OpsRes C N l₀ w (playT (λi=>opsP i (dop i) (ops i)) N (min mo.toNat 1048576) sched (C.st l₀,λ_=>[])) (H+1+1) (.slice pv' nv' cv') l' am w') (λv w' τ d⟨h1,l',am,h2⟩=>⟨h1,l',am,h2.re τ d⟩) rfl Try.func35 (λτ d=>?_) ?_
 · obtain⟨u0,hu0⟩:∃c,opsT 3=c:=⟨_,rfl⟩;have eu0:=hu0;rw[hu0];simp only[opsT,headC,tailN,Try.f35,al_od]at eu0;subst eu0;clear hu0;have HZ:=Lib.hid (And.intro hH (And.intro hwa (And.intro hob hlw)));have b0:(re w2 τ d).heap[H]?=some (.cells #[.slice none 0 0,.slice none 0 0,.slice none 0 0,.bool false] 29):=hze;have hre:=HO.out.re τ d;clear HO;generalize re w2 τ d=w3 at b0 hre ⊢;have HPR:=Lib.hid hre;clear hre hfree hRo hat hs2 hob hzb hwa hlw hba hrow hlen hop hfo hfp hdo hdeep hf hb' hnm hze hHw HX HA HD HP HR hH hsl hN64 hnp hm;have r0:=(zq0 (off:=0) b0).trans rfl;have r1:=(zq0 (off:=1) b0).trans rfl;have r2:=(zq0 (off:=2) b0).trans rfl;have r3:=(zq0 (off:=3) b0).trans rfl;have z0:=zq6 (off:=0) b0;have z1:=zq6 (off:=1) b0;have z2:=zq6 (off:=2) b0;have z3:=zq6 (off:=3) b0;have B0:=Lib.hid b0;clear b0;go_wp2;clear r0 r1 r2 r3 z0 z1 z2 z3;have b1':=zqa w3 H 0 (.slice (some ⟨H+1+1,0,none⟩) N N) B0.out;have b2':=zqa _ H 1 (.slice pv' nv' cv') b1';have b3':=zqa _ H 2 (.slice none 0 0) b2';have b4':=zqa _ H 3 (.bool stuck) b3';have hext:∀x,x<w3.heap.size->x≠H->((((w3.setCell ⟨H,0,none⟩ (.slice (some ⟨H+1+1,0,none⟩) N N)).setCell ⟨H,1,none⟩ (.slice pv' nv' cv')).setCell ⟨H,2,none⟩ (.slice none 0 0)).setCell ⟨H,3,none⟩ (.bool stuck)).heap[x]?=w3.heap[x]?:=λx _ hx=>by
    rw[zq8 _ _ _ _ hx,zq8 _ _ _ _ hx,zq8 _ _ _ _ hx,zq8 _ _ _ _ hx]
   have hsz8:((((w3.setCell ⟨H,0,none⟩ (.slice (some ⟨H+1+1,0,none⟩) N N)).setCell ⟨H,1,none⟩ (.slice pv' nv' cv')).setCell ⟨H,2,none⟩ (.slice none 0 0)).setCell ⟨H,3,none⟩ (.bool stuck)).heap.size=w3.heap.size:=by simp only[zqb]
   generalize ((((w3.setCell ⟨H,0,none⟩ (.slice (some ⟨H+1+1,0,none⟩) N N)).setCell ⟨H,1,none⟩ (.slice pv' nv' cv')).setCell ⟨H,2,none⟩ (.slice none 0 0)).setCell ⟨H,3,none⟩ (.bool stuck))=w8 at b4' hext hsz8 ⊢;clear b1' b2' b3';have k0:=(zq0 (off:=0) b4').trans rfl;have k1:=(zq0 (off:=1) b4').trans rfl;have k2:=(zq0 (off:=2) b4').trans rfl;have k3:=(zq0 (off:=3) b4').trans rfl;have hres:=HPR.out;rw[HZ.out.2.1]at hres;refine⟨rfl,.agg #[.slice (some ⟨H+1+1,0,none⟩) N N,.slice pv' nv' cv',.slice none 0 0,.bool stuck],?_,_,rfl,rfl,_,_,hres.ext HZ.out.1 HZ.out.2.1 HZ.out.2.2.1 HZ.out.2.2.2 (by omega) hext⟩;simp only[results,Try.f35];simp[go_sem,k0,k1,k2,k3]
 · rintro v w' ⟨rfl,l',am,h⟩;have h2:=hm.out _ _ l' am w' h;rw[HST.out]at h2;exact h2
structure PlayedR{S1:Type}(N:Nat)(w:World)(r:TSt (S1×(Nat->List Ans)))(st:List Int)(ab:Nat)(ov sv:Value)(am:AnsM)(w':World):Prop where
 size:w.heap.size<=w'.heap.size
 old:∀b,b<w.heap.size->w'.heap[b]?=w.heap[b]?
 ans:AnsRep tT ab N am w'
 ast:am.st=r.s.2
 abl:w.heap.size<=ab
 ansn:∀i b,i<N->am.X i b≠none->w.heap.size<=b
 orow:w'.ownsRow w.heap.size 3 1 ov r.ord.length (r.ord.map λ(i:Nat)=>.int .i64 i)
 srow:w'.ownsRow w.heap.size 2 1 sv st.length (st.map (Value.int .i64))
 rowf:∀x,ov.ownBlock=some x->x≠ab/\∀i,i<N->am.X i x=none
 srowf:∀x,sv.ownBlock=some x->x≠ab/\(∀i,i<N->am.X i x=none)/\ov.ownBlock≠some x
theorem PlayedR.re {S1:Type}{N:Nat}{w w':World}{r:TSt (S1×(Nat->List Ans))}{st:List Int}{ab:Nat}{ov sv:Value}{am:AnsM}(h:PlayedR N w r st ab ov sv am w')(τ:Nat->Question->Nat)(d:Nat):PlayedR N w r st ab ov sv am (Go.Car.re w' τ d):=
 ⟨h.size,h.old,⟨h.ans.hd,h.ans.row,h.ans.blk,h.ans.nab,h.ans.sep⟩,h.ast,h.abl,h.ansn,h.orow,h.srow,h.rowf,h.srowf⟩
theorem played_of{M1 S1:Type}{C:Core M1 S1}{N H:Nat}{l₀ l':M1}{w wb w2 w':World}{r:TSt (S1×(Nat->List Ans))}{ab:Nat}{v sv:Value}{am:AnsM}{st:List Int}(h:OpsRes C N l₀ wb r ab v l' am w2)(hw:w.heap.size=H)(hwb:H+1<=wb.heap.size)(hob:∀b,b<H->wb.heap[b]?=w.heap[b]?)
 (hl:∀b,C.foot l₀ b->H+1<=b) (hsz:w2.heap.size<=w'.heap.size) (hold:∀x,x<w2.heap.size->x≠H->w'.heap[x]?=w2.heap[x]?) (hs:w'.ownsRow w2.heap.size 2 1 sv st.length (st.map (Value.int .i64))):PlayedR N w r st ab v sv am w':=by
 have h1:=h.size;have h2:=h.abl;have han:∀i b,i<N->am.X i b≠none->H+1<=b:=λi b hi hb=>(h.ansn i b hi hb).elim (hl b) (λx=>by omega);refine⟨by omega,λb hb=>(hold b (by omega) (by omega)).trans ((h.old b (by omega) λx=>by have:=hl b x;omega).trans (hob b (by omega))),⟨(hold ab (zq7 h.ans.hd) (by omega)).trans h.ans.hd,h.ans.row,λi b o hi hb=>(hold b (zq7 (h.ans.blk i b o hi hb)) (by have:=han i b hi (by rw[hb];simp);omega)).trans (h.ans.blk i b o hi hb),h.ans.nab,h.ans.sep⟩,h.ast,by omega,λi b hi hb=>by have:=han i b hi hb;omega,?_,ownsRow_base hs (by omega),λx hx=>(h.rowf x hx).2,λx hx=>?_⟩
 · refine ownsRow_base (ownsRow_of h.row λg hg=>hold g (own_lt h.row hg).2.2 ?_) (by omega);have:=(own_lt h.row hg).2.1;omega
 · have h3:=(own_lt hs hx).2.1;refine⟨?_,λi hi=>?_,λe=>?_⟩
   · have:=zq7 h.ans.hd;omega
   · cases ho:am.X i x with
     |none=>rfl
     |some o=>have:=zq7 (h.ans.blk i x o hi ho);omega
   · have:=(own_lt h.row e).2.2;omega
set_option maxHeartbeats 1000000
set_option maxRecDepth 100000
def aL:List FuncId:=[13,15,36,34,81,83,65,51,47,55,57,58,10,16,33,37,38,68,40,41,42,39,43,44,69,70,66,67,85,12,17,18,19,31,32].append [71,77,76,75]
def aM(f:FuncId):Bool:=aL.contains f
theorem okf0:okFn Try.prog aM 13:=.text _ _ Try.func13 rfl (by kernel_rfl) (by kernel_rfl)
theorem okf1:okFn Try.prog aM 15:=.text _ _ Try.func15 rfl (by kernel_rfl) (by kernel_rfl)
theorem okf2:okFn Try.prog aM 36:=.text _ _ Try.func36 rfl (by kernel_rfl) (by kernel_rfl)
theorem okf3:okFn Try.prog aM 34:=.text _ _ Try.func34 rfl (by kernel_rfl) (by kernel_rfl)
theorem okf4:okFn Try.prog aM 81:=.text _ _ Try.func81 rfl (by kernel_rfl) (by kernel_rfl)
theorem okf5:okFn Try.prog aM 83:=.text _ _ Try.func83 rfl (by kernel_rfl) (by kernel_rfl)
theorem okf6:okFn Try.prog aM 65:=.text _ _ Try.func65 rfl (by kernel_rfl) (by kernel_rfl)
theorem okf7:okFn Try.prog aM 51:=.text _ _ Try.func51 rfl (by kernel_rfl) (by kernel_rfl)
theorem okf8:okFn Try.prog aM 47:=.text _ _ Try.func47 rfl (by kernel_rfl) (by kernel_rfl)
theorem okf9:okFn Try.prog aM 55:=.text _ _ Try.func55 rfl (by kernel_rfl) (by kernel_rfl)
theorem okf10:okFn Try.prog aM 57:=.text _ _ Try.func57 rfl (by kernel_rfl) (by kernel_rfl)
theorem okf11:okFn Try.prog aM 58:=.text _ _ Try.func58 rfl (by kernel_rfl) (by kernel_rfl)
theorem okf12:okFn Try.prog aM 10:=.text _ _ Try.func10 rfl (by kernel_rfl) (by kernel_rfl)
theorem okf13:okFn Try.prog aM 16:=.text _ _ Try.func16 rfl (by kernel_rfl) (by kernel_rfl)
theorem okf14:okFn Try.prog aM 33:=.text _ _ Try.func33 rfl (by kernel_rfl) (by kernel_rfl)
theorem okf15:okFn Try.prog aM 37:=.text _ _ Try.func37 rfl (by kernel_rfl) (by kernel_rfl)
theorem okf16:okFn Try.prog aM 38:=.text _ _ Try.func38 rfl (by kernel_rfl) (by kernel_rfl)
theorem okf17:okFn Try.prog aM 68:=.text _ _ Try.func68 rfl (by kernel_rfl) (by kernel_rfl)
theorem okf18:okFn Try.prog aM 40:=.text _ _ Try.func40 rfl (by kernel_rfl) (by kernel_rfl)
theorem okf19:okFn Try.prog aM 41:=.text _ _ Try.func41 rfl (by kernel_rfl) (by kernel_rfl)
theorem okf20:okFn Try.prog aM 42:=.text _ _ Try.func42 rfl (by kernel_rfl) (by kernel_rfl)
theorem okf21:okFn Try.prog aM 39:=.text _ _ Try.func39 rfl (by kernel_rfl) (by kernel_rfl)
theorem okf22:okFn Try.prog aM 43:=.text _ _ Try.func43 rfl (by kernel_rfl) (by kernel_rfl)
theorem okf23:okFn Try.prog aM 44:=.text _ _ Try.func44 rfl (by kernel_rfl) (by kernel_rfl)
theorem okf24:okFn Try.prog aM 69:=.text _ _ Try.func69 rfl (by kernel_rfl) (by kernel_rfl)
theorem okf25:okFn Try.prog aM 70:=.text _ _ Try.func70 rfl (by kernel_rfl) (by kernel_rfl)
theorem okf26:okFn Try.prog aM 66:=.text _ _ Try.func66 rfl (by kernel_rfl) (by kernel_rfl)
theorem okf27:okFn Try.prog aM 67:=.text _ _ Try.func67 rfl (by kernel_rfl) (by kernel_rfl)
theorem okf28:okFn Try.prog aM 85:=.text _ _ Try.func85 rfl (by kernel_rfl) (by kernel_rfl)
theorem okf29:okFn Try.prog aM 12:=.text _ _ Try.func12 rfl (by kernel_rfl) (by kernel_rfl)
theorem okf30:okFn Try.prog aM 17:=.text _ _ Try.func17 rfl (by kernel_rfl) (by kernel_rfl)
theorem okf31:okFn Try.prog aM 18:=.text _ _ Try.func18 rfl (by kernel_rfl) (by kernel_rfl)
theorem okf32:okFn Try.prog aM 19:=.text _ _ Try.func19 rfl (by kernel_rfl) (by kernel_rfl)
theorem okf33:okFn Try.prog aM 31:=.text _ _ Try.func31 rfl (by kernel_rfl) (by kernel_rfl)
theorem okf34:okFn Try.prog aM 32:=.text _ _ Try.func32 rfl (by kernel_rfl) (by kernel_rfl)
theorem okr0:okFn Try.prog aM 71:=.row _ (Extern.Atomic.loadT (.int .i64)) Try.func71 rfl (by kernel_rfl) (by kernel_rfl) (by kernel_rfl) (λ_=>tame_loadT _ _)
theorem okr1:okFn Try.prog aM 77:=.row _ (Extern.Atomic.storeT) Try.func77 rfl (by kernel_rfl) (by kernel_rfl) (by kernel_rfl) (λ_=>tame_storeT _)
theorem okr2:okFn Try.prog aM 76:=.row _ (Extern.Atomic.update (Op.intArith .add) .i64 true) Try.func76 rfl (by kernel_rfl) (by kernel_rfl) (by kernel_rfl) (λ_=>tame_update _ _ _)
theorem okr3:okFn Try.prog aM 75:=.row _ (Extern.Atomic.casT (.int .i64)) Try.func75 rfl (by kernel_rfl) (by kernel_rfl) (by kernel_rfl) (λ_=>tame_casT _ _)
theorem noReady:(Try.prog.funcs.toList.all λf=>match f.body with|some c=>(readies c).isEmpty|none=>true)=true:=by kernel_rfl
theorem stepOf_none(g:Nat):Try.prog.stepOf g=none:=by
 unfold Program.stepOf;rw[Array.findIdx?_eq_none_iff];intro f hf;have h:=noReady;rw[List.all_eq_true]at h;have:=h f (by simpa using hf);cases hb:f.body with
 |none=>rfl
 |some c=>rw[hb]at this;simp only[List.isEmpty_iff]at this;simp[this]
theorem plainM:Plain Try.prog aM:=by
 refine⟨λf hf=>?_,by kernel_rfl,stepOf_none⟩;have hf':f∈aL:=by simpa[aM]using hf
 simp only[aL,List.append_eq,List.cons_append,List.nil_append,List.mem_cons,List.not_mem_nil,or_false]at hf';rcases hf' with rfl |rfl |rfl |rfl |rfl |rfl |rfl |rfl |rfl |rfl |rfl |rfl |rfl |rfl |rfl |rfl |rfl |rfl |rfl |rfl |rfl |rfl |rfl |rfl |rfl |rfl |rfl |rfl |rfl |rfl |rfl |rfl |rfl |rfl |rfl |rfl |rfl |rfl |rfl
 · exact okf0
 · exact okf1
 · exact okf2
 · exact okf3
 · exact okf4
 · exact okf5
 · exact okf6
 · exact okf7
 · exact okf8
 · exact okf9
 · exact okf10
 · exact okf11
 · exact okf12
 · exact okf13
 · exact okf14
 · exact okf15
 · exact okf16
 · exact okf17
 · exact okf18
 · exact okf19
 · exact okf20
 · exact okf21
 · exact okf22
 · exact okf23
 · exact okf24
 · exact okf25
 · exact okf26
 · exact okf27
 · exact okf28
 · exact okf29
 · exact okf30
 · exact okf31
 · exact okf32
 · exact okf33
 · exact okf34
 · exact okr0
 · exact okr1
 · exact okr2
 · exact okr3
theorem rowsM:RowsS Try.prog aM:=by
 intro f hf fn e h1 h2 h3 args;have hf':f∈aL:=by simpa[aM]using hf
 simp only[aL,List.append_eq,List.cons_append,List.nil_append,List.mem_cons,List.not_mem_nil,or_false]at hf';rcases hf' with rfl |rfl |rfl |rfl |rfl |rfl |rfl |rfl |rfl |rfl |rfl |rfl |rfl |rfl |rfl |rfl |rfl |rfl |rfl |rfl |rfl |rfl |rfl |rfl |rfl |rfl |rfl |rfl |rfl |rfl |rfl |rfl |rfl |rfl |rfl |rfl |rfl |rfl |rfl
 · rw[Try.func13]at h1;cases h1;cases h2
 · rw[Try.func15]at h1;cases h1;cases h2
 · rw[Try.func36]at h1;cases h1;cases h2
 · rw[Try.func34]at h1;cases h1;cases h2
 · rw[Try.func81]at h1;cases h1;cases h2
 · rw[Try.func83]at h1;cases h1;cases h2
 · rw[Try.func65]at h1;cases h1;cases h2
 · rw[Try.func51]at h1;cases h1;cases h2
 · rw[Try.func47]at h1;cases h1;cases h2
 · rw[Try.func55]at h1;cases h1;cases h2
 · rw[Try.func57]at h1;cases h1;cases h2
 · rw[Try.func58]at h1;cases h1;cases h2
 · rw[Try.func10]at h1;cases h1;cases h2
 · rw[Try.func16]at h1;cases h1;cases h2
 · rw[Try.func33]at h1;cases h1;cases h2
 · rw[Try.func37]at h1;cases h1;cases h2
 · rw[Try.func38]at h1;cases h1;cases h2
 · rw[Try.func68]at h1;cases h1;cases h2
 · rw[Try.func40]at h1;cases h1;cases h2
 · rw[Try.func41]at h1;cases h1;cases h2
 · rw[Try.func42]at h1;cases h1;cases h2
 · rw[Try.func39]at h1;cases h1;cases h2
 · rw[Try.func43]at h1;cases h1;cases h2
 · rw[Try.func44]at h1;cases h1;cases h2
 · rw[Try.func69]at h1;cases h1;cases h2
 · rw[Try.func70]at h1;cases h1;cases h2
 · rw[Try.func66]at h1;cases h1;cases h2
 · rw[Try.func67]at h1;cases h1;cases h2
 · rw[Try.func85]at h1;cases h1;cases h2
 · rw[Try.func12]at h1;cases h1;cases h2
 · rw[Try.func17]at h1;cases h1;cases h2
 · rw[Try.func18]at h1;cases h1;cases h2
 · rw[Try.func19]at h1;cases h1;cases h2
 · rw[Try.func31]at h1;cases h1;cases h2
 · rw[Try.func32]at h1;cases h1;cases h2
 · rw[Try.func71]at h1;cases h1;have h4:Extern.find Try.f71=some (Extern.Atomic.loadT (.int .i64)):=by kernel_rfl
   rw[h4]at h3;cases h3;exact steady_loadT _ _
 · rw[Try.func77]at h1;cases h1;have h4:Extern.find Try.f77=some (Extern.Atomic.storeT):=by kernel_rfl
   rw[h4]at h3;cases h3;exact steady_storeT _
 · rw[Try.func76]at h1;cases h1;have h4:Extern.find Try.f76=some (Extern.Atomic.update (Op.intArith .add) .i64 true):=by kernel_rfl
   rw[h4]at h3;cases h3;exact steady_update _ _ _
 · rw[Try.func75]at h1;cases h1;have h4:Extern.find Try.f75=some (Extern.Atomic.casT (.int .i64)):=by kernel_rfl
   rw[h4]at h3;cases h3;exact steady_casT _ _
end Go.Proofs
set_option maxHeartbeats 1000000
namespace Go.Car
open Go Go.Conc Go.RowKit
structure NumT where
 N:Nat
 ob:Nat->Nat
 len:Nat->Nat
 ty:Nat->TypeId
abbrev Nums:=Nat->Nat->Int
def upd2(g:Nums)(c j:Nat)(x:Int):Nums:=upd' g c (upd' (g c) j x)
theorem upd2_at(g:Nums)(c j:Nat)(x:Int)(d k:Nat):upd2 g c j x d k=if d=c/\k=j then x else g d k:=by
 unfold upd2
 by_cases h:d=c
 · subst h;rw[upd'_same]
   by_cases h2:k=j
   · subst h2;rw[upd'_same,if_pos ⟨rfl,rfl⟩]
   · rw[upd'_ne _ _ h2,if_neg (λe=>h2 e.2)]
 · rw[upd'_ne _ _ h,if_neg (λe=>h e.1)]
def rowA(n:Nat)(f:Nat->Int):Array Value:=((List.range n).map λj=>Value.int .i64 (f j)).toArray
theorem rowA_get{n j:Nat}{f:Nat->Int}(h:j<n):(rowA n f)[j]?=some (.int .i64 (f j)):=by
 unfold rowA;rw[al_gl,List.getElem?_map,List.getElem?_range h];rfl
theorem rowA_set{n j:Nat}{f:Nat->Int}(x:Int):(rowA n f).setIfInBounds j (.int .i64 x)=rowA n (upd' f j x):=by
 apply Array.ext_getElem?;intro k;rw[al_gs]
 by_cases hk:k<n
 · rw[rowA_get hk,rowA_get hk]
   by_cases e:j=k
   · subst e;rw[if_pos rfl,if_pos (by unfold rowA;simpa using hk),upd'_same]
   · rw[if_neg e,upd'_ne _ _ (λx=>e x.symm)]
 · have e1:∀f:Nat->Int,(rowA n f)[k]?=none:=λf=>by unfold rowA;simp[hk]
   rw[e1,e1]
   by_cases e:j=k
   · subst e;rw[if_pos rfl,if_neg (by unfold rowA;simpa using hk)]
   · rw[if_neg e]
structure NumRep(T:NumT)(g:Nums)(w:World):Prop where
 blk:∀c,c<T.N->w.heap[T.ob c]?=some (.cells (rowA (T.len c) (g c)) (T.ty c))
 inj:∀c d,c<T.N->d<T.N->T.ob c=T.ob d->c=d
def numCore(T:NumT):Core Nums Nums where
 foot _ b:=∃c,c<T.N/\b=T.ob c
 Rep:=NumRep T
 st g:=g
 frame g w w' h hs:=⟨λc hc=>(hs _ ⟨c,hc,rfl⟩).trans (h.blk c hc),h.inj⟩
 lt g w b h hb:=by
  obtain⟨c,hc,rfl⟩:=hb;exact zq7 (h.blk c hc)
 pin _:=0
def onN{S2 α:Type}(f:Nums->Nums×α):Proc (Nums×S2) α:=Proc.act λs=>(((f s.1).1,s.2),(f s.1).2)
section
variable {T:NumT} {g:Nums} {w:World} {c j:Nat}
theorem NumRep.re (h:NumRep T g w)(τ:Nat->Question->Nat)(d:Nat):NumRep T g (Car.re w τ d):=⟨h.blk,h.inj⟩
theorem NumRep.cell (h:NumRep T g w)(hc:c<T.N)(hj:j<T.len c):w.cell? ⟨T.ob c,j,none⟩=some (.int .i64 (g c j)):=
 (zq0 (h.blk c hc)).trans (rowA_get hj)
theorem NumRep.frozen (h:NumRep T g w)(hc:c<T.N):w.frozen? ⟨T.ob c,j,none⟩=false:=zq6 (h.blk c hc)
theorem NumRep.set (h:NumRep T g w)(hc:c<T.N)(x:Int):NumRep T (upd2 g c j x) (w.setCell ⟨T.ob c,j,none⟩ (.int .i64 x)):=by
 refine⟨λd hd=>?_,h.inj⟩
 by_cases e:d=c
 · subst e;refine(zqa _ _ _ _ (h.blk d hd)).trans ?_;rw[rowA_set];unfold upd2;rw[upd'_same]
 · rw[zq8 _ _ _ _ (λx=>e (h.inj d c hd hc x))];unfold upd2;rw[upd'_ne _ _ e];exact h.blk d hd
end
section
variable {M2 S2:Type} {D:Core M2 S2} {ro:Nat->Option Obj} {i:Nat} {T:NumT} {m:BM (Nums×M2)} {wc:World}
theorem num_at(hB:BRep (prodCore (numCore T) D) ro m wc)(τ:Nat->Question->Nat)(d:Nat):NumRep T m.l.1 (re wc τ d):=NumRep.re hB.core.1 τ d
theorem num_moved(hB:BRep (prodCore (numCore T) D) ro m wc){c j:Nat}(hc:c<T.N)(x:Int)(τ:Nat->Question->Nat)(d:Nat)(τ':Nat->Question->Nat)(d':Nat):Moved (prodCore (numCore T) D) m.l (m.box i) wc (upd2 m.l.1 c j x,m.l.2) (m.box i) (re ((re wc τ d).setCell ⟨T.ob c,j,none⟩ (.int .i64 x)) τ' d'):=by
 have hS:=num_at hB τ d;have hf:(numCore T).foot m.l.1 (T.ob c):=⟨c,hc,rfl⟩;refine Moved.left hB ⟨?_,λb hb h1 h2=>?_,(hS.set hc x).re τ' d',λb o hb=>?_,λb hb=>.inl hb,λb hb=>.inl hb,λb hb=>?_,rfl⟩
 · show wc.heap.size<=((re wc τ d).setCell _ _).heap.size;rw[zqb];exact Nat.le_refl _
 · show((re wc τ d).setCell _ _).heap[b]?=_;rw[zq8 _ _ _ _ (λe=>h1 (by subst e;exact hf))];rfl
 · show((re wc τ d).setCell _ _).heap[b]?=_;have hn:m.box i b≠none:=by rw[hb];simp
   rw[zq8 _ _ _ _ (λe=>hB.apart i b hn (.inl (by subst e;exact hf)))];exact hB.box i b o hb
 · exact Classical.byContradiction λx=>hB.apart i b x (.inl hb)
end
def mach(g:Goroutine)(w:World):Machine:={world:=w,gs:=#[g],rest:={timers:=#[],alone:=none,slice:=none}}
section
variable {P:Program}
end
section
variable {P:Program} {A:FuncId->Bool} {Ml S α:Type} {C:Core Ml S} {ro:Nat->Option Obj} {i:Nat}
end
end Go.Car
set_option maxHeartbeats 1000000
set_option maxRecDepth 100000
namespace Go.Proofs
open Go Go.Conc Go.RowKit Go.Car
theorem load_lone(ad:Addr)(x:Int)(w:World)(h0:w.cell? ad=some (.int .i64 x)):
 Calls Try.prog 47 #[.pointer (some ad)] w λe w'=>e=.returned (.int .i64 x)/\w'=w:=by
 have hl:=run_call_load (P:=Try.prog) Try.func71 (by kernel_rfl) (by kernel_rfl) (by kernel_rfl) .i64 (by kernel_rfl) h0
 go_enter Try.func47,Try.ntmps47
 go_wp2;go_ret;exact⟨rfl,rfl⟩
theorem store_lone(ad:Addr)(x y:Int)(w:World)(h0:w.cell? ad=some (.int .i64 x))(f0:w.frozen? ad=false):
 Calls Try.prog 58 #[.pointer (some ad),.int .i64 y] w λe w'=>e=.returned (.tuple #[])/\w'=w.setCell ad (.int .i64 y):=by
 have hl:=run_call_store (P:=Try.prog) Try.func77 (by kernel_rfl) (by kernel_rfl) (by kernel_rfl) (by kernel_rfl) (k:=.i64) (y:=y) h0 f0
 go_enter Try.func58,Try.ntmps58
 go_wp2
 go_end0
 exact⟨rfl,rfl⟩
theorem add_lone(ad:Addr)(x y:Int)(w:World)(h0:w.cell? ad=some (.int .i64 x))(f0:w.frozen? ad=false):
 Calls Try.prog 57 #[.pointer (some ad),.int .i64 y] w λe w'=>e=.returned (.int .i64 (IntKind.i64.wrap (x+y)))/\w'=w.setCell ad (.int .i64 (IntKind.i64.wrap (x+y))):=by
 have hl:=run_call_add (P:=Try.prog) Try.func76 (by kernel_rfl) (by kernel_rfl) (by kernel_rfl) .i64 (by kernel_rfl) (y:=y) (s:=IntKind.i64.wrap (x+y)) h0 f0 (by rfl)
 go_enter Try.func57,Try.ntmps57
 go_wp2;go_ret;have hw:wrap64 (x+y)=IntKind.i64.wrap (x+y):=by rw[IntKind.wrap_i64];simp only[wrap64]
 rw[hw];exact⟨rfl,rfl⟩
theorem cas_hit_lone(ad:Addr)(x y:Int)(w:World)(h0:w.cell? ad=some (.int .i64 x))(f0:w.frozen? ad=false):
 Calls Try.prog 55 #[.pointer (some ad),.int .i64 x,.int .i64 y] w λe w'=>e=.returned (.bool true)/\w'=w.setCell ad (.int .i64 y):=by
 have hl:=run_call_cas_hit (P:=Try.prog) Try.func75 (by kernel_rfl) (by kernel_rfl) (by kernel_rfl) .i64 (by kernel_rfl) (y:=y) h0 f0
 go_enter Try.func55,Try.ntmps55
 go_wp2;go_ret;exact⟨rfl,rfl⟩
theorem cas_miss_lone(ad:Addr)(x o y:Int)(w:World)(h0:w.cell? ad=some (.int .i64 x))(f0:w.frozen? ad=false)(hne:¬x=o):
 Calls Try.prog 55 #[.pointer (some ad),.int .i64 o,.int .i64 y] w λe w'=>e=.returned (.bool false)/\w'=w:=by
 have hl:=run_call_cas_miss (P:=Try.prog) Try.func75 (by kernel_rfl) (by kernel_rfl) (by kernel_rfl) .i64 (by kernel_rfl) (y:=y) h0 f0 hne
 go_enter Try.func55,Try.ntmps55
 go_wp2;go_ret;exact⟨rfl,rfl⟩
def getN(c j:Nat)(g:Nums):Nums×Int:=(g,g c j)
def putN(c j:Nat)(x:Int)(g:Nums):Nums×Unit:=(upd2 g c j x,())
def addN(c j:Nat)(x:Int)(g:Nums):Nums×Int:=(upd2 g c j (IntKind.i64.wrap (g c j+x)),IntKind.i64.wrap (g c j+x))
def casN(c j:Nat)(o x:Int)(g:Nums):Nums×Bool:=if g c j=o then(upd2 g c j x,true)else(g,false)
section
variable {M2 S2 β:Type} {D:Core M2 S2} {ro:Nat->Option Obj} {i:Nat} {T:NumT}
structure NumAtoms(Y:YSys Try.prog aM (prodCore (numCore T) D) ro i β):Prop where
 load:∀c j,c<T.N->j<T.len c->SpecY Y 47 #[.pointer (some ⟨T.ob c,j,none⟩)] (onN (getN c j)) (λx=>.int .i64 x)
 store:∀c j x,c<T.N->j<T.len c->SpecY Y 58 #[.pointer (some ⟨T.ob c,j,none⟩),.int .i64 x] (onN (putN c j x)) (λ_=>.tuple #[])
 add:∀c j x,c<T.N->j<T.len c->SpecY Y 57 #[.pointer (some ⟨T.ob c,j,none⟩),.int .i64 x] (onN (addN c j x)) (λx=>.int .i64 x)
 cas:∀c j o x,c<T.N->j<T.len c->SpecY Y 55 #[.pointer (some ⟨T.ob c,j,none⟩),.int .i64 o,.int .i64 x] (onN (casN c j o x)) (λb=>.bool b)
theorem num_atoms(Z:Alone Try.prog aM (prodCore (numCore T) D) ro i β){I:Nums×S2->Prop}(hI:∀g g' s,I (g,s)->I (g',s))(hO:∀g g' s,Z.Oth (g,s) (g',s)):NumAtoms (Z.sys I) where
 load c j hc hj:=by
  refine Z.act Try.func47 rfl (by kernel_rfl) (λs h=>h) (λs=>Z.oth s) λm wc hB=>Calls.mono (load_lone _ _ wc ((num_at hB wc.tape wc.drawn).cell hc hj)) ?_;rintro e w' ⟨rfl,rfl⟩;exact⟨m.l,Moved.ext hB (Ext.refl _),rfl,rfl⟩
 store c j x hc hj:=by
  refine Z.act Try.func58 rfl (by kernel_rfl) (λs h=>hI _ _ _ h) (λs=>hO _ _ _) λm wc hB=>Calls.mono (store_lone _ _ x wc ((num_at hB wc.tape wc.drawn).cell hc hj) ((num_at hB wc.tape wc.drawn).frozen hc)) ?_;rintro e w' ⟨rfl,rfl⟩;exact⟨_,num_moved hB hc x wc.tape wc.drawn _ _,rfl,rfl⟩
 add c j x hc hj:=by
  refine Z.act Try.func57 rfl (by kernel_rfl) (λs h=>hI _ _ _ h) (λs=>hO _ _ _) λm wc hB=>Calls.mono (add_lone _ _ x wc ((num_at hB wc.tape wc.drawn).cell hc hj) ((num_at hB wc.tape wc.drawn).frozen hc)) ?_;rintro e w' ⟨rfl,rfl⟩;exact⟨_,num_moved hB hc _ wc.tape wc.drawn _ _,rfl,rfl⟩
 cas c j o x hc hj:=by
  refine Z.act (g:=λs=>(((casN c j o x s.1).1,s.2),(casN c j o x s.1).2)) Try.func55 rfl (by kernel_rfl) (λs h=>hI _ _ _ h) (λs=>hO _ _ _) λm wc hB=>?_;have hst:(prodCore (numCore T) D).st m.l=(m.l.1,D.st m.l.2):=rfl
  by_cases h:m.l.1 c j=o
  · have hcell:=(num_at hB wc.tape wc.drawn).cell hc hj;rw[h]at hcell;refine Calls.mono (cas_hit_lone _ _ x wc hcell ((num_at hB wc.tape wc.drawn).frozen hc)) ?_;rintro e w' ⟨rfl,rfl⟩;refine⟨_,num_moved hB hc x wc.tape wc.drawn _ _,?_,?_⟩
    · rw[hst];unfold casN;rw[if_pos h];rfl
    · rw[hst];unfold casN;rw[if_pos h]
  · refine Calls.mono (cas_miss_lone _ _ o x wc ((num_at hB wc.tape wc.drawn).cell hc hj) ((num_at hB wc.tape wc.drawn).frozen hc) h) ?_;rintro e w' ⟨rfl,rfl⟩;refine⟨m.l,Moved.ext hB (Ext.refl _),?_,?_⟩
    · rw[hst];unfold casN;rw[if_neg h]
    · rw[hst];unfold casN;rw[if_neg h]
end
def getP{S2:Type}(c:Nat):Proc (Nums×S2) (Int×Bool):=(Proc.tick.bind λ_=>onN (getN c 0)).bind λx=>if x=2 then(Proc.tick.bind λ_=>onN (getN c 1)).bind λv=>Proc.ret (v,true)else Proc.ret (0,false)
def finP{S2:Type}(c:Nat)(v:Int):Proc (Nums×S2) Unit:=(Proc.tick.bind λ_=>onN (putN c 1 v)).bind λ_=>Proc.tick.bind λ_=>onN (putN c 0 2)
def setP{S2:Type}(c:Nat)(v:Int):Proc (Nums×S2) (Int×Bool):=(Proc.tick.bind λ_=>onN (casN c 0 0 1)).bind λb=>if b=true then(finP c v).bind λ_=>Proc.ret (v,true)else(getP c).bind λx=>Proc.ret (x.1,false)
abbrev pairV(x:Int×Bool):Value:=.tuple #[.int .i64 x.1,.bool x.2]
section
variable {M2 S2 β:Type} {D:Core M2 S2} {ro:Nat->Option Obj} {i:Nat} {T:NumT}
structure OnceAtoms(Y:YSys Try.prog aM (prodCore (numCore T) D) ro i β)(sv:Value):Prop where
 len:∀c,c<T.N->T.len c=3
 num:NumAtoms Y
 step:StepY Y 48 #[sv]
section
variable {Y:YSys Try.prog aM (prodCore (numCore T) D) ro i β} {sv:Value} (hst:OnceAtoms Y sv) {c:Nat} (hc:c<T.N)
include hst hc
theorem OnceAtoms.load {j:Nat}(hj:j<3):SpecY Y 47 #[.pointer (some ⟨T.ob c,j,none⟩)] (onN (getN c j)) (λx=>.int .i64 x):=hst.num.load c j hc (by rw[hst.len c hc];exact hj)
theorem OnceAtoms.store {j:Nat}(hj:j<3)(x:Int):SpecY Y 58 #[.pointer (some ⟨T.ob c,j,none⟩),.int .i64 x] (onN (putN c j x)) (λ_=>.tuple #[]):=hst.num.store c j x hc (by rw[hst.len c hc];exact hj)
theorem OnceAtoms.add {j:Nat}(hj:j<3)(x:Int):SpecY Y 57 #[.pointer (some ⟨T.ob c,j,none⟩),.int .i64 x] (onN (addN c j x)) (λx=>.int .i64 x):=hst.num.add c j x hc (by rw[hst.len c hc];exact hj)
theorem OnceAtoms.cas {j:Nat}(hj:j<3)(o x:Int):SpecY Y 55 #[.pointer (some ⟨T.ob c,j,none⟩),.int .i64 o,.int .i64 x] (onN (casN c j o x)) (λb=>.bool b):=hst.num.cas c j o x hc (by rw[hst.len c hc];exact hj)
end
theorem get_sil(Y:YSys Try.prog aM (prodCore (numCore T) D) ro i β)(c:Nat)(K:Int×Bool->Proc (Nums×S2) β):Y.sil ((getP c).bind K):=by
 rw[getP,Proc.bind_bind,Proc.bind_bind];exact Y.sil_tick _
theorem fin_sil(Y:YSys Try.prog aM (prodCore (numCore T) D) ro i β)(c:Nat)(v:Int)(K:Unit->Proc (Nums×S2) β):Y.sil ((finP c v).bind K):=by
 rw[finP,Proc.bind_bind,Proc.bind_bind];exact Y.sil_tick _
theorem get_spec(Y:YSys Try.prog aM (prodCore (numCore T) D) ro i β){sv:Value}(hst:OnceAtoms Y sv){c:Nat}(hc:c<T.N):
 SpecB Y 25 #[.pointer (some ⟨T.ob c,0,none⟩),sv] (getP c) pairV:=by
 refine SpecB.of Try.func25 rfl ?_;intro K s B w hK hA;simp only[enterAct,Try.ntmps25,List.size_toArray,List.length_cons,List.length_nil,Nat.reduceAdd,Nat.reduceSub,Array.replicate_succ,Array.replicate_zero,List.push_toArray,List.append_toArray,List.nil_append,List.cons_append];apply YSys.seq0 hA (by kernel_rfl)
 · intro wc hB;go_wp2;exact⟨rfl,Ext1.refl _,rfl⟩
 intro w hA;refine wpY_seq Y.jc ?_;apply YSys.seq0 hA (by kernel_rfl)
 · intro wc hB;go_wp2;exact⟨rfl,Ext1.refl _,rfl⟩
 intro w hA;refine wpY_cond Y.jc rfl (wpY_skip Y.jc ?_);show wpJ Y.J _ _ _ _ _;refine wpY_seq Y.jc (wpY_region Y.jc ?_);rw[getP,Proc.bind_bind,Proc.bind_bind]at hA;apply YSys.callS 0 1 0 hA hst.step rfl rfl rfl (by rfl) rfl rfl rfl
 · intro wc hB X hX;have HX:=Lib.hid hX;clear hX;go_wp2;exact HX.out _ (Ext1.refl _)
 · intro w;simp[go_sem,execOp,Act.eval,resolve,Deferred.ofValue,invoke,callFunc,Try.func48,Try.f48]
 · intro w;simp[go_sem,execOp,Act.eval,resolve,Deferred.ofValue,invoke,callFunc,Try.func48,Try.f48]
 · intro s' ch w' h;exact⟨rfl,h⟩
 intro s w hA;refine opsC_nil Y.jc ?_;show wpJ Y.J _ _ _ _ _;refine wpY_seq Y.jc ?_;refine wpY_seq Y.jc (wpY_region Y.jc ?_);apply YSys.callR 0 3 1 hA (hst.load hc (j:=0) (by decide)) (λx=>by split<;>first|exact hK _|(rw[Proc.bind_bind,Proc.bind_bind];exact Y.sil_tick _)) rfl rfl rfl (by rfl) rfl rfl rfl
 · intro wc hB X hX;have HX:=Lib.hid hX;clear hX;go_wp2;exact HX.out _ (Ext1.refl _)
 · intro w;simp[go_sem,execOp,Act.eval,resolve,Deferred.ofValue,invoke,callFunc,Try.func47,Try.f47]
 · intro w;simp[go_sem,execOp,Act.eval,resolve,Deferred.ofValue,invoke,callFunc,Try.func47,Try.f47]
 · intro s' ch w' h;exact⟨rfl,h⟩
 intro s x w hA;apply YSys.ops0 4 1 hA rfl rfl (by kernel_rfl)
 · intro wc hB;go_wp2;exact⟨rfl,Ext1.refl _,rfl⟩
 intro w hA;show wpJ Y.J _ _ _ _ _
 by_cases hx:x=2
 · rw[if_pos hx]at hA;refine wpY_cond Y.jc rfl ?_;rw[if_neg (by simp[hx])];refine wpY_skip Y.jc ?_;show wpJ Y.J _ _ _ _ _;refine wpY_seq Y.jc (wpY_region Y.jc ?_);rw[Proc.bind_bind,Proc.bind_bind]at hA;apply YSys.callS 0 1 0 hA hst.step rfl rfl rfl (by rfl) rfl rfl rfl
   · intro wc hB X hX;have HX:=Lib.hid hX;clear hX;go_wp2;exact HX.out _ (Ext1.refl _)
   · intro w;simp[go_sem,execOp,Act.eval,resolve,Deferred.ofValue,invoke,callFunc,Try.func48,Try.f48]
   · intro w;simp[go_sem,execOp,Act.eval,resolve,Deferred.ofValue,invoke,callFunc,Try.func48,Try.f48]
   · intro s' ch w' h;exact⟨rfl,h⟩
   intro s w hA;refine opsC_nil Y.jc ?_;show wpJ Y.J _ _ _ _ _;refine wpY_seq Y.jc (wpY_region Y.jc ?_);apply YSys.callR 0 3 2 hA (hst.load hc (j:=1) (by decide)) (λ_=>hK _) rfl rfl rfl (by rfl) rfl rfl rfl
   · intro wc hB X hX;have HX:=Lib.hid hX;clear hX;go_wp2;exact HX.out _ (Ext1.refl _)
   · intro w;simp[go_sem,execOp,Act.eval,resolve,Deferred.ofValue,invoke,callFunc,Try.func47,Try.f47]
   · intro w;simp[go_sem,execOp,Act.eval,resolve,Deferred.ofValue,invoke,callFunc,Try.func47,Try.f47]
   · intro s' ch w' h;exact⟨rfl,h⟩
   intro s x w hA;apply YSys.ops0 4 2 hA rfl rfl (by kernel_rfl)
   · intro wc hB;go_wp2;exact⟨rfl,Ext1.refl _,rfl⟩
   intro w hA;show wpJ Y.J _ _ _ _ _;refine wpY_ret Y.jc ?_;exact⟨rfl,.inl ⟨_,resultsC_tmp2 rfl _,_,rfl,hA⟩⟩
 · rw[if_neg hx]at hA;refine wpY_cond Y.jc rfl ?_;rw[if_pos (by simpa using hx)];apply YSys.seq0 hA (by kernel_rfl)
   · intro wc hB;go_wp2;exact⟨rfl,Ext1.refl _,rfl⟩
   intro w hA;refine wpY_ret Y.jc ?_;exact⟨rfl,.inl ⟨_,resultsC_tmp2 rfl _,_,rfl,hA⟩⟩
end
section
variable {M2 S2 β:Type} {D:Core M2 S2} {ro:Nat->Option Obj} {i:Nat} {T:NumT}
theorem fin_spec(Y:YSys Try.prog aM (prodCore (numCore T) D) ro i β){sv:Value}(hst:OnceAtoms Y sv){c:Nat}(hc:c<T.N)(v:Int):
 SpecB Y 56 #[.pointer (some ⟨T.ob c,0,none⟩),sv,.int .i64 v] (finP c v) (λ_=>.tuple #[]):=by
 refine SpecB.of Try.func56 rfl ?_;intro K s B w hK hA;simp only[enterAct,Try.ntmps56,List.size_toArray,List.length_cons,List.length_nil,Nat.reduceAdd,Nat.reduceSub,Array.replicate_succ,Array.replicate_zero,List.push_toArray,List.append_toArray,List.nil_append,List.cons_append];refine wpY_seq Y.jc (wpY_region Y.jc ?_);rw[finP,Proc.bind_bind,Proc.bind_bind]at hA;apply YSys.callS 0 1 0 hA hst.step rfl rfl rfl (by rfl) rfl rfl rfl
 · intro wc hB X hX;have HX:=Lib.hid hX;clear hX;go_wp2;exact HX.out _ (Ext1.refl _)
 · intro w;simp[go_sem,execOp,Act.eval,resolve,Deferred.ofValue,invoke,callFunc,Try.func48,Try.f48]
 · intro w;simp[go_sem,execOp,Act.eval,resolve,Deferred.ofValue,invoke,callFunc,Try.func48,Try.f48]
 · intro s' ch w' h;exact⟨rfl,h⟩
 intro s w hA;refine opsC_nil Y.jc ?_;show wpJ Y.J _ _ _ _ _;refine wpY_seq Y.jc (wpY_region Y.jc ?_);apply YSys.callR 0 4 0 hA (hst.store hc (j:=1) (by decide) v) (λ_=>by rw[Proc.bind_bind];exact Y.sil_tick _) rfl rfl rfl (by rfl) rfl rfl rfl
 · intro wc hB X hX;have HX:=Lib.hid hX;clear hX;go_wp2;exact HX.out _ (Ext1.refl _)
 · intro w;simp[go_sem,execOp,Act.eval,resolve,Deferred.ofValue,invoke,callFunc,Try.func58,Try.f58]
 · intro w;simp[go_sem,execOp,Act.eval,resolve,Deferred.ofValue,invoke,callFunc,Try.func58,Try.f58]
 · intro s' ch w' h;exact⟨rfl,h⟩
 intro s x w hA;refine opsC_nil Y.jc ?_;show wpJ Y.J _ _ _ _ _;refine wpY_seq Y.jc (wpY_region Y.jc ?_);rw[Proc.bind_bind]at hA;apply YSys.callS 0 1 0 hA hst.step rfl rfl rfl (by rfl) rfl rfl rfl
 · intro wc hB X hX;have HX:=Lib.hid hX;clear hX;go_wp2;exact HX.out _ (Ext1.refl _)
 · intro w;simp[go_sem,execOp,Act.eval,resolve,Deferred.ofValue,invoke,callFunc,Try.func48,Try.f48]
 · intro w;simp[go_sem,execOp,Act.eval,resolve,Deferred.ofValue,invoke,callFunc,Try.func48,Try.f48]
 · intro s' ch w' h;exact⟨rfl,h⟩
 intro s w hA;refine opsC_nil Y.jc ?_;show wpJ Y.J _ _ _ _ _;refine wpY_region Y.jc ?_;apply YSys.callR 0 3 0 hA (hst.store hc (j:=0) (by decide) 2) (λ_=>hK _) rfl rfl rfl (by rfl) rfl rfl rfl
 · intro wc hB X hX;have HX:=Lib.hid hX;clear hX;go_wp2;exact HX.out _ (Ext1.refl _)
 · intro w;simp[go_sem,execOp,Act.eval,resolve,Deferred.ofValue,invoke,callFunc,Try.func58,Try.f58]
 · intro w;simp[go_sem,execOp,Act.eval,resolve,Deferred.ofValue,invoke,callFunc,Try.func58,Try.f58]
 · intro s' ch w' h;exact⟨rfl,h⟩
 intro s x w hA;refine opsC_nil Y.jc ?_;exact⟨rfl,.inl ⟨_,resultsC_none rfl _,(),rfl,hA⟩⟩
theorem set_spec(Y:YSys Try.prog aM (prodCore (numCore T) D) ro i β){sv:Value}(hst:OnceAtoms Y sv){c:Nat}(hc:c<T.N)(v:Int):
 SpecB Y 26 #[.pointer (some ⟨T.ob c,0,none⟩),sv,.int .i64 v] (setP c v) pairV:=by
 refine SpecB.of Try.func26 rfl ?_;intro K s B w hK hA;simp only[enterAct,Try.ntmps26,List.size_toArray,List.length_cons,List.length_nil,Nat.reduceAdd,Nat.reduceSub,Array.replicate_succ,Array.replicate_zero,List.push_toArray,List.append_toArray,List.nil_append,List.cons_append];apply YSys.seq0 hA (by kernel_rfl)
 · intro wc hB;go_wp2;exact⟨rfl,Ext1.refl _,rfl⟩
 intro w hA;refine wpY_seq Y.jc ?_;apply YSys.seq0 hA (by kernel_rfl)
 · intro wc hB;go_wp2;exact⟨rfl,Ext1.refl _,rfl⟩
 intro w hA;refine wpY_cond Y.jc rfl (wpY_skip Y.jc ?_);show wpJ Y.J _ _ _ _ _;refine wpY_seq Y.jc (wpY_region Y.jc ?_);rw[setP,Proc.bind_bind,Proc.bind_bind]at hA;apply YSys.callS 0 1 0 hA hst.step rfl rfl rfl (by rfl) rfl rfl rfl
 · intro wc hB X hX;have HX:=Lib.hid hX;clear hX;go_wp2;exact HX.out _ (Ext1.refl _)
 · intro w;simp[go_sem,execOp,Act.eval,resolve,Deferred.ofValue,invoke,callFunc,Try.func48,Try.f48]
 · intro w;simp[go_sem,execOp,Act.eval,resolve,Deferred.ofValue,invoke,callFunc,Try.func48,Try.f48]
 · intro s' ch w' h;exact⟨rfl,h⟩
 intro s w hA;refine opsC_nil Y.jc ?_;show wpJ Y.J _ _ _ _ _;refine wpY_seq Y.jc ?_;refine wpY_seq Y.jc (wpY_region Y.jc ?_);apply YSys.callR 0 3 0 hA (hst.cas hc (j:=0) (by decide) 0 1) (λb=>by split<;>(rw[Proc.bind_bind];first|exact fin_sil Y _ _ _|exact get_sil Y _ _)) rfl rfl rfl (by rfl) rfl rfl rfl
 · intro wc hB X hX;have HX:=Lib.hid hX;clear hX;go_wp2;exact HX.out _ (Ext1.refl _)
 · intro w;simp[go_sem,execOp,Act.eval,resolve,Deferred.ofValue,invoke,callFunc,Try.func55,Try.f55]
 · intro w;simp[go_sem,execOp,Act.eval,resolve,Deferred.ofValue,invoke,callFunc,Try.func55,Try.f55]
 · intro s' ch w' h;exact⟨rfl,h⟩
 intro s x w hA;refine opsC_nil Y.jc ?_;show wpJ Y.J _ _ _ _ _;cases x with
 |true=>
  rw[if_pos rfl,Proc.bind_bind]at hA;refine wpY_cond Y.jc rfl ?_;rw[if_pos rfl];refine wpY_seq Y.jc (wpY_region Y.jc ?_);apply YSys.callR 0 3 0 hA (fin_spec Y hst hc v).spec (λ_=>hK _) rfl rfl rfl (by rfl) rfl rfl rfl
  · intro wc hB X hX;have HX:=Lib.hid hX;clear hX;go_wp2;exact HX.out _ (Ext1.refl _)
  · intro w;simp[go_sem,execOp,Act.eval,resolve,Deferred.ofValue,invoke,callFunc,Try.func56,Try.f56]
  · intro w;simp[go_sem,execOp,Act.eval,resolve,Deferred.ofValue,invoke,callFunc,Try.func56,Try.f56]
  · intro s' ch w' h;exact⟨rfl,h⟩
  intro s x w hA;refine opsC_nil Y.jc ?_;show wpJ Y.J _ _ _ _ _;apply YSys.seq0 hA (by kernel_rfl)
  · intro wc hB;go_wp2;exact⟨rfl,Ext1.refl _,rfl⟩
  intro w hA;refine wpY_ret Y.jc ?_;exact⟨rfl,.inl ⟨_,resultsC_tmp2 rfl _,_,rfl,hA⟩⟩
 |false=>
  rw[if_neg (by decide),Proc.bind_bind]at hA;refine wpY_cond Y.jc rfl (wpY_skip Y.jc ?_);show wpJ Y.J _ _ _ _ _;refine wpY_seq Y.jc (wpY_region Y.jc ?_);apply YSys.callR 0 2 4 hA (get_spec Y hst hc).spec (λ_=>hK _) rfl rfl rfl (by rfl) rfl rfl rfl
  · intro wc hB X hX;have HX:=Lib.hid hX;clear hX;go_wp2;exact HX.out _ (Ext1.refl _)
  · intro w;simp[go_sem,execOp,Act.eval,resolve,Deferred.ofValue,invoke,callFunc,Try.func25,Try.f25]
  · intro w;simp[go_sem,execOp,Act.eval,resolve,Deferred.ofValue,invoke,callFunc,Try.func25,Try.f25]
  · intro s' ch w' h;exact⟨rfl,h⟩
  intro s x w hA;apply YSys.ops0 3 4 hA rfl rfl (by kernel_rfl)
  · intro wc hB;go_wp2;exact⟨rfl,Ext1.refl _,rfl⟩
  intro w hA;show wpJ Y.J _ _ _ _ _;apply YSys.seq0 hA (by kernel_rfl)
  · intro wc hB;go_wp2;exact⟨rfl,Ext1.refl _,rfl⟩
  intro w hA;refine wpY_ret Y.jc ?_;exact⟨rfl,.inl ⟨_,resultsC_tmp2 rfl _,_,rfl,hA⟩⟩
end
end Go.Proofs
set_option maxHeartbeats 1000000
namespace Go.Car
open Go Go.Conc Go.RowKit
section
variable {P:Program} {A:FuncId->Bool} {Ml S β α:Type} {C:Core Ml S} {ro:Nat->Option Obj} {i:Nat} {Y:YSys P A C ro i β} {B:Nat->Option Obj}
variable {Q:Y.γ->Exit->Act->World->Prop} {s:Y.γ} {w:World} {p:Proc S β} {t:Array Value} {ds:List Deferred}
def SpecAt(Y:YSys P A C ro i β)(B:Nat->Option Obj)(f:FuncId)(args:Array Value)(p:Proc S α)(val:α->Value):Prop:=
 ∀(K:α->Proc S β)(s:Y.γ)(w:World),(∀a,Y.sil (K a))->Y.AtB B s w (p.bind K)->CallsJ P Y.J f args (RetY Y K val B) s w
theorem SpecAt.of {f:FuncId}{fn:Func}{c:Code}{args:Array Value}{pp:Proc S α}{val:α->Value}(hf:P.funcs[f]?=some fn)(hb:fn.body=some c)
 (h:∀(K:α->Proc S β)(s:Y.γ)(w:World),(∀a,Y.sil (K a))->Y.AtB B s w (pp.bind K)->wpJ Y.J c (bodyC (Y.Bd fn (RetY Y K val B)) (RetY Y K val B)) s (enterAct fn args) w):SpecAt Y B f args pp val:=
 λK s w hK hA=>BodyY.calls ⟨fn,c,hf,hb,h K s w hK hA⟩
theorem YSys.callB {ops:Array Oper}{todo rest:List Nat}(k n q:Nat){t₁:Array Value}{o:Oper}{f:FuncId}{args:Array Value}{pp:Proc S α}{val:α->Value}{K:α->Proc S β}{d₀:Tmp}(hA:Y.AtB B s w (pp.bind K))(hspec:SpecAt Y B f args pp val)(hK:∀a,Y.sil (K a))
 (hsz:k+n+(q+1)=ops.size) (ht:todo=List.range' k (n+(q+1))) (hr:rest=List.range' (k+n+1) q) (hc:chk P (λ_=>false) true ops k n=true) (ho:ops[k+n]?=some o) (hg:o.guard=none) (hd₀:o.dst=some d₀)
 (hpre:∀wc,Y.KnB B wc->∀X:Exit->Act->World->Prop,(∀w',Ext1 wc w'->X .normal ⟨t₁,ds⟩ w')->wpList P ops X ((ops.toList.drop k).take n) ⟨t,ds⟩ wc)
 (hrun:∀w,(execOp (Act.mk t₁ ds).eval o).run P w=.ok (.enter f args) w) (hev:∀w,(execOp (Act.mk t₁ ds).eval o).events P w #[]=#[])
 (hd:∀s' ch w',Y.Dead s' ch w'->Q s' (.panic ch) ⟨t₁,ds⟩ w')
 (hk:∀s' a w',Y.AtB B s' w' (K a)->opsJ Y.J ops rest Q s' ⟨t₁.setIfInBounds d₀ (val a),ds⟩ w'):opsJ Y.J ops todo Q s ⟨t,ds⟩ w:=by
 refine Y.pre0 k n (q+1) (rest:=(k+n)::rest) hA hsz ht (by rw[hr,List.range'_succ]) hc hpre λw' hA'=>?_;refine Y.callO (hspec K s w' hK hA') ho hg hd₀ hrun hev ?_;intro s' e w'' hp;cases e with
 |returned v=>
  obtain⟨a,rfl,hA''⟩:=hp;exact hk s' a w'' hA''
 |panicked ch=>exact hd s' ch w'' hp
 |outgrown=>exact hp
end
end Go.Car
