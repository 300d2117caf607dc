/- YtmgmbciplfkddaaEPlays2: part 13 of the proof (the texts behind it, in order). -/
import Derived.Test.YtmgmbciplfkddaaE12
set_option maxHeartbeats 4000000
set_option maxRecDepth 100000
set_option linter.all false
namespace Go.Proofs
open Go Go.Conc Go.RowKit Go.Car
section
variable {cb who:Nat} {K:CR} {lv:Value} {w:World} {rb gm gM N:Nat} {e:Int} {ms Ms:Array Value}
theorem zqfi(h:EcAt rb gm gM N cb who e ms Ms K lv w)(hp:K.ph=3)(he:e=K.e):
 Calls Try.prog 43 #[.pointer (some ⟨rb,0,none⟩),.pointer (some ⟨cb,0,none⟩)] w λe' w'=>e'=.returned (.tuple #[])/\EcAt rb gm gM N cb who (wrap64 (K.e+1)) ms Ms (K.fin true 1) lv w'/\Tch (TcE gm gM cb rb) w w':=by
 obtain⟨d0,-,-⟩:=h.d.c;obtain⟨-,-,-,c3,c4,-,-,-,-,-⟩:=h.c.c;rw[hp]at c3;have f0:=zq6 (off:=0) h.d.dom;have H:=Lib.hid h;clear h;have b0:(e==K.e)=true:=by simpa using he
 obtain⟨ke,hke⟩:∃x,K.e=x:=⟨_,rfl⟩;rw[hke]at c4 he b0;subst he
 go_enter Try.func43,Try.ntmps43
 go_wp2_with (fail)
 go_quiet (fail)
 replace d0:(w.drewN nq).cell? ⟨rb,0,none⟩=some (.int .i64 e):=d0;replace c4:(w.drewN nq).cell? ⟨cb,4,none⟩=some (.int .i64 e):=c4;replace f0:(w.drewN nq).frozen? ⟨rb,0,none⟩=false:=f0
 go_wp2_with (fail)
 all_goals(try(exfalso;first|omega |(simp_all;done)))
 have h1:=(H.out.drew nq).setE (wrap64 (e+1));have k1:=((Tch.refl (TcE gm gM cb rb) _).drew nq).set (w:=w.drewN nq) (b:=rb) (.inr (.inr (.inr rfl))) 0 (.int .i64 (wrap64 (e+1)));clear d0 c4 f0 c3
 try rw[<-wrap64_eq]
 generalize (w.drewN nq).setCell ⟨rb,0,none⟩ (.int .i64 (wrap64 (e+1)))=w1 at h1 k1 |-;have HE:=Lib.hid (zq1h h1.c true 1);have H1:=Lib.hid (And.intro h1 k1);clear h1 k1;refine Calls.mono HE.out ?_;rintro e' w' ⟨rfl,k3,k4⟩;have H3:=Lib.hid (And.intro k3 k4);clear k3 k4;go_wp2
 go_end0
 rw[hke];exact⟨rfl,H1.out.1.fin H3.out.2 H3.out.1,H1.out.2.trans (H3.out.2.mono λb hb=>.inr (.inr (.inl hb)))⟩
theorem zqfj(h:EcAt rb gm gM N cb who e ms Ms K lv w)(hp:K.ph=3)(he:¬e=K.e):
 Calls Try.prog 43 #[.pointer (some ⟨rb,0,none⟩),.pointer (some ⟨cb,0,none⟩)] w λe' w'=>e'=.returned (.tuple #[])/\EcAt rb gm gM N cb who e ms Ms (K.fin true 0) lv w'/\Tch (TcE gm gM cb rb) w w':=by
 obtain⟨d0,-,-⟩:=h.d.c;obtain⟨-,-,-,c3,c4,-,-,-,-,-⟩:=h.c.c;rw[hp]at c3;have f0:=zq6 (off:=0) h.d.dom;have H:=Lib.hid h;clear h;have b0:(e==K.e)=false:=by simpa using he
 obtain⟨ke,hke⟩:∃x,K.e=x:=⟨_,rfl⟩;rw[hke]at c4 he b0
 go_enter Try.func43,Try.ntmps43
 go_wp2_with (fail)
 go_quiet (fail)
 replace d0:(w.drewN nq).cell? ⟨rb,0,none⟩=some (.int .i64 e):=d0;replace c4:(w.drewN nq).cell? ⟨cb,4,none⟩=some (.int .i64 ke):=c4;replace f0:(w.drewN nq).frozen? ⟨rb,0,none⟩=false:=f0
 go_wp2_with (fail)
 all_goals(try(exfalso;first|omega |(simp_all;done)))
 have h1:=H.out.drew nq;have k1:Tch (TcE gm gM cb rb) w (w.drewN nq):=⟨Nat.le_refl _,λ_ _ _=>rfl⟩;clear d0 c4 f0 c3;generalize w.drewN nq=w1 at h1 k1 |-;have HE:=Lib.hid (zq1h h1.c true 0);have H1:=Lib.hid (And.intro h1 k1);clear h1 k1;refine Calls.mono HE.out ?_;rintro e' w' ⟨rfl,k3,k4⟩;have H3:=Lib.hid (And.intro k3 k4);clear k3 k4;go_wp2
 go_end0
 exact⟨rfl,H1.out.1.fin H3.out.2 H3.out.1,H1.out.2.trans (H3.out.2.mono λb hb=>.inr (.inr (.inl hb)))⟩
def bgK0(op:OpX):CR:=⟨op.k,op.a,1,0,0,false,false,0⟩
def bgEnd(op:OpX)(b:Bool):Prop:=op.k<1\/5<op.k\/(op.k=1/\b=true)\/(op.k=2/\b=false)
instance (op:OpX) (b:Bool):Decidable (bgEnd op b):=by unfold bgEnd;infer_instance
def bgK(op:OpX)(b:Bool):CR:=if bgEnd op b then(bgK0 op).fin false 0 else bgK0 op
def bgM(who:Nat)(op:OpX)(b:Bool)(Ms:Array Value):Array Value:=if op.k=2/\b=true then Ms.setIfInBounds (who*2) (.bool false)else Ms
def zq1u(rb gm gM N who:Nat)(e:Int)(ms Ms:Array Value)(op:OpX)(b:Bool)(w:World)(e':Ending)(w':World):Prop:=
 ∃cb,e'=.returned (.pointer (some ⟨cb,0,none⟩))/\w.heap.size<=cb/\EcAt rb gm gM N cb who e ms (bgM who op b Ms) (bgK op b) (.slice none 0 0) w'/\Tch (λb=>b=gM) w w'
theorem Tch.fresh {S:Nat->Prop}{a b c:World}{x:Nat}(h:Tch S a b)(k:Tch (λy=>y=x) b c)(hx:a.heap.size<=x):Tch S a c:=
 ⟨Nat.le_trans h.size k.size,λy hy hs=>(k.old y (Nat.lt_of_lt_of_le hy h.size) (λe=>by omega)).trans (h.old y hy hs)⟩
theorem DmAt.more (h:DmAt rb gm gM N e ms Ms w){w':World}(k:∀b,b<w.heap.size->w'.heap[b]?=w.heap[b]?):DmAt rb gm gM N e ms Ms w':=h.of (k _ (zqc h.dom)) (k _ (zqc h.mar)) (k _ (zqc h.mem))
noncomputable def beT(n:Nat):Code:=tailN n (Try.f14.body.getD .skip)
theorem zqfk(h:DmAt rb gm gM N e ms Ms w)(hw:who<N)(hN:N<=64){op:OpX}{b:Bool}(hM:Ms[who*2]?=some (.bool b))(hk:op.k<1):
 Calls Try.prog 14 #[.pointer (some ⟨rb,0,none⟩),.int .i64 who,op.val] w λe' w'=>zq1u rb gm gM N who e ms Ms op b w e' w':=by
 obtain⟨Z,hZ⟩:∃Z,w.heap.size=Z:=⟨_,rfl⟩;have hb:b=b:=rfl;have hg:bgEnd op b:=by unfold bgEnd;first|(simp only[hb];omega)|(simp[hb];omega)|simp[hb,hk]|omega
 have hres:bgK op b=(bgK0 op).fin false 0:=if_pos hg;have hresM:bgM who op b Ms=Ms:=if_neg (by first|(simp only[hb];omega)|(simp[hb];omega)|simp[hb]|omega);have g1:¬(who:Int)<0:=by omega
 have g2:(who:Int)<(N:Int):=by omega
 have g3:¬(N:Int)<=(who:Int):=by omega
 have g4:(0:Int)<=(who:Int):=by omega
 have H:=Lib.hid (And.intro h (And.intro hZ (And.intro hres (And.intro hresM hM))));have HKK:=Lib.hid hk;have HBB:=Lib.hid hb;clear h hM hw hres hresM hg hk hb;unfold OpX.val
 go_enter Try.func14,Try.ntmps14
 show Code.wp Try.prog (.seq (headC (beT 0)) (.seq (headC (beT 1)) (beT 2))) _ _ _;obtain⟨R,hR⟩:∃R,beT 2=R:=⟨_,rfl⟩;rw[hR];obtain⟨u_,hu_⟩:∃c,headC (beT 0)=c:=⟨_,rfl⟩;have eu_:=hu_;rw[hu_];simp only[beT,headC,tailN,Try.f14,al_od]at eu_;subst eu_;clear hu_;obtain⟨u_,hu_⟩:∃c,headC (beT 1)=c:=⟨_,rfl⟩;have eu_:=hu_;rw[hu_];simp only[beT,headC,tailN,Try.f14,al_od]at eu_;subst eu_;clear hu_
 go_wp2_with (fail)
 have hs1:(w.alloc (.cells #[.int .i64 op.k,.int .i64 op.a,.int .i64 op.b,.int .i64 op.c] 44)).heap.size=Z+1:=by rw[zq3,hZ]
 try rw[hZ]
 try rw[hs1]
 have hk1:Tch (λb=>b=gM) w ((w.alloc (.cells #[.int .i64 op.k,.int .i64 op.a,.int .i64 op.b,.int .i64 op.c] 44)).alloc (.cells #[.int .i64 who,.int .i64 op.k,.int .i64 op.a,.int .i64 1,.int .i64 0,.int .i64 0,.bool false,.bool false,.int .i64 0,.slice none 0 0] 52)):=((Tch.refl (λb=>b=gM) w).al _).al _;have h2:DmAt rb gm gM N e ms Ms ((w.alloc (.cells #[.int .i64 op.k,.int .i64 op.a,.int .i64 op.b,.int .i64 op.c] 44)).alloc (.cells #[.int .i64 who,.int .i64 op.k,.int .i64 op.a,.int .i64 1,.int .i64 0,.int .i64 0,.bool false,.bool false,.int .i64 0,.slice none 0 0] 52)):=H.out.1.more λb hb=>by rw[zq5,if_neg (by rw[zq3];omega),zq5,if_neg (by omega)]
 have hd2:EcAt rb gm gM N (Z+1) who e ms Ms (bgK0 op) (.slice none 0 0) ((w.alloc (.cells #[.int .i64 op.k,.int .i64 op.a,.int .i64 op.b,.int .i64 op.c] 44)).alloc (.cells #[.int .i64 who,.int .i64 op.k,.int .i64 op.a,.int .i64 1,.int .i64 0,.int .i64 0,.bool false,.bool false,.int .i64 0,.slice none 0 0] 52)):=⟨h2,by rw[<-hs1];exact zqo _ _⟩;have hz:((w.alloc (.cells #[.int .i64 op.k,.int .i64 op.a,.int .i64 op.b,.int .i64 op.c] 44)).alloc (.cells #[.int .i64 who,.int .i64 op.k,.int .i64 op.a,.int .i64 1,.int .i64 0,.int .i64 0,.bool false,.bool false,.int .i64 0,.slice none 0 0] 52)).heap[Z]?=some (.cells #[.int .i64 op.k,.int .i64 op.a,.int .i64 op.b,.int .i64 op.c] 44):=zqk (by rw[<-hZ];exact zqo _ _);clear h2 hs1;generalize (w.alloc (.cells #[.int .i64 op.k,.int .i64 op.a,.int .i64 op.b,.int .i64 op.c] 44)).alloc (.cells #[.int .i64 who,.int .i64 op.k,.int .i64 op.a,.int .i64 1,.int .i64 0,.int .i64 0,.bool false,.bool false,.int .i64 0,.slice none 0 0] 52)=w2 at hk1 hd2 hz |-;have z0:w2.cell? ⟨Z,0,none⟩=some (.int .i64 op.k):=(zq0 hz).trans rfl;have d2:=hd2.d.c.2.2;have m1:w2.cell? ⟨gM,who*2,none⟩=some (.bool b):=(zq0 hd2.d.mem).trans H.out.2.2.2.2;have fM:=zq6 (off:=who*2) hd2.d.mem;have hk:=HKK.out;have hb:=HBB.out;have HK:=Lib.hid (And.intro hd2 hk1);clear hz;rw[<-hR];clear hR R;simp only[beT,headC,tailN,Try.f14,al_od];have HE:=Lib.hid (zq1h hd2.c false 0);clear hd2 hk1
 go_wp2_with (fail)
 refine Calls.mono HE.out ?_;rintro e' w' ⟨rfl,k3,k4⟩;have H3:=Lib.hid (And.intro k3 k4);clear k3 k4 z0 d2 m1 fM;go_wp2;go_ret;refine⟨Z+1,rfl,by rw[hZ];exact Nat.le_succ _,?_,HK.out.2.fresh H3.out.2 (by rw[hZ];exact Nat.le_succ _)⟩;rw[H.out.2.2.1,H.out.2.2.2.1];exact HK.out.1.fin H3.out.2 H3.out.1
theorem zqfl(h:DmAt rb gm gM N e ms Ms w)(hw:who<N)(hN:N<=64){op:OpX}{b:Bool}(hM:Ms[who*2]?=some (.bool b))(hk:5<op.k):
 Calls Try.prog 14 #[.pointer (some ⟨rb,0,none⟩),.int .i64 who,op.val] w λe' w'=>zq1u rb gm gM N who e ms Ms op b w e' w':=by
 obtain⟨Z,hZ⟩:∃Z,w.heap.size=Z:=⟨_,rfl⟩;have hb:b=b:=rfl;have hg:bgEnd op b:=by unfold bgEnd;first|(simp only[hb];omega)|(simp[hb];omega)|simp[hb,hk]|omega
 have hres:bgK op b=(bgK0 op).fin false 0:=if_pos hg;have hresM:bgM who op b Ms=Ms:=if_neg (by first|(simp only[hb];omega)|(simp[hb];omega)|simp[hb]|omega);have g1:¬(who:Int)<0:=by omega
 have g2:(who:Int)<(N:Int):=by omega
 have g3:¬(N:Int)<=(who:Int):=by omega
 have g4:(0:Int)<=(who:Int):=by omega
 have H:=Lib.hid (And.intro h (And.intro hZ (And.intro hres (And.intro hresM hM))));have HKK:=Lib.hid hk;have HBB:=Lib.hid hb;clear h hM hw hres hresM hg hk hb;unfold OpX.val
 go_enter Try.func14,Try.ntmps14
 show Code.wp Try.prog (.seq (headC (beT 0)) (.seq (headC (beT 1)) (beT 2))) _ _ _;obtain⟨R,hR⟩:∃R,beT 2=R:=⟨_,rfl⟩;rw[hR];obtain⟨u_,hu_⟩:∃c,headC (beT 0)=c:=⟨_,rfl⟩;have eu_:=hu_;rw[hu_];simp only[beT,headC,tailN,Try.f14,al_od]at eu_;subst eu_;clear hu_;obtain⟨u_,hu_⟩:∃c,headC (beT 1)=c:=⟨_,rfl⟩;have eu_:=hu_;rw[hu_];simp only[beT,headC,tailN,Try.f14,al_od]at eu_;subst eu_;clear hu_
 go_wp2_with (fail)
 have hs1:(w.alloc (.cells #[.int .i64 op.k,.int .i64 op.a,.int .i64 op.b,.int .i64 op.c] 44)).heap.size=Z+1:=by rw[zq3,hZ]
 try rw[hZ]
 try rw[hs1]
 have hk1:Tch (λb=>b=gM) w ((w.alloc (.cells #[.int .i64 op.k,.int .i64 op.a,.int .i64 op.b,.int .i64 op.c] 44)).alloc (.cells #[.int .i64 who,.int .i64 op.k,.int .i64 op.a,.int .i64 1,.int .i64 0,.int .i64 0,.bool false,.bool false,.int .i64 0,.slice none 0 0] 52)):=((Tch.refl (λb=>b=gM) w).al _).al _;have h2:DmAt rb gm gM N e ms Ms ((w.alloc (.cells #[.int .i64 op.k,.int .i64 op.a,.int .i64 op.b,.int .i64 op.c] 44)).alloc (.cells #[.int .i64 who,.int .i64 op.k,.int .i64 op.a,.int .i64 1,.int .i64 0,.int .i64 0,.bool false,.bool false,.int .i64 0,.slice none 0 0] 52)):=H.out.1.more λb hb=>by rw[zq5,if_neg (by rw[zq3];omega),zq5,if_neg (by omega)]
 have hd2:EcAt rb gm gM N (Z+1) who e ms Ms (bgK0 op) (.slice none 0 0) ((w.alloc (.cells #[.int .i64 op.k,.int .i64 op.a,.int .i64 op.b,.int .i64 op.c] 44)).alloc (.cells #[.int .i64 who,.int .i64 op.k,.int .i64 op.a,.int .i64 1,.int .i64 0,.int .i64 0,.bool false,.bool false,.int .i64 0,.slice none 0 0] 52)):=⟨h2,by rw[<-hs1];exact zqo _ _⟩;have hz:((w.alloc (.cells #[.int .i64 op.k,.int .i64 op.a,.int .i64 op.b,.int .i64 op.c] 44)).alloc (.cells #[.int .i64 who,.int .i64 op.k,.int .i64 op.a,.int .i64 1,.int .i64 0,.int .i64 0,.bool false,.bool false,.int .i64 0,.slice none 0 0] 52)).heap[Z]?=some (.cells #[.int .i64 op.k,.int .i64 op.a,.int .i64 op.b,.int .i64 op.c] 44):=zqk (by rw[<-hZ];exact zqo _ _);clear h2 hs1;generalize (w.alloc (.cells #[.int .i64 op.k,.int .i64 op.a,.int .i64 op.b,.int .i64 op.c] 44)).alloc (.cells #[.int .i64 who,.int .i64 op.k,.int .i64 op.a,.int .i64 1,.int .i64 0,.int .i64 0,.bool false,.bool false,.int .i64 0,.slice none 0 0] 52)=w2 at hk1 hd2 hz |-;have z0:w2.cell? ⟨Z,0,none⟩=some (.int .i64 op.k):=(zq0 hz).trans rfl;have d2:=hd2.d.c.2.2;have m1:w2.cell? ⟨gM,who*2,none⟩=some (.bool b):=(zq0 hd2.d.mem).trans H.out.2.2.2.2;have fM:=zq6 (off:=who*2) hd2.d.mem;have hk:=HKK.out;have hb:=HBB.out;have HK:=Lib.hid (And.intro hd2 hk1);clear hz;rw[<-hR];clear hR R;simp only[beT,headC,tailN,Try.f14,al_od];have HE:=Lib.hid (zq1h hd2.c false 0);clear hd2 hk1
 go_wp2_with (fail)
 refine Calls.mono HE.out ?_;rintro e' w' ⟨rfl,k3,k4⟩;have H3:=Lib.hid (And.intro k3 k4);clear k3 k4 z0 d2 m1 fM;go_wp2;go_ret;refine⟨Z+1,rfl,by rw[hZ];exact Nat.le_succ _,?_,HK.out.2.fresh H3.out.2 (by rw[hZ];exact Nat.le_succ _)⟩;rw[H.out.2.2.1,H.out.2.2.2.1];exact HK.out.1.fin H3.out.2 H3.out.1
theorem zqfm(h:DmAt rb gm gM N e ms Ms w)(hw:who<N)(hN:N<=64){op:OpX}{b:Bool}(hM:Ms[who*2]?=some (.bool b))(hk:op.k=1)(hb:b=true):
 Calls Try.prog 14 #[.pointer (some ⟨rb,0,none⟩),.int .i64 who,op.val] w λe' w'=>zq1u rb gm gM N who e ms Ms op b w e' w':=by
 obtain⟨Z,hZ⟩:∃Z,w.heap.size=Z:=⟨_,rfl⟩;have hg:bgEnd op b:=by unfold bgEnd;first|(simp only[hb];omega)|(simp[hb];omega)|simp[hb,hk]|omega
 have hres:bgK op b=(bgK0 op).fin false 0:=if_pos hg;have hresM:bgM who op b Ms=Ms:=if_neg (by first|(simp only[hb];omega)|(simp[hb];omega)|simp[hb]|omega);have g1:¬(who:Int)<0:=by omega
 have g2:(who:Int)<(N:Int):=by omega
 have g3:¬(N:Int)<=(who:Int):=by omega
 have g4:(0:Int)<=(who:Int):=by omega
 have H:=Lib.hid (And.intro h (And.intro hZ (And.intro hres (And.intro hresM hM))));have HKK:=Lib.hid hk;have HBB:=Lib.hid hb;clear h hM hw hres hresM hg hk hb;unfold OpX.val
 go_enter Try.func14,Try.ntmps14
 show Code.wp Try.prog (.seq (headC (beT 0)) (.seq (headC (beT 1)) (beT 2))) _ _ _;obtain⟨R,hR⟩:∃R,beT 2=R:=⟨_,rfl⟩;rw[hR];obtain⟨u_,hu_⟩:∃c,headC (beT 0)=c:=⟨_,rfl⟩;have eu_:=hu_;rw[hu_];simp only[beT,headC,tailN,Try.f14,al_od]at eu_;subst eu_;clear hu_;obtain⟨u_,hu_⟩:∃c,headC (beT 1)=c:=⟨_,rfl⟩;have eu_:=hu_;rw[hu_];simp only[beT,headC,tailN,Try.f14,al_od]at eu_;subst eu_;clear hu_
 go_wp2_with (fail)
 have hs1:(w.alloc (.cells #[.int .i64 op.k,.int .i64 op.a,.int .i64 op.b,.int .i64 op.c] 44)).heap.size=Z+1:=by rw[zq3,hZ]
 try rw[hZ]
 try rw[hs1]
 have hk1:Tch (λb=>b=gM) w ((w.alloc (.cells #[.int .i64 op.k,.int .i64 op.a,.int .i64 op.b,.int .i64 op.c] 44)).alloc (.cells #[.int .i64 who,.int .i64 op.k,.int .i64 op.a,.int .i64 1,.int .i64 0,.int .i64 0,.bool false,.bool false,.int .i64 0,.slice none 0 0] 52)):=((Tch.refl (λb=>b=gM) w).al _).al _;have h2:DmAt rb gm gM N e ms Ms ((w.alloc (.cells #[.int .i64 op.k,.int .i64 op.a,.int .i64 op.b,.int .i64 op.c] 44)).alloc (.cells #[.int .i64 who,.int .i64 op.k,.int .i64 op.a,.int .i64 1,.int .i64 0,.int .i64 0,.bool false,.bool false,.int .i64 0,.slice none 0 0] 52)):=H.out.1.more λb hb=>by rw[zq5,if_neg (by rw[zq3];omega),zq5,if_neg (by omega)]
 have hd2:EcAt rb gm gM N (Z+1) who e ms Ms (bgK0 op) (.slice none 0 0) ((w.alloc (.cells #[.int .i64 op.k,.int .i64 op.a,.int .i64 op.b,.int .i64 op.c] 44)).alloc (.cells #[.int .i64 who,.int .i64 op.k,.int .i64 op.a,.int .i64 1,.int .i64 0,.int .i64 0,.bool false,.bool false,.int .i64 0,.slice none 0 0] 52)):=⟨h2,by rw[<-hs1];exact zqo _ _⟩;have hz:((w.alloc (.cells #[.int .i64 op.k,.int .i64 op.a,.int .i64 op.b,.int .i64 op.c] 44)).alloc (.cells #[.int .i64 who,.int .i64 op.k,.int .i64 op.a,.int .i64 1,.int .i64 0,.int .i64 0,.bool false,.bool false,.int .i64 0,.slice none 0 0] 52)).heap[Z]?=some (.cells #[.int .i64 op.k,.int .i64 op.a,.int .i64 op.b,.int .i64 op.c] 44):=zqk (by rw[<-hZ];exact zqo _ _);clear h2 hs1;generalize (w.alloc (.cells #[.int .i64 op.k,.int .i64 op.a,.int .i64 op.b,.int .i64 op.c] 44)).alloc (.cells #[.int .i64 who,.int .i64 op.k,.int .i64 op.a,.int .i64 1,.int .i64 0,.int .i64 0,.bool false,.bool false,.int .i64 0,.slice none 0 0] 52)=w2 at hk1 hd2 hz |-;have z0:w2.cell? ⟨Z,0,none⟩=some (.int .i64 op.k):=(zq0 hz).trans rfl;have d2:=hd2.d.c.2.2;have m1:w2.cell? ⟨gM,who*2,none⟩=some (.bool b):=(zq0 hd2.d.mem).trans H.out.2.2.2.2;have fM:=zq6 (off:=who*2) hd2.d.mem;have hk:=HKK.out;have hb:=HBB.out;rw[hk]at z0;rw[hb]at m1;have HK:=Lib.hid (And.intro hd2 hk1);clear hz;rw[<-hR];clear hR R;simp only[beT,headC,tailN,Try.f14,al_od];have HE:=Lib.hid (zq1h hd2.c false 0);clear hd2 hk1
 go_wp2_with (fail)
 refine Calls.mono HE.out ?_;rintro e' w' ⟨rfl,k3,k4⟩;have H3:=Lib.hid (And.intro k3 k4);clear k3 k4 z0 d2 m1 fM;go_wp2;go_ret;refine⟨Z+1,rfl,by rw[hZ];exact Nat.le_succ _,?_,HK.out.2.fresh H3.out.2 (by rw[hZ];exact Nat.le_succ _)⟩;rw[H.out.2.2.1,H.out.2.2.2.1];exact HK.out.1.fin H3.out.2 H3.out.1
theorem zqfn(h:DmAt rb gm gM N e ms Ms w)(hw:who<N)(hN:N<=64){op:OpX}{b:Bool}(hM:Ms[who*2]?=some (.bool b))(hk:op.k=1)(hb:b=false):
 Calls Try.prog 14 #[.pointer (some ⟨rb,0,none⟩),.int .i64 who,op.val] w λe' w'=>zq1u rb gm gM N who e ms Ms op b w e' w':=by
 obtain⟨Z,hZ⟩:∃Z,w.heap.size=Z:=⟨_,rfl⟩;have hg:¬bgEnd op b:=by unfold bgEnd;first|(simp only[hb];omega)|(simp[hb];omega)|simp[hb,hk]|omega
 have hres:bgK op b=bgK0 op:=if_neg hg;have hresM:bgM who op b Ms=Ms:=if_neg (by first|(simp only[hb];omega)|(simp[hb];omega)|simp[hb]|omega);have g1:¬(who:Int)<0:=by omega
 have g2:(who:Int)<(N:Int):=by omega
 have g3:¬(N:Int)<=(who:Int):=by omega
 have g4:(0:Int)<=(who:Int):=by omega
 have H:=Lib.hid (And.intro h (And.intro hZ (And.intro hres (And.intro hresM hM))));have HKK:=Lib.hid hk;have HBB:=Lib.hid hb;clear h hM hw hres hresM hg hk hb;unfold OpX.val
 go_enter Try.func14,Try.ntmps14
 show Code.wp Try.prog (.seq (headC (beT 0)) (.seq (headC (beT 1)) (beT 2))) _ _ _;obtain⟨R,hR⟩:∃R,beT 2=R:=⟨_,rfl⟩;rw[hR];obtain⟨u_,hu_⟩:∃c,headC (beT 0)=c:=⟨_,rfl⟩;have eu_:=hu_;rw[hu_];simp only[beT,headC,tailN,Try.f14,al_od]at eu_;subst eu_;clear hu_;obtain⟨u_,hu_⟩:∃c,headC (beT 1)=c:=⟨_,rfl⟩;have eu_:=hu_;rw[hu_];simp only[beT,headC,tailN,Try.f14,al_od]at eu_;subst eu_;clear hu_
 go_wp2_with (fail)
 have hs1:(w.alloc (.cells #[.int .i64 op.k,.int .i64 op.a,.int .i64 op.b,.int .i64 op.c] 44)).heap.size=Z+1:=by rw[zq3,hZ]
 try rw[hZ]
 try rw[hs1]
 have hk1:Tch (λb=>b=gM) w ((w.alloc (.cells #[.int .i64 op.k,.int .i64 op.a,.int .i64 op.b,.int .i64 op.c] 44)).alloc (.cells #[.int .i64 who,.int .i64 op.k,.int .i64 op.a,.int .i64 1,.int .i64 0,.int .i64 0,.bool false,.bool false,.int .i64 0,.slice none 0 0] 52)):=((Tch.refl (λb=>b=gM) w).al _).al _;have h2:DmAt rb gm gM N e ms Ms ((w.alloc (.cells #[.int .i64 op.k,.int .i64 op.a,.int .i64 op.b,.int .i64 op.c] 44)).alloc (.cells #[.int .i64 who,.int .i64 op.k,.int .i64 op.a,.int .i64 1,.int .i64 0,.int .i64 0,.bool false,.bool false,.int .i64 0,.slice none 0 0] 52)):=H.out.1.more λb hb=>by rw[zq5,if_neg (by rw[zq3];omega),zq5,if_neg (by omega)]
 have hd2:EcAt rb gm gM N (Z+1) who e ms Ms (bgK0 op) (.slice none 0 0) ((w.alloc (.cells #[.int .i64 op.k,.int .i64 op.a,.int .i64 op.b,.int .i64 op.c] 44)).alloc (.cells #[.int .i64 who,.int .i64 op.k,.int .i64 op.a,.int .i64 1,.int .i64 0,.int .i64 0,.bool false,.bool false,.int .i64 0,.slice none 0 0] 52)):=⟨h2,by rw[<-hs1];exact zqo _ _⟩;have hz:((w.alloc (.cells #[.int .i64 op.k,.int .i64 op.a,.int .i64 op.b,.int .i64 op.c] 44)).alloc (.cells #[.int .i64 who,.int .i64 op.k,.int .i64 op.a,.int .i64 1,.int .i64 0,.int .i64 0,.bool false,.bool false,.int .i64 0,.slice none 0 0] 52)).heap[Z]?=some (.cells #[.int .i64 op.k,.int .i64 op.a,.int .i64 op.b,.int .i64 op.c] 44):=zqk (by rw[<-hZ];exact zqo _ _);clear h2 hs1;generalize (w.alloc (.cells #[.int .i64 op.k,.int .i64 op.a,.int .i64 op.b,.int .i64 op.c] 44)).alloc (.cells #[.int .i64 who,.int .i64 op.k,.int .i64 op.a,.int .i64 1,.int .i64 0,.int .i64 0,.bool false,.bool false,.int .i64 0,.slice none 0 0] 52)=w2 at hk1 hd2 hz |-;have z0:w2.cell? ⟨Z,0,none⟩=some (.int .i64 op.k):=(zq0 hz).trans rfl;have d2:=hd2.d.c.2.2;have m1:w2.cell? ⟨gM,who*2,none⟩=some (.bool b):=(zq0 hd2.d.mem).trans H.out.2.2.2.2;have fM:=zq6 (off:=who*2) hd2.d.mem;have hk:=HKK.out;have hb:=HBB.out;rw[hk]at z0;rw[hb]at m1;have HK:=Lib.hid (And.intro hd2 hk1);clear hz;rw[<-hR];clear hR R;simp only[beT,headC,tailN,Try.f14,al_od];have HE:=Lib.hid (zq1h hd2.c false 0);clear hd2 hk1
 go_wp2_with (fail)
 go_ret;refine⟨Z+1,rfl,by rw[hZ];exact Nat.le_succ _,?_,HK.out.2⟩;rw[H.out.2.2.1,H.out.2.2.2.1];exact HK.out.1
theorem zqfo(h:DmAt rb gm gM N e ms Ms w)(hw:who<N)(hN:N<=64){op:OpX}{b:Bool}(hM:Ms[who*2]?=some (.bool b))(hk:op.k=2)(hb:b=true):
 Calls Try.prog 14 #[.pointer (some ⟨rb,0,none⟩),.int .i64 who,op.val] w λe' w'=>zq1u rb gm gM N who e ms Ms op b w e' w':=by
 obtain⟨Z,hZ⟩:∃Z,w.heap.size=Z:=⟨_,rfl⟩;have hg:¬bgEnd op b:=by unfold bgEnd;first|(simp only[hb];omega)|(simp[hb];omega)|simp[hb,hk]|omega
 have hres:bgK op b=bgK0 op:=if_neg hg;have hresM:bgM who op b Ms=Ms.setIfInBounds (who*2) (.bool false):=if_pos ⟨hk,hb⟩;have g1:¬(who:Int)<0:=by omega
 have g2:(who:Int)<(N:Int):=by omega
 have g3:¬(N:Int)<=(who:Int):=by omega
 have g4:(0:Int)<=(who:Int):=by omega
 have H:=Lib.hid (And.intro h (And.intro hZ (And.intro hres (And.intro hresM hM))));have HKK:=Lib.hid hk;have HBB:=Lib.hid hb;clear h hM hw hres hresM hg hk hb;unfold OpX.val
 go_enter Try.func14,Try.ntmps14
 show Code.wp Try.prog (.seq (headC (beT 0)) (.seq (headC (beT 1)) (beT 2))) _ _ _;obtain⟨R,hR⟩:∃R,beT 2=R:=⟨_,rfl⟩;rw[hR];obtain⟨u_,hu_⟩:∃c,headC (beT 0)=c:=⟨_,rfl⟩;have eu_:=hu_;rw[hu_];simp only[beT,headC,tailN,Try.f14,al_od]at eu_;subst eu_;clear hu_;obtain⟨u_,hu_⟩:∃c,headC (beT 1)=c:=⟨_,rfl⟩;have eu_:=hu_;rw[hu_];simp only[beT,headC,tailN,Try.f14,al_od]at eu_;subst eu_;clear hu_
 go_wp2_with (fail)
 have hs1:(w.alloc (.cells #[.int .i64 op.k,.int .i64 op.a,.int .i64 op.b,.int .i64 op.c] 44)).heap.size=Z+1:=by rw[zq3,hZ]
 try rw[hZ]
 try rw[hs1]
 have hk1:Tch (λb=>b=gM) w ((w.alloc (.cells #[.int .i64 op.k,.int .i64 op.a,.int .i64 op.b,.int .i64 op.c] 44)).alloc (.cells #[.int .i64 who,.int .i64 op.k,.int .i64 op.a,.int .i64 1,.int .i64 0,.int .i64 0,.bool false,.bool false,.int .i64 0,.slice none 0 0] 52)):=((Tch.refl (λb=>b=gM) w).al _).al _;have h2:DmAt rb gm gM N e ms Ms ((w.alloc (.cells #[.int .i64 op.k,.int .i64 op.a,.int .i64 op.b,.int .i64 op.c] 44)).alloc (.cells #[.int .i64 who,.int .i64 op.k,.int .i64 op.a,.int .i64 1,.int .i64 0,.int .i64 0,.bool false,.bool false,.int .i64 0,.slice none 0 0] 52)):=H.out.1.more λb hb=>by rw[zq5,if_neg (by rw[zq3];omega),zq5,if_neg (by omega)]
 have hd2:EcAt rb gm gM N (Z+1) who e ms Ms (bgK0 op) (.slice none 0 0) ((w.alloc (.cells #[.int .i64 op.k,.int .i64 op.a,.int .i64 op.b,.int .i64 op.c] 44)).alloc (.cells #[.int .i64 who,.int .i64 op.k,.int .i64 op.a,.int .i64 1,.int .i64 0,.int .i64 0,.bool false,.bool false,.int .i64 0,.slice none 0 0] 52)):=⟨h2,by rw[<-hs1];exact zqo _ _⟩;have hz:((w.alloc (.cells #[.int .i64 op.k,.int .i64 op.a,.int .i64 op.b,.int .i64 op.c] 44)).alloc (.cells #[.int .i64 who,.int .i64 op.k,.int .i64 op.a,.int .i64 1,.int .i64 0,.int .i64 0,.bool false,.bool false,.int .i64 0,.slice none 0 0] 52)).heap[Z]?=some (.cells #[.int .i64 op.k,.int .i64 op.a,.int .i64 op.b,.int .i64 op.c] 44):=zqk (by rw[<-hZ];exact zqo _ _);clear h2 hs1;generalize (w.alloc (.cells #[.int .i64 op.k,.int .i64 op.a,.int .i64 op.b,.int .i64 op.c] 44)).alloc (.cells #[.int .i64 who,.int .i64 op.k,.int .i64 op.a,.int .i64 1,.int .i64 0,.int .i64 0,.bool false,.bool false,.int .i64 0,.slice none 0 0] 52)=w2 at hk1 hd2 hz |-;have z0:w2.cell? ⟨Z,0,none⟩=some (.int .i64 op.k):=(zq0 hz).trans rfl;have d2:=hd2.d.c.2.2;have m1:w2.cell? ⟨gM,who*2,none⟩=some (.bool b):=(zq0 hd2.d.mem).trans H.out.2.2.2.2;have fM:=zq6 (off:=who*2) hd2.d.mem;have hk:=HKK.out;have hb:=HBB.out;rw[hk]at z0;rw[hb]at m1;have HK:=Lib.hid (And.intro hd2 hk1);clear hz;rw[<-hR];clear hR R;simp only[beT,headC,tailN,Try.f14,al_od];have HE:=Lib.hid (zq1h hd2.c false 0);clear hd2 hk1
 go_wp2_with (fail)
 go_ret;refine⟨Z+1,rfl,by rw[hZ];exact Nat.le_succ _,?_,HK.out.2.set rfl _ _⟩;rw[H.out.2.2.1,H.out.2.2.2.1];exact HK.out.1.setI (who*2) (.bool false)
theorem zqfp(h:DmAt rb gm gM N e ms Ms w)(hw:who<N)(hN:N<=64){op:OpX}{b:Bool}(hM:Ms[who*2]?=some (.bool b))(hk:op.k=2)(hb:b=false):
 Calls Try.prog 14 #[.pointer (some ⟨rb,0,none⟩),.int .i64 who,op.val] w λe' w'=>zq1u rb gm gM N who e ms Ms op b w e' w':=by
 obtain⟨Z,hZ⟩:∃Z,w.heap.size=Z:=⟨_,rfl⟩;have hg:bgEnd op b:=by unfold bgEnd;first|(simp only[hb];omega)|(simp[hb];omega)|simp[hb,hk]|omega
 have hres:bgK op b=(bgK0 op).fin false 0:=if_pos hg;have hresM:bgM who op b Ms=Ms:=if_neg (by first|(simp only[hb];omega)|(simp[hb];omega)|simp[hb]|omega);have g1:¬(who:Int)<0:=by omega
 have g2:(who:Int)<(N:Int):=by omega
 have g3:¬(N:Int)<=(who:Int):=by omega
 have g4:(0:Int)<=(who:Int):=by omega
 have H:=Lib.hid (And.intro h (And.intro hZ (And.intro hres (And.intro hresM hM))));have HKK:=Lib.hid hk;have HBB:=Lib.hid hb;clear h hM hw hres hresM hg hk hb;unfold OpX.val
 go_enter Try.func14,Try.ntmps14
 show Code.wp Try.prog (.seq (headC (beT 0)) (.seq (headC (beT 1)) (beT 2))) _ _ _;obtain⟨R,hR⟩:∃R,beT 2=R:=⟨_,rfl⟩;rw[hR];obtain⟨u_,hu_⟩:∃c,headC (beT 0)=c:=⟨_,rfl⟩;have eu_:=hu_;rw[hu_];simp only[beT,headC,tailN,Try.f14,al_od]at eu_;subst eu_;clear hu_;obtain⟨u_,hu_⟩:∃c,headC (beT 1)=c:=⟨_,rfl⟩;have eu_:=hu_;rw[hu_];simp only[beT,headC,tailN,Try.f14,al_od]at eu_;subst eu_;clear hu_
 go_wp2_with (fail)
 have hs1:(w.alloc (.cells #[.int .i64 op.k,.int .i64 op.a,.int .i64 op.b,.int .i64 op.c] 44)).heap.size=Z+1:=by rw[zq3,hZ]
 try rw[hZ]
 try rw[hs1]
 have hk1:Tch (λb=>b=gM) w ((w.alloc (.cells #[.int .i64 op.k,.int .i64 op.a,.int .i64 op.b,.int .i64 op.c] 44)).alloc (.cells #[.int .i64 who,.int .i64 op.k,.int .i64 op.a,.int .i64 1,.int .i64 0,.int .i64 0,.bool false,.bool false,.int .i64 0,.slice none 0 0] 52)):=((Tch.refl (λb=>b=gM) w).al _).al _;have h2:DmAt rb gm gM N e ms Ms ((w.alloc (.cells #[.int .i64 op.k,.int .i64 op.a,.int .i64 op.b,.int .i64 op.c] 44)).alloc (.cells #[.int .i64 who,.int .i64 op.k,.int .i64 op.a,.int .i64 1,.int .i64 0,.int .i64 0,.bool false,.bool false,.int .i64 0,.slice none 0 0] 52)):=H.out.1.more λb hb=>by rw[zq5,if_neg (by rw[zq3];omega),zq5,if_neg (by omega)]
 have hd2:EcAt rb gm gM N (Z+1) who e ms Ms (bgK0 op) (.slice none 0 0) ((w.alloc (.cells #[.int .i64 op.k,.int .i64 op.a,.int .i64 op.b,.int .i64 op.c] 44)).alloc (.cells #[.int .i64 who,.int .i64 op.k,.int .i64 op.a,.int .i64 1,.int .i64 0,.int .i64 0,.bool false,.bool false,.int .i64 0,.slice none 0 0] 52)):=⟨h2,by rw[<-hs1];exact zqo _ _⟩;have hz:((w.alloc (.cells #[.int .i64 op.k,.int .i64 op.a,.int .i64 op.b,.int .i64 op.c] 44)).alloc (.cells #[.int .i64 who,.int .i64 op.k,.int .i64 op.a,.int .i64 1,.int .i64 0,.int .i64 0,.bool false,.bool false,.int .i64 0,.slice none 0 0] 52)).heap[Z]?=some (.cells #[.int .i64 op.k,.int .i64 op.a,.int .i64 op.b,.int .i64 op.c] 44):=zqk (by rw[<-hZ];exact zqo _ _);clear h2 hs1;generalize (w.alloc (.cells #[.int .i64 op.k,.int .i64 op.a,.int .i64 op.b,.int .i64 op.c] 44)).alloc (.cells #[.int .i64 who,.int .i64 op.k,.int .i64 op.a,.int .i64 1,.int .i64 0,.int .i64 0,.bool false,.bool false,.int .i64 0,.slice none 0 0] 52)=w2 at hk1 hd2 hz |-;have z0:w2.cell? ⟨Z,0,none⟩=some (.int .i64 op.k):=(zq0 hz).trans rfl;have d2:=hd2.d.c.2.2;have m1:w2.cell? ⟨gM,who*2,none⟩=some (.bool b):=(zq0 hd2.d.mem).trans H.out.2.2.2.2;have fM:=zq6 (off:=who*2) hd2.d.mem;have hk:=HKK.out;have hb:=HBB.out;rw[hk]at z0;rw[hb]at m1;have HK:=Lib.hid (And.intro hd2 hk1);clear hz;rw[<-hR];clear hR R;simp only[beT,headC,tailN,Try.f14,al_od];have HE:=Lib.hid (zq1h hd2.c false 0);clear hd2 hk1
 go_wp2_with (fail)
 refine Calls.mono HE.out ?_;rintro e' w' ⟨rfl,k3,k4⟩;have H3:=Lib.hid (And.intro k3 k4);clear k3 k4 z0 d2 m1 fM;go_wp2;go_ret;refine⟨Z+1,rfl,by rw[hZ];exact Nat.le_succ _,?_,HK.out.2.fresh H3.out.2 (by rw[hZ];exact Nat.le_succ _)⟩;rw[H.out.2.2.1,H.out.2.2.2.1];exact HK.out.1.fin H3.out.2 H3.out.1
theorem zqfq(h:DmAt rb gm gM N e ms Ms w)(hw:who<N)(hN:N<=64){op:OpX}{b:Bool}(hM:Ms[who*2]?=some (.bool b))(hk:op.k=3):
 Calls Try.prog 14 #[.pointer (some ⟨rb,0,none⟩),.int .i64 who,op.val] w λe' w'=>zq1u rb gm gM N who e ms Ms op b w e' w':=by
 obtain⟨Z,hZ⟩:∃Z,w.heap.size=Z:=⟨_,rfl⟩;have hb:b=b:=rfl;have hg:¬bgEnd op b:=by unfold bgEnd;first|(simp only[hb];omega)|(simp[hb];omega)|simp[hb,hk]|omega
 have hres:bgK op b=bgK0 op:=if_neg hg;have hresM:bgM who op b Ms=Ms:=if_neg (by first|(simp only[hb];omega)|(simp[hb];omega)|simp[hb]|omega);have g1:¬(who:Int)<0:=by omega
 have g2:(who:Int)<(N:Int):=by omega
 have g3:¬(N:Int)<=(who:Int):=by omega
 have g4:(0:Int)<=(who:Int):=by omega
 have H:=Lib.hid (And.intro h (And.intro hZ (And.intro hres (And.intro hresM hM))));have HKK:=Lib.hid hk;have HBB:=Lib.hid hb;clear h hM hw hres hresM hg hk hb;unfold OpX.val
 go_enter Try.func14,Try.ntmps14
 show Code.wp Try.prog (.seq (headC (beT 0)) (.seq (headC (beT 1)) (beT 2))) _ _ _;obtain⟨R,hR⟩:∃R,beT 2=R:=⟨_,rfl⟩;rw[hR];obtain⟨u_,hu_⟩:∃c,headC (beT 0)=c:=⟨_,rfl⟩;have eu_:=hu_;rw[hu_];simp only[beT,headC,tailN,Try.f14,al_od]at eu_;subst eu_;clear hu_;obtain⟨u_,hu_⟩:∃c,headC (beT 1)=c:=⟨_,rfl⟩;have eu_:=hu_;rw[hu_];simp only[beT,headC,tailN,Try.f14,al_od]at eu_;subst eu_;clear hu_
 go_wp2_with (fail)
 have hs1:(w.alloc (.cells #[.int .i64 op.k,.int .i64 op.a,.int .i64 op.b,.int .i64 op.c] 44)).heap.size=Z+1:=by rw[zq3,hZ]
 try rw[hZ]
 try rw[hs1]
 have hk1:Tch (λb=>b=gM) w ((w.alloc (.cells #[.int .i64 op.k,.int .i64 op.a,.int .i64 op.b,.int .i64 op.c] 44)).alloc (.cells #[.int .i64 who,.int .i64 op.k,.int .i64 op.a,.int .i64 1,.int .i64 0,.int .i64 0,.bool false,.bool false,.int .i64 0,.slice none 0 0] 52)):=((Tch.refl (λb=>b=gM) w).al _).al _;have h2:DmAt rb gm gM N e ms Ms ((w.alloc (.cells #[.int .i64 op.k,.int .i64 op.a,.int .i64 op.b,.int .i64 op.c] 44)).alloc (.cells #[.int .i64 who,.int .i64 op.k,.int .i64 op.a,.int .i64 1,.int .i64 0,.int .i64 0,.bool false,.bool false,.int .i64 0,.slice none 0 0] 52)):=H.out.1.more λb hb=>by rw[zq5,if_neg (by rw[zq3];omega),zq5,if_neg (by omega)]
 have hd2:EcAt rb gm gM N (Z+1) who e ms Ms (bgK0 op) (.slice none 0 0) ((w.alloc (.cells #[.int .i64 op.k,.int .i64 op.a,.int .i64 op.b,.int .i64 op.c] 44)).alloc (.cells #[.int .i64 who,.int .i64 op.k,.int .i64 op.a,.int .i64 1,.int .i64 0,.int .i64 0,.bool false,.bool false,.int .i64 0,.slice none 0 0] 52)):=⟨h2,by rw[<-hs1];exact zqo _ _⟩;have hz:((w.alloc (.cells #[.int .i64 op.k,.int .i64 op.a,.int .i64 op.b,.int .i64 op.c] 44)).alloc (.cells #[.int .i64 who,.int .i64 op.k,.int .i64 op.a,.int .i64 1,.int .i64 0,.int .i64 0,.bool false,.bool false,.int .i64 0,.slice none 0 0] 52)).heap[Z]?=some (.cells #[.int .i64 op.k,.int .i64 op.a,.int .i64 op.b,.int .i64 op.c] 44):=zqk (by rw[<-hZ];exact zqo _ _);clear h2 hs1;generalize (w.alloc (.cells #[.int .i64 op.k,.int .i64 op.a,.int .i64 op.b,.int .i64 op.c] 44)).alloc (.cells #[.int .i64 who,.int .i64 op.k,.int .i64 op.a,.int .i64 1,.int .i64 0,.int .i64 0,.bool false,.bool false,.int .i64 0,.slice none 0 0] 52)=w2 at hk1 hd2 hz |-;have z0:w2.cell? ⟨Z,0,none⟩=some (.int .i64 op.k):=(zq0 hz).trans rfl;have d2:=hd2.d.c.2.2;have m1:w2.cell? ⟨gM,who*2,none⟩=some (.bool b):=(zq0 hd2.d.mem).trans H.out.2.2.2.2;have fM:=zq6 (off:=who*2) hd2.d.mem;have hk:=HKK.out;have hb:=HBB.out;rw[hk]at z0;have HK:=Lib.hid (And.intro hd2 hk1);clear hz;rw[<-hR];clear hR R;simp only[beT,headC,tailN,Try.f14,al_od];have HE:=Lib.hid (zq1h hd2.c false 0);clear hd2 hk1
 go_wp2_with (fail)
 go_ret;refine⟨Z+1,rfl,by rw[hZ];exact Nat.le_succ _,?_,HK.out.2⟩;rw[H.out.2.2.1,H.out.2.2.2.1];exact HK.out.1
theorem zqfr(h:DmAt rb gm gM N e ms Ms w)(hw:who<N)(hN:N<=64){op:OpX}{b:Bool}(hM:Ms[who*2]?=some (.bool b))(hk:op.k=4):
 Calls Try.prog 14 #[.pointer (some ⟨rb,0,none⟩),.int .i64 who,op.val] w λe' w'=>zq1u rb gm gM N who e ms Ms op b w e' w':=by
 obtain⟨Z,hZ⟩:∃Z,w.heap.size=Z:=⟨_,rfl⟩;have hb:b=b:=rfl;have hg:¬bgEnd op b:=by unfold bgEnd;first|(simp only[hb];omega)|(simp[hb];omega)|simp[hb,hk]|omega
 have hres:bgK op b=bgK0 op:=if_neg hg;have hresM:bgM who op b Ms=Ms:=if_neg (by first|(simp only[hb];omega)|(simp[hb];omega)|simp[hb]|omega);have g1:¬(who:Int)<0:=by omega
 have g2:(who:Int)<(N:Int):=by omega
 have g3:¬(N:Int)<=(who:Int):=by omega
 have g4:(0:Int)<=(who:Int):=by omega
 have H:=Lib.hid (And.intro h (And.intro hZ (And.intro hres (And.intro hresM hM))));have HKK:=Lib.hid hk;have HBB:=Lib.hid hb;clear h hM hw hres hresM hg hk hb;unfold OpX.val
 go_enter Try.func14,Try.ntmps14
 show Code.wp Try.prog (.seq (headC (beT 0)) (.seq (headC (beT 1)) (beT 2))) _ _ _;obtain⟨R,hR⟩:∃R,beT 2=R:=⟨_,rfl⟩;rw[hR];obtain⟨u_,hu_⟩:∃c,headC (beT 0)=c:=⟨_,rfl⟩;have eu_:=hu_;rw[hu_];simp only[beT,headC,tailN,Try.f14,al_od]at eu_;subst eu_;clear hu_;obtain⟨u_,hu_⟩:∃c,headC (beT 1)=c:=⟨_,rfl⟩;have eu_:=hu_;rw[hu_];simp only[beT,headC,tailN,Try.f14,al_od]at eu_;subst eu_;clear hu_
 go_wp2_with (fail)
 have hs1:(w.alloc (.cells #[.int .i64 op.k,.int .i64 op.a,.int .i64 op.b,.int .i64 op.c] 44)).heap.size=Z+1:=by rw[zq3,hZ]
 try rw[hZ]
 try rw[hs1]
 have hk1:Tch (λb=>b=gM) w ((w.alloc (.cells #[.int .i64 op.k,.int .i64 op.a,.int .i64 op.b,.int .i64 op.c] 44)).alloc (.cells #[.int .i64 who,.int .i64 op.k,.int .i64 op.a,.int .i64 1,.int .i64 0,.int .i64 0,.bool false,.bool false,.int .i64 0,.slice none 0 0] 52)):=((Tch.refl (λb=>b=gM) w).al _).al _;have h2:DmAt rb gm gM N e ms Ms ((w.alloc (.cells #[.int .i64 op.k,.int .i64 op.a,.int .i64 op.b,.int .i64 op.c] 44)).alloc (.cells #[.int .i64 who,.int .i64 op.k,.int .i64 op.a,.int .i64 1,.int .i64 0,.int .i64 0,.bool false,.bool false,.int .i64 0,.slice none 0 0] 52)):=H.out.1.more λb hb=>by rw[zq5,if_neg (by rw[zq3];omega),zq5,if_neg (by omega)]
 have hd2:EcAt rb gm gM N (Z+1) who e ms Ms (bgK0 op) (.slice none 0 0) ((w.alloc (.cells #[.int .i64 op.k,.int .i64 op.a,.int .i64 op.b,.int .i64 op.c] 44)).alloc (.cells #[.int .i64 who,.int .i64 op.k,.int .i64 op.a,.int .i64 1,.int .i64 0,.int .i64 0,.bool false,.bool false,.int .i64 0,.slice none 0 0] 52)):=⟨h2,by rw[<-hs1];exact zqo _ _⟩;have hz:((w.alloc (.cells #[.int .i64 op.k,.int .i64 op.a,.int .i64 op.b,.int .i64 op.c] 44)).alloc (.cells #[.int .i64 who,.int .i64 op.k,.int .i64 op.a,.int .i64 1,.int .i64 0,.int .i64 0,.bool false,.bool false,.int .i64 0,.slice none 0 0] 52)).heap[Z]?=some (.cells #[.int .i64 op.k,.int .i64 op.a,.int .i64 op.b,.int .i64 op.c] 44):=zqk (by rw[<-hZ];exact zqo _ _);clear h2 hs1;generalize (w.alloc (.cells #[.int .i64 op.k,.int .i64 op.a,.int .i64 op.b,.int .i64 op.c] 44)).alloc (.cells #[.int .i64 who,.int .i64 op.k,.int .i64 op.a,.int .i64 1,.int .i64 0,.int .i64 0,.bool false,.bool false,.int .i64 0,.slice none 0 0] 52)=w2 at hk1 hd2 hz |-;have z0:w2.cell? ⟨Z,0,none⟩=some (.int .i64 op.k):=(zq0 hz).trans rfl;have d2:=hd2.d.c.2.2;have m1:w2.cell? ⟨gM,who*2,none⟩=some (.bool b):=(zq0 hd2.d.mem).trans H.out.2.2.2.2;have fM:=zq6 (off:=who*2) hd2.d.mem;have hk:=HKK.out;have hb:=HBB.out;rw[hk]at z0;have HK:=Lib.hid (And.intro hd2 hk1);clear hz;rw[<-hR];clear hR R;simp only[beT,headC,tailN,Try.f14,al_od];have HE:=Lib.hid (zq1h hd2.c false 0);clear hd2 hk1
 go_wp2_with (fail)
 go_ret;refine⟨Z+1,rfl,by rw[hZ];exact Nat.le_succ _,?_,HK.out.2⟩;rw[H.out.2.2.1,H.out.2.2.2.1];exact HK.out.1
theorem zqfs(h:DmAt rb gm gM N e ms Ms w)(hw:who<N)(hN:N<=64){op:OpX}{b:Bool}(hM:Ms[who*2]?=some (.bool b))(hk:op.k=5):
 Calls Try.prog 14 #[.pointer (some ⟨rb,0,none⟩),.int .i64 who,op.val] w λe' w'=>zq1u rb gm gM N who e ms Ms op b w e' w':=by
 obtain⟨Z,hZ⟩:∃Z,w.heap.size=Z:=⟨_,rfl⟩;have hb:b=b:=rfl;have hg:¬bgEnd op b:=by unfold bgEnd;first|(simp only[hb];omega)|(simp[hb];omega)|simp[hb,hk]|omega
 have hres:bgK op b=bgK0 op:=if_neg hg;have hresM:bgM who op b Ms=Ms:=if_neg (by first|(simp only[hb];omega)|(simp[hb];omega)|simp[hb]|omega);have g1:¬(who:Int)<0:=by omega
 have g2:(who:Int)<(N:Int):=by omega
 have g3:¬(N:Int)<=(who:Int):=by omega
 have g4:(0:Int)<=(who:Int):=by omega
 have H:=Lib.hid (And.intro h (And.intro hZ (And.intro hres (And.intro hresM hM))));have HKK:=Lib.hid hk;have HBB:=Lib.hid hb;clear h hM hw hres hresM hg hk hb;unfold OpX.val
 go_enter Try.func14,Try.ntmps14
 show Code.wp Try.prog (.seq (headC (beT 0)) (.seq (headC (beT 1)) (beT 2))) _ _ _;obtain⟨R,hR⟩:∃R,beT 2=R:=⟨_,rfl⟩;rw[hR];obtain⟨u_,hu_⟩:∃c,headC (beT 0)=c:=⟨_,rfl⟩;have eu_:=hu_;rw[hu_];simp only[beT,headC,tailN,Try.f14,al_od]at eu_;subst eu_;clear hu_;obtain⟨u_,hu_⟩:∃c,headC (beT 1)=c:=⟨_,rfl⟩;have eu_:=hu_;rw[hu_];simp only[beT,headC,tailN,Try.f14,al_od]at eu_;subst eu_;clear hu_
 go_wp2_with (fail)
 have hs1:(w.alloc (.cells #[.int .i64 op.k,.int .i64 op.a,.int .i64 op.b,.int .i64 op.c] 44)).heap.size=Z+1:=by rw[zq3,hZ]
 try rw[hZ]
 try rw[hs1]
 have hk1:Tch (λb=>b=gM) w ((w.alloc (.cells #[.int .i64 op.k,.int .i64 op.a,.int .i64 op.b,.int .i64 op.c] 44)).alloc (.cells #[.int .i64 who,.int .i64 op.k,.int .i64 op.a,.int .i64 1,.int .i64 0,.int .i64 0,.bool false,.bool false,.int .i64 0,.slice none 0 0] 52)):=((Tch.refl (λb=>b=gM) w).al _).al _;have h2:DmAt rb gm gM N e ms Ms ((w.alloc (.cells #[.int .i64 op.k,.int .i64 op.a,.int .i64 op.b,.int .i64 op.c] 44)).alloc (.cells #[.int .i64 who,.int .i64 op.k,.int .i64 op.a,.int .i64 1,.int .i64 0,.int .i64 0,.bool false,.bool false,.int .i64 0,.slice none 0 0] 52)):=H.out.1.more λb hb=>by rw[zq5,if_neg (by rw[zq3];omega),zq5,if_neg (by omega)]
 have hd2:EcAt rb gm gM N (Z+1) who e ms Ms (bgK0 op) (.slice none 0 0) ((w.alloc (.cells #[.int .i64 op.k,.int .i64 op.a,.int .i64 op.b,.int .i64 op.c] 44)).alloc (.cells #[.int .i64 who,.int .i64 op.k,.int .i64 op.a,.int .i64 1,.int .i64 0,.int .i64 0,.bool false,.bool false,.int .i64 0,.slice none 0 0] 52)):=⟨h2,by rw[<-hs1];exact zqo _ _⟩;have hz:((w.alloc (.cells #[.int .i64 op.k,.int .i64 op.a,.int .i64 op.b,.int .i64 op.c] 44)).alloc (.cells #[.int .i64 who,.int .i64 op.k,.int .i64 op.a,.int .i64 1,.int .i64 0,.int .i64 0,.bool false,.bool false,.int .i64 0,.slice none 0 0] 52)).heap[Z]?=some (.cells #[.int .i64 op.k,.int .i64 op.a,.int .i64 op.b,.int .i64 op.c] 44):=zqk (by rw[<-hZ];exact zqo _ _);clear h2 hs1;generalize (w.alloc (.cells #[.int .i64 op.k,.int .i64 op.a,.int .i64 op.b,.int .i64 op.c] 44)).alloc (.cells #[.int .i64 who,.int .i64 op.k,.int .i64 op.a,.int .i64 1,.int .i64 0,.int .i64 0,.bool false,.bool false,.int .i64 0,.slice none 0 0] 52)=w2 at hk1 hd2 hz |-;have z0:w2.cell? ⟨Z,0,none⟩=some (.int .i64 op.k):=(zq0 hz).trans rfl;have d2:=hd2.d.c.2.2;have m1:w2.cell? ⟨gM,who*2,none⟩=some (.bool b):=(zq0 hd2.d.mem).trans H.out.2.2.2.2;have fM:=zq6 (off:=who*2) hd2.d.mem;have hk:=HKK.out;have hb:=HBB.out;rw[hk]at z0;have HK:=Lib.hid (And.intro hd2 hk1);clear hz;rw[<-hR];clear hR R;simp only[beT,headC,tailN,Try.f14,al_od];have HE:=Lib.hid (zq1h hd2.c false 0);clear hd2 hk1
 go_wp2_with (fail)
 go_ret;refine⟨Z+1,rfl,by rw[hZ];exact Nat.le_succ _,?_,HK.out.2⟩;rw[H.out.2.2.1,H.out.2.2.2.1];exact HK.out.1
theorem zqft(h:DmAt rb gm gM N e ms Ms w)(hw:who<N)(hN:N<=64){op:OpX}{b:Bool}(hM:Ms[who*2]?=some (.bool b)):
 Calls Try.prog 14 #[.pointer (some ⟨rb,0,none⟩),.int .i64 who,op.val] w λe' w'=>zq1u rb gm gM N who e ms Ms op b w e' w':=by
 by_cases h1:op.k<1
 . exact zqfk h hw hN hM h1
 by_cases h2:5<op.k
 . exact zqfl h hw hN hM h2
 obtain k|k|k|k|k:op.k=1\/op.k=2\/op.k=3\/op.k=4\/op.k=5:=by omega
 . cases hb:b with
   |true=>subst hb;exact zqfm h hw hN hM k rfl
   |false=>subst hb;exact zqfn h hw hN hM k rfl
 . cases hb:b with
   |true=>subst hb;exact zqfo h hw hN hM k rfl
   |false=>subst hb;exact zqfp h hw hN hM k rfl
 . exact zqfq h hw hN hM k
 . exact zqfr h hw hN hM k
 . exact zqfs h hw hN hM k
end
structure CoR(w:World)(cb who:Nat)(K:CR)(e:Int)(l:List (Int×Int))(dv lv:Value)(wr:World):Prop where
 be:Tch (λb=>b=cb) w wr
 c:CrAt cb who K dv wr
 done:wr.ownsRow w.heap.size 2 1 dv (doneL e l).length ((doneL e l).map (Value.int .i64))
 left:wr.ownsRow w.heap.size 117 2 lv (leftL e l).length (thC (leftL e l))
section
variable {w wr:World} {cb who:Nat} {K:CR} {e:Int} {l:List (Int×Int)} {dv lv:Value}
theorem CoR.more (h:CoR w cb who K e l dv lv wr){w':World}(hs:wr.heap.size<=w'.heap.size)(ho:∀b,b<wr.heap.size->w'.heap[b]?=wr.heap[b]?):CoR w cb who K e l dv lv w':=
 ⟨h.be.trans ⟨hs,λb hb _=>ho b hb⟩,(ho _ (zqc h.c)).trans h.c,zqj h.done λg hg=>ho g (own_lt h.done hg).2.2,zqj h.left λg hg=>ho g (own_lt h.left hg).2.2⟩
theorem CoR.drew (h:CoR w cb who K e l dv lv wr)(n:Nat):CoR w cb who K e l dv lv (wr.drewN n):=h.more (Nat.le_refl _) λ_ _=>rfl
theorem CoR.hit {l':List (Int×Int)}{x:Int}{W w7:World}{g7 n cap7:Nat}(h:CoR w cb who K e l dv lv wr)(hcb:cb<w.heap.size)(h1:doneL e l'=doneL e l++[x])(h2:leftL e l'=leftL e l)
 (hW:∀b,b<wr.heap.size->W.heap[b]?=wr.heap[b]?) (hWs:wr.heap.size<=W.heap.size)
 (ho:w7.ownsRow w.heap.size 2 1 (.slice (some ⟨g7,0,none⟩) n cap7) (doneL e l').length ((doneL e l').map (Value.int .i64))) (hg:W.grownBy w7 dv.ownBlock):CoR w cb who K e l' (.slice (some ⟨g7,0,none⟩) n cap7) lv (w7.setCell ⟨cb,9,none⟩ (.slice (some ⟨g7,0,none⟩) n cap7)):=by
 have hs7:=hg.size;have hk:∀b,b<wr.heap.size->dv.ownBlock≠some b->w7.heap[b]?=wr.heap[b]?:=λb hb hn=>(hg.block b (by omega) λe=>hn e.symm).trans (hW b hb);have hc7:CrAt cb who K dv w7:=(hk cb (zqc h.c) (λe=>by have:=(own_lt h.done e).2.1;omega)).trans h.c;have hgc:∀b,(Value.slice (some ⟨g7,0,none⟩) n cap7).ownBlock=some b->b≠cb:=λb hb e=>by have:=(own_lt ho hb).2.1;omega
 refine⟨?_,hc7.set 9 _ rfl,zqj ho λg hg'=>zq8 _ _ _ _ (hgc g hg'),?_⟩
 . have h77:Tch (λb=>b=cb) w w7:=⟨by have:=h.be.size;omega,λb hb hs=>(hk b (Nat.lt_of_lt_of_le hb h.be.size) (λe=>by have:=(own_lt h.done e).2.1;omega)).trans (h.be.old b hb hs)⟩;exact h77.set rfl _ _
 . rw[h2];refine zqj h.left λb hb=>?_;obtain⟨⟨cc,hcc⟩,hlo,hlt⟩:=own_lt h.left hb;rw[zq8 _ _ _ _ (by show b≠cb;omega)];exact hk b hlt (zqx h.done hcc (by decide))
theorem CoR.miss {l':List (Int×Int)}{x:Int×Int}{W w7:World}{g7 n cap7:Nat}(h:CoR w cb who K e l dv lv wr)(hcb:cb<w.heap.size)(h1:doneL e l'=doneL e l)(h2:leftL e l'=leftL e l++[x])
 (hW:∀b,b<wr.heap.size->W.heap[b]?=wr.heap[b]?) (hWs:wr.heap.size<=W.heap.size)
 (ho:w7.ownsRow w.heap.size 117 2 (.slice (some ⟨g7,0,none⟩) n cap7) (leftL e l').length (thC (leftL e l'))) (hg:W.grownBy w7 lv.ownBlock):CoR w cb who K e l' dv (.slice (some ⟨g7,0,none⟩) n cap7) w7:=by
 have hs7:=hg.size;have hk:∀b,b<wr.heap.size->lv.ownBlock≠some b->w7.heap[b]?=wr.heap[b]?:=λb hb hn=>(hg.block b (by omega) λe=>hn e.symm).trans (hW b hb);refine⟨⟨by have:=h.be.size;omega,λb hb hs=>?_⟩,(hk cb (zqc h.c) (λe=>by have:=(own_lt h.left e).2.1;omega)).trans h.c,?_,ho⟩
 . exact(hk b (Nat.lt_of_lt_of_le hb h.be.size) (λe=>by have:=(own_lt h.left e).2.1;omega)).trans (h.be.old b hb hs)
 . rw[h1];refine zqj h.done λb hb=>?_;obtain⟨⟨cc,hcc⟩,hlo,hlt⟩:=own_lt h.done hb;exact hk b hlt (zqx h.left hcc (by decide))
end
section
variable {cb who:Nat} {K:CR} {lv:Value} {w:World} {rb gm gM N:Nat} {e:Int} {ms Ms:Array Value}
def CoPost(rb gm gM N cb who:Nat)(e:Int)(ms Ms:Array Value)(K:CR)(l:List (Int×Int))(w:World)(e':Ending)(w':World):Prop:=
 e'=.returned (.tuple #[])/\∃dv hv,EcAt rb gm gM N cb who e ms (Ms.setIfInBounds (who*2+1) hv) (K.fin true 0) dv w'/\w'.ownsRow w.heap.size 2 1 dv (doneL e l).length ((doneL e l).map (Value.int .i64))/\w'.ownsRow w.heap.size 117 2 hv (leftL e l).length (thC (leftL e l))/\Tch (TcE gm gM cb rb) w w'
theorem zqfu(h:EcAt rb gm gM N cb who e ms Ms K (.slice none 0 0) w)(hw:who<N)(hN:N<=64){p:Option Addr}{C:Nat}{l:List (Int×Int)}(hM:Ms[who*2+1]?=some (.slice p l.length C))(hl:l.length<=1048576)
 (hx:∀j x,l[j]?=some x->∃g,p=some ⟨g,0,none⟩/\g≠cb/\w.cell? ⟨g,j*2,none⟩=some (.int .i64 x.1)/\w.cell? ⟨g,j*2+1,none⟩=some (.int .i64 x.2)):
 Calls Try.prog 44 #[.pointer (some ⟨rb,0,none⟩),.pointer (some ⟨cb,0,none⟩)] w λe' w'=>CoPost rb gm gM N cb who e ms Ms K l w e' w':=by
 obtain⟨n1,n2,n3,n4,n5,n6⟩:=h.ne;obtain⟨d0,d1,d2⟩:=h.d.c;obtain⟨c0,-,-,-,-,-,-,-,-,c9⟩:=h.c.c;have m1:w.cell? ⟨gM,who*2+1,none⟩=some (.slice p l.length C):=(zq0 h.d.mem).trans hM;have g1:¬(who:Int)<0:=by omega
 have g2:(who:Int)<(N:Int):=by omega
 have g3:¬(N:Int)<=(who:Int):=by omega
 have g4:(0:Int)<=(who:Int):=by omega
 have hcb:cb<w.heap.size:=zqc h.c;have h0:RowKit.Hid (CoR w cb who K e (l.take 0) (.slice none 0 0) (.slice none 0 0) w):=Lib.hid ⟨Tch.refl _ w,h.c,World.ownsRow_nil _ _ _ _,World.ownsRow_nil _ _ _ _⟩;have H:=Lib.hid (And.intro h (And.intro hM (And.intro hl hcb)));have HT:=Lib.hid hx;have HNE:=Lib.hid (And.intro n1 (And.intro n2 (And.intro n3 (And.intro n4 (And.intro n5 n6)))));clear h hM hx hcb n1 n2 n3 n4 n5 n6;obtain⟨L,hL⟩:∃L,l.length=L:=⟨_,rfl⟩;rw[hL]at m1 hl
 go_enter Try.func44,Try.ntmps44
 go_wp2_with (fail)
 go_quiet (fail)
 have hq0:RowKit.Hid (CoR w cb who K e (l.take 0) (.slice none 0 0) (.slice none 0 0) (w.drewN nq)):=Lib.hid (h0.out.drew nq);clear h0 d0 d1 d2 c0 c9 m1
 go_wp2_with (fail)
 go_loopg [4,6] L (λq s4 s6 wr=>∃(j:Nat)(dv lv:Value),lv=s4/\s6=.int .i64 j/\q=L - j/\j<=L/\CoR w cb who K e (l.take j) dv lv wr)
 case atStart=>exact⟨0,_,_,rfl,rfl,rfl,Nat.zero_le _,hq0.out⟩
 case round=>
  obtain⟨j,dv,lv,rfl,rfl,hq,hj,hR⟩:=hrel;have hrb:wr.heap[rb]?=w.heap[rb]?:=hR.be.old rb (zqc H.out.1.d.dom) HNE.out.2.2.1;have d0:wr.cell? ⟨rb,0,none⟩=some (.int .i64 e):=(zqu hrb).trans H.out.1.d.c.1;have HR:=Lib.hid (And.intro hR hrb);clear hR hrb
  by_cases hlt:j<L
  . have hlt':(j:Int)<(L:Int):=by omega
    have hj0:(0:Int)<=j:=by omega
    obtain⟨x,hxj⟩:∃x,l[j]?=some x:=⟨_,List.getElem?_eq_getElem (by omega)⟩;obtain⟨g,rfl,gne,t1,t2⟩:=HT.out j x hxj;have t1':wr.cell? ⟨g,j*2,none⟩=some (.int .i64 x.1):=(zqu (HR.out.1.be.old g (cell_lt t1) gne)).trans t1;have t2':wr.cell? ⟨g,j*2+1,none⟩=some (.int .i64 x.2):=(zqu (HR.out.1.be.old g (cell_lt t2) gne)).trans t2;have HJ:=Lib.hid (And.intro hxj (And.intro hlt hq));clear t1 t2 hxj hq gne
    by_cases hc:x.2<=wrap64 (e - 2)
    . have ho:oldT e x=true:=decide_eq_true hc;have HO:=Lib.hid (And.intro (zq7q HJ.out.1 ho) ho);clear ho;obtain⟨dp,dc,rfl,_⟩:=zq1b HR.out.1.done;obtain⟨DL,hDL⟩:∃x,doneL e (l.take j)=x:=⟨_,rfl⟩;obtain⟨dl,hdl⟩:∃x,DL.length=x:=⟨_,rfl⟩;have HLN:RowKit.Hid (dl<=1048576/\j<L):=Lib.hid ⟨by rw[<-hdl,<-hDL];exact Nat.le_trans (zq3e e _).1 (Nat.le_trans (by simp;omega) hl),HJ.out.2.1⟩;obtain⟨tj,htj,hy0,hy1,hy2⟩:∃ti,Try.prog.info? 2=some ti/\ti.zero=some (.int .i64 0)/\ti.size=1/\ti.bytes=8:=⟨_,rfl,rfl,rfl,rfl⟩;have hund:Try.prog.underlying 22=some (.slice 2):=by kernel_rfl
      have TJ:=Lib.hid (And.intro htj (And.intro hy0 (And.intro hy1 (And.intro hy2 hund))));clear htj hy0 hy1 hy2 hlt hund
      go_wp2_with (fail)
      go_quiet (fail)
      have hR5:=HR.out.1.drew nq;have d05:(wr.drewN nq).cell? ⟨rb,0,none⟩=some (.int .i64 e):=d0;have t15:(wr.drewN nq).cell? ⟨g,j*2,none⟩=some (.int .i64 x.1):=t1';have t25:(wr.drewN nq).cell? ⟨g,j*2+1,none⟩=some (.int .i64 x.2):=t2';clear d0 t1' t2';generalize wr.drewN nq=w5 at hR5 d05 t15 t25 |-;rw[hDL]at hR5;obtain⟨H5,hH5⟩:∃x,w5.heap.size=x:=⟨_,rfl⟩;have c9:w5.cell? ⟨cb,9,none⟩=some (.slice dp dl dc):=by rw[<-hdl];exact hR5.c.c.2.2.2.2.2.2.2.2.2
      have c9a:∀o:Obj,(w5.alloc o).cell? ⟨cb,9,none⟩=some (.slice dp dl dc):=λo=>by rw[<-hdl];exact(zq0 (zqk (o:=o) hR5.c)).trans rfl
      have t15a:∀o:Obj,(w5.alloc o).cell? ⟨g,j*2,none⟩=some (.int .i64 x.1):=λo=>(zqu (by rw[zq5,if_neg (Nat.ne_of_lt (cell_lt t15))])).trans t15;have hrow:(w5.alloc (.cells #[.int .i64 x.1] 2)).drew.ownsRow w.heap.size 2 1 (.slice dp dl dc) dl (DL.map (Value.int .i64)):=by
       rw[<-hdl];have:=zq1d hR5.done (.cells #[.int .i64 x.1] 2);rw[hDL]at this;exact this
      have hnw:∀jj u,[Value.int .i64 x.1][jj]?=some u->(w5.alloc (.cells #[.int .i64 x.1] 2)).drew.cell? ((⟨H5,0,none⟩:Addr).add jj)=some u:=λjj u hj=>zq43 (w:=w5) (cs:=#[.int .i64 x.1]) (T:=2) hH5 jj u hj;have hvk:∀w2,((w5.alloc (.cells #[.int .i64 x.1] 2)).drew).grownBy w2 (Value.slice dp dl dc).ownBlock->w2.heap[cb]?=some (.cells (crC who K (.slice dp dl dc)) 52):=λw2 hg=>by
       have h1:(w5.alloc (.cells #[.int .i64 x.1] 2)).drew.heap[cb]?=some (.cells (crC who K (.slice dp dl dc)) 52):=by rw[<-hdl];exact zqk (o:=.cells #[.int .i64 x.1] 2) hR5.c
       refine(hg.block cb (zqc h1) (λe=>?_)).trans h1;have hh:=zqx hrow h1 (by decide);exact hh e.symm
      have HX:=Lib.hid (And.intro hrow (And.intro hnw (And.intro hvk hH5)));have HR5:=Lib.hid (And.intro hR5 (And.intro hDL hdl));clear hrow hnw hvk hR5 d05 t25
      go_wp2_with (fail)
      go_region_law (first
       |(refine step_append_lies _ rfl (.tmp 40) (.tmp 46) 22 rfl w.heap.size 2 tj _ 1 8 TJ.out.2.2.2.2 TJ.out.1 TJ.out.2.1 TJ.out.2.2.1 TJ.out.2.2.2.1 rfl (by decide) (.slice dp dl dc) dl (DL.map (Value.int .i64)) rfl HX.out.1 ⟨H5,0,none⟩ 1 1 [.int .i64 x.1] rfl rfl HX.out.2.1 ?_ Nat.one_pos ?_ ?_ ?_ (H5+1) ?_ ?_
         . intro u hu;simp only[List.mem_cons,List.not_mem_nil,or_false]at hu;subst hu;rfl
         . have:=HLN.out.1;simp only[maxLen];omega
         . have:=HLN.out.1;omega
         . have h1:=HR5.out.1.be.size;show _<=(w5.alloc _).heap.size;rw[zq3];omega
         . show(w5.alloc _).heap.size=_;rw[zq3,HX.out.2.2.2]
         intro g7 cap7 w7 k1 k2 k3 k4;have HK:=Lib.hid (And.intro k1 k2);have cS:w7.cell? ⟨cb,9,none⟩=some (.slice dp dl dc):=(zq0 (HX.out.2.2.1 _ k2)).trans rfl;have fS:=zq6 (off:=9) (HX.out.2.2.1 _ k2);clear k1 k2 k3 k4))
      all_goals(
       have e1:doneL e (l.take (j+1))=DL++[x.1]:=HO.out.1.1.trans (by rw[HR5.out.2.1]);have ho':w7.ownsRow w.heap.size 2 1 (.slice (some ⟨g7,0,none⟩) (dl+1) cap7) (doneL e (l.take (j+1))).length ((doneL e (l.take (j+1))).map (Value.int .i64)):=by
        rw[e1,List.length_append,List.map_append,HR5.out.2.2];exact HK.out.1
       have hg':((w5.alloc (.cells #[.int .i64 x.1] 2)).drew).grownBy w7 (Value.slice dp DL.length dc).ownBlock:=by rw[HR5.out.2.2];exact HK.out.2
       have HR7:=Lib.hid (HR5.out.1.hit (l':=l.take (j+1)) H.out.2.2.2 HO.out.1.1 HO.out.1.2 (λb hb=>by show(w5.alloc _).heap[b]?=_;rw[zq5,if_neg (by omega)]) (by show _<=(w5.alloc _).heap.size;rw[zq3];omega) ho' hg');clear e1 ho' hg' cS fS HK HX HR5 c9 c9a t15 t15a;generalize w7.setCell ⟨cb,9,none⟩ (.slice (some ⟨g7,0,none⟩) (dl+1) cap7)=w8 at HR7 |-
       go_wp2_with (fail)
       go_roundg (L - (j+1))
       case measure=>have:=HJ.out.2.2;have:=HJ.out.2.1;omega
       case rel=>exact⟨j+1,_,_,rfl,congrArg (Value.int .i64) (by first|omega |(simp only[wrap64];omega)),rfl,HLN.out.2,HR7.out⟩)
    . have ho:oldT e x=false:=decide_eq_false hc;have HO:=Lib.hid (And.intro (zq7r HJ.out.1 ho) ho);clear ho;obtain⟨lp,lc,rfl,_⟩:=zq1b HR.out.1.left;obtain⟨DL,hDL⟩:∃x,leftL e (l.take j)=x:=⟨_,rfl⟩;obtain⟨dl,hdl⟩:∃x,DL.length=x:=⟨_,rfl⟩;have HLN:RowKit.Hid (dl<=1048576/\j<L):=Lib.hid ⟨by rw[<-hdl,<-hDL];exact Nat.le_trans (zq3e e _).2 (Nat.le_trans (by simp;omega) hl),HJ.out.2.1⟩;obtain⟨tj,htj,hy0,hy1,hy2⟩:∃ti,Try.prog.info? 117=some ti/\ti.zero=some (.agg #[.int .i64 0,.int .i64 0])/\ti.size=2/\ti.bytes=16:=⟨_,rfl,rfl,rfl,rfl⟩;have TJ:=Lib.hid (And.intro htj (And.intro hy0 (And.intro hy1 hy2)));clear htj hy0 hy1 hy2 hlt
      go_wp2_with (fail)
      go_quiet (fail)
      have hR5:=HR.out.1.drew nq;have d05:(wr.drewN nq).cell? ⟨rb,0,none⟩=some (.int .i64 e):=d0;have t15:(wr.drewN nq).cell? ⟨g,j*2,none⟩=some (.int .i64 x.1):=t1';have t25:(wr.drewN nq).cell? ⟨g,j*2+1,none⟩=some (.int .i64 x.2):=t2';clear d0 t1' t2';generalize wr.drewN nq=w5 at hR5 d05 t15 t25 |-;rw[hDL]at hR5;have hrow:∀o:Obj,(w5.alloc o).ownsRow w.heap.size 117 2 (.slice lp dl lc) dl (thC DL):=λo=>by
       rw[<-hdl];have:=zq1d hR5.left o;rw[hDL]at this;exact this
      obtain⟨H5,hH5⟩:∃x,w5.heap.size=x:=⟨_,rfl⟩;have hnw:∀jj u,[Value.int .i64 x.1,Value.int .i64 x.2][jj]?=some u->(w5.alloc (.cells #[.int .i64 x.1,.int .i64 x.2] 117)).cell? ((⟨H5,0,none⟩:Addr).add jj)=some u:=λjj u hj=>zq43 (w:=w5) (cs:=#[.int .i64 x.1,.int .i64 x.2]) (T:=117) hH5 jj u hj;have HX:=Lib.hid (And.intro hrow (And.intro hnw hH5));have HR5:=Lib.hid (And.intro hR5 (And.intro hDL hdl));clear hrow hnw hR5 d05
      try rw[hDL,hdl]
      go_wp2_with (at_builtin;go_loud (refine wpList_append_lies _ rfl (.tmp 51) (.tmp 56) 113 rfl w.heap.size 117 tj (.agg #[.int .i64 0,.int .i64 0]) 2 16 (by kernel_rfl) TJ.out.1 TJ.out.2.1 TJ.out.2.2.1 TJ.out.2.2.2 rfl (by decide) (.slice lp dl lc) dl (thC DL) rfl (HX.out.1 _) ⟨H5,0,none⟩ 1 1 [.int .i64 x.1,.int .i64 x.2] rfl rfl HX.out.2.1 (λu hu=>by simp only[List.mem_cons,List.not_mem_nil,or_false]at hu;rcases hu with rfl |rfl<;>rfl) (by decide) (by simp only[maxLen];have:=HLN.out.1;omega) (by have:=HLN.out.1;omega) (by rw[zq3];have:=HR5.out.1.be.size;omega) (H5+1) (by rw[zq3,HX.out.2.2]) ?next))
      case next=>
       intro g7 cap7 w7 k1 k2 k3 k4;have HK:=Lib.hid (And.intro k1 k2);clear k1 k2 k3 k4;have e1:leftL e (l.take (j+1))=DL++[x]:=HO.out.1.2.trans (by rw[HR5.out.2.1]);have ho':w7.ownsRow w.heap.size 117 2 (.slice (some ⟨g7,0,none⟩) (dl+1) cap7) (leftL e (l.take (j+1))).length (thC (leftL e (l.take (j+1)))):=by
        rw[e1,List.length_append,zq5i,HR5.out.2.2];exact HK.out.1
       have hg':(w5.alloc (.cells #[.int .i64 x.1,.int .i64 x.2] 117)).grownBy w7 (Value.slice lp DL.length lc).ownBlock:=by rw[HR5.out.2.2];exact HK.out.2
       have HR7:=Lib.hid (HR5.out.1.miss (l':=l.take (j+1)) H.out.2.2.2 HO.out.1.1 HO.out.1.2 (λb hb=>by rw[zq5,if_neg (by omega)]) (by rw[zq3];omega) ho' hg');clear e1 ho' hg' HK HX HR5 t15 t25
       go_wp2_with (fail)
       go_roundg (L - (j+1))
       case measure=>have:=HJ.out.2.2;have:=HJ.out.2.1;omega
       case rel=>exact⟨j+1,_,_,rfl,congrArg (Value.int .i64) (by first|omega |(simp only[wrap64];omega)),rfl,HLN.out.2,HR7.out⟩
  . have hjL:j=l.length:=by omega
    have hjL2:j=L:=by omega
    have e1:l.take j=l:=by rw[hjL];exact List.take_length
    rw[e1]at HR;have hjj:¬(j:Int)<(L:Int):=by omega
    obtain⟨lp,lc,rfl,_⟩:=zq1b HR.out.1.left;obtain⟨ls,hls⟩:∃x,(leftL e l).length=x:=⟨_,rfl⟩;rw[hls]at HR |-;have HLS:=Lib.hid hls;clear hls;have hd:DmAt rb gm gM N e ms Ms wr:=H.out.1.d.tch HR.out.1.be HNE.out.2.2.1 HNE.out.2.2.2.2.1 HNE.out.2.2.2.2.2;have hE:EcAt rb gm gM N cb who e ms Ms K dv wr:=⟨hd,HR.out.1.c⟩;have d2:=hd.c.2.2;have c0:=hE.c.c.1;have m1:wr.cell? ⟨gM,who*2+1,none⟩=some (.slice p l.length C):=(zq0 hd.mem).trans H.out.2.1;have fM:=zq6 (off:=who*2+1) hd.mem;have HE:=Lib.hid hE;clear hd hE hjL d0 hq0 hlt hj hq e1 hjL2
    go_wp2_with (fail)
    refine zq2u (k:=11) (C:=λw'=>∃n,w'=wr.drewN n) (by kernel_rfl) (by kernel_rfl) (by kernel_rfl) (by kernel_rfl) (by kernel_rfl) ⟨1,rfl⟩ ?_;simp only[List.take_succ_cons,List.take_zero]
    repeat (quiet_step (fail))
    refine wpQuiet_nil ?_;rintro _ ⟨nr,rfl⟩;refine zq1c (i:=11) (by kernel_rfl) ?_;simp only[wpOp,al_gl,al_g0,al_g1];rw[if_pos (by rfl)];refine .inl ?_;have fM':(wr.drewN nr).frozen? ⟨gM,who*2+1,none⟩=false:=fM;have m1':(wr.drewN nr).cell? ⟨gM,who*2+1,none⟩=some (.slice p l.length C):=m1;clear fM m1 d2 c0;go_simp;refine zq1o (by kernel_rfl) ?_;have h2:=(HE.out.drew nr).setI (who*2+1) (.slice lp ls lc);have k2:Tch (TcE gm gM cb rb) w ((wr.drewN nr).setCell ⟨gM,who*2+1,none⟩ (.slice lp ls lc)):=Tch.set (w:=wr.drewN nr) ((HR.out.1.be.mono λb hb=>.inr (.inr (.inl hb))).trans ⟨Nat.le_refl _,λ_ _ _=>rfl⟩) (b:=gM) (.inr (.inl rfl)) _ _;have r1:((wr.drewN nr).setCell ⟨gM,who*2+1,none⟩ (.slice lp ls lc)).ownsRow w.heap.size 2 1 dv (doneL e l).length ((doneL e l).map (Value.int .i64)):=zqj HR.out.1.done λg hg=>zq8 _ _ _ _ (by have:=(own_lt HR.out.1.done hg).2.1;have:=zqc H.out.1.d.mem;show g≠gM;omega);have r2:((wr.drewN nr).setCell ⟨gM,who*2+1,none⟩ (.slice lp ls lc)).ownsRow w.heap.size 117 2 (.slice lp ls lc) (leftL e l).length (thC (leftL e l)):=zqj HR.out.1.left λg hg=>zq8 _ _ _ _ (by have:=(own_lt HR.out.1.left hg).2.1;have:=zqc H.out.1.d.mem;show g≠gM;omega);clear fM' m1';generalize (wr.drewN nr).setCell ⟨gM,who*2+1,none⟩ (.slice lp ls lc)=w2 at h2 k2 r1 r2 |-;have HF:=Lib.hid (zq1h h2.c true 0);have H2:=Lib.hid (And.intro h2 (And.intro k2 (And.intro r1 r2)));clear h2 k2 r1 r2
    go_wp2_with (fail)
    refine Calls.mono HF.out ?_;rintro e' w' ⟨rfl,k3,k4⟩;have H3:=Lib.hid (And.intro k3 k4);clear k3 k4;go_wp2
    go_end0
    have hcb:=H.out.2.2.2;refine⟨rfl,dv,(.slice lp ls lc),H2.out.1.fin H3.out.2 H3.out.1,zqj H2.out.2.2.1 λg hg=>H3.out.2.old g (own_lt H2.out.2.2.1 hg).2.2 (by have:=(own_lt H2.out.2.2.1 hg).2.1;omega),zqj H2.out.2.2.2 λg hg=>H3.out.2.old g (own_lt H2.out.2.2.2 hg).2.2 (by have:=(own_lt H2.out.2.2.2 hg).2.1;omega),H2.out.2.1.trans (H3.out.2.mono λb hb=>.inr (.inr (.inl hb)))⟩
end
section
variable {cb who:Nat} {K:CR} {lv:Value} {w:World} {rb gm gM N:Nat} {e:Int} {ms Ms:Array Value}
theorem zq96{P:World->Prop}(h:EcAt rb gm gM N cb who e ms Ms K lv w)(hk:K.k=1)(hE:Calls Try.prog 42 #[.pointer (some ⟨rb,0,none⟩),.pointer (some ⟨cb,0,none⟩)] w λe' w'=>e'=.returned (.tuple #[])/\P w'):
 Calls Try.prog 15 #[.pointer (some ⟨rb,0,none⟩),.pointer (some ⟨cb,0,none⟩)] w λe' w'=>e'=.returned (.tuple #[])/\P w':=by
 obtain⟨-,-,-⟩:=h.d.c;obtain⟨-,c1,-,-,-,-,-,-,-,-⟩:=h.c.c;rw[hk]at c1;have HE:=Lib.hid hE;clear hE h
 go_enter Try.func15,Try.ntmps15
 go_wp2_with (fail)
 refine Calls.mono HE.out ?_;rintro e' w' ⟨rfl,hp⟩;have HP:=Lib.hid hp;clear hp c1;go_wp2
 go_end0
 exact⟨rfl,HP.out⟩
theorem zq5a{P:World->Prop}(h:EcAt rb gm gM N cb who e ms Ms K lv w)(hk:K.k=4)(hE:Calls Try.prog 43 #[.pointer (some ⟨rb,0,none⟩),.pointer (some ⟨cb,0,none⟩)] w λe' w'=>e'=.returned (.tuple #[])/\P w'):
 Calls Try.prog 15 #[.pointer (some ⟨rb,0,none⟩),.pointer (some ⟨cb,0,none⟩)] w λe' w'=>e'=.returned (.tuple #[])/\P w':=by
 obtain⟨-,-,-⟩:=h.d.c;obtain⟨-,c1,-,-,-,-,-,-,-,-⟩:=h.c.c;rw[hk]at c1;have HE:=Lib.hid hE;clear hE h
 go_enter Try.func15,Try.ntmps15
 go_wp2_with (fail)
 refine Calls.mono HE.out ?_;rintro e' w' ⟨rfl,hp⟩;have HP:=Lib.hid hp;clear hp c1;go_wp2
 go_end0
 exact⟨rfl,HP.out⟩
theorem zqg8{P:World->Prop}(h:EcAt rb gm gM N cb who e ms Ms K lv w)(hk:K.k=5)(hE:Calls Try.prog 44 #[.pointer (some ⟨rb,0,none⟩),.pointer (some ⟨cb,0,none⟩)] w λe' w'=>e'=.returned (.tuple #[])/\P w'):
 Calls Try.prog 15 #[.pointer (some ⟨rb,0,none⟩),.pointer (some ⟨cb,0,none⟩)] w λe' w'=>e'=.returned (.tuple #[])/\P w':=by
 obtain⟨-,-,-⟩:=h.d.c;obtain⟨-,c1,-,-,-,-,-,-,-,-⟩:=h.c.c;rw[hk]at c1;have HE:=Lib.hid hE;clear hE h
 go_enter Try.func15,Try.ntmps15
 go_wp2_with (fail)
 refine Calls.mono HE.out ?_;rintro e' w' ⟨rfl,hp⟩;have HP:=Lib.hid hp;clear hp c1;go_wp2
 go_end0
 exact⟨rfl,HP.out⟩
theorem zqg6(h:EcAt rb gm gM N cb who e ms Ms K lv w)(hk:K.k=2)(hw:who<N)(hN:N<=64){x:Int}(hm:ms[who]?=some (.int .i64 x)):
 Calls Try.prog 15 #[.pointer (some ⟨rb,0,none⟩),.pointer (some ⟨cb,0,none⟩)] w λe' w'=>e'=.returned (.tuple #[])/\EcAt rb gm gM N cb who e (ms.setIfInBounds who (.int .i64 0)) Ms (K.fin true 0) lv w'/\Tch (TcE gm gM cb rb) w w':=by
 obtain⟨-,d1,-⟩:=h.d.c;obtain⟨c0,c1,-,-,-,-,-,-,-,-⟩:=h.c.c;rw[hk]at c1;have m0:w.cell? ⟨gm,who,none⟩=some (.int .i64 x):=(zq0 h.d.mar).trans hm;have fm:=zq6 (off:=who) h.d.mar;have g1:¬(who:Int)<0:=by omega
 have g2:(who:Int)<(N:Int):=by omega
 have g3:¬(N:Int)<=(who:Int):=by omega
 have g4:(0:Int)<=(who:Int):=by omega
 have H:=Lib.hid h;clear h hm hw
 go_enter Try.func15,Try.ntmps15
 go_wp2_with (fail)
 refine zq2u (k:=9) (C:=λw'=>∃n,w'=w.drewN n) (by kernel_rfl) (by kernel_rfl) (by kernel_rfl) (by kernel_rfl) (by kernel_rfl) ⟨1,rfl⟩ ?_;simp only[List.take_succ_cons,List.take_zero]
 repeat (quiet_step (fail))
 refine wpQuiet_nil ?_;rintro _ ⟨nq,rfl⟩;refine zq1c (i:=9) (by kernel_rfl) ?_;simp only[wpOp,al_gl,al_g0,al_g1];rw[if_pos (by rfl)];refine .inl ?_;have fm':(w.drewN nq).frozen? ⟨gm,who,none⟩=false:=fm;have m0':(w.drewN nq).cell? ⟨gm,who,none⟩=some (.int .i64 x):=m0;clear fm m0 d1 c0 c1;go_simp;refine zq1o (by kernel_rfl) ?_;have h1:=(H.out.drew nq).setM who (.int .i64 0);have k1:=((Tch.refl (TcE gm gM cb rb) _).drew nq).set (w:=w.drewN nq) (b:=gm) (.inl rfl) who (.int .i64 0);clear fm' m0';generalize (w.drewN nq).setCell ⟨gm,who,none⟩ (.int .i64 0)=w1 at h1 k1 |-;have HE:=Lib.hid (zq1h h1.c true 0);have H1:=Lib.hid (And.intro h1 k1);clear h1 k1
 go_wp2_with (fail)
 refine Calls.mono HE.out ?_;rintro e' w' ⟨rfl,k3,k4⟩;have H3:=Lib.hid (And.intro k3 k4);clear k3 k4;go_wp2
 go_end0
 exact⟨rfl,H1.out.1.fin H3.out.2 H3.out.1,H1.out.2.trans (H3.out.2.mono λb hb=>.inr (.inr (.inl hb)))⟩
def SameE(av av':Value)(w:World):Prop:=∀g,av'.ownBlock=some g->av.ownBlock=some g\/w.heap.size<=g
def RtPost(B rb gm gM N cb who:Nat)(e:Int)(ms Ms:Array Value)(K:CR)(lv hv:Value)(l:List (Int×Int))(w:World)(e':Ending)(w':World):Prop:=
 e'=.returned (.tuple #[])/\∃hv',EcAt rb gm gM N cb who e ms (Ms.setIfInBounds (who*2+1) hv') (K.fin true e) lv w'/\w'.ownsRow B 117 2 hv' (l++[(K.a,e)]).length (thC (l++[(K.a,e)]))/\Tch (λb=>TcE gm gM cb rb b\/hv.ownBlock=some b) w w'/\SameE hv hv' w
theorem zqg7(h:EcAt rb gm gM N cb who e ms Ms K lv w)(hk:K.k=3)(hw:who<N)(hN:N<=64){B:Nat}{hv:Value}{l:List (Int×Int)}(hM:Ms[who*2+1]?=some hv)(hr:w.ownsRow B 117 2 hv l.length (thC l))(hB:B<=w.heap.size)(hl:l.length<=1048576):
 Calls Try.prog 15 #[.pointer (some ⟨rb,0,none⟩),.pointer (some ⟨cb,0,none⟩)] w λe' w'=>RtPost B rb gm gM N cb who e ms Ms K lv hv l w e' w':=by
 obtain⟨d0,-,d2⟩:=h.d.c;obtain⟨c0,c1,c2,-,-,-,-,-,-,-⟩:=h.c.c;rw[hk]at c1;obtain⟨p,C,rfl,_⟩:=zq1b hr;obtain⟨L,hL⟩:∃x,l.length=x:=⟨_,rfl⟩;have m1:w.cell? ⟨gM,who*2+1,none⟩=some (.slice p L C):=by rw[<-hL];exact(zq0 h.d.mem).trans hM
 have g1:¬(who:Int)<0:=by omega
 have g2:(who:Int)<(N:Int):=by omega
 have g3:¬(N:Int)<=(who:Int):=by omega
 have g4:(0:Int)<=(who:Int):=by omega
 have hf:gM≠cb:=h.ne.2.2.2.2.2;have H:=Lib.hid (And.intro h (And.intro hM (And.intro hr (And.intro hB (And.intro hL hl)))));clear h hM hw hr hB hf;rw[hL]at hl
 go_enter Try.func15,Try.ntmps15
 go_wp2_with (fail)
 go_quiet (fail)
 have h1:=H.out.1.drew nq;have r1:(w.drewN nq).ownsRow B 117 2 (.slice p l.length C) l.length (thC l):=H.out.2.2.1;have z1:(w.drewN nq).heap.size=w.heap.size/\∀b,b<w.heap.size->(w.drewN nq).heap[b]?=w.heap[b]?:=⟨rfl,λ_ _=>rfl⟩;clear d0 d2 c0 c1 c2 m1;generalize w.drewN nq=w1 at h1 r1 z1 |-;obtain⟨Z,hZ⟩:∃x,w1.heap.size=x:=⟨_,rfl⟩;obtain⟨d0,-,-⟩:=h1.d.c;obtain⟨-,-,c2,-,-,-,-,-,-,-⟩:=h1.c.c;have c2a:∀o:Obj,(w1.alloc o).cell? ⟨cb,2,none⟩=some (.int .i64 K.a):=λo=>(zq0 (zqk (o:=o) h1.c)).trans rfl;have d0a:∀o:Obj,(w1.alloc o).cell? ⟨rb,0,none⟩=some (.int .i64 e):=λo=>(zq0 (zqk (o:=o) h1.d.dom)).trans rfl;have hrow:(w1.alloc (.cells #[.int .i64 K.a,.int .i64 e] 117)).drew.ownsRow B 117 2 (.slice p L C) L (thC l):=by rw[<-hL];exact zq1d r1 (.cells #[.int .i64 K.a,.int .i64 e] 117)
 have hnw:∀jj u,[Value.int .i64 K.a,Value.int .i64 e][jj]?=some u->(w1.alloc (.cells #[.int .i64 K.a,.int .i64 e] 117)).drew.cell? ((⟨Z,0,none⟩:Addr).add jj)=some u:=λjj u hj=>zq43 (w:=w1) (cs:=#[.int .i64 K.a,.int .i64 e]) (T:=117) hZ jj u hj;obtain⟨tj,htj,hy0,hy1,hy2⟩:∃ti,Try.prog.info? 117=some ti/\ti.zero=some (.agg #[.int .i64 0,.int .i64 0])/\ti.size=2/\ti.bytes=16:=⟨_,rfl,rfl,rfl,rfl⟩;have hund:Try.prog.underlying 113=some (.slice 117):=by kernel_rfl
 have TJ:=Lib.hid (And.intro htj (And.intro hy0 (And.intro hy1 (And.intro hy2 hund))));have HX:=Lib.hid (And.intro hrow (And.intro hnw hZ));have H1:=Lib.hid (And.intro h1 (And.intro r1 z1));have HB:RowKit.Hid (B<=w1.heap.size/\L<=1048576):=Lib.hid ⟨by rw[z1.1];exact H.out.2.2.2.1,hl⟩;clear hrow hnw h1 r1 z1 htj hy0 hy1 hy2 hund
 go_wp2_with (fail)
 go_region_law (first
  |(refine step_append_lies _ rfl (.tmp 40) (.tmp 50) 113 rfl B 117 tj _ 2 16 TJ.out.2.2.2.2 TJ.out.1 TJ.out.2.1 TJ.out.2.2.1 TJ.out.2.2.2.1 rfl (by decide) (.slice p L C) L (thC l) rfl HX.out.1 ⟨Z,0,none⟩ 1 1 [.int .i64 K.a,.int .i64 e] rfl rfl HX.out.2.1 ?_ Nat.one_pos ?_ ?_ ?_ (Z+1) ?_ ?_
    . intro u hu;simp only[List.mem_cons,List.not_mem_nil,or_false]at hu;rcases hu with rfl |rfl<;>rfl
    . have:=HB.out.2;simp only[maxLen];omega
    . have:=HB.out.2;omega
    . have h1:=HB.out.1;show _<=(w1.alloc _).heap.size;rw[zq3];omega
    . show(w1.alloc _).heap.size=_;rw[zq3,HX.out.2.2]
    intro g7 cap7 w7 k1 k2 k3 k4;have HK:=Lib.hid (And.intro k1 (And.intro k2 k3));clear k1 k2 k3 k4))
 all_goals(
  have keep:∀b,b<w1.heap.size->(Value.slice p L C).ownBlock≠some b->w7.heap[b]?=w1.heap[b]?:=λb hb hn=>(HK.out.2.1.block b (by show b<(w1.alloc _).heap.size;rw[zq3];omega) (λe=>hn e.symm)).trans (by show(w1.alloc _).heap[b]?=_;rw[zq5,if_neg (by omega)]);have rr:w1.ownsRow B 117 2 (.slice p L C) L (thC l):=by rw[<-H.out.2.2.2.2.1];exact H1.out.2.1
  have h7:EcAt rb gm gM N cb who e ms Ms K lv w7:=⟨H1.out.1.d.of (keep _ (zqc H1.out.1.d.dom) (zqx rr H1.out.1.d.dom (by decide))) (keep _ (zqc H1.out.1.d.mar) (zqx rr H1.out.1.d.mar (by decide))) (keep _ (zqc H1.out.1.d.mem) (zqx rr H1.out.1.d.mem (by decide))),(keep _ (zqc H1.out.1.c) (zqx rr H1.out.1.c (by decide))).trans H1.out.1.c⟩;have k7:Tch (λb=>TcE gm gM cb rb b\/(Value.slice p L C).ownBlock=some b) w w7:=⟨by have:=HK.out.2.1.size;have h8:(w1.alloc (.cells #[.int .i64 K.a,.int .i64 e] 117)).drew.heap.size=w1.heap.size+1:=zq3 _ _;rw[h8,H1.out.2.2.1]at this;omega,λb hb hn=>(keep b (by rw[H1.out.2.2.1];exact hb) (λe=>hn (.inr e))).trans (H1.out.2.2.2 b hb)⟩;have s7:SameE (.slice p L C) (.slice (some ⟨g7,0,none⟩) (L+1) cap7) w:=λq hq=>by
   simp only[Value.ownBlock,al_oi]at hq;subst hq;rcases HK.out.2.2 with e|e
   . exact .inl e
   . right;have:=HX.out.2.2;have:=H1.out.2.2.1;omega
  clear keep rr;have d2:=h7.d.c.2.2;have d0:=h7.d.c.1;have c0:=h7.c.c.1;have m1:w7.cell? ⟨gM,who*2+1,none⟩=some (.slice p L C):=by rw[<-H.out.2.2.2.2.1];exact(zq0 h7.d.mem).trans H.out.2.1
  have fM:=zq6 (off:=who*2+1) h7.d.mem;have H7:=Lib.hid (And.intro h7 (And.intro k7 s7));clear h7 k7 s7 c2a d0a
  go_wp2_with (fail)
  refine zq2u (k:=11) (C:=λw'=>∃n,w'=w7.drewN n) (by kernel_rfl) (by kernel_rfl) (by kernel_rfl) (by kernel_rfl) (by kernel_rfl) ⟨1,rfl⟩ ?_;simp only[List.take_succ_cons,List.take_zero]
  repeat (quiet_step (fail))
  refine wpQuiet_nil ?_;rintro _ ⟨nr,rfl⟩;refine zq1c (i:=11) (by kernel_rfl) ?_;simp only[wpOp,al_gl,al_g0,al_g1];rw[if_pos (by rfl)];refine .inl ?_;have fM':(w7.drewN nr).frozen? ⟨gM,who*2+1,none⟩=false:=fM;have m1':(w7.drewN nr).cell? ⟨gM,who*2+1,none⟩=some (.slice p L C):=m1;clear fM m1 d2 c0 d0;go_simp;refine zq1o (by kernel_rfl) ?_;have h8:=(H7.out.1.drew nr).setI (who*2+1) (.slice (some ⟨g7,0,none⟩) (L+1) cap7);have k8:Tch (λb=>TcE gm gM cb rb b\/(Value.slice p L C).ownBlock=some b) w ((w7.drewN nr).setCell ⟨gM,who*2+1,none⟩ (.slice (some ⟨g7,0,none⟩) (L+1) cap7)):=Tch.set (w:=w7.drewN nr) (H7.out.2.1.drew nr) (b:=gM) (.inl (.inr (.inl rfl))) _ _;have r8:((w7.drewN nr).setCell ⟨gM,who*2+1,none⟩ (.slice (some ⟨g7,0,none⟩) (L+1) cap7)).ownsRow B 117 2 (.slice (some ⟨g7,0,none⟩) (L+1) cap7) (L+1) (thC l++[.int .i64 K.a,.int .i64 e]):=zqj HK.out.1 λq hq=>zq8 _ _ _ _ (by
   obtain⟨⟨cc,hcc⟩,_⟩:=own_lt HK.out.1 hq;exact zqf hcc H7.out.1.d.mem (by decide))
  clear fM' m1';generalize (w7.drewN nr).setCell ⟨gM,who*2+1,none⟩ (.slice (some ⟨g7,0,none⟩) (L+1) cap7)=w8 at h8 k8 r8 |-;have d0:=h8.d.c.1;have HF:=Lib.hid (zq1h h8.c true e);have H8:=Lib.hid (And.intro h8 (And.intro k8 r8));clear h8 k8 r8
  go_wp2_with (fail)
  refine Calls.mono HF.out ?_;rintro e' w' ⟨rfl,k3,k4⟩;have H3:=Lib.hid (And.intro k3 k4);clear k3 k4 d0;go_wp2
  go_end0
  refine⟨rfl,_,H8.out.1.fin H3.out.2 H3.out.1,?_,(by rw[H.out.2.2.2.2.1];exact H8.out.2.1.trans (H3.out.2.mono λb hb=>.inl (.inr (.inr (.inl hb))))),by rw[H.out.2.2.2.2.1];exact H7.out.2.2⟩;rw[List.length_append,zq5i,H.out.2.2.2.2.1];exact zqj H8.out.2.2 λq hq=>by
   obtain⟨⟨cc,hcc⟩,_,hlt⟩:=own_lt H8.out.2.2 hq;exact H3.out.2.old q hlt (zqf hcc H8.out.1.c (by decide)))
end
def zq18(C:EpS)(N:Nat):Array Value:=((List.range N).map λj=>Value.int .i64 (C.mark j)).toArray
def memR1(C:EpS)(hv:Nat->Value)(j:Nat):Value:=if j % 2=0 then .bool (C.ins (j / 2))else hv (j / 2)
def memR(C:EpS)(hv:Nat->Value)(N:Nat):Array Value:=((List.range (N*2)).map (memR1 C hv)).toArray
theorem zq3k{C:EpS}{N j:Nat}(h:j<N):(zq18 C N)[j]?=some (.int .i64 (C.mark j)):=by
 unfold zq18;rw[al_gl,List.getElem?_map,List.getElem?_range h];rfl
theorem zq61{C:EpS}{N j:Nat}(h:¬j<N):(zq18 C N)[j]?=none:=by unfold zq18;simp[h]
theorem zq42{C:EpS}{hv:Nat->Value}{N j:Nat}(h:j<N*2):(memR C hv N)[j]?=some (memR1 C hv j):=by
 unfold memR;rw[al_gl,List.getElem?_map,List.getElem?_range h];rfl
theorem zq64{C:EpS}{hv:Nat->Value}{N j:Nat}(h:¬j<N*2):(memR C hv N)[j]?=none:=by unfold memR;simp[h]
theorem zq8k{C:EpS}{hv:Nat->Value}{N i:Nat}(h:i<N):(memR C hv N)[i*2]?=some (.bool (C.ins i)):=by
 rw[zq42 (by omega)];unfold memR1;rw[if_pos (by omega),show i*2 / 2=i by omega]
theorem memR_hv{C:EpS}{hv:Nat->Value}{N i:Nat}(h:i<N):(memR C hv N)[i*2+1]?=some (hv i):=by
 rw[zq42 (by omega)];unfold memR1;rw[if_neg (by omega),show(i*2+1) / 2=i by omega]
theorem zq8j{C:EpS}{N i:Nat}(x:Int):(zq18 C N).setIfInBounds i (.int .i64 x)=zq18 (C.putM i x) N:=by
 apply Array.ext_getElem?;intro k;rw[al_gs]
 by_cases hk:k<N
 . rw[zq3k hk,zq3k hk]
   by_cases e:i=k
   . subst e;rw[if_pos rfl,if_pos (by unfold zq18;simpa using hk)];show _=some (Value.int .i64 (upd' C.mark i x i));rw[upd'_same]
   . rw[if_neg e];show _=some (Value.int .i64 (upd' C.mark i x k));rw[zqd _ _ (λh=>e h.symm)]
 . rw[zq61 hk,zq61 hk]
   by_cases e:i=k
   . subst e;rw[if_pos rfl,if_neg (by unfold zq18;simpa using hk)]
   . rw[if_neg e]
theorem zq8l{C C':EpS}{hv hv':Nat->Value}{N c:Nat}{v:Value}(hv1:memR1 C' hv' c=v)(ho:∀j,j≠c->memR1 C' hv' j=memR1 C hv j):(memR C hv N).setIfInBounds c v=memR C' hv' N:=by
 apply Array.ext_getElem?;intro k;rw[al_gs]
 by_cases hk:k<N*2
 . rw[zq42 hk,zq42 hk]
   by_cases e:c=k
   . subst e;rw[if_pos rfl,if_pos (by unfold memR;simpa using hk),hv1]
   . rw[if_neg e,ho k (λx=>e x.symm)]
 . rw[zq64 hk,zq64 hk]
   by_cases e:c=k
   . subst e;rw[if_pos rfl,if_neg (by unfold memR;simpa using hk)]
   . rw[if_neg e]
theorem zq8n{C:EpS}{hv:Nat->Value}{N i:Nat}(b:Bool):(memR C hv N).setIfInBounds (i*2) (.bool b)=memR (C.putI i b) hv N:=zq8l (by
 unfold memR1;rw[if_pos (by omega),show i*2 / 2=i by omega];show Value.bool (upd' C.ins i b i)=_;rw[upd'_same]) λj hj=>by
 unfold memR1;split
 . show Value.bool (upd' C.ins i b (j / 2))=_;rw[zqd _ _ (by omega)]
 . rfl
theorem zq8m{C C':EpS}{hv:Nat->Value}{N i:Nat}(v:Value)(hC:C'.ins=C.ins):(memR C hv N).setIfInBounds (i*2+1) v=memR C' (upd' hv i v) N:=zq8l (by
 unfold memR1;rw[if_neg (by omega),show(i*2+1) / 2=i by omega,upd'_same]) λj hj=>by
 unfold memR1;split
 . rw[hC]
 . rw[zqd _ _ (by omega)]
def noHv:Nat->Value:=λ_=>.slice none 0 0
theorem zqee(N:Nat)(hN:N<=64)(w:World):(Instr.makeSlice 22 (.int .i64 N) (.int .i64 N)).run Try.prog w=.ok (.slice (some ⟨w.heap.size,0,none⟩) N N) (w.alloc (.cells (zq18 (ep0 0) N) 2)):=by
 obtain⟨ti,hti,hz0,hz1,hz2⟩:∃ti,Try.prog.info? 2=some ti/\ti.zero=some (.int .i64 0)/\ti.size=1/\ti.bytes=8:=⟨_,rfl,rfl,rfl,rfl⟩;have:=run_make (P:=Try.prog) w 22 2 ti (.int .i64 0) (by kernel_rfl) hti hz0 .i64 .i64 N N (by omega) (Int.le_refl _) (by rw[hz2];omega) (by omega);simp only[Int.toNat_natCast,hz1]at this;rw[this];congr 3;apply Array.ext_getElem?;intro i
 by_cases hi:i<N
 . rw[zq3k hi];simp[madeCells,hi,Value.cells,ep0,Nat.mod_one]
 . rw[zq61 hi];simp[madeCells,hi]
theorem zqeg(N:Nat)(hN:N<=64)(w:World):(Instr.makeSlice 58 (.int .i64 N) (.int .i64 N)).run Try.prog w=.ok (.slice (some ⟨w.heap.size,0,none⟩) N N) (w.alloc (.cells (memR (ep0 0) noHv N) 115)):=by
 obtain⟨ti,hti,hz0,hz1,hz2⟩:∃ti,Try.prog.info? 115=some ti/\ti.zero=some (.agg #[.bool false,.slice none 0 0])/\ti.size=2/\ti.bytes=32:=⟨_,rfl,rfl,rfl,rfl⟩;have:=run_make (P:=Try.prog) w 58 115 ti (.agg #[.bool false,.slice none 0 0]) (by kernel_rfl) hti hz0 .i64 .i64 N N (by omega) (Int.le_refl _) (by rw[hz2];omega) (by omega);simp only[Int.toNat_natCast,hz1]at this;rw[this];congr 3;apply Array.ext_getElem?;intro i
 by_cases hi:i<N*2
 . rw[zq42 hi];have h3:i % 2=0\/i % 2=1:=by omega
   rcases h3 with h|h<;>simp[madeCells,hi,Value.cells,memR1,h,noHv,ep0]
 . rw[zq64 hi];simp[madeCells,hi]
theorem zqg0(N:Nat)(hN:N<=64)(w:World):Calls Try.prog 13 #[.int .i64 N] w λe' w'=>∃rb gm gM,e'=.returned (.pointer (some ⟨rb,0,none⟩))/\DmAt rb gm gM N 0 (zq18 (ep0 0) N) (memR (ep0 0) noHv N) w'/\Ext w w'/\w.heap.size<=rb/\w.heap.size<=gm/\w.heap.size<=gM:=by
 have hm1:=zqee N hN;have hm2:=zqeg N hN;have hA:∀A B D:Obj,Ext w (((w.alloc A).alloc B).alloc D).drew/\(((w.alloc A).alloc B).alloc D).drew.heap[w.heap.size]?=some A/\(((w.alloc A).alloc B).alloc D).drew.heap[w.heap.size+1]?=some B/\(((w.alloc A).alloc B).alloc D).drew.heap[w.heap.size+1+1]?=some D:=λA B D=>by
  have h1:(w.alloc A).heap.size=w.heap.size+1:=zq3 _ _;have h2:((w.alloc A).alloc B).heap.size=w.heap.size+1+1:=by rw[zq3,h1]
  have k1:(((w.alloc A).alloc B).alloc D).heap[w.heap.size]?=some A:=zqk (zqk (zqo _ _));have k2:(((w.alloc A).alloc B).alloc D).heap[w.heap.size+1]?=some B:=zqk (by rw[<-h1];exact zqo _ _);have k3:(((w.alloc A).alloc B).alloc D).heap[w.heap.size+1+1]?=some D:=by rw[<-h2];exact zqo _ _
  refine⟨⟨?_,λb hb=>?_⟩,k1,k2,k3⟩
  . show _<=(((w.alloc A).alloc B).alloc D).heap.size;rw[zq3,h2];omega
  . show(((w.alloc A).alloc B).alloc D).heap[b]?=_;rw[zq5,if_neg (by omega),zq5,if_neg (by omega),zq5,if_neg (by omega)]
 have HA:=Lib.hid hA;clear hA
 go_enter Try.func13,Try.ntmps13
 go_wp2_with (fail)
 go_region_law (fail)
 all_goals(
  go_wp2;go_ret;obtain⟨k0,k1,k2,k3⟩:=HA.out _ _ _
  first
   |exact⟨w.heap.size+1+1,w.heap.size,w.heap.size+1,rfl,⟨k3,k1,k2⟩,k0,by omega,by omega,by omega⟩
   |exact⟨w.heap.size+1+1,w.heap.size+1,w.heap.size,rfl,⟨k3,k2,k1⟩,k0,by omega,by omega,by omega⟩)
end Go.Proofs
namespace Go.Car
open Go Go.Conc Go.RowKit
def avC:List Ans->List Value->List Value
 |a::l,v::vs=>.bool a.ok::.int .i64 a.n::v::avC l vs
 |_,_=>[]
theorem zq7c:∀{l:List Ans}{vs:List Value},vs.length=l.length->∀(a:Ans)(v:Value),avC (l++[a]) (vs++[v])=avC l vs++[.bool a.ok,.int .i64 a.n,v]
 |[],[],_,_,_=>rfl
 |b::l,u::vs,h,a,v=>by
  show .bool b.ok::.int .i64 b.n::u::avC (l++[a]) (vs++[v])=_;rw[zq7c (by simpa using h)];rfl
 |[],v::vs,h,_,_=>by simp at h
 |a::l,[],h,_,_=>by simp at h
theorem zq7b:∀{l:List Ans}{vs:List Value},vs.length=l.length->∀{i:Nat}{a:Ans}{v:Value},l[i]?=some a->vs[i]?=some v->(avC l vs)[i*3]?=some (.bool a.ok)/\(avC l vs)[i*3+1]?=some (.int .i64 a.n)/\(avC l vs)[i*3+2]?=some v
 |[],[],_,i,a,v,h,_=>by simp at h
 |b::l,u::vs,hl,i,a,v,h1,h2=>by
  cases i with
  |zero=>simp at h1 h2;subst h1 h2;exact⟨rfl,rfl,rfl⟩
  |succ i=>
   have:=zq7b (l:=l) (vs:=vs) (by simpa using hl) (i:=i) (a:=a) (v:=v) (by simpa using h1) (by simpa using h2);rw[show(i+1)*3=i*3+1+1+1 by omega];exact this
 |[],v::vs,h,_,_,_,_,_=>by simp at h
 |a::l,[],h,_,_,_,_,_=>by simp at h
end Go.Car
namespace Go.Proofs
open Go Go.Conc Go.RowKit Go.Car
abbrev ThAt(tb who:Nat)(opv:Value)(at':Nat)(cp ov:Value)(w:World):Prop:=w.heap[tb]?=some (.cells #[.int .i64 who,opv,.int .i64 at',cp,ov] 103)
def crOf(op:OpX)(t:RTh):CR:=⟨op.k,op.a,t.pc,t.n 0,(t.n 1).toNat,false,false,0⟩
def OpsE(B:Nat)(w:World)(v:Value)(ops:List OpX):Prop:=∃sp cap,v=.slice sp ops.length cap/\∀(k:Nat)(op:OpX),ops[k]?=some op->∃g off,sp=some ⟨g,off,none⟩/\g<B/\w.cell? ⟨g,off+k*4,none⟩=some (.int .i64 op.k)/\w.cell? ⟨g,off+k*4+1,none⟩=some (.int .i64 op.a)/\w.cell? ⟨g,off+k*4+2,none⟩=some (.int .i64 op.b)/\w.cell? ⟨g,off+k*4+3,none⟩=some (.int .i64 op.c)
abbrev TcN(gM tb:Nat)(ov:Value):Nat->Prop:=λb=>b=gM\/b=tb\/ov.ownBlock=some b
structure NxI(P:Ans->Value->Prop)(B rb gm gM N who tb:Nat)(opv:Value)(hv:Nat->Value)(ov0:Value)(w:World)(C:EpS)(t:RTh)(cp ov:Value)(lvs:List Value)(wr:World):Prop where
 d:DmAt rb gm gM N C.e (zq18 C N) (memR C hv N) wr
 th:ThAt tb who opv t.at' cp ov wr
 out:wr.ownsRow B 48 3 ov t.ans.length (avC t.ans lvs)
 len:lvs.length=t.ans.length
 lst:∀(j:Nat)(a:Ans)(v:Value),t.ans[j]?=some a->lvs[j]?=some v->P a v
 tch:Tch (TcN gM tb ov0) w wr
 so:SameE ov0 ov w
section
variable {P:Ans->Value->Prop} {B rb gm gM N who tb:Nat} {opv:Value} {hv:Nat->Value} {ov0:Value} {w wr:World} {C:EpS} {t:RTh} {cp ov:Value} {lvs:List Value}
theorem epBg_e(i:Nat)(op:OpX)(C:EpS)(t:RTh):(epBg i op C t).1.e=C.e/\(epBg i op C t).1.mark=C.mark/\(epBg i op C t).1.th=C.th:=by
 unfold epBg;split
 . exact⟨rfl,rfl,rfl⟩
 split
 . exact⟨rfl,rfl,rfl⟩
 split<;>exact⟨rfl,rfl,rfl⟩
theorem bg_end{op:OpX}{i:Nat}(h:bgEnd op (C.ins i)):epBg i op C t=(C,t.fin Ans.none):=by
 unfold epBg;rcases h with h|h|h|h
 . rw[if_pos (.inl h)]
 . rw[if_pos (.inr h)]
 . by_cases h1:op.k<1\/5<op.k
   . rw[if_pos h1]
   . rw[if_neg h1,if_pos (.inl h)]
 . by_cases h1:op.k<1\/5<op.k
   . rw[if_pos h1]
   . rw[if_neg h1,if_pos (.inr h)]
theorem bg_on{op:OpX}{i:Nat}(h:¬bgEnd op (C.ins i)):(epBg i op C t).2={t with pc:=1,n:=λ_=>0}:=by
 unfold epBg;unfold bgEnd at h;rw[if_neg (λx=>h (x.elim .inl λy=>.inr (.inl y))),if_neg (λx=>h (x.elim (λy=>.inr (.inr (.inl y))) λy=>.inr (.inr (.inr y))))];split<;>rfl
theorem bg_mem{op:OpX}{i:Nat}:bgM i op (C.ins i) (memR C hv N)=memR (epBg i op C t).1 hv N:=by
 unfold bgM
 by_cases h:op.k=2/\C.ins i=true
 . rw[if_pos h,zq8n];unfold epBg;rw[if_neg (by omega),if_neg (by rintro(⟨h1,_⟩|⟨_,h2⟩);omega;rw[h.2]at h2;cases h2),if_pos h.1]
 . rw[if_neg h]
   by_cases he:bgEnd op (C.ins i)
   . rw[bg_end he]
   . unfold epBg;unfold bgEnd at he;rw[if_neg (λx=>he (x.elim .inl λy=>.inr (.inl y))),if_neg (λx=>he (x.elim (λy=>.inr (.inr (.inl y))) λy=>.inr (.inr (.inr y))))]
     by_cases h2:op.k=2
     . exfalso;cases hi:C.ins i with
       |true=>exact h ⟨h2,hi⟩
       |false=>exact he (.inr (.inr (.inr ⟨h2,hi⟩)))
     . rw[if_neg h2]
theorem NxI.ne (h:NxI P B rb gm gM N who tb opv hv ov0 w C t cp ov lvs wr):rb≠tb/\gm≠tb/\gM≠tb/\ov.ownBlock≠some rb/\ov.ownBlock≠some gm/\ov.ownBlock≠some gM/\ov.ownBlock≠some tb:=
 ⟨zqf h.d.dom h.th (by decide),zqf h.d.mar h.th (by decide),zqf h.d.mem h.th (by decide),zqx h.out h.d.dom (by decide),zqx h.out h.d.mar (by decide),zqx h.out h.d.mem (by decide),zqx h.out h.th (by decide)⟩
theorem NxI.more (h:NxI P B rb gm gM N who tb opv hv ov0 w C t cp ov lvs wr){w':World}(hs:wr.heap.size<=w'.heap.size)(ho:∀b,b<wr.heap.size->w'.heap[b]?=wr.heap[b]?):NxI P B rb gm gM N who tb opv hv ov0 w C t cp ov lvs w':=
 ⟨h.d.more ho,(ho _ (zqc h.th)).trans h.th,zqj h.out λg hg=>ho g (own_lt h.out hg).2.2,h.len,h.lst,h.tch.trans ⟨hs,λb hb _=>ho b hb⟩,h.so⟩
theorem NxI.begun (h:NxI P B rb gm gM N who tb opv hv ov0 w C t cp ov lvs wr){w':World}{op:OpX}(hd:DmAt rb gm gM N C.e (zq18 C N) (bgM who op (C.ins who) (memR C hv N)) w')(hT:Tch (λb=>b=gM) wr w'):NxI P B rb gm gM N who tb opv hv ov0 w (epBg who op C t).1 t cp ov lvs w':=by
 obtain⟨n1,n2,n3,n4,n5,n6,n7⟩:=h.ne;obtain⟨e1,e2,e3⟩:=epBg_e who op C t;refine⟨?_,hT.keep h.th (λe=>n3 e.symm),zqj h.out λg hg=>hT.old g (own_lt h.out hg).2.2 (λe=>n6 (e▸hg)),h.len,h.lst,h.tch.trans (hT.mono λb hb=>.inl hb),h.so⟩;have:zq18 (epBg who op C t).1 N=zq18 C N:=by unfold zq18;rw[e2]
 rw[e1,this,<-bg_mem];exact hd
theorem NxI.setT (h:NxI P B rb gm gM N who tb opv hv ov0 w C t cp ov lvs wr){t':RTh}{cp':Value}(j:Nat)(x:Value)(ha:t'.ans=t.ans)(hc:(#[Value.int .i64 who,opv,.int .i64 t.at',cp,ov]:Array Value).setIfInBounds j x=#[.int .i64 who,opv,.int .i64 t'.at',cp',ov]):NxI P B rb gm gM N who tb opv hv ov0 w C t' cp' ov lvs (wr.setCell ⟨tb,j,none⟩ x):=by
 obtain⟨n1,n2,n3,n4,n5,n6,n7⟩:=h.ne;refine⟨⟨(zq8 _ _ _ _ n1).trans h.d.dom,(zq8 _ _ _ _ n2).trans h.d.mar,(zq8 _ _ _ _ n3).trans h.d.mem⟩,?_,?_,by rw[ha];exact h.len,by rw[ha];exact h.lst,h.tch.set (.inr (.inl rfl)) _ _,h.so⟩
 . show(wr.setCell _ _).heap[tb]?=_;rw[zqn _ _ _ _ h.th,hc]
 . rw[ha];exact zqj h.out λg hg=>zq8 _ _ _ _ λ(e:g=tb)=>n7 (e▸hg)
theorem NxI.push (h:NxI P B rb gm gM N who tb opv hv ov0 w C t cp ov lvs wr)(hs:∀g,ov0.ownBlock=some g->g<w.heap.size){W w2:World}{g cap:Nat}{a:Ans}{lv:Value}(hP:P a lv)(hW:∀b,b<wr.heap.size->W.heap[b]?=wr.heap[b]?)(hWs:wr.heap.size<=W.heap.size)
 (hrow:w2.ownsRow B 48 3 (.slice (some ⟨g,0,none⟩) (t.ans.length+1) cap) (t.ans.length+1) (avC t.ans lvs++[.bool a.ok,.int .i64 a.n,lv])) (hgr:W.grownBy w2 ov.ownBlock) (hat:ov.ownBlock=some g\/wr.heap.size<=g):
 NxI P B rb gm gM N who tb opv hv ov0 w C {t with ans:=t.ans++[a]} cp (.slice (some ⟨g,0,none⟩) (t.ans.length+1) cap) (lvs++[lv]) (w2.setCell ⟨tb,4,none⟩ (.slice (some ⟨g,0,none⟩) (t.ans.length+1) cap)):=by
 obtain⟨n1,n2,n3,n4,n5,n6,n7⟩:=h.ne;have keep:∀b,b<wr.heap.size->ov.ownBlock≠some b->w2.heap[b]?=wr.heap[b]?:=λb hb hn=>(hgr.block b (by omega) λe=>hn e.symm).trans (hW b hb);have hb2:ThAt tb who opv t.at' cp ov w2:=(keep tb (zqc h.th) n7).trans h.th;have hgt:∀q,(Value.slice (some ⟨g,0,none⟩) (t.ans.length+1) cap).ownBlock=some q->q≠tb:=λq hq=>by
  obtain⟨⟨c,hc⟩,_⟩:=own_lt hrow hq;exact zqf hc hb2 (by decide)
 have hnot:∀b,b<w.heap.size->¬TcN gM tb ov0 b->ov.ownBlock≠some b:=λb hb hn e=>by
  rcases h.so b e with h1|h1
  . exact hn (.inr (.inr h1))
  . omega
 have h22:Tch (TcN gM tb ov0) w w2:=⟨by have:=h.tch.size;have:=hgr.size;omega,λb hb hn=>(keep b (Nat.lt_of_lt_of_le hb h.tch.size) (hnot b hb hn)).trans (h.tch.old b hb hn)⟩;refine⟨⟨(zq8 _ _ _ _ n1).trans ((keep _ (zqc h.d.dom) n4).trans h.d.dom),(zq8 _ _ _ _ n2).trans ((keep _ (zqc h.d.mar) n5).trans h.d.mar),(zq8 _ _ _ _ n3).trans ((keep _ (zqc h.d.mem) n6).trans h.d.mem)⟩,?_,?_,by simp[h.len],?_,h22.set (.inr (.inl rfl)) _ _,?_⟩
 . show(w2.setCell _ _).heap[tb]?=_;rw[zqn _ _ _ _ hb2];rfl
 . show(w2.setCell _ _).ownsRow B _ 3 _ (t.ans++[a]).length (avC (t.ans++[a]) (lvs++[lv]));rw[zq7c h.len,List.length_append];exact zqj hrow λq hq=>zq8 _ _ _ _ (hgt q hq)
 . intro j a' v h1 h2;rcases Nat.lt_or_ge j t.ans.length with hl|hl
   . rw[List.getElem?_append_left hl]at h1;rw[List.getElem?_append_left (by rw[h.len];exact hl)]at h2;exact h.lst j a' v h1 h2
   . have hj:j=t.ans.length:=by have:=(List.getElem?_eq_some_iff.1 h1).1;simp at this;omega
     subst hj;rw[List.getElem?_append_right (Nat.le_refl _),Nat.sub_self]at h1;rw[List.getElem?_append_right (by rw[h.len];exact Nat.le_refl _),h.len,Nat.sub_self]at h2;simp only[al_g0,al_oi]at h1 h2;subst h1 h2;exact hP
 . intro q hq;simp only[Value.ownBlock,al_oi]at hq;subst hq;rcases hat with h1|h1
   . exact h.so _ h1
   . right;have:=h.tch.size;omega
end
section
variable {N:Nat} {op:OpX} {t:RTh} {C:EpS}
theorem zq7o(e:Int):({crOf op t with e:=e,ph:=2}:CR)=crOf op {t with pc:=2,n:=upd' t.n 0 e}:=by
 unfold crOf;have e1:upd' t.n 0 e 1=t.n 1:=zqd _ _ (by decide);have e0:upd' t.n 0 e 0=e:=upd'_same _ _ _;simp only[e1,e0]
theorem cr_adv(hp:t.pc=2)(h0:0<=t.n 1)(hk:op.k=4)(i:Nat):
 ((C.mark (t.n 1).toNat≠0/\C.mark (t.n 1).toNat≠wrap64 (t.n 0+1))/\(advK N (C.mark (t.n 1).toNat) (crOf op t)).done=true/\(advK N (C.mark (t.n 1).toNat) (crOf op t)).ok=true/\(advK N (C.mark (t.n 1).toNat) (crOf op t)).n=0/\∃t1:RTh,epStp N i op C t=(C,t1.fin ⟨true,0,[]⟩)/\t1.at'=t.at'/\t1.ans=t.ans)\/
 (¬(C.mark (t.n 1).toNat≠0/\C.mark (t.n 1).toNat≠wrap64 (t.n 0+1))/\(epStp N i op C t).1=C/\advK N (C.mark (t.n 1).toNat) (crOf op t)=crOf op (epStp N i op C t).2/\(epStp N i op C t).2.at'=t.at'/\(epStp N i op C t).2.ans=t.ans/\(epStp N i op C t).2.pc≠0):=by
 have hs:epStp N i op C t=epAdv N C t:=by
  unfold epStp;rw[if_neg (by omega),if_neg (by omega),if_neg (by omega),if_pos hk]
 rw[hs];unfold epAdv;rw[if_neg (by omega),if_pos hp];simp only
 by_cases hm:C.mark (t.n 1).toNat≠0/\C.mark (t.n 1).toNat≠wrap64 (t.n 0+1)
 . refine .inl ⟨hm,?_⟩;have e:advK N (C.mark (t.n 1).toNat) (crOf op t)=CR.fin {crOf op t with i:=(crOf op t).i+1} true 0:=if_pos hm;rw[e,if_pos hm];exact⟨rfl,rfl,rfl,_,rfl,rfl,rfl⟩
 . refine .inr ⟨hm,?_⟩;rw[if_neg hm];have e0:upd' t.n 1 (t.n 1+1) 0=t.n 0:=zqd _ _ (by decide);have e1:upd' t.n 1 (t.n 1+1) 1=t.n 1+1:=upd'_same _ _ _;have e2:(t.n 1+1).toNat=(t.n 1).toNat+1:=by omega
   by_cases hl:t.n 1+1=(N:Int)
   . have e:advK N (C.mark (t.n 1).toNat) (crOf op t)={crOf op t with i:=(crOf op t).i+1,ph:=3}:=by
      unfold advK;rw[if_neg (show ¬(C.mark (t.n 1).toNat≠0/\C.mark (t.n 1).toNat≠wrap64 ((crOf op t).e+1))from hm),if_pos (by show(t.n 1).toNat+1=N;omega)]
     rw[e,if_pos hl];refine⟨rfl,?_,rfl,rfl,Nat.succ_ne_zero _⟩;unfold crOf;simp only[e0,e1,e2]
   . have e:advK N (C.mark (t.n 1).toNat) (crOf op t)={crOf op t with i:=(crOf op t).i+1}:=by
      unfold advK;rw[if_neg (show ¬(C.mark (t.n 1).toNat≠0/\C.mark (t.n 1).toNat≠wrap64 ((crOf op t).e+1))from hm),if_neg (by show ¬(t.n 1).toNat+1=N;omega)]
     rw[e,if_neg hl];refine⟨rfl,?_,rfl,rfl,by show t.pc≠0;omega⟩;unfold crOf;simp only[e0,e1,e2]
end
def LsP(G:Nat->Option Obj)(a:Ans)(v:Value):Prop:=∃X,RowB X 2 1 v a.l.length (a.l.map (Value.int .i64))/\∀b o,X b=some o->G b=some o
theorem LsP.mono {G G':Nat->Option Obj}{a:Ans}{v:Value}(h:LsP G a v)(hG:∀b o,G b=some o->G' b=some o):LsP G' a v:=by
 obtain⟨X,h1,h2⟩:=h;exact⟨X,h1,λb o hb=>hG b o (h2 b o hb)⟩
theorem LsP.zero (G:Nat->Option Obj):LsP G Ans.none (.slice none 0 0):=⟨λ_=>.none,RowB.nil _ _,λb o h=>by cases h⟩
theorem LsP.nil (G:Nat->Option Obj)(ok:Bool)(n:Int):LsP G ⟨ok,n,[]⟩ (.slice none 0 0):=⟨λ_=>.none,RowB.nil _ _,λb o h=>by cases h⟩
theorem LsP.at' {G:Nat->Option Obj}{a:Ans}{v:Value}{w:World}(h:LsP G a v)(hG:∀b o,G b=some o->w.heap[b]?=some o):IntsAt w v a.l:=by
 obtain⟨X,h1,h2⟩:=h;exact zq94 h1 λb o hb=>hG b o (h2 b o hb)
theorem ansE_at{B:Nat}{G:Nat->Option Obj}{w:World}{ov:Value}{ans:List Ans}{lvs:List Value}(h:w.ownsRow B 48 3 ov ans.length (avC ans lvs))(hlen:lvs.length=ans.length)
 (hl:∀(j:Nat)(a:Ans)(v:Value),ans[j]?=some a->lvs[j]?=some v->LsP G a v) (hG:∀b o,G b=some o->w.heap[b]?=some o):AnsAt w ov ans:=by
 rcases h.2 with⟨hv,h0⟩|⟨g,cap,cur,hv,hb,hg,h1,h2,h3,h4⟩
 . have:ans=[]:=List.length_eq_zero_iff.1 h0;rw[hv,this];exact⟨none,0,rfl,λh=>absurd rfl h⟩
 . refine⟨_,cap,hv,λ_=>⟨g,0,rfl,λi a hi=>?_⟩⟩;have hil:=(List.getElem?_eq_some_iff.1 hi).1;obtain⟨v,hvi⟩:∃v,lvs[i]?=some v:=⟨_,List.getElem?_eq_getElem (by rw[hlen];exact hil)⟩;obtain⟨e0,e1,e2⟩:=zq7b hlen hi hvi;have hcell:∀j x,j<ans.length*3->(avC ans lvs)[j]?=some x->w.cell? ⟨g,j,none⟩=some x:=λj x hj hx=>by
    rw[zq0 hg];rw[<-h4,List.getElem?_take,if_pos hj]at hx;simpa using hx
   exact⟨by rw[Nat.zero_add];exact hcell _ _ (by omega) e0,by rw[Nat.zero_add];exact hcell _ _ (by omega) e1,v,by rw[Nat.zero_add];exact hcell _ _ (by omega) e2,(hl i a v hi hvi).at' hG⟩
structure ERep(X:Nat->Prop)(G:Nat->Option Obj)(B rb gm gM N n:Nat)(opv:Nat->Value)(ops:Nat->List OpX)(C:EpS)(T:Nat->RTh)(hv ov cp:Nat->Value)(tb:Nat->Nat)(lvs:Nat->List Value)(w:World):Prop where
 d:DmAt rb gm gM N C.e (zq18 C N) (memR C hv N) w
 row:∀i,i<N->w.ownsRow B 117 2 (hv i) (C.th i).length (thC (C.th i))
 hsep:∀i j g,i<N->j<N->(hv i).ownBlock=some g->(hv j).ownBlock=some g->i=j
 th:∀i,i<n->ThAt (tb i) i (opv i) (T i).at' (cp i) (ov i) w
 call:∀i,i<n->¬X i->((T i).pc=0/\cp i=.pointer none)\/((T i).pc≠0/\∃cb op,cp i=.pointer (some ⟨cb,0,none⟩)/\(ops i)[(T i).at']?=some op/\B<=cb/\CrAt cb i (crOf op (T i)) (.slice none 0 0) w)
 out:∀i,i<n->w.ownsRow B 48 3 (ov i) (T i).ans.length (avC (T i).ans (lvs i))
 osep:∀i j g,i<n->j<n->(ov i).ownBlock=some g->(ov j).ownBlock=some g->i=j
 len:∀i,i<n->(lvs i).length=(T i).ans.length
 lst:∀i,i<n->∀(j:Nat)(a:Ans)(v:Value),(T i).ans[j]?=some a->(lvs i)[j]?=some v->LsP G a v
 gho:∀b o,G b=some o->w.heap[b]?=some o/\b≠gm/\B<=b/\∃c,o=.cells c 2
 lo:B<=rb/\B<=gm/\B<=gM/\∀i,i<n->B<=tb i
section
variable {X:Nat->Prop} {G:Nat->Option Obj} {B rb gm gM N n:Nat} {opv:Nat->Value} {ops:Nat->List OpX} {C:EpS} {T:Nat->RTh} {hv ov cp:Nat->Value} {tb:Nat->Nat} {lvs:Nat->List Value} {w w':World}
theorem ERep.tsep (h:ERep X G B rb gm gM N n opv ops C T hv ov cp tb lvs w){i j:Nat}(hi:i<n)(hj:j<n)(e:tb i=tb j):i=j:=by
 have h1:=h.th i hi;have h2:=h.th j hj;rw[e]at h1;have:=h1.symm.trans h2;simp only[al_oi,Obj.cells.injEq,Array.mk.injEq,List.cons.injEq,Value.int.injEq]at this;omega
theorem zq7h{cb who who':Nat}{K K':CR}{lv lv':Value}(h:CrAt cb who K lv w)(h':CrAt cb who' K' lv' w):who=who':=by
 have:=h.symm.trans h';unfold crC at this;simp only[al_oi,Obj.cells.injEq,Array.mk.injEq,List.cons.injEq,Value.int.injEq]at this;omega
theorem ERep.more (h:ERep X G B rb gm gM N n opv ops C T hv ov cp tb lvs w)(ho:∀b,b<w.heap.size->w'.heap[b]?=w.heap[b]?):ERep X G B rb gm gM N n opv ops C T hv ov cp tb lvs w' where
 d:=h.d.more ho
 row i hi:=zqj (h.row i hi) λg hg=>ho g (own_lt (h.row i hi) hg).2.2
 hsep:=h.hsep
 th i hi:=(ho _ (zqc (h.th i hi))).trans (h.th i hi)
 call i hi hX:=by
  rcases h.call i hi hX with k|⟨k1,cb,op,k2,k3,k4,k5⟩
  . exact .inl k
  . exact .inr ⟨k1,cb,op,k2,k3,k4,(ho _ (zqc k5)).trans k5⟩
 out i hi:=zqj (h.out i hi) λg hg=>ho g (own_lt (h.out i hi) hg).2.2
 osep:=h.osep
 len:=h.len
 lst:=h.lst
 gho b o hb:=by
  obtain⟨k1,k2⟩:=h.gho b o hb;exact⟨(ho _ (zqc k1)).trans k1,k2⟩
 lo:=h.lo
theorem ERep.nx (h:ERep X G B rb gm gM N n opv ops C T hv ov cp tb lvs w){x:Nat}(hx:x<n):NxI (LsP G) B rb gm gM N x (tb x) (opv x) hv (ov x) w C (T x) (cp x) (ov x) (lvs x) w:=
 ⟨h.d,h.th x hx,h.out x hx,h.len x hx,h.lst x hx,Tch.refl _ _,λg hg=>.inl hg⟩
end
section
variable {X:Nat->Prop} {G:Nat->Option Obj} {B rb gm gM N n:Nat} {opv:Nat->Value} {ops:Nat->List OpX} {C C':EpS} {T:Nat->RTh} {hv ov cp:Nat->Value} {tb:Nat->Nat} {lvs:Nat->List Value} {w w':World}
theorem ERep.went (h:ERep X G B rb gm gM N n opv ops C T hv ov cp tb lvs w){x:Nat}(hx:x<n)(hXX:∀i,X i->i=x){t':RTh}{cp' ov':Value}{lvs':List Value}(k:NxI (LsP G) B rb gm gM N x (tb x) (opv x) hv (ov x) w C' t' cp' ov' lvs' w')(hth:C'.th=C.th)
 (hc:(t'.pc=0/\cp'=.pointer none)\/(t'.pc≠0/\∃cb op,cp'=.pointer (some ⟨cb,0,none⟩)/\(ops x)[t'.at']?=some op/\B<=cb/\CrAt cb x (crOf op t') (.slice none 0 0) w')):
 ERep (λ_=>False) G B rb gm gM N n opv ops C' (upd' T x t') hv (upd' ov x ov') (upd' cp x cp') tb (upd' lvs x lvs') w':=by
 have hM:=h.d.mem;have hX:=h.th x hx;have hO:=h.out x hx;have keep:∀b,b<w.heap.size->b≠gM->b≠tb x->(ov x).ownBlock≠some b->w'.heap[b]?=w.heap[b]?:=λb hb h1 h2 h3=>k.tch.old b hb (λe=>e.elim h1 λe=>e.elim h2 h3);refine⟨k.d,λi hi=>?_,h.hsep,λi hi=>?_,λi hi _=>?_,λi hi=>?_,λi j g hi hj h1 h2=>?_,λi hi=>?_,λi hi=>?_,λb o hb=>?_,h.lo⟩
 . rw[hth];refine zqj (h.row i hi) λg hg=>?_;obtain⟨⟨c,hcc⟩,_,hlt⟩:=own_lt (h.row i hi) hg;exact keep g hlt (zqf hcc hM (by decide)) (zqf hcc hX (by decide)) (zqx hO hcc (by decide))
 . by_cases e:i=x
   . subst e;rw[upd'_same,upd'_same,upd'_same];exact k.th
   . rw[zqd _ _ e,zqd _ _ e,zqd _ _ e];exact(keep _ (zqc (h.th i hi)) (zqf (h.th i hi) hM (by decide)) (λq=>e (h.tsep hi hx q)) (zqx hO (h.th i hi) (by decide))).trans (h.th i hi)
 . by_cases e:i=x
   . subst e;rw[upd'_same,upd'_same];exact hc
   . rw[zqd _ _ e,zqd _ _ e];rcases h.call i hi (λq=>e (hXX i q))with q|⟨q1,cb,op,q2,q3,q4,q5⟩
     . exact .inl q
     . exact .inr ⟨q1,cb,op,q2,q3,q4,(keep _ (zqc q5) (zqf q5 hM (by decide)) (zqf q5 hX (by decide)) (zqx hO q5 (by decide))).trans q5⟩
 . by_cases e:i=x
   . subst e;rw[upd'_same,upd'_same,upd'_same];exact k.out
   . rw[zqd _ _ e,zqd _ _ e,zqd _ _ e];refine zqj (h.out i hi) λg hg=>?_;obtain⟨⟨c,hcc⟩,_,hlt⟩:=own_lt (h.out i hi) hg;exact keep g hlt (zqf hcc hM (by decide)) (zqf hcc hX (by decide)) (λq=>e (h.osep i x g hi hx hg q))
 . by_cases e1:i=x
   . by_cases e2:j=x
     . rw[e1,e2]
     . exfalso;subst e1;rw[upd'_same]at h1;rw[zqd _ _ e2]at h2;rcases k.so g h1 with q|q
       . exact e2 (h.osep j i g hj hi h2 q)
       . have:=(own_lt (h.out j hj) h2).2.2;omega
   . by_cases e2:j=x
     . exfalso;subst e2;rw[upd'_same]at h2;rw[zqd _ _ e1]at h1;rcases k.so g h2 with q|q
       . exact e1 (h.osep i j g hi hj h1 q)
       . have:=(own_lt (h.out i hi) h1).2.2;omega
     . rw[zqd _ _ e1]at h1;rw[zqd _ _ e2]at h2;exact h.osep i j g hi hj h1 h2
 . by_cases e:i=x
   . subst e;rw[upd'_same,upd'_same];exact k.len
   . rw[zqd _ _ e,zqd _ _ e];exact h.len i hi
 . by_cases e:i=x
   . subst e;rw[upd'_same,upd'_same];exact k.lst
   . rw[zqd _ _ e,zqd _ _ e];exact h.lst i hi
 . obtain⟨q1,q2,q3,c,q4⟩:=h.gho b o hb;subst q4;exact⟨(keep b (zqc q1) (zqf q1 hM (by decide)) (zqf q1 hX (by decide)) (zqx hO q1 (by decide))).trans q1,q2,q3,c,rfl⟩
end
section
variable {G:Nat->Option Obj} {B rb gm gM N n:Nat} {opv:Nat->Value} {ops:Nat->List OpX} {C C':EpS} {T:Nat->RTh} {hv ov cp:Nat->Value} {tb:Nat->Nat} {lvs:Nat->List Value} {w w':World}
theorem ERep.acted (h:ERep (λ_=>False) G B rb gm gM N n opv ops C T hv ov cp tb lvs w){x cb:Nat}{K:CR}{lv:Value}(hcb:CrAt cb x K lv w)(k:DmAt rb gm gM N C'.e (zq18 C' N) (memR C' hv N) w')(hth:C'.th=C.th)(tch:Tch (TcE gm gM cb rb) w w'):
 ERep (λi=>i=x) G B rb gm gM N n opv ops C' T hv ov cp tb lvs w':=by
 have hR:=h.d.dom;have hm:=h.d.mar;have hM:=h.d.mem;have keep:∀b,b<w.heap.size->b≠gm->b≠gM->b≠cb->b≠rb->w'.heap[b]?=w.heap[b]?:=λb hb h1 h2 h3 h4=>tch.old b hb (λe=>e.elim h1 λe=>e.elim h2 λe=>e.elim h3 h4);refine⟨k,λi hi=>?_,h.hsep,λi hi=>?_,λi hi hX=>?_,λi hi=>?_,h.osep,h.len,h.lst,λb o hb=>?_,h.lo⟩
 . rw[hth];refine zqj (h.row i hi) λg hg=>?_;obtain⟨⟨c,hcc⟩,_,hlt⟩:=own_lt (h.row i hi) hg;exact keep g hlt (zqf hcc hm (by decide)) (zqf hcc hM (by decide)) (zqf hcc hcb (by decide)) (zqf hcc hR (by decide))
 . have q:=h.th i hi;exact(keep _ (zqc q) (zqf q hm (by decide)) (zqf q hM (by decide)) (zqf q hcb (by decide)) (zqf q hR (by decide))).trans q
 . rcases h.call i hi (λq=>q)with q|⟨q1,c,op,q2,q3,q4,q5⟩
   . exact .inl q
   . exact .inr ⟨q1,c,op,q2,q3,q4,(keep _ (zqc q5) (zqf q5 hm (by decide)) (zqf q5 hM (by decide)) (λe=>hX (zq7h q5 (e▸hcb))) (zqf q5 hR (by decide))).trans q5⟩
 . refine zqj (h.out i hi) λg hg=>?_;obtain⟨⟨c,hcc⟩,_,hlt⟩:=own_lt (h.out i hi) hg;exact keep g hlt (zqf hcc hm (by decide)) (zqf hcc hM (by decide)) (zqf hcc hcb (by decide)) (zqf hcc hR (by decide))
 . obtain⟨q1,q2,q3,c,q4⟩:=h.gho b o hb;subst q4;exact⟨(keep b (zqc q1) q2 (zqf q1 hM (by decide)) (zqf q1 hcb (by decide)) (zqf q1 hR (by decide))).trans q1,q2,q3,c,rfl⟩
theorem ERep.thinged (h:ERep (λ_=>False) G B rb gm gM N n opv ops C T hv ov cp tb lvs w){x cb:Nat}(hx:x<N){K:CR}{lv:Value}(hcb:CrAt cb x K lv w){hv':Value}(k:DmAt rb gm gM N C'.e (zq18 C' N) (memR C' (upd' hv x hv') N) w')(hth:∀j,j≠x->C'.th j=C.th j)
 (hrow:w'.ownsRow B 117 2 hv' (C'.th x).length (thC (C'.th x))) (tch:Tch (λb=>TcE gm gM cb rb b\/(hv x).ownBlock=some b) w w') (so:SameE (hv x) hv' w):
 ERep (λi=>i=x) G B rb gm gM N n opv ops C' T (upd' hv x hv') ov cp tb lvs w':=by
 have hR:=h.d.dom;have hm:=h.d.mar;have hM:=h.d.mem;have hH:=h.row x hx;have keep:∀b,b<w.heap.size->b≠gm->b≠gM->b≠cb->b≠rb->(hv x).ownBlock≠some b->w'.heap[b]?=w.heap[b]?:=λb hb h1 h2 h3 h4 h5=>tch.old b hb (λe=>e.elim (λe=>e.elim h1 λe=>e.elim h2 λe=>e.elim h3 h4) h5);refine⟨k,λi hi=>?_,λi j g hi hj h1 h2=>?_,λi hi=>?_,λi hi hX=>?_,λi hi=>?_,h.osep,h.len,h.lst,λb o hb=>?_,h.lo⟩
 . by_cases e:i=x
   . subst e;rw[upd'_same];exact hrow
   . rw[zqd _ _ e,hth i e];refine zqj (h.row i hi) λg hg=>?_;obtain⟨⟨c,hcc⟩,_,hlt⟩:=own_lt (h.row i hi) hg;exact keep g hlt (zqf hcc hm (by decide)) (zqf hcc hM (by decide)) (zqf hcc hcb (by decide)) (zqf hcc hR (by decide)) (λq=>e (h.hsep i x g hi hx hg q))
 . by_cases e1:i=x
   . by_cases e2:j=x
     . rw[e1,e2]
     . exfalso;subst e1;rw[upd'_same]at h1;rw[zqd _ _ e2]at h2;rcases so g h1 with q|q
       . exact e2 (h.hsep j i g hj hi h2 q)
       . have:=(own_lt (h.row j hj) h2).2.2;omega
   . by_cases e2:j=x
     . exfalso;subst e2;rw[upd'_same]at h2;rw[zqd _ _ e1]at h1;rcases so g h2 with q|q
       . exact e1 (h.hsep i j g hi hj h1 q)
       . have:=(own_lt (h.row i hi) h1).2.2;omega
     . rw[zqd _ _ e1]at h1;rw[zqd _ _ e2]at h2;exact h.hsep i j g hi hj h1 h2
 . have q:=h.th i hi;exact(keep _ (zqc q) (zqf q hm (by decide)) (zqf q hM (by decide)) (zqf q hcb (by decide)) (zqf q hR (by decide)) (zqx hH q (by decide))).trans q
 . rcases h.call i hi (λq=>q)with q|⟨q1,c,op,q2,q3,q4,q5⟩
   . exact .inl q
   . exact .inr ⟨q1,c,op,q2,q3,q4,(keep _ (zqc q5) (zqf q5 hm (by decide)) (zqf q5 hM (by decide)) (λe=>hX (zq7h q5 (e▸hcb))) (zqf q5 hR (by decide)) (zqx hH q5 (by decide))).trans q5⟩
 . refine zqj (h.out i hi) λg hg=>?_;obtain⟨⟨c,hcc⟩,_,hlt⟩:=own_lt (h.out i hi) hg;exact keep g hlt (zqf hcc hm (by decide)) (zqf hcc hM (by decide)) (zqf hcc hcb (by decide)) (zqf hcc hR (by decide)) (zqx hH hcc (by decide))
 . obtain⟨q1,q2,q3,c,q4⟩:=h.gho b o hb;subst q4;exact⟨(keep b (zqc q1) q2 (zqf q1 hM (by decide)) (zqf q1 hcb (by decide)) (zqf q1 hR (by decide)) (zqx hH q1 (by decide))).trans q1,q2,q3,c,rfl⟩
end
section
variable {X:Nat->Prop} {G:Nat->Option Obj} {B rb gm gM N n:Nat} {opv:Nat->Value} {ops:Nat->List OpX} {C:EpS} {T:Nat->RTh} {hv ov cp:Nat->Value} {tb:Nat->Nat} {lvs:Nat->List Value} {w:World}
theorem ERep.grow (h:ERep X G B rb gm gM N n opv ops C T hv ov cp tb lvs w){G':Nat->Option Obj}(hG:∀b o,G b=some o->G' b=some o)(hn:∀b o,G' b=some o->w.heap[b]?=some o/\b≠gm/\B<=b/\∃c,o=.cells c 2):
 ERep X G' B rb gm gM N n opv ops C T hv ov cp tb lvs w:=
 ⟨h.d,h.row,h.hsep,h.th,h.call,h.out,h.osep,h.len,λi hi j a v h1 h2=>(h.lst i hi j a v h1 h2).mono hG,hn,h.lo⟩
theorem ERep.list (h:ERep X G B rb gm gM N n opv ops C T hv ov cp tb lvs w){H:Nat}{dv:Value}{l:List Int}(hr:w.ownsRow H 2 1 dv l.length (l.map (Value.int .i64)))(hg:gm<H)(hB:B<=H):
 ∃G',(∀b o,G b=some o->G' b=some o)/\ERep X G' B rb gm gM N n opv ops C T hv ov cp tb lvs w/\∀ok m,LsP G' ⟨ok,m,l⟩ dv:=by
 obtain⟨Y,h1,h2,h3⟩:=zq6a hr;refine⟨λb=>match G b with|some o=>some o|none=>Y b,λb o hb=>by simp only[hb],h.grow (λb o hb=>by simp only[hb]) λb o hb=>?_,λok m=>⟨Y,h1,λb o hb=>?_⟩⟩
 . cases hGb:G b with
   |some o'=>
    simp only[hGb,al_oi]at hb;subst hb;exact h.gho b o' hGb
   |none=>
    simp only[hGb]at hb;obtain⟨k1,c,k2⟩:=h2 b o hb;have:=h3 b (by rw[hb];simp);exact⟨k1,by omega,by omega,c,k2⟩
 . cases hGb:G b with
   |some o'=>
    have e1:=(h.gho b o' hGb).1;have e2:=(h2 b o hb).1;rw[e1]at e2;simpa[hGb]using e2
   |none=>simpa[hGb]using hb
end
end Go.Proofs
