/- YtmgmbciplfkddaaESaf16: part 2 of the proof (the texts behind it, in order). -/
import Derived.Test.YtmgmbciplfkddaaS01
set_option maxHeartbeats 4000000
set_option maxRecDepth 100000
set_option linter.all false
namespace Go.Car
open Go Go.RowKit
section
variable {α β:Type} {P:Program}
theorem zq51(t:TypeId):zq2 P (underlying t):=by
 unfold underlying
 repeat' (first|with_reducible (first|exact Stdy.out|refine zq5 ?_|refine zq6 ?_ (λ_=>?_)|refine zq3 ?_ (λ_=>?_))|exact λ_ _=>rfl |split|simp only[])
instance (t:TypeId):Stdy P (underlying t):=⟨zq51 t⟩
theorem zq97(t:TypeId):zq2 P (typeInfo t):=by
 unfold typeInfo
 repeat' (first|with_reducible (first|exact Stdy.out|refine zq5 ?_|refine zq6 ?_ (λ_=>?_)|refine zq3 ?_ (λ_=>?_))|exact λ_ _=>rfl |split|simp only[])
instance (t:TypeId):Stdy P (typeInfo t):=⟨zq97 t⟩
theorem zq93(t:TypeId):zq2 P (sizeOf t):=by
 unfold sizeOf
 repeat' (first|with_reducible (first|exact Stdy.out|refine zq5 ?_|refine zq6 ?_ (λ_=>?_)|refine zq3 ?_ (λ_=>?_))|exact λ_ _=>rfl |split|simp only[])
instance (t:TypeId):Stdy P (sizeOf t):=⟨zq93 t⟩
theorem zqhb(t:TypeId):zq2 P (zeroValue t):=by
 unfold zeroValue
 repeat' (first|with_reducible (first|exact Stdy.out|refine zq5 ?_|refine zq6 ?_ (λ_=>?_)|refine zq3 ?_ (λ_=>?_))|exact λ_ _=>rfl |split|simp only[])
instance (t:TypeId):Stdy P (zeroValue t):=⟨zqhb t⟩
theorem zqg0(t:TypeId):zq2 P (isAgg t):=by
 unfold isAgg
 repeat' (first|with_reducible (first|exact Stdy.out|refine zq5 ?_|refine zq6 ?_ (λ_=>?_)|refine zq3 ?_ (λ_=>?_))|exact λ_ _=>rfl |split|simp only[])
instance (t:TypeId):Stdy P (isAgg t):=⟨zqg0 t⟩
theorem zqfi(t:TypeId):zq2 P (elemOf t):=by
 unfold elemOf
 repeat' (first|with_reducible (first|exact Stdy.out|refine zq5 ?_|refine zq6 ?_ (λ_=>?_)|refine zq3 ?_ (λ_=>?_))|exact λ_ _=>rfl |split|simp only[])
instance (t:TypeId):Stdy P (elemOf t):=⟨zqfi t⟩
theorem zqh7(t:TypeId):zq2 P (typeStr t):=by
 unfold typeStr
 repeat' (first|with_reducible (first|exact Stdy.out|refine zq5 ?_|refine zq6 ?_ (λ_=>?_)|refine zq3 ?_ (λ_=>?_))|exact λ_ _=>rfl |split|simp only[])
instance (t:TypeId):Stdy P (typeStr t):=⟨zqh7 t⟩
theorem zq8u(a:Addr):∀(n i:Nat)(acc:Array Value),zq2 P (loadCellsFrom a i n acc)
 |0,_,_=>zq1b _
 |n+1,_,_=>zq3 (zq8t _ _) λ_=>zq8u a n _ _
theorem zqg4(a:Addr)(n:Nat):zq2 P (loadCells a n):=zq8u a n 0 #[]
instance (a:Addr) (n:Nat):Stdy P (loadCells a n):=⟨zqg4 a n⟩
theorem zq95(a:Addr):∀(vs:List Value)(i:Nat),zq2 P (storeCells a vs i)
 |[],_=>zq1b _
 |_::r,i=>zq3 (zq94 _ _ _) λ_=>zq95 a r (i+1)
instance (a:Addr) (vs:List Value) (i:Nat):Stdy P (storeCells a vs i):=⟨zq95 a vs i⟩
theorem zq8v(t:TypeId)(a:Addr):zq2 P (loadVar t a):=by
 unfold loadVar
 repeat' (first|with_reducible (first|exact Stdy.out|refine zq5 ?_|refine zq6 ?_ (λ_=>?_)|refine zq3 ?_ (λ_=>?_))|exact λ_ _=>rfl |split|simp only[])
instance (t:TypeId) (a:Addr):Stdy P (loadVar t a):=⟨zq8v t a⟩
theorem zqh2(t:TypeId)(a:Addr)(v:Value):zq2 P (storeVar t a v):=by
 unfold storeVar
 repeat' (first|with_reducible (first|exact Stdy.out|refine zq5 ?_|refine zq6 ?_ (λ_=>?_)|refine zq3 ?_ (λ_=>?_))|exact λ_ _=>rfl |split|simp only[])
theorem zqgj(t:TypeId)(c:Array Value):zq2 P (newRow t c):=by
 unfold newRow
 repeat' (first|with_reducible (first|exact Stdy.out|refine zq5 ?_|refine zq6 ?_ (λ_=>?_)|refine zq3 ?_ (λ_=>?_))|exact λ_ _=>rfl |split|simp only[])
instance (t:TypeId) (c:Array Value):Stdy P (newRow t c):=⟨zqgj t c⟩
theorem zqgk(t:TypeId)(v:Value):zq2 P (newVar t v):=by
 unfold newVar
 repeat' (first|with_reducible (first|exact Stdy.out|refine zq5 ?_|refine zq6 ?_ (λ_=>?_)|refine zq3 ?_ (λ_=>?_))|exact λ_ _=>rfl |split|simp only[])
instance (t:TypeId) (v:Value):Stdy P (newVar t v):=⟨zqgk t v⟩
theorem zqgn(t:TypeId)(cs:Array Value)(off:Nat):zq2 P (part t cs off):=by
 unfold part
 repeat' (first|with_reducible (first|exact Stdy.out|refine zq5 ?_|refine zq6 ?_ (λ_=>?_)|refine zq3 ?_ (λ_=>?_))|exact λ_ _=>rfl |split|simp only[])
instance (t:TypeId) (cs:Array Value) (off:Nat):Stdy P (part t cs off):=⟨zqgn t cs off⟩
theorem zqgs(e:RuntimeError):zq2 P (runtimePanic e:Sem α):=by
 unfold runtimePanic;cases e<;>repeat' (first|with_reducible (first|exact Stdy.out|refine zq5 ?_|refine zq6 ?_ (λ_=>?_)|refine zq3 ?_ (λ_=>?_))|exact λ_ _=>rfl |split|simp only[])
instance (e:RuntimeError):Stdy P (runtimePanic e:Sem α):=⟨zqgs e⟩
theorem zqf0(k:IntKind)(x y:Int)(c:BoundsCode):zq2 P (boundsPanic k x y c:Sem α):=by
 unfold boundsPanic
 repeat' (first|with_reducible (first|exact Stdy.out|refine zq5 ?_|refine zq6 ?_ (λ_=>?_)|refine zq3 ?_ (λ_=>?_))|exact λ_ _=>rfl |split|simp only[])
instance (k:IntKind) (x y:Int) (c:BoundsCode):Stdy P (boundsPanic k x y c:Sem α):=⟨zqf0 k x y c⟩
theorem zqev(v:Value):zq2 P (asIntOf v):=by
 unfold asIntOf
 repeat' (first|with_reducible (first|exact Stdy.out|refine zq5 ?_|refine zq6 ?_ (λ_=>?_)|refine zq3 ?_ (λ_=>?_))|exact λ_ _=>rfl |split|simp only[])
instance (v:Value):Stdy P (asIntOf v):=⟨zqev v⟩
theorem zq8l(v:Value):zq2 P (asInt v):=by
 unfold asInt
 repeat' (first|with_reducible (first|exact Stdy.out|refine zq5 ?_|refine zq6 ?_ (λ_=>?_)|refine zq3 ?_ (λ_=>?_))|exact λ_ _=>rfl |split|simp only[])
instance (v:Value):Stdy P (asInt v):=⟨zq8l v⟩
theorem zqeu(v:Value):zq2 P (asBool v):=by
 unfold asBool
 repeat' (first|with_reducible (first|exact Stdy.out|refine zq5 ?_|refine zq6 ?_ (λ_=>?_)|refine zq3 ?_ (λ_=>?_))|exact λ_ _=>rfl |split|simp only[])
instance (v:Value):Stdy P (asBool v):=⟨zqeu v⟩
theorem zqet(v:Value):zq2 P (asAgg v):=by
 unfold asAgg
 repeat' (first|with_reducible (first|exact Stdy.out|refine zq5 ?_|refine zq6 ?_ (λ_=>?_)|refine zq3 ?_ (λ_=>?_))|exact λ_ _=>rfl |split|simp only[])
instance (v:Value):Stdy P (asAgg v):=⟨zqet v⟩
theorem zq8k(v:Value):zq2 P (asAddr v):=by
 unfold asAddr
 repeat' (first|with_reducible (first|exact Stdy.out|refine zq5 ?_|refine zq6 ?_ (λ_=>?_)|refine zq3 ?_ (λ_=>?_))|exact λ_ _=>rfl |split|simp only[])
instance (v:Value):Stdy P (asAddr v):=⟨zq8k v⟩
theorem zq96(v:Value):zq2 P (Instr.sureAddr v):=by
 unfold Instr.sureAddr
 repeat' (first|with_reducible (first|exact Stdy.out|refine zq5 ?_|refine zq6 ?_ (λ_=>?_)|refine zq3 ?_ (λ_=>?_))|exact λ_ _=>rfl |split|simp only[])
instance (v:Value):Stdy P (Instr.sureAddr v):=⟨zq96 v⟩
theorem zq98(r:Nat):zq2 P (viewAt r):=by
 unfold viewAt;refine zq6 (λe n=>rfl) λx=>?_
 repeat' (first|with_reducible (first|exact Stdy.out|refine zq5 ?_|refine zq6 ?_ (λ_=>?_)|refine zq3 ?_ (λ_=>?_))|exact λ_ _=>rfl |split|simp only[])
instance (r:Nat):Stdy P (viewAt r):=⟨zq98 r⟩
theorem zqgl(a:Addr):zq2 P (noView a):=by
 unfold noView
 repeat' (first|with_reducible (first|exact Stdy.out|refine zq5 ?_|refine zq6 ?_ (λ_=>?_)|refine zq3 ?_ (λ_=>?_))|exact λ_ _=>rfl |split|simp only[])
instance (a:Addr):Stdy P (noView a):=⟨zqgl a⟩
theorem zqf4(a:Addr):zq2 P (byteOf a):=by
 unfold byteOf
 repeat' (first|with_reducible (first|exact Stdy.out|refine zq5 ?_|refine zq6 ?_ (λ_=>?_)|refine zq3 ?_ (λ_=>?_))|exact λ_ _=>rfl |split|simp only[])
instance (a:Addr):Stdy P (byteOf a):=⟨zqf4 a⟩
theorem zqgo(a:Addr)(i j:Nat):zq2 P (partAt a i j):=by
 unfold partAt
 repeat' (first|with_reducible (first|exact Stdy.out|refine zq5 ?_|refine zq6 ?_ (λ_=>?_)|refine zq3 ?_ (λ_=>?_))|exact λ_ _=>rfl |split|simp only[])
instance (a:Addr) (i j:Nat):Stdy P (partAt a i j):=⟨zqgo a i j⟩
theorem zqfo(a:Addr)(f:Field):zq2 P (fieldPlace a f):=by
 unfold fieldPlace
 repeat' (first|with_reducible (first|exact Stdy.out|refine zq5 ?_|refine zq6 ?_ (λ_=>?_)|refine zq3 ?_ (λ_=>?_))|exact λ_ _=>rfl |split|simp only[])
instance (a:Addr) (f:Field):Stdy P (fieldPlace a f):=⟨zqfo a f⟩
theorem zqeq(t:TypeId):zq2 P (Instr.alloc t true (.tuple #[])):=by
 unfold Instr.alloc
 repeat' (first|with_reducible (first|exact Stdy.out|refine zq5 ?_|refine zq6 ?_ (λ_=>?_)|refine zq3 ?_ (λ_=>?_))|exact λ_ _=>rfl |split|simp only[])
instance (t:TypeId):Stdy P (Instr.alloc t true (.tuple #[])):=⟨zqeq t⟩
theorem zqf1(t:TypeId)(v:Value):zq2 P (Instr.box t v):=by
 unfold Instr.box
 repeat' (first|with_reducible (first|exact Stdy.out|refine zq5 ?_|refine zq6 ?_ (λ_=>?_)|refine zq3 ?_ (λ_=>?_))|exact λ_ _=>rfl |split|simp only[])
instance (t:TypeId) (v:Value):Stdy P (Instr.box t v):=⟨zqf1 t v⟩
theorem zqga{γ δ:Type}(f:γ->Sem δ)(h:∀a,zq2 P (f a))(l:List γ):zq2 P (l.mapM f):=by
 induction l with
 |nil=>exact zq1b _
 |cons a l ih=>rw[List.mapM_cons];exact zq3 (h a) λ_=>zq3 ih λ_=>zq1b _
theorem zq8w{γ δ:Type}(f:γ->Sem δ)(h:∀a,zq2 P (f a))(l:Array γ):zq2 P (l.mapM f):=by
 rw[Array.mapM_eq_mapM_toList];exact zq5 (zqga f h _)
instance {γ δ:Type} (f:γ->Sem δ) [h:∀a,Stdy P (f a)] (l:Array γ):Stdy P (l.mapM f):=⟨zq8w f (λa=>(h a).out) l⟩
instance {γ δ:Type} (s:Sem γ) (f:γ->Sem δ) [hs:Stdy P s] [h:∀a,Stdy P (f a)]:Stdy P (s>>= f):=⟨zq3 hs.out (λa=>(h a).out)⟩
theorem zqf2(t:TypeId)(ps:Array (Nat×Value)):zq2 P (Instr.build t ps):=by
 unfold Instr.build
 repeat' (first|with_reducible (first|exact Stdy.out|refine zq5 ?_|refine zq6 ?_ (λ_=>?_)|refine zq3 ?_ (λ_=>?_))|exact λ_ _=>rfl |split|simp only[])
instance (t:TypeId) (ps:Array (Nat×Value)):Stdy P (Instr.build t ps):=⟨zqf2 t ps⟩
theorem zqf3(t:TypeId)(n:Nat)(ps:Array (Nat×Value)):zq2 P (Instr.buildSlice t n ps):=by
 unfold Instr.buildSlice
 repeat' (first|with_reducible (first|exact Stdy.out|refine zq5 ?_|refine zq6 ?_ (λ_=>?_)|refine zq3 ?_ (λ_=>?_))|exact λ_ _=>rfl |split|simp only[])
instance (t:TypeId) (n:Nat) (ps:Array (Nat×Value)):Stdy P (Instr.buildSlice t n ps):=⟨zqf3 t n ps⟩
theorem zqg3(t:TypeId)(v:Value):zq2 P (Instr.loadAt t v):=by
 unfold Instr.loadAt
 repeat' (first|with_reducible (first|exact Stdy.out|refine zq5 ?_|refine zq6 ?_ (λ_=>?_)|refine zq3 ?_ (λ_=>?_))|exact λ_ _=>rfl |split|simp only[])
instance (t:TypeId) (v:Value):Stdy P (Instr.loadAt t v):=⟨zqg3 t v⟩
theorem zqh0(t:TypeId)(v x:Value):zq2 P (Instr.storeAt t v x):=zq3 (zq96 v) λ_=>zqh2 t _ x
instance (t:TypeId) (v x:Value):Stdy P (Instr.storeAt t v x):=⟨zqh0 t v x⟩
theorem zqfn(t:TypeId)(v:Value)(i:Nat):zq2 P (Instr.fieldAt t v i):=by
 unfold Instr.fieldAt
 repeat' (first|with_reducible (first|exact Stdy.out|refine zq5 ?_|refine zq6 ?_ (λ_=>?_)|refine zq3 ?_ (λ_=>?_))|exact λ_ _=>rfl |split|simp only[])
instance (t:TypeId) (v:Value) (i:Nat):Stdy P (Instr.fieldAt t v i):=⟨zqfn t v i⟩
theorem zqfv(t:TypeId)(v x:Value):zq2 P (Instr.indexAt t v x):=by
 unfold Instr.indexAt
 repeat' (first|with_reducible (first|exact Stdy.out|refine zq5 ?_|refine zq6 ?_ (λ_=>?_)|refine zq3 ?_ (λ_=>?_))|exact λ_ _=>rfl |split|simp only[])
instance (t:TypeId) (v x:Value):Stdy P (Instr.indexAt t v x):=⟨zqfv t v x⟩
theorem zqgy(v:Value)(y:Nat)(c:BoundsCode):zq2 P (Instr.sliceBound v y c):=by
 unfold Instr.sliceBound
 repeat' (first|with_reducible (first|exact Stdy.out|refine zq5 ?_|refine zq6 ?_ (λ_=>?_)|refine zq3 ?_ (λ_=>?_))|exact λ_ _=>rfl |split|simp only[])
instance (v:Value) (y:Nat) (c:BoundsCode):Stdy P (Instr.sliceBound v y c):=⟨zqgy v y c⟩
theorem zqgz(b:Bool)(n m:Nat)(x y z:Option Value):zq2 P (Instr.sliceBounds b n m x y z):=by
 unfold Instr.sliceBounds
 repeat' (first|with_reducible (first|exact Stdy.out|refine zq5 ?_|refine zq6 ?_ (λ_=>?_)|refine zq3 ?_ (λ_=>?_))|exact λ_ _=>rfl |split|simp only[])
instance (b:Bool) (n m:Nat) (x y z:Option Value):Stdy P (Instr.sliceBounds b n m x y z):=⟨zqgz b n m x y z⟩
theorem zqgw(t:TypeId)(v:Value)(x y z:Option Value):zq2 P (Instr.slice t v x y z):=by
 unfold Instr.slice
 repeat' (first|with_reducible (first|exact Stdy.out|refine zq5 ?_|refine zq6 ?_ (λ_=>?_)|refine zq3 ?_ (λ_=>?_))|exact λ_ _=>rfl |split|simp only[])
instance (t:TypeId) (v:Value) (x y z:Option Value):Stdy P (Instr.slice t v x y z):=⟨zqgw t v x y z⟩
theorem zqgx(t:TypeId)(v:Value)(x y z:Option Value):zq2 P (Instr.sliceAt t v x y z):=by
 unfold Instr.sliceAt
 repeat' (first|with_reducible (first|exact Stdy.out|refine zq5 ?_|refine zq6 ?_ (λ_=>?_)|refine zq3 ?_ (λ_=>?_))|exact λ_ _=>rfl |split|simp only[])
instance (t:TypeId) (v:Value) (x y z:Option Value):Stdy P (Instr.sliceAt t v x y z):=⟨zqgx t v x y z⟩
theorem zqg8(t:TypeId)(v:Value):zq2 P (Instr.makeInterface t v):=by
 unfold Instr.makeInterface
 repeat' (first|with_reducible (first|exact Stdy.out|refine zq5 ?_|refine zq6 ?_ (λ_=>?_)|refine zq3 ?_ (λ_=>?_))|exact λ_ _=>rfl |split|simp only[])
instance (t:TypeId) (v:Value):Stdy P (Instr.makeInterface t v):=⟨zqg8 t v⟩
theorem zqg7(f:Fn)(a b:Array Value):zq2 P (Instr.makeFunc f a b):=by
 unfold Instr.makeFunc
 repeat' (first|with_reducible (first|exact Stdy.out|refine zq5 ?_|refine zq6 ?_ (λ_=>?_)|refine zq3 ?_ (λ_=>?_))|exact λ_ _=>rfl |split|simp only[])
instance (f:Fn) (a b:Array Value):Stdy P (Instr.makeFunc f a b):=⟨zqg7 f a b⟩
theorem zqg6(t:TypeId)(v:Value):zq2 P (Instr.makeChan t v):=by
 unfold Instr.makeChan
 repeat' (first|with_reducible (first|exact Stdy.out|refine zq5 ?_|refine zq6 ?_ (λ_=>?_)|refine zq3 ?_ (λ_=>?_))|exact λ_ _=>rfl |split|simp only[])
instance (t:TypeId) (v:Value):Stdy P (Instr.makeChan t v):=⟨zqg6 t v⟩
theorem zqex(n:Nat):zq2 P (askRoom n):=by
 unfold askRoom
 repeat' (first|with_reducible (first|exact Stdy.out|refine zq5 ?_|refine zq6 ?_ (λ_=>?_)|refine zq3 ?_ (λ_=>?_))|exact λ_ _=>rfl |split|simp only[])
instance (n:Nat):Stdy P (askRoom n):=⟨zqex n⟩
theorem zqg9(t:TypeId)(a b:Value):zq2 P (Instr.makeSlice t a b):=by
 unfold Instr.makeSlice
 repeat' (first|with_reducible (first|exact Stdy.out|refine zq5 ?_|refine zq6 ?_ (λ_=>?_)|refine zq3 ?_ (λ_=>?_))|exact λ_ _=>rfl |split|simp only[])
instance (t:TypeId) (a b:Value):Stdy P (Instr.makeSlice t a b):=⟨zqg9 t a b⟩
theorem zqfm(t:TypeId)(v:Value)(i:Nat):zq2 P (Instr.field t v i):=by
 unfold Instr.field
 repeat' (first|with_reducible (first|exact Stdy.out|refine zq5 ?_|refine zq6 ?_ (λ_=>?_)|refine zq3 ?_ (λ_=>?_))|exact λ_ _=>rfl |split|simp only[])
instance (t:TypeId) (v:Value) (i:Nat):Stdy P (Instr.field t v i):=⟨zqfm t v i⟩
theorem zqfu(t:TypeId)(v x:Value):zq2 P (Instr.index t v x):=by
 unfold Instr.index
 repeat' (first|with_reducible (first|exact Stdy.out|refine zq5 ?_|refine zq6 ?_ (λ_=>?_)|refine zq3 ?_ (λ_=>?_))|exact λ_ _=>rfl |split|simp only[])
instance (t:TypeId) (v x:Value):Stdy P (Instr.index t v x):=⟨zqfu t v x⟩
theorem zqfl(v:Value)(i:Nat):zq2 P (Instr.extract v i):=by
 unfold Instr.extract
 repeat' (first|with_reducible (first|exact Stdy.out|refine zq5 ?_|refine zq6 ?_ (λ_=>?_)|refine zq3 ?_ (λ_=>?_))|exact λ_ _=>rfl |split|simp only[])
instance (v:Value) (i:Nat):Stdy P (Instr.extract v i):=⟨zqfl v i⟩
theorem zqh6(v:Value)(t u:TypeId)(b:Bool):zq2 P (Instr.typeAssert v t u b):=by
 unfold Instr.typeAssert
 repeat' (first|with_reducible (first|exact Stdy.out|refine zq5 ?_|refine zq6 ?_ (λ_=>?_)|refine zq3 ?_ (λ_=>?_))|exact λ_ _=>rfl |split|simp only[])
instance (v:Value) (t u:TypeId) (b:Bool):Stdy P (Instr.typeAssert v t u b):=⟨zqh6 v t u b⟩
theorem zqfw(o:BinOp)(k:IntKind)(x y:Int):zq2 P (Op.intArith o k x y):=by
 unfold Op.intArith
 repeat' (first|with_reducible (first|exact Stdy.out|refine zq5 ?_|refine zq6 ?_ (λ_=>?_)|refine zq3 ?_ (λ_=>?_))|exact λ_ _=>rfl |split|simp only[])
instance (o:BinOp) (k:IntKind) (x y:Int):Stdy P (Op.intArith o k x y):=⟨zqfw o k x y⟩
theorem zqfz(o:BinOp)(k:IntKind)(x y:Int):zq2 P (Op.intDiv o k x y):=by
 unfold Op.intDiv
 repeat' (first|with_reducible (first|exact Stdy.out|refine zq5 ?_|refine zq6 ?_ (λ_=>?_)|refine zq3 ?_ (λ_=>?_))|exact λ_ _=>rfl |split|simp only[])
instance (o:BinOp) (k:IntKind) (x y:Int):Stdy P (Op.intDiv o k x y):=⟨zqfz o k x y⟩
theorem zqfx(o:BinOp)(k:IntKind)(x y:Int):zq2 P (Op.intBits o k x y):=by
 unfold Op.intBits
 repeat' (first|with_reducible (first|exact Stdy.out|refine zq5 ?_|refine zq6 ?_ (λ_=>?_)|refine zq3 ?_ (λ_=>?_))|exact λ_ _=>rfl |split|simp only[])
instance (o:BinOp) (k:IntKind) (x y:Int):Stdy P (Op.intBits o k x y):=⟨zqfx o k x y⟩
theorem zqfy(o:BinOp)(x y:Int):zq2 P (Op.intCmp o x y):=by
 unfold Op.intCmp
 repeat' (first|with_reducible (first|exact Stdy.out|refine zq5 ?_|refine zq6 ?_ (λ_=>?_)|refine zq3 ?_ (λ_=>?_))|exact λ_ _=>rfl |split|simp only[])
instance (o:BinOp) (x y:Int):Stdy P (Op.intCmp o x y):=⟨zqfy o x y⟩
theorem zqgv(o:BinOp)(k:IntKind)(x:Int)(l:IntKind)(y:Int):zq2 P (Op.shift o k x l y):=by
 unfold Op.shift
 repeat' (first|with_reducible (first|exact Stdy.out|refine zq5 ?_|refine zq6 ?_ (λ_=>?_)|refine zq3 ?_ (λ_=>?_))|exact λ_ _=>rfl |split|simp only[])
instance (o:BinOp) (k:IntKind) (x:Int) (l:IntKind) (y:Int):Stdy P (Op.shift o k x l y):=⟨zqgv o k x l y⟩
theorem zqfq(o:BinOp)(k:FloatKind)(x y:Nat):zq2 P (Op.floatArith o k x y):=by
 unfold Op.floatArith
 repeat' (first|with_reducible (first|exact Stdy.out|refine zq5 ?_|refine zq6 ?_ (λ_=>?_)|refine zq3 ?_ (λ_=>?_))|exact λ_ _=>rfl |split|simp only[])
instance (o:BinOp) (k:FloatKind) (x y:Nat):Stdy P (Op.floatArith o k x y):=⟨zqfq o k x y⟩
theorem zqfr(o:BinOp)(k:FloatKind)(x y:Nat):zq2 P (Op.floatCmp o k x y):=by
 unfold Op.floatCmp
 repeat' (first|with_reducible (first|exact Stdy.out|refine zq5 ?_|refine zq6 ?_ (λ_=>?_)|refine zq3 ?_ (λ_=>?_))|exact λ_ _=>rfl |split|simp only[])
instance (o:BinOp) (k:FloatKind) (x y:Nat):Stdy P (Op.floatCmp o k x y):=⟨zqfr o k x y⟩
theorem zqh3(o:BinOp)(x y:ByteArray):zq2 P (Op.stringOp o x y):=by
 unfold Op.stringOp
 repeat' (first|with_reducible (first|exact Stdy.out|refine zq5 ?_|refine zq6 ?_ (λ_=>?_)|refine zq3 ?_ (λ_=>?_))|exact λ_ _=>rfl |split|simp only[])
instance (o:BinOp) (x y:ByteArray):Stdy P (Op.stringOp o x y):=⟨zqh3 o x y⟩
theorem zqfs(k:FloatKind)(x:Nat)(l:FloatKind):zq2 P (Conv.floatToFloat k x l):=by
 unfold Conv.floatToFloat
 repeat' (first|with_reducible (first|exact Stdy.out|refine zq5 ?_|refine zq6 ?_ (λ_=>?_)|refine zq3 ?_ (λ_=>?_))|exact λ_ _=>rfl |split|simp only[])
instance (k:FloatKind) (x:Nat) (l:FloatKind):Stdy P (Conv.floatToFloat k x l):=⟨zqfs k x l⟩
theorem zqf6(o:BinOp)(k:FloatKind)(x y:Nat):zq2 P (Op.Complex.arith o k x y):=by
 unfold Op.Complex.arith
 repeat' (first|with_reducible (first|exact Stdy.out|refine zq5 ?_|refine zq6 ?_ (λ_=>?_)|refine zq3 ?_ (λ_=>?_))|exact λ_ _=>rfl |split|simp only[])
instance (o:BinOp) (k:FloatKind) (x y:Nat):Stdy P (Op.Complex.arith o k x y):=⟨zqf6 o k x y⟩
theorem zqf8(o:BinOp)(k:FloatKind)(x y:Nat):zq2 P (Op.Complex.cmp o k x y):=by
 unfold Op.Complex.cmp
 repeat' (first|with_reducible (first|exact Stdy.out|refine zq5 ?_|refine zq6 ?_ (λ_=>?_)|refine zq3 ?_ (λ_=>?_))|exact λ_ _=>rfl |split|simp only[])
instance (o:BinOp) (k:FloatKind) (x y:Nat):Stdy P (Op.Complex.cmp o k x y):=⟨zqf8 o k x y⟩
theorem zqf9(k:FloatKind)(x:Nat)(l:FloatKind):zq2 P (Op.Complex.conv k x l):=by
 unfold Op.Complex.conv
 repeat' (first|with_reducible (first|exact Stdy.out|refine zq5 ?_|refine zq6 ?_ (λ_=>?_)|refine zq3 ?_ (λ_=>?_))|exact λ_ _=>rfl |split|simp only[])
instance (k:FloatKind) (x:Nat) (l:FloatKind):Stdy P (Op.Complex.conv k x l):=⟨zqf9 k x l⟩
theorem zqf5(x y:Nat):zq2 P (Op.Complex.add x y):=by
 unfold Op.Complex.add
 repeat' (first|with_reducible (first|exact Stdy.out|refine zq5 ?_|refine zq6 ?_ (λ_=>?_)|refine zq3 ?_ (λ_=>?_))|exact λ_ _=>rfl |split|simp only[])
instance (x y:Nat):Stdy P (Op.Complex.add x y):=⟨zqf5 x y⟩
theorem zqfg(x y:Nat):zq2 P (Op.Complex.sub x y):=by
 unfold Op.Complex.sub
 repeat' (first|with_reducible (first|exact Stdy.out|refine zq5 ?_|refine zq6 ?_ (λ_=>?_)|refine zq3 ?_ (λ_=>?_))|exact λ_ _=>rfl |split|simp only[])
instance (x y:Nat):Stdy P (Op.Complex.sub x y):=⟨zqfg x y⟩
theorem zqfb(x y:Nat):zq2 P (Op.Complex.mul x y):=by
 unfold Op.Complex.mul
 repeat' (first|with_reducible (first|exact Stdy.out|refine zq5 ?_|refine zq6 ?_ (λ_=>?_)|refine zq3 ?_ (λ_=>?_))|exact λ_ _=>rfl |split|simp only[])
instance (x y:Nat):Stdy P (Op.Complex.mul x y):=⟨zqfb x y⟩
theorem zqff(x y:Nat):zq2 P (Op.Complex.quo x y):=by
 unfold Op.Complex.quo
 repeat' (first|with_reducible (first|exact Stdy.out|refine zq5 ?_|refine zq6 ?_ (λ_=>?_)|refine zq3 ?_ (λ_=>?_))|exact λ_ _=>rfl |split|simp only[])
instance (x y:Nat):Stdy P (Op.Complex.quo x y):=⟨zqff x y⟩
theorem zqgp(a b c d:Nat):zq2 P (Op.Complex.product a b c d):=by
 unfold Op.Complex.product
 repeat' (first|with_reducible (first|exact Stdy.out|refine zq5 ?_|refine zq6 ?_ (λ_=>?_)|refine zq3 ?_ (λ_=>?_))|exact λ_ _=>rfl |split|simp only[])
instance (a b c d:Nat):Stdy P (Op.Complex.product a b c d):=⟨zqgp a b c d⟩
theorem zqfe(s a b c d:Nat):zq2 P (Op.Complex.corrected s a b c d):=by
 unfold Op.Complex.corrected
 repeat' (first|with_reducible (first|exact Stdy.out|refine zq5 ?_|refine zq6 ?_ (λ_=>?_)|refine zq3 ?_ (λ_=>?_))|exact λ_ _=>rfl |split|simp only[])
instance (s a b c d:Nat):Stdy P (Op.Complex.corrected s a b c d):=⟨zqfe s a b c d⟩
theorem zqgr(a b c d:Nat):zq2 P (Op.Complex.quotient a b c d):=by
 unfold Op.Complex.quotient
 repeat' (first|with_reducible (first|exact Stdy.out|refine zq5 ?_|refine zq6 ?_ (λ_=>?_)|refine zq3 ?_ (λ_=>?_))|exact λ_ _=>rfl |split|simp only[])
instance (a b c d:Nat):Stdy P (Op.Complex.quotient a b c d):=⟨zqgr a b c d⟩
theorem zqfc(o:BinOp)(k:FloatKind)(a b c d:Nat):zq2 P (Op.complexOp o k a b c d):=by
 unfold Op.complexOp
 repeat' (first|with_reducible (first|exact Stdy.out|refine zq5 ?_|refine zq6 ?_ (λ_=>?_)|refine zq3 ?_ (λ_=>?_))|exact λ_ _=>rfl |split|simp only[])
instance (o:BinOp) (k:FloatKind) (a b c d:Nat):Stdy P (Op.complexOp o k a b c d):=⟨zqfc o k a b c d⟩
theorem zqgm(r:Nat):zq2 P (numberAt r):=by
 unfold numberAt;refine zq6 (λe n=>rfl) λx=>?_
 repeat' (first|with_reducible (first|exact Stdy.out|refine zq5 ?_|refine zq6 ?_ (λ_=>?_)|refine zq3 ?_ (λ_=>?_))|exact λ_ _=>rfl |split|simp only[])
instance (r:Nat):Stdy P (numberAt r):=⟨zqgm r⟩
theorem zqey(a:Addr):zq2 P (behindNumber a):=by
 unfold behindNumber
 repeat' (first|with_reducible (first|exact Stdy.out|refine zq5 ?_|refine zq6 ?_ (λ_=>?_)|refine zq3 ?_ (λ_=>?_))|exact λ_ _=>rfl |split|simp only[])
instance (a:Addr):Stdy P (behindNumber a):=⟨zqey a⟩
theorem zqew(a:Addr)(b:Bool):zq2 P (asNumber a b):=by
 unfold asNumber
 repeat' (first|with_reducible (first|exact Stdy.out|refine zq5 ?_|refine zq6 ?_ (λ_=>?_)|refine zq3 ?_ (λ_=>?_))|exact λ_ _=>rfl |split|simp only[])
instance (a:Addr) (b:Bool):Stdy P (asNumber a b):=⟨zqew a b⟩
theorem zq8c(w:World)(es:Array Event)(a:Addr):(stringish a).runT P w es=(.ok (w.frozen? a || match w.shape? a.block with|some (_,n)=>w.frozen? ⟨a.block,n,none⟩|none=>false) w,es):=by
 unfold stringish;have e:(frozen a).runT P w es=(.ok (w.frozen? a) w,es):=rfl;rw[zq1x,e];simp only[];cases hf:w.frozen? a with
 |true=>rfl
 |false=>
  simp only[Bool.false_eq_true,if_false,Bool.false_or];show((match w.shape? a.block with|some (_,n)=>frozen {block:=a.block,off:=n}|none=>pure false:Sem Bool)).runT P w es=_;cases w.shape? a.block with
  |none=>rfl
  |some x=>rfl
def strB(w:World)(a:Addr):Bool:=w.frozen? a || match w.shape? a.block with|some (_,n)=>w.frozen? ⟨a.block,n,none⟩|none=>false
def noneB(w:World)(a:Addr):Bool:=match w.shape? a.block with|some (_,0)=>true|_=>false
theorem zq9b{X:Snap}{w wc:World}(h:Cut X w wc)(a:Addr):strB wc a=strB w a:=by
 unfold strB;rw[h.frozen];cases hx:X a.block with
 |none=>rw[h.shape_out hx];congr 1;split<;>first|exact h.frozen _|rfl
 |some x=>
  obtain⟨c,e⟩:=x;obtain⟨h1,h2⟩:=h.shape_in hx;rw[h1,h2];simp only[];rw[h.frozen,h.frozen_in (a:=⟨a.block,0,none⟩) hx,h.frozen_in (a:=⟨a.block,c.size,none⟩) hx]
theorem strB_in{X:Snap}{w wc:World}(h:Cut X w wc){a:Addr}{x}(hx:X a.block=some x):strB w a=false:=by
 obtain⟨c,e⟩:=x;unfold strB;rw[h.frozen_in hx,(h.shape_in hx).1];simp only[Bool.false_or];exact h.frozen_in (a:=⟨a.block,c.size,none⟩) hx
theorem zq8b(w:World)(es:Array Event)(a b:Addr):(mayBeOne a b).runT P w es=(.ok ((strB w a&&strB w b) || (strB w a&&noneB w a) || (strB w b&&noneB w b)) w,es):=by
 unfold mayBeOne;simp only[];rw[zq1x,zq8c];simp only[];rw[zq1x,zq8c];simp only[];rfl
theorem zqgd(a b:Addr):zq2 P (mayBeOne a b):=by
 intro X w wc es h hfit;rw[zq8b,zq8b];refine⟨w,h,?_,λe he=>.inl he⟩;rw[zq9b h,zq9b h];have key:∀a:Addr,(strB w a&&noneB wc a)=(strB w a&&noneB w a):=λa=>by
  cases hx:X a.block with
  |none=>unfold noneB;rw[h.shape_out hx]
  |some x=>rw[strB_in h hx];rfl
 rw[key,key];rfl
instance (a b:Addr):Stdy P (mayBeOne a b):=⟨zqgd a b⟩
theorem zqgt(a b:Addr):zq2 P (sameAddr a b):=by
 unfold sameAddr
 repeat' (first|with_reducible (first|exact Stdy.out|refine zq5 ?_|refine zq6 ?_ (λ_=>?_)|refine zq3 ?_ (λ_=>?_))|exact λ_ _=>rfl |split|simp only[])
instance (a b:Addr):Stdy P (sameAddr a b):=⟨zqgt a b⟩
theorem zq91(a b:Option Addr):zq2 P (samePointer a b):=by
 unfold samePointer
 repeat' (first|with_reducible (first|exact Stdy.out|refine zq5 ?_|refine zq6 ?_ (λ_=>?_)|refine zq3 ?_ (λ_=>?_))|exact λ_ _=>rfl |split|simp only[])
instance (a b:Option Addr):Stdy P (samePointer a b):=⟨zq91 a b⟩
theorem zqh5(a b:Addr):zq2 P (Op.twoPlaces a b):=by
 unfold Op.twoPlaces
 repeat' (first|with_reducible (first|exact Stdy.out|refine zq5 ?_|refine zq6 ?_ (λ_=>?_)|refine zq3 ?_ (λ_=>?_))|exact λ_ _=>rfl |split|simp only[])
instance (a b:Addr):Stdy P (Op.twoPlaces a b):=⟨zqh5 a b⟩
theorem zqep(k:IntKind)(a b:Addr):zq2 P (Op.addrSub k a b):=by
 unfold Op.addrSub
 repeat' (first|with_reducible (first|exact Stdy.out|refine zq5 ?_|refine zq6 ?_ (λ_=>?_)|refine zq3 ?_ (λ_=>?_))|exact λ_ _=>rfl |split|simp only[])
instance (k:IntKind) (a b:Addr):Stdy P (Op.addrSub k a b):=⟨zqep k a b⟩
theorem zqen(o:BinOp)(a b:Addr):zq2 P (Op.addrCmp o a b):=by
 unfold Op.addrCmp
 repeat' (first|with_reducible (first|exact Stdy.out|refine zq5 ?_|refine zq6 ?_ (λ_=>?_)|refine zq3 ?_ (λ_=>?_))|exact λ_ _=>rfl |split|simp only[])
instance (o:BinOp) (a b:Addr):Stdy P (Op.addrCmp o a b):=⟨zqen o a b⟩
theorem zqeo(k:IntKind)(a:Addr)(n:Int):zq2 P (Op.addrMod k a n):=by
 unfold Op.addrMod;refine zq6 (λe n=>rfl) λx=>?_
 repeat' (first|with_reducible (first|exact Stdy.out|refine zq5 ?_|refine zq6 ?_ (λ_=>?_)|refine zq3 ?_ (λ_=>?_))|exact λ_ _=>rfl |split|simp only[])
instance (k:IntKind) (a:Addr) (n:Int):Stdy P (Op.addrMod k a n):=⟨zqeo k a n⟩
theorem zqgu{r:Nat}{f:Option (TypeId×Nat)->Sem β}(he:∀e w es,¬fit ((f (some (e,0))).runT P w es).1)(hf:∀x,zq2 P (f x)):zq2 P (shape r>>= f):=by
 intro X w wc es h hfit;have e1:∀w,(shape r>>= f).runT P w es=(f (w.shape? r)).runT P w es:=λw=>rfl;rw[e1]at hfit;rw[e1,e1];cases hx:X r with
 |none=>rw[h.shape_out hx]at hfit |-;exact hf _ X w wc es h hfit
 |some x=>
  obtain⟨c,e⟩:=x;rw[(h.shape_in hx).2]at hfit;exact absurd hfit (he _ _ _)
theorem zqbi(p:Program)(d:Nat)(e:TypeId)(off:Nat)(n:Int):cellAtBytes p d e 0 off n=none:=by
 unfold cellAtBytes;simp only[bind,Option.bind];split
 . rfl
 . split
   . rfl
   . simp only[];rw[if_pos (by simp;omega)]
theorem zqh9(t:TypeId)(x:Option Addr)(y:Value):zq2 P (Builtin.unsafeAdd_ #[] t #[.pointer x,y]):=by
 refine zq3 (s:=asInt y) (zq8l y) (λn=>?_)
 repeat' (first|with_reducible (first|exact Stdy.out|refine zq5 ?_|refine zqgu ?_ (λ_=>?_)|refine zq3 ?_ (λ_=>?_))|exact λ_ _=>rfl |split|simp only[])
 all_goals(intro e w es hfit;rw[zq1x]at hfit;simp only[program,Sem.runT,Nat.zero_div,zqbi]at hfit;exact hfit)
theorem zqha(t:TypeId)(x y:Value):zq2 P (Builtin.unsafeAdd_ #[] t #[x,y]):=by
 cases x<;>first|exact zqh9 _ _ _|exact zq18 _
instance (t:TypeId) (x y:Value):Stdy P (Builtin.unsafeAdd_ #[] t #[x,y]):=⟨zqha t x y⟩
theorem zqgg(t:TypeId)(x y:Value):zq2 P (movedNumber t x y):=by
 unfold movedNumber
 repeat' (first|with_reducible (first|exact Stdy.out|refine zq5 ?_|refine zq6 ?_ (λ_=>?_)|refine zq3 ?_ (λ_=>?_))|exact λ_ _=>rfl |split|simp only[])
instance (t:TypeId) (x y:Value):Stdy P (movedNumber t x y):=⟨zqgg t x y⟩
theorem zqgh(t:TypeId)(x y:Value):zq2 P (movedPointer t x y):=by
 unfold movedPointer
 repeat' (first|with_reducible (first|exact Stdy.out|refine zq5 ?_|refine zq6 ?_ (λ_=>?_)|refine zq3 ?_ (λ_=>?_))|exact λ_ _=>rfl |split|simp only[])
instance (t:TypeId) (x y:Value):Stdy P (movedPointer t x y):=⟨zqgh t x y⟩
theorem zqfj(a b:Addr):zq2 P ((do pure ((<-byteOf a)==(<-byteOf b)):Sem Bool)):=by
 repeat' (first|with_reducible (first|exact Stdy.out|refine zq5 ?_|refine zq6 ?_ (λ_=>?_)|refine zq3 ?_ (λ_=>?_))|exact λ_ _=>rfl |split|simp only[])
instance (a b:Addr):Stdy P ((do pure ((<-byteOf a)==(<-byteOf b)):Sem Bool)):=⟨zqfj a b⟩
theorem zq8q{γ δ:Type}(l:List γ)(b:δ)(f:γ->δ->Sem (ForInStep δ))(h:∀a b,zq2 P (f a b)):zq2 P (forIn l b f):=by
 induction l generalizing b with
 |nil=>exact zq1b _
 |cons a l ih=>
  rw[List.forIn_cons];refine zq3 (h a b) λr=>?_;cases r with
  |done b=>exact zq1b _
  |yield b=>exact ih b
theorem zq8r{γ δ:Type}(l:Array γ)(b:δ)(f:γ->δ->Sem (ForInStep δ))(h:∀a b,zq2 P (f a b)):zq2 P (forIn l b f):=by
 rw[<-Array.forIn_toList];exact zq8q _ _ _ h
theorem zq8s{δ:Type}(r:Std.Legacy.Range)(b:δ)(f:Nat->δ->Sem (ForInStep δ))(h:∀a b,zq2 P (f a b)):zq2 P (forIn r b f):=by
 rw[Std.Legacy.Range.forIn_eq_forIn_range'];exact zq8q _ _ _ h
theorem zq8n:∀(d:Nat)(t:TypeId)(x y:Value),zq2 P (Op.equalIn d t x y)
 |0,_,_,_=>zq18 _
 |d+1,t,x,y=>by
  have ih:=λt x y=>zq8n d t x y;unfold Op.equalIn;refine zq3 (zq51 _) (λk=>?_)
  repeat' (first|with_reducible (first|exact Stdy.out|refine zq5 ?_|refine zq6 ?_ (λ_=>?_)|refine zq3 ?_ (λ_=>?_))|exact λ_ _=>rfl |split|simp only[]|with_reducible exact ih _ _ _|refine zq8r _ _ _ (λ_ _=>?_)|refine zq8s _ _ _ (λ_ _=>?_))
theorem zq8m:∀(d:Nat)(t:TypeId)(x y:Value),zq2 P (Op.eqGuardIn d t x y)
 |0,_,_,_=>zq18 _
 |d+1,t,x,y=>by
  have ih:=λt x y=>zq8m d t x y;unfold Op.eqGuardIn;refine zq3 (zq51 _) (λk=>?_)
  repeat' (first|with_reducible (first|exact Stdy.out|refine zq5 ?_|refine zq6 ?_ (λ_=>?_)|refine zq3 ?_ (λ_=>?_))|exact λ_ _=>rfl |split|simp only[]|with_reducible exact ih _ _ _|refine zq8r _ _ _ (λ_ _=>?_)|refine zq8s _ _ _ (λ_ _=>?_))
instance (d:Nat) (t:TypeId) (x y:Value):Stdy P (Op.eqGuardIn d t x y):=⟨zq8m d t x y⟩
instance (t:TypeId) (x y:Value):Stdy P (Op.equal t x y):=⟨zq8n _ t x y⟩
theorem zqfk(o:BinOp)(t:TypeId)(x y:Operand)(a b:Value):zq2 P (eqGuard o t x y a b):=by
 unfold eqGuard
 repeat' (first|with_reducible (first|exact Stdy.out|refine zq5 ?_|refine zq6 ?_ (λ_=>?_)|refine zq3 ?_ (λ_=>?_))|exact λ_ _=>rfl |split|simp only[])
instance (o:BinOp) (t:TypeId) (x y:Operand) (a b:Value):Stdy P (eqGuard o t x y a b):=⟨zqfk o t x y a b⟩
theorem zqez(o:BinOp)(t:TypeId)(x y:Value):zq2 P (binOp o t x y):=by
 unfold binOp
 repeat' (first|with_reducible (first|exact Stdy.out|refine zq5 ?_|refine zq6 ?_ (λ_=>?_)|refine zq3 ?_ (λ_=>?_))|exact λ_ _=>rfl |split|simp only[])
instance (o:BinOp) (t:TypeId) (x y:Value):Stdy P (binOp o t x y):=⟨zqez o t x y⟩
theorem zqh8(o:UnOp)(x:Value):zq2 P (Op.unary o x):=by
 unfold Op.unary
 repeat' (first|with_reducible (first|exact Stdy.out|refine zq5 ?_|refine zq6 ?_ (λ_=>?_)|refine zq3 ?_ (λ_=>?_))|exact λ_ _=>rfl |split|simp only[])
instance (o:UnOp) (x:Value):Stdy P (Op.unary o x):=⟨zqh8 o x⟩
theorem zqg2(x:Value):zq2 P (Builtin.lenOf x):=by
 unfold Builtin.lenOf
 repeat' (first|with_reducible (first|exact Stdy.out|refine zq5 ?_|refine zq6 ?_ (λ_=>?_)|refine zq3 ?_ (λ_=>?_))|exact λ_ _=>rfl |split|simp only[])
instance (x:Value):Stdy P (Builtin.lenOf x):=⟨zqg2 x⟩
theorem zqfp(s n:Nat)(x:Value):zq2 P (Builtin.firstCells s n x):=by
 unfold Builtin.firstCells
 repeat' (first|with_reducible (first|exact Stdy.out|refine zq5 ?_|refine zq6 ?_ (λ_=>?_)|refine zq3 ?_ (λ_=>?_))|exact λ_ _=>rfl |split|simp only[])
instance (s n:Nat) (x:Value):Stdy P (Builtin.firstCells s n x):=⟨zqfp s n x⟩
theorem zq60{t:TypeId}{f:TypeDesc->Sem α}(h:∀d,P.underlying t=some d->zq2 P (f d)):zq2 P (do let d<-underlying t;f d):=by
 intro X w wc es hc hfit;have e:∀w,(do let d<-underlying t;f d:Sem α).runT P w es=(match P.underlying t with|some d=>(f d).runT P w es|none=>(.halt (.stuck "no such type") w,es)):=by
  intro w;rw[zq1x];have:(underlying t).runT P w es=(match P.underlying t with|some d=>(.ok d w,es)|none=>(.halt (.stuck "no such type") w,es)):=by
   unfold underlying;show((match P.underlying t with|some d=>pure d|none=>stuck "no such type" :Sem TypeDesc)).runT P w es=_;cases P.underlying t<;>rfl
  rw[this];cases P.underlying t<;>rfl
 rw[e]at hfit;rw[e,e];cases hd:P.underlying t with
 |none=>rw[hd]at hfit;exact hfit.elim
 |some d=>rw[hd]at hfit;exact h d hd X w wc es hc hfit
def NoPanic{α:Type}(P:Program)(s:Sem α):Prop:=∀w es v w',(s.runT P w es).1≠.halt (.panic v) w'
theorem zqfh{s:Sem α}{f:α->Sem β}(hs:NoPanic P s)(hf:∀a w es,¬fit ((f a).runT P w es).1):zq2 P (s>>= f):=by
 intro X w wc es h hfit;rw[zq1x]at hfit;have:=hs wc es;generalize s.runT P wc es=r at this hfit;obtain⟨r,es'⟩:=r;cases r with
 |ok a w'=>exact absurd hfit (hf a w' es')
 |halt x w'=>cases x<;>first|exact absurd rfl (this _ _)|exact hfit.elim
theorem zq80(a:Addr)(n:Nat)(w:World)(es:Array Event):∃b,(Builtin.holdsCells a n).runT P w es=(.ok b w,es):=by
 unfold Builtin.holdsCells;show ∃b,((match w.shape? a.block with|some (_,m)=>pure (a.spot.isNone&&a.off+n<=m)|none=>pure false:Sem Bool)).runT P w es=_;cases w.shape? a.block<;>exact⟨_,rfl⟩
theorem zqdg(s n m:Nat)(b:Option Addr)(x:Value)(w:World)(es:Array Event):∃y,(Builtin.mayShare s n m b x).runT P w es=(.ok y w,es):=by
 unfold Builtin.mayShare;have tail:∀t:Bool,∃y,((if(!t)=true then pure true else match x with|.slice (some c) _ _=>(do pure (!(<-Builtin.holdsCells c (m*s)) || b.any (·.block==c.block)))|_=>pure false:Sem Bool)).runT P w es=(.ok y w,es):=by
  intro t;cases t with
  |false=>exact⟨true,rfl⟩
  |true=>
   simp only[Bool.not_true,Bool.false_eq_true,if_false];split
   . rename_i c _ _;obtain⟨y,hy⟩:=zq80 (P:=P) c (m*s) w es;rw[zq1x,hy];exact⟨_,rfl⟩
   . exact⟨_,rfl⟩
 cases b with
 |none=>exact tail true
 |some a=>
  obtain⟨y,hy⟩:=zq80 (P:=P) a (n*s) w es;rw[zq1x,hy];exact tail _
theorem zqg1(l:Array TypeId)(t:TypeId)(a:Array Value):zq2 P (Builtin.len_ l t a):=by
 unfold Builtin.len_
 repeat' (first|with_reducible (first|exact Stdy.out|refine zq5 ?_|refine zq6 ?_ (λ_=>?_)|refine zq3 ?_ (λ_=>?_))|exact λ_ _=>rfl |split|simp only[])
theorem zqgf(x y:Value):zq2 P (Builtin.min2 x y):=by
 unfold Builtin.min2
 repeat' (first|with_reducible (first|exact Stdy.out|refine zq5 ?_|refine zq6 ?_ (λ_=>?_)|refine zq3 ?_ (λ_=>?_))|exact λ_ _=>rfl |split|simp only[])
theorem zqgc(x y:Value):zq2 P (Builtin.max2 x y):=by
 unfold Builtin.max2
 repeat' (first|with_reducible (first|exact Stdy.out|refine zq5 ?_|refine zq6 ?_ (λ_=>?_)|refine zq3 ?_ (λ_=>?_))|exact λ_ _=>rfl |split|simp only[])
theorem zq8o{γ:Type}(f:Value->γ->Sem Value)(h:∀a b,zq2 P (f a b))(l:List γ):∀(b:Value),zq2 P (l.foldlM f b):=by
 induction l with
 |nil=>exact λb=>zq1b _
 |cons a l ih=>intro b;rw[List.foldlM_cons];exact zq3 (h b a) λ_=>ih _
theorem zqge(l:Array TypeId)(t:TypeId)(a:Array Value):zq2 P (Builtin.min_ l t a):=by
 unfold Builtin.min_;split
 . exact zq18 _
 . exact zq8o _ (λ_ _=>zqgf _ _) _ _
theorem zqgb(l:Array TypeId)(t:TypeId)(a:Array Value):zq2 P (Builtin.max_ l t a):=by
 unfold Builtin.max_;split
 . exact zq18 _
 . exact zq8o _ (λ_ _=>zqgc _ _) _ _
theorem zq8p:∀(l:List FieldStep)(t:TypeId)(x:Option Value),zq2 P (followBlind l t x)
 |[],_,_=>zq1b _
 |s::rest,t,x=>by
  have ih:=λt x=>zq8p rest t x;unfold followBlind
  repeat' (first|with_reducible (first|exact Stdy.out|refine zq5 ?_|refine zq6 ?_ (λ_=>?_)|refine zq3 ?_ (λ_=>?_))|exact λ_ _=>rfl |split|simp only[]|with_reducible exact ih _ _)
theorem zq8y:∀(n:Nat)(t:TypeId)(x:Value)(s:String),zq2 P (nilAhead n t x s)
 |0,_,_,_=>zq1b _
 |n+1,t,x,s=>by
  have ih:=λt x s=>zq8y n t x s;unfold nilAhead
  repeat' (first|with_reducible (first|exact Stdy.out|refine zq5 ?_|refine zq6 ?_ (λ_=>?_)|refine zq3 ?_ (λ_=>?_))|exact λ_ _=>rfl |split|simp only[]|with_reducible (first|exact ih _ _ _|exact zq8p _ _ _))
instance (n:Nat) (t:TypeId) (x:Value) (s:String):Stdy P (nilAhead n t x s):=⟨zq8y n t x s⟩
end
end Go.Car
namespace Go.Car
open Go Go.Conc Go.RowKit
section
variable {α β:Type} {P:Program} {A:FuncId->Bool}
theorem zq92{γ:Type}{s n m:Nat}{b:Option Addr}{x:Value}{f:Bool->Sem γ}(hf:∀a w es,¬fit ((f a).runT P w es).1):zq2 P (Builtin.mayShare s n m b x>>= f):=by
 refine zqfh (λw es v w' h=>?_) hf;obtain⟨y,hy⟩:=zqdg (P:=P) s n m b x w es;rw[hy]at h;cases h
theorem zqes(l:Array TypeId)(t:TypeId)(a:Array Value)(hx:∀x,l[1]?=some x->∀k,P.underlying x≠some (.int k)):zq2 P (Builtin.append_ l t a):=by
 unfold Builtin.append_;split
 . refine zq3 (zq51 _) λd=>?_;split
   . split
     . refine zq3 (zq93 _) λsize=>?_;simp only[];cases e:l[1]? with
       |none=>
        simp only[Bool.false_eq_true,if_false,Bool.not_false,if_true,false_or,reduceIte,pure_bind]
        repeat' (first|with_reducible (first|exact Stdy.out|refine zq5 ?_|refine zq92 ?_|refine zq3 ?_ (λ_=>?_))|split|simp only[])
        all_goals(intro x w es hfit;cases x<;>exact hfit)
       |some x=>
        refine zq60 λd hd=>?_;have hne:=hx x e;cases d<;>first
         |(rename_i k;exact absurd hd (hne k))
         |(clear hd hne e hx
           simp only[Bool.false_eq_true,if_false,Bool.not_false,if_true,false_or,reduceIte,pure_bind]
           repeat' (first|with_reducible (first|exact Stdy.out|refine zq5 ?_|refine zq92 ?_|refine zq3 ?_ (λ_=>?_))|split|simp only[])
           all_goals(intro x w es hfit;cases x<;>exact hfit))
     . exact zq18 _
   . exact zq18 _
 . exact zq18 _
theorem zqfd{s d:TypeId}{k k':IntKind}(hs:P.underlying s=some (.int k))(hd:P.underlying d=some (.int k'))(x:Value):zq2 P (convert s d x):=by
 refine zq60 λa ha=>?_;refine zq60 λb hb=>?_;rw[hs]at ha;rw[hd]at hb;cases ha;cases hb;split<;>first|exact zq18 _|exact zq1b _|contradiction|(unfold Conv.floatToInt;simp only[];repeat' (first|with_reducible exact Stdy.out|refine zq3 ?_ (λ_=>?_)|split))
def RowsS(P:Program)(A:FuncId->Bool):Prop:=∀f,A f=true->∀fn e,P.funcs[f]?=some fn->fn.body=none->Extern.find fn=some e->∀args,zq2 P (e args)
theorem zq8z{f:Program->Sem α}(h:zq2 P (f P)):zq2 P (program>>= f):=by
 intro X w wc es hc hfit;have e:∀w,(program>>= f).runT P w es=(f P).runT P w es:=λw=>rfl;rw[e]at hfit;rw[e,e];exact h X w wc es hc hfit
theorem zq3b{s:Sem Value}(h:zq2 P s):zq2 P (do pure (.value (<-s)):Sem Next):=zq3 h λ_=>zq1b _
theorem zqbe{f:FuncId}{args:Array Value}(hA:A f=true)(h:okFn P A f)(hR:RowsS P A):zq2 P (callFunc f args):=by
 cases h with
 |text fn c hf hb hn hc=>
  unfold callFunc;refine zq8z ?_;simp only[hf,hn,hb,Option.isNone_some,Bool.false_eq_true,if_false];exact zq1b _
 |row fn e hf hb hn hx he ht=>
  unfold callFunc;refine zq8z ?_;simp only[hf,hn,hb,hx,he,Option.isNone_none,Bool.false_eq_true,if_false,if_true];exact zq3 (zq8x _) λ_=>zq3b (hR f hA fn e hf hb he args)
theorem zqc6(hA:∀f,A f=true->okFn P A f)(hR:RowsS P A)(o:Oper)(ho:okOp P A o.op=true)(ρ:Operand->Value)(hρ:∀f,ρ (.func f)=.func (.func f) #[] #[]):zq2 P (execOp ρ o):=by
 obtain⟨dst,op,type,pos,after,guard⟩:=o;simp only at ho;unfold execOp;cases op<;>simp only[okOp,Bool.false_eq_true]at ho
 case convert s d x=>
  have:∃k k',P.underlying s=some (.int k)/\P.underlying d=some (.int k'):=by
   simp only[Bool.and_eq_true]at ho;obtain⟨h1,h2⟩:=ho;split at h1
   . split at h2
     . exact⟨_,_,‹_›,‹_›⟩
     . cases h2
   . cases h1
  obtain⟨k,k',hs,hd⟩:=this;exact zq3b (zqfd hs hd _)
 case call c=>
  obtain⟨callee,args,argTypes⟩:=c;simp only at ho;cases callee with
  |invoke r m=>simp at ho
  |value f=>
   cases f with
   |func f=>
    have hAf:A f=true:=by simpa using ho
    simp only[resolve,hρ f];exact zqbe hAf (hA f hAf) hR
   |_=>simp at ho
  |builtin b=>
   cases b<;>simp at ho
   case append=>
    have hx:∀x,argTypes[1]?=some x->∀k,P.underlying x≠some (.int k):=by
     intro x hx k hk;rw[hx]at ho;simp only[hk]at ho;cases ho
    exact zq3b (zqes _ _ _ hx)
   case len=>exact zq3b (zqg1 _ _ _)
   case max=>exact zq3b (zqgb _ _ _)
   case min=>exact zq3b (zqge _ _ _)
 all_goals(simp only[];repeat' (first|with_reducible (first|exact Stdy.out|refine zq3 ?_ (λ_=>?_))|split|simp only[]))
end
def sfx(k:List Item)(ds:List Deferred)(kd:CallKind)(fr:Frame):Frame:={fn:=fr.fn,tmps:=fr.tmps,todo:=fr.todo++k,defers:=ds,mode:=fr.mode,kind:=kd}
section
variable {P:Program} {A:FuncId->Bool} {k:List Item} {ds:List Deferred} {kd:CallKind}
theorem zq5w{fr:Frame}(hr:fr.roundOf=none)(hne:fr.todo≠[])(v:Value):(sfx k ds kd fr).finish v=sfx k ds kd (fr.finish v):=by
 obtain⟨fn,tmps,todo,defers,mode,kind,round⟩:=fr;simp only at hr hne;subst hr;cases todo with
 |nil=>exact absurd rfl hne
 |cons i t=>
  cases i with
  |inRegion ops l=>
   cases l with
   |nil=>rfl
   |cons j r=>simp[sfx,Frame.finish]
  |_=>rfl
theorem zqc7{id:Nat}{t t':List Item}(h:exitTo id t=some t'):exitTo id (t++k)=some (t'++k):=by
 induction t with
 |nil=>simp[exitTo]at h
 |cons x t ih=>
  cases x<;>simp only[exitTo,List.cons_append]at h |-
  case inBlock id'=>
   split at h
   . cases h;rename_i hh;simp[hh]
   . rename_i hh;simp only[hh,if_false];exact ih h
  all_goals exact ih h
theorem zqc8{id:Nat}{t:List Item}(h:exitTo id t=none)(hk:exitTo id k=none):exitTo id (t++k)=none:=by
 induction t with
 |nil=>exact hk
 |cons x t ih=>
  cases x<;>simp only[exitTo,List.cons_append]at h |-
  case inBlock id'=>
   split at h
   . cases h
   . rename_i hh;simp only[hh];exact ih h
  all_goals exact ih h
inductive Told(P:Program)(main:Bool)(k:List Item)(ds:List Deferred)(kd:CallKind)(fr:Frame)(cs cs':List Frame)(w:World):GStep->Prop
 |same (fr':Frame) (w':World) (es:Array Event) (h:stepG P main (G (sfx k ds kd fr) cs') w=.go (G (sfx k ds kd fr') cs') w' es) (hr:fr'.roundOf=none) (hm:∀ch,fr'.mode≠.panicking ch):Told P main k ds kd fr cs cs' w (.go (G fr' cs) w' es)
 |enter (g:Frame) (w':World) (es:Array Event) (h:stepG P main (G (sfx k ds kd fr) cs') w=.go (G g (sfx k ds kd fr::cs')) w' es):Told P main k ds kd fr cs cs' w (.go (G g (fr::cs)) w' es)
 |panics (fr':Frame) (ch:List PanicEntry) (w':World) (es:Array Event) (h:fr'.mode=.panicking ch) (hk:∃fr'' w'' es',stepG P main (G (sfx k ds kd fr) cs') w=.go (G fr'' cs') w'' es'/\fr''.mode=.panicking ch/\fr''.defers=ds):Told P main k ds kd fr cs cs' w (.go (G fr' cs) w' es)
 |ends (o:Outcome) (w':World) (es:Array Event) (hk:(∀id,exitTo id k=none)->∃o w' es,stepG P main (G (sfx k ds kd fr) cs') w=.ended o w' es):Told P main k ds kd fr cs cs' w (.ended o w' es)
theorem zq1l{main:Bool}{fr fr':Frame}{cs cs':List Frame}{w:World}{s:GStep}(hs:s=.go (G fr' cs) w #[])(h:stepG P main (G (sfx k ds kd fr) cs') w=.go (G (sfx k ds kd fr') cs') w #[])(hr:fr'.roundOf=none)(hm:∀ch,fr'.mode≠.panicking ch:=by intro ch h;cases h):Told P main k ds kd fr cs cs' w s:=by
 subst hs;exact .same fr' w #[] h hr hm
theorem zq69{main:Bool}{fr:Frame}{cs cs':List Frame}{w:World}{s:GStep}(h:∃o w' es,s=.ended o w' es)(hk:(∀id,exitTo id k=none)->∃o w' es,stepG P main (G (sfx k ds kd fr) cs') w=.ended o w' es):Told P main k ds kd fr cs cs' w s:=by
 obtain⟨o,w',es,rfl⟩:=h;exact .ends o w' es hk
theorem told(hP:Plain P A)(hkd:kd≠.early){main:Bool}{fn:FuncId}{tmps:Array Value}{i:Item}{t:List Item}{cs cs':List Frame}{w:World}(hf:Fine P A (Fr fn tmps (i::t))):
 Told P main k ds kd (Fr fn tmps (i::t)) cs cs' w (stepG P main (G (Fr fn tmps (i::t)) cs) w):=by
 have ht:=hf.todo;have hi:=ht i (by simp[Fr]);have hke:(kd==CallKind.early)=false:=by simpa using hkd
 cases i with
 |code c=>
  have hc:zqp P A c=true:=hi;cases c with
  |skip=>exact zq1l (fr':=Fr fn tmps t) (by simp[G,stepG,stepG.exec,Fr]) (by simp[G,stepG,stepG.exec,Fr,sfx]) rfl
  |exit id=>
   cases hx:exitTo id t with
   |some t'=>exact zq1l (fr':=Fr fn tmps t') (by simp[G,stepG,stepG.exec,Fr,hx]) (by simp[G,stepG,stepG.exec,Fr,sfx,zqc7 hx]) rfl
   |none=>exact zq69 (by simp[G,stepG,stepG.exec,Fr,hx]) (λhk=>by simp[G,stepG,stepG.exec,Fr,sfx,zqc8 hx (hk id)])
  |ret=>exact zq1l (fr':={Fr fn tmps (.code .ret::t)with mode:=.returning}) (by simp[G,stepG,stepG.exec,Fr]) (by simp[G,stepG,stepG.exec,Fr,sfx]) rfl
  |refuse why=>exact zq69 (by simp[G,stepG,stepG.exec,Fr]) (λ_=>by simp[G,stepG,stepG.exec,Fr,sfx])
  |region id ops draw=>
   cases draw with
   |false=>exact zq1l (fr':=Fr fn tmps (.inRegion ops (List.range ops.size)::t)) (by simp[G,stepG,stepG.exec,Fr]) (by simp[G,stepG,stepG.exec,Fr,sfx]) rfl
   |true=>
    have h1:=stepG_region_draw (P:=P) (main:=main) (b:=Fr fn tmps []) (a:=⟨tmps,[]⟩) (k:=t) (cs:=cs) (w:=w) (id:=id) (ops:=ops);have h2:=stepG_region_draw (P:=P) (main:=main) (b:={Fr fn tmps []with kind:=kd}) (a:=⟨tmps,ds⟩) (k:=t++k) (cs:=cs') (w:=w) (id:=id) (ops:=ops);have e:stepG P main (G (Fr fn tmps (.code (.region id ops true)::t)) cs) w=_:=h1;rw[e];exact .same _ _ #[] h2 rfl (by intro ch h;cases h)
  |seq a b=>exact zq1l (fr':=Fr fn tmps (.code a::.code b::t)) (by simp[G,stepG,stepG.exec,Fr]) (by simp[G,stepG,stepG.exec,Fr,sfx]) rfl
  |cond c a b=>
   by_cases hb:∃v,(Fr fn tmps (.code (.cond c a b)::t)).eval c=.bool v
   . obtain⟨v,hv⟩:=hb;have hv':(sfx k ds kd (Fr fn tmps (.code (.cond c a b)::t))).eval c=.bool v:=by
      rw[<-hv];cases c<;>rfl
     simp only[Fr]at hv;simp only[Fr,sfx]at hv';exact zq1l (fr':=Fr fn tmps (.code (if v then a else b)::t)) (by simp[G,stepG,stepG.exec,Fr,hv]) (by simp only[List.cons_append]at hv';simp[G,stepG,stepG.exec,Fr,sfx,hv']) rfl
   . have hb':¬ ∃v,(sfx k ds kd (Fr fn tmps (.code (.cond c a b)::t))).eval c=.bool v:=by
      rintro⟨v,hv⟩;refine hb ⟨v,?_⟩;rw[<-hv];cases c<;>rfl
     refine zq69 ?_ (λ_=>?_)
     . simp only[Fr]at hb;simp only[G,stepG,stepG.exec,Fr];split
       . rename_i t h;exact absurd ⟨t,h⟩ hb
       . exact⟨_,_,_,rfl⟩
     . simp only[Fr,sfx,List.cons_append]at hb';simp only[G,stepG,stepG.exec,Fr,sfx,List.cons_append];split
       . rename_i t h;exact absurd ⟨t,h⟩ hb'
       . exact⟨_,_,_,rfl⟩
  |block id c=>exact zq1l (fr':=Fr fn tmps (.code c::.inBlock id::t)) (by simp[G,stepG,stepG.exec,Fr]) (by simp[G,stepG,stepG.exec,Fr,sfx]) rfl
  |loop c=>exact zq1l (fr':=Fr fn tmps (.code c::.inLoop c::t)) (by simp[G,stepG,stepG.exec,Fr]) (by simp[G,stepG,stepG.exec,Fr,sfx]) rfl
  |_=>simp[zqp]at hc
 |inBlock id=>exact zq1l (fr':=Fr fn tmps t) (by simp[G,stepG,stepG.exec,Fr]) (by simp[G,stepG,stepG.exec,Fr,sfx]) rfl
 |inLoop c=>exact zq1l (fr':=Fr fn tmps (.code c::.inLoop c::t)) (by simp[G,stepG,stepG.exec,Fr]) (by simp[G,stepG,stepG.exec,Fr,sfx]) rfl
 |inRegion ops l=>
  cases l with
  |nil=>exact zq1l (fr':=Fr fn tmps t) (by simp[G,stepG,stepG.exec,Fr]) (by simp[G,stepG,stepG.exec,Fr,sfx]) rfl
  |cons j r=>
   by_cases hw:((ops[j]?).map (Region.wanted · (yielded ops tmps))).getD false=true
   . cases hj:ops[j]? with
     |none=>simp[hj]at hw
     |some o=>
      have hoo:okOp P A o.op=true:=zq4u hi hj;obtain⟨t1,t2⟩:=zq1n hP.fns o hoo (Fr fn tmps (.inRegion ops (j::r)::t)).eval (λf=>rfl);have hg:=zq36 _ t1 t2 w #[];have hev:(sfx k ds kd (Fr fn tmps (.inRegion ops (j::r)::t))).eval=(Fr fn tmps (.inRegion ops (j::r)::t)).eval:=by funext x;cases x<;>rfl
      have s1:stepG P main (G (Fr fn tmps (.inRegion ops (j::r)::t)) cs) w=stepG.apply P true (Fr fn tmps (.inRegion ops (j::r)::t)) cs none (execOp (Fr fn tmps (.inRegion ops (j::r)::t)).eval o) w:=by
       simp only[hj,Option.map_some,al_od]at hw;simp[G,stepG,stepG.exec,stepG.oper,Frame.oper?,Fr,hj,hw]
      have s2:stepG P main (G (sfx k ds kd (Fr fn tmps (.inRegion ops (j::r)::t))) cs') w=stepG.apply P true (sfx k ds kd (Fr fn tmps (.inRegion ops (j::r)::t))) cs' none (execOp (Fr fn tmps (.inRegion ops (j::r)::t)).eval o) w:=by
       simp only[hj,Option.map_some,al_od]at hw;rw[<-hev];simp[G,stepG,stepG.exec,stepG.oper,Frame.oper?,Fr,sfx,hj,hw]
      have hfin:∀v,(sfx k ds kd (Fr fn tmps (.inRegion ops (j::r)::t))).finish v=sfx k ds kd ((Fr fn tmps (.inRegion ops (j::r)::t)).finish v):=λv=>zq5w rfl (by simp[Fr]) v;have hround:∀v,((Fr fn tmps (.inRegion ops (j::r)::t)).finish v).roundOf=none:=λv=>rfl;rw[s1];rw[stepG.apply]at s2 |-;simp only[if_true]at s2 |-;generalize (execOp (Fr fn tmps (.inRegion ops (j::r)::t)).eval o).runT P w #[]=rr at hg s2;obtain⟨res,es⟩:=rr;have hk1:((Fr fn tmps (.inRegion ops (j::r)::t)).kind==CallKind.early)=false:=rfl;have hk2:((sfx k ds kd (Fr fn tmps (.inRegion ops (j::r)::t))).kind==CallKind.early)=false:=hke;cases res with
      |ok nx w'=>
       have hnx:zq1u P A nx:=hg;cases nx with
       |value v=>
        simp only[hk1,hk2,Bool.false_eq_true,if_false,GStep.after,Array.append_empty]at s2 |-;exact .same _ _ _ (by rw[<-hfin];exact s2) (hround v) (by intro ch h;cases h)
       |skip=>
        simp only[hk1,hk2,Bool.false_eq_true,if_false,GStep.after,Array.append_empty]at s2 |-;exact .same _ _ _ (by rw[<-hfin];exact s2) (hround _) (by intro ch h;cases h)
       |enter f args=>
        simp only[hk1,hk2,Bool.false_eq_true,if_false,GStep.after,Array.append_empty]at s2 |-;exact .enter _ _ _ s2
       |_=>exact hnx.elim
      |halt h w'=>
       simp only[hk1,hk2,Bool.false_eq_true,if_false]at s2 |-;rcases hg with hg|⟨b,rfl⟩
       . cases h with
         |panic v=>exact .panics _ _ _ _ rfl ⟨_,_,_,s2,rfl,rfl⟩
         |stuck s=>exact .ends _ _ _ λ_=>⟨_,_,_,s2⟩
         |unsupported u=>cases u<;>first|exact .ends _ _ _ λ_=>⟨_,_,_,s2⟩|exact hg.elim
         |_=>exact hg.elim
       . obtain⟨o',w'',es',he⟩:=zq3i hP (Fr fn tmps (.inRegion ops (j::r)::t)) cs none b w';obtain⟨o2,w2,es2,he2⟩:=zq3i hP (sfx k ds kd (Fr fn tmps (.inRegion ops (j::r)::t))) cs' none b w';simp only[he2,GStep.after]at s2;simp only[he,GStep.after];exact .ends _ _ _ λ_=>⟨_,_,_,s2⟩
   . have hw':((ops[j]?).map (Region.wanted · (yielded ops tmps))).getD false=false:=by simpa using hw
     have hfin:(sfx k ds kd (Fr fn tmps (.inRegion ops (j::r)::t))).finish undef=sfx k ds kd ((Fr fn tmps (.inRegion ops (j::r)::t)).finish undef):=zq5w rfl (by simp[Fr]) undef;refine zq1l (fr':=(Fr fn tmps (.inRegion ops (j::r)::t)).finish undef) ?_ ?_ rfl
     . simp only[G,stepG,stepG.exec,Fr,hw',Bool.false_eq_true,if_false]
     . rw[<-hfin];simp only[G,stepG,stepG.exec,Fr,sfx,List.cons_append,hw',Bool.false_eq_true,if_false]
 |_=>simp[zq11]at hi
end
structure Sb where
 fr:Frame
 ab:List Frame
 bot:Option Frame
 w:World
 deriving Inhabited
def Sb.fs (k:List Item)(ds:List Deferred)(kd:CallKind)(s:Sb):List Frame:=
 match s.bot with
 |some b=>s.ab++[sfx k ds kd b]
 |none=>[]
def Sb.tp (k:List Item)(ds:List Deferred)(kd:CallKind)(s:Sb):Frame:=
 match s.bot with
 |some _=>s.fr
 |none=>sfx k ds kd s.fr
def Sb.real (k:List Item)(ds:List Deferred)(kd:CallKind)(cs:List Frame)(s:Sb):Goroutine:=G (s.tp k ds kd) (s.fs k ds kd++cs)
section
variable {P:Program} {A:FuncId->Bool}
structure Sb.Ok (P:Program)(A:FuncId->Bool)(s:Sb):Prop where
 top:Fine P A s.fr
 mid:∀c∈s.ab,Fine P A c
 bot:∀b,s.bot=some b->Fine P A b/\b.todo≠[]
 none:s.bot=none->s.ab=[]
def Sb.Done (s:Sb):Prop:=s.bot=none/\(s.fr.mode=.returning\/s.fr.todo=[])
def NextB(P:Program)(A:FuncId->Bool)(s:Sb)(τ0:Nat->Question->Nat)(d n:Nat)(s':Sb)(es:Array Event):Prop:=
 s'.Ok P A/\s'.w.tape=τ0/\(∀e∈es,calmEv true e)/\s'.w.drawn=d+n/\
 ∀main k ds kd cs,kd≠CallKind.early->∀τ e,(∀j,j<n->τ (e+j)=τ0 (d+j))->stepG P main (s.real k ds kd cs) (re s.w τ e)=.go (s'.real k ds kd cs) (re s'.w τ (e+n)) es
def BadB(st:GStep)(fs cs:List Frame):Prop:=(∃o w' es,st=.ended o w' es)\/∃fr' ch w' es,st=.go (G fr' (fs++cs)) w' es/\fr'.mode=.panicking ch/\fr'.defers=[]
def HaltB(P:Program)(s:Sb)(τ0:Nat->Question->Nat)(d n:Nat):Prop:=
 s.Done\/∀main k cs,(∀id,exitTo id k=none)->∀τ e,(∀j,j<n->τ (e+j)=τ0 (d+j))->BadB (stepG P main (s.real k [] .normal cs) (re s.w τ e)) (s.fs k [] .normal) cs
theorem fine_run{fr:Frame}(h:Fine P A fr)(hm:fr.mode=.run)(hne:fr.todo≠[]):∃i t,fr=Fr fr.fn fr.tmps (i::t):=by
 have e:=zq7d h hm;cases ht:fr.todo with
 |nil=>exact absurd ht hne
 |cons i t=>rw[ht]at e;exact⟨i,t,e⟩
theorem wayB(hP:Plain P A)(s:Sb)(hs:s.Ok P A)(τ0:Nat->Question->Nat)(d:Nat):
 (∃n s' es,NextB P A s τ0 d n s' es)\/∃n,HaltB P s τ0 d n:=by
 by_cases hdone:s.Done
 . exact .inr ⟨0,.inl hdone⟩
 obtain⟨fr,ab,bot,w⟩:=s;obtain⟨h1,h2,h3,h4⟩:=hs;simp only at h1 h2 h3 h4;cases bot with
 |none=>
  have hab:=h4 rfl;subst hab;have hmode:fr.mode=.run:=by
   rcases h1.mode with h|h
   . exact h
   . exact absurd ⟨rfl,.inl h⟩ hdone
  have hne:fr.todo≠[]:=λh=>hdone ⟨rfl,.inr h⟩;obtain⟨i,t,he⟩:=fine_run h1 hmode hne;have tl:∀main k ds kd cs cs' w,kd≠CallKind.early->Told P main k ds kd fr cs cs' w (stepG P main (G fr cs) w):=λmain k ds kd cs cs' w hkd=>by
   have h1':=h1;rw[he]at h1' |-;exact told hP hkd h1'
  cases way hP fr [] (re w τ0 d) h1 (by simp)with
  |pop _ hm=>rw[hmode]at hm;cases hm
  |bad w' hd hst=>
   have hd':d<=w'.drawn:=hd;refine .inr ⟨w'.drawn - d,.inr λmain k cs hk τ e hag=>?_⟩;have hb:=hst main [] τ e λj hj=>hag j (by have:d+j<w'.drawn:=hj;omega);have tl':=tl main k [] .normal [] cs (re w τ e) (by decide);have hb':Bad (stepG P main (G fr []) (re w τ e)) [] []:=hb;generalize stepG P main (G fr []) (re w τ e)=gs at tl' hb';cases tl' with
   |same fr'' w'' es'' h hr hnm=>
    rcases hb' with⟨o,w',es,h'⟩|⟨fr',ch,w',es,h',hm,_⟩
    . cases h'
    . simp only[GStep.go.injEq,G,Goroutine.mk.injEq]at h';obtain⟨⟨e1,_⟩,_⟩:=h';subst e1;exact absurd hm (hnm ch)
   |enter g w'' es'' h=>
    rcases hb' with⟨o,w',es,h'⟩|⟨fr',ch,w',es,h',hm,_⟩
    . cases h'
    . simp[G]at h'
   |panics fr'' ch w'' es'' h hk'=>
    obtain⟨f2,w2,e2,h2,h3,h4⟩:=hk';exact .inr ⟨f2,ch,w2,e2,h2,h3,h4⟩
   |ends o w' es hk'=>exact .inl (hk' hk)
  |on fr' above' w' es hf' ha' hd ht hev hst=>
   have hd':d<=w'.drawn:=hd;have ht':w'.tape=τ0:=ht;have hstep:∀main cs τ e,(∀j,j<w'.drawn - d->τ (e+j)=τ0 (d+j))->stepG P main (G fr cs) (re w τ e)=.go (G fr' (above'++cs)) (re w' τ (e+(w'.drawn - d))) es:=λmain cs τ e hag=>
    hst main cs τ e λj hj=>hag j (by have:d+j<w'.drawn:=hj;omega)
   cases above' with
   |nil=>
    refine .inl ⟨w'.drawn - d,⟨fr',[],none,w'⟩,es,⟨hf',by simp,by simp,λ_=>rfl⟩,ht',hev,(by show w'.drawn=_;omega),λmain k ds kd cs hkd τ e hag=>?_⟩;have tl':=tl main k ds kd cs cs (re w τ e) hkd;rw[hstep main cs τ e hag]at tl';generalize hgen:GStep.go (G fr' ([]++cs)) (re w' τ (e+(w'.drawn - d))) es=gs at tl';cases tl' with
    |same fr'' w'' es'' h hr hnm=>
     simp only[GStep.go.injEq,G,Goroutine.mk.injEq]at hgen;obtain⟨⟨e1,e2,_⟩,e3,e4⟩:=hgen;subst e1 e3 e4;exact h
    |enter g w'' es'' h=>
     simp only[GStep.go.injEq,G,Goroutine.mk.injEq]at hgen;obtain⟨⟨e1,e2,_⟩,e3,e4⟩:=hgen;have:=congrArg List.length e2;simp at this
    |panics fr'' ch w'' es'' h hk'=>
     simp only[GStep.go.injEq,G,Goroutine.mk.injEq]at hgen;obtain⟨⟨e1,_⟩,_⟩:=hgen;subst e1;rcases hf'.mode with h'|h'<;>rw[h']at h<;>cases h
    |ends=>cases hgen
   |cons c r=>
    have hcr:c=fr/\r=[]:=by
     have tl':=tl true [] [] .normal [] [] (re w τ0 d) (by decide);rw[hstep true [] τ0 d (λ_ _=>rfl)]at tl';generalize hgen:GStep.go (G fr' (c::r++[])) (re w' τ0 (d+(w'.drawn - d))) es=gs at tl';cases tl' with
     |same fr'' w'' es'' h hr hnm=>simp[G]at hgen
     |enter g w'' es'' h=>
      simp only[GStep.go.injEq,G,Goroutine.mk.injEq]at hgen;obtain⟨⟨e1,e2,_⟩,e3,e4⟩:=hgen;simp at e2;exact e2
     |panics fr'' ch w'' es'' h hk'=>simp[G]at hgen
     |ends=>cases hgen
    obtain⟨rfl,rfl⟩:=hcr;refine .inl ⟨w'.drawn - d,⟨fr',[],some c,w'⟩,es,⟨hf',by simp,λb hb=>by cases hb;exact⟨h1,hne⟩,by simp⟩,ht',hev,(by show w'.drawn=_;omega),λmain k ds kd cs hkd τ e hag=>?_⟩;have tl':=tl main k ds kd cs cs (re w τ e) hkd;rw[hstep main cs τ e hag]at tl';generalize hgen:GStep.go (G fr' ([c]++cs)) (re w' τ (e+(w'.drawn - d))) es=gs at tl';cases tl' with
    |same fr'' w'' es'' h hr hnm=>
     simp only[GStep.go.injEq,G,Goroutine.mk.injEq]at hgen;obtain⟨⟨e1,e2,_⟩,e3,e4⟩:=hgen;have:=congrArg List.length e2;simp at this
    |enter g w'' es'' h=>
     simp only[GStep.go.injEq,G,Goroutine.mk.injEq]at hgen;obtain⟨⟨e1,e2,_⟩,e3,e4⟩:=hgen;subst e1 e3 e4;exact h
    |panics fr'' ch w'' es'' h hk'=>
     simp only[GStep.go.injEq,G,Goroutine.mk.injEq]at hgen;obtain⟨⟨e1,_⟩,_⟩:=hgen;subst e1;rcases hf'.mode with h'|h'<;>rw[h']at h<;>cases h
    |ends=>cases hgen
 |some b=>
  obtain⟨hb,hbne⟩:=h3 b rfl;cases way hP fr ab (re w τ0 d) h1 h2 with
  |bad w' hd hst=>
   have hd':d<=w'.drawn:=hd;refine .inr ⟨w'.drawn - d,.inr λmain k cs hk τ e hag=>?_⟩;have:=hst main (sfx k [] .normal b::cs) τ e λj hj=>hag j (by have:d+j<w'.drawn:=hj;omega);have e1:(⟨fr,ab,some b,w⟩:Sb).real k [] .normal cs=G fr (ab++sfx k [] .normal b::cs):=by simp[Sb.real,Sb.tp,Sb.fs]
   rw[e1];rcases this with h|⟨fr',ch,w'',es,h,hm,hdd⟩
   . exact .inl h
   . exact .inr ⟨fr',ch,w'',es,h.trans (by simp[Sb.fs]),hm,hdd⟩
  |on fr' above' w' es hf' ha' hd ht hev hst=>
   have hd':d<=w'.drawn:=hd;have ht':w'.tape=τ0:=ht;refine .inl ⟨w'.drawn - d,⟨fr',above',some b,w'⟩,es,⟨hf',ha',λb' hb'=>by cases hb';exact⟨hb,hbne⟩,by simp⟩,ht',hev,(by show w'.drawn=_;omega),λmain k ds kd cs hkd τ e hag=>?_⟩;have:=hst main (sfx k ds kd b::cs) τ e λj hj=>hag j (by have:d+j<w'.drawn:=hj;omega);have e1:∀fr ab w,(⟨fr,ab,some b,w⟩:Sb).real k ds kd cs=G fr (ab++sfx k ds kd b::cs):=λ_ _ _=>by simp[Sb.real,Sb.tp,Sb.fs]
   rw[e1,e1];exact this
  |pop hab hm=>
   subst hab;have hfin:∀k ds kd v,(sfx k ds kd b).finish v=sfx k ds kd (b.finish v):=λk ds kd v=>zq5w hb.round hbne v;have hfb:∀v,Fine P A (b.finish v):=λv=>zq34 hb v;have e1:∀k ds kd cs,(⟨fr,[],some b,w⟩:Sb).real k ds kd cs=G fr (sfx k ds kd b::cs):=λ_ _ _ _=>by simp[Sb.real,Sb.tp,Sb.fs]
   have e2:∀k ds kd cs v w,(⟨b.finish v,[],none,w⟩:Sb).real k ds kd cs=G ((sfx k ds kd b).finish v) cs:=λ_ _ _ _ _ _=>by rw[hfin];simp[Sb.real,Sb.tp,Sb.fs]
   cases hf:P.funcs[fr.fn]? with
   |none=>
    refine .inl ⟨0,⟨b.finish (fr.tmps.getD 0 undef),[],none,re w τ0 d⟩,#[],⟨hfb _,by simp,by simp,λ_=>rfl⟩,rfl,by simp,rfl,λmain k ds kd cs hkd τ e hag=>?_⟩;rw[e1,e2];simp[G,stepG,unwind,doReturn,hm,h1.defers,h1.kind,hf];rfl
   |some fn=>
    obtain⟨r1,r2,r3⟩:=zq2t (P:=P) (results fn fr.tmps) (zq25 _ (zq1i fn fr.tmps)) (re w τ0 d) #[];have hcalm:=zq1y (P:=P) (results fn fr.tmps) (zq25 _ (zq1i fn fr.tmps)) (re w τ0 d) #[];have hst:∀main c cs w,stepG P main (G fr (c::cs)) w=GStep.after (seen P fr.fn ((results fn fr.tmps).runT P w #[]).2) (match ((results fn fr.tmps).runT P w #[]).1 with
     |.ok v w=>.go (G (c.finish v) cs) w
     |.halt (.stuck s) w=>.ended (.stuck s (fr.pos P)) w
     |.halt _ w=>.ended (.stuck "return: the result variables cannot be read" (fr.pos P)) w):=λmain c cs w=>by
     simp only[G,stepG,unwind,hm,h1.defers,hf];cases (Sem.runT P (results fn fr.tmps) w #[]).fst with
     |ok v w=>simp[doReturn,h1.kind]
     |halt h w=>cases h<;>rfl
    generalize hrr:(results fn fr.tmps).runT P (re w τ0 d) #[]=rr at r1 r2 r3 hcalm;obtain⟨res,es⟩:=rr;simp only at r1 r2 r3 hcalm;have hev:∀fn,∀e∈seen P fn es,calmEv true e:=λfn e he=>(hcalm e (mem_seen he)).resolve_left (by simp);have e3:∀τ e,re (re w τ0 d) τ e=re w τ e:=λ_ _=>rfl;cases res with
    |ok v w'=>
     have hd':d<=w'.drawn:=r1;refine .inl ⟨w'.drawn - d,⟨b.finish v,[],none,w'⟩,seen P fr.fn es,⟨hfb _,by simp,by simp,λ_=>rfl⟩,r2,hev _,(by show w'.drawn=_;omega),λmain k ds kd cs hkd τ e hag=>?_⟩;have:=r3 τ e λj hj=>hag j (by have:d+j<w'.drawn:=hj;omega);rw[e3]at this;rw[e1,e2,hst,this];simp only[resRe,resW,GStep.after,Array.append_empty];rfl
    |halt h w'=>
     have hd':d<=w'.drawn:=r1;refine .inr ⟨w'.drawn - d,.inr λmain k cs hk τ e hag=>.inl ?_⟩;have:=r3 τ e λj hj=>hag j (by have:d+j<w'.drawn:=hj;omega);rw[e3]at this;rw[e1,hst,this];simp only[resRe];cases h<;>exact⟨_,_,_,rfl⟩
end
def wall:List Item:=[.code (.refuse "")]
section
variable {P:Program} {A:FuncId->Bool} {k:List Item} {ds:List Deferred} {kd:CallKind}
theorem zq7e{n:Nat}{fr:Frame}{W:World}(hdf:fr.defers=[])(hkk:fr.kind=.normal)(h2:fr.mode=.returning){frf:Frame}{wf:World}(hn:n≠0):runN P n (Go.lone fr [trap] W)≠.next (Go.lone frf [trap] wf):=by
 intro hr;obtain⟨m,rfl⟩:∃m,n=m+1:=⟨n - 1,by omega⟩;have hend:(∃v w',∃es,stepG P true (G fr [trap]) W=.go (G (trap.finish v) []) w' es)\/∃o w' es,stepG P true (G fr [trap]) W=.ended o w' es:=by
  cases hfn:P.funcs[fr.fn]? with
  |none=>exact .inl ⟨_,_,_,by simp[G,stepG,unwind,doReturn,h2,hdf,hkk,hfn];exact⟨rfl,rfl,rfl⟩⟩
  |some fn=>
   have hst:stepG P true (G fr [trap]) W=GStep.after (seen P fr.fn ((results fn fr.tmps).runT P W #[]).2) (match ((results fn fr.tmps).runT P W #[]).1 with
    |.ok v w=>doReturn P true fr [trap] none v w
    |.halt (.stuck s) w=>.ended (.stuck s (fr.pos P)) w
    |.halt _ w=>.ended (.stuck "return: the result variables cannot be read" (fr.pos P)) w):=by
    simp only[G,stepG,unwind,h2,hdf,hfn];cases (Sem.runT P (results fn fr.tmps) W #[]).fst with
    |ok v w=>rfl
    |halt h w=>cases h<;>rfl
   rw[hst];generalize (Sem.runT P (results fn fr.tmps) W #[]).fst=rr;cases rr with
   |ok v w=>exact .inl ⟨v,w,_,by simp only[doReturn,hkk,GStep.after];rfl⟩
   |halt h w=>cases h<;>exact .inr ⟨_,_,_,rfl⟩
 rcases hend with⟨v,w',es,h⟩|⟨o,w',es,h⟩
 . rw[zq2g h]at hr;exact zqan _ _ _ hr
 . exact zq2f h _ _ hr
theorem fine_sfx{fr:Frame}(hf:Fine P A fr):Fine P A (sfx wall [] .normal fr):=
 ⟨λi hi=>by
  rcases List.mem_append.1 hi with h|h
  . exact hf.todo i h
  . rw[List.mem_singleton.1 h];rfl,rfl,rfl,rfl,hf.mode⟩
theorem fine_fs{s:Sb}(hs:s.Ok P A):∀c∈s.fs wall [] .normal,Fine P A c:=by
 intro c hc;unfold Sb.fs at hc;cases hb:s.bot with
 |none=>rw[hb]at hc;cases hc
 |some b=>
  rw[hb]at hc;rcases List.mem_append.1 hc with h|h
  . exact hs.mid c h
  . rw[List.mem_singleton.1 h];exact fine_sfx (hs.bot b hb).1
theorem real_G(s:Sb)(k:List Item)(ds:List Deferred)(kd:CallKind)(cs:List Frame):s.real k ds kd cs=G (s.tp k ds kd) (s.fs k ds kd++cs):=rfl
theorem top_tp{s:Sb}(hok:s.Ok P A)(hd:¬s.Done)(hkd:kd≠.early):Top P A (s.tp k ds kd):=by
 unfold Sb.tp;cases hb:s.bot with
 |some b=>exact hok.top.top
 |none=>
  have hm:s.fr.mode=.run:=hok.top.mode.resolve_right λh=>hd ⟨hb,.inl h⟩;cases ht:s.fr.todo with
  |nil=>exact absurd ⟨hb,.inr ht⟩ hd
  |cons i t=>exact⟨rfl,hkd,.inl ⟨hm,i,t++k,by show s.fr.todo++k=_;rw[ht];rfl,hok.top.todo i (by rw[ht];simp)⟩⟩
theorem chunk(hP:Plain P A)(hkd:kd≠.early){main:Bool}{J:Goroutine->World->Prop}{cs:List Frame}
 (hJ:∀fr cs' w,Top P A fr->(∀τ d,∃fr' cs'' w' es,stepG P main (G fr cs') (re w τ d)=.go (G fr' cs'') w' es/\(∀e∈es,calmEv true e)/\J (G fr' cs'') w')->J (G fr cs') w)
 {fr₀:Frame} {w:World} (hfine:Fine P A fr₀) {Φ:Frame->World->Prop} (hΦr:∀fr w τ d,Φ fr w->Φ fr (re w τ d)) (hΦm:∀fr w,Φ fr w->∀ch,fr.mode≠.panicking ch)
 (alone:∀τ d,∃n frf wf,runN P n (Go.lone (sfx wall [] .normal fr₀) [trap] (re w τ d))=.next (Go.lone frf [trap] wf)/\Φ frf wf)
 (after:∀fr w,Φ (sfx wall [] .normal fr) w->J (G (sfx k ds kd fr) cs) w):J (G (sfx k ds kd fr₀) cs) w:=by
 classical
 refine Classical.byContradiction λhnot=>?_
 let bad:Sb->Prop:=λs=>s.Ok P A/\¬J (s.real k ds kd cs) s.w
 have alt:∀s,bad s->∃τ d n,(∃s' es,NextB P A s τ d n s' es/\bad s')\/HaltB P s τ d n:=by
  intro s ⟨hok,hj⟩
  by_cases hdone:s.Done
  . exact⟨λ_ _=>0,0,0,.inr (.inl hdone)⟩
  have:¬ ∀τ d,∃fr' cs'' w' es,stepG P main (s.real k ds kd cs) (re s.w τ d)=.go (G fr' cs'') w' es/\(∀e∈es,calmEv true e)/\J (G fr' cs'') w':=λh=>hj (hJ _ _ _ (top_tp hok hdone hkd) h);obtain⟨τ,hd⟩:=Classical.not_forall.1 this;obtain⟨d,hd⟩:=Classical.not_forall.1 hd;rcases wayB hP s hok τ d with⟨n,s',es,hn⟩|⟨n,hn⟩
  . refine⟨τ,d,n,.inl ⟨s',es,hn,hn.1,λhj'=>hd ?_⟩⟩;have h6:=hn.2.2.2.2 main k ds kd cs hkd τ d (λ_ _=>rfl);have e2:re s'.w τ (d+n)=s'.w:=by rw[<-hn.2.2.2.1,<-hn.2.1];rfl
    rw[e2]at h6;exact⟨_,_,_,_,h6,hn.2.2.1,hj'⟩
  . exact⟨τ,d,n,.inr hn⟩
 let tt:Sb->Nat->Question->Nat:=λs=>if h:bad s then(alt s h).choose else λ_ _=>0
 let dd:Sb->Nat:=λs=>if h:bad s then(alt s h).choose_spec.choose else 0
 let nn:Sb->Nat:=λs=>if h:bad s then(alt s h).choose_spec.choose_spec.choose else 0
 have hdn:∀s(h:bad s),(∃s' es,NextB P A s (tt s) (dd s) (nn s) s' es/\bad s')\/HaltB P s (tt s) (dd s) (nn s):=by
  intro s h;simp only[tt,dd,nn,dif_pos h];exact(alt s h).choose_spec.choose_spec.choose_spec
 let nx:Sb->Sb:=λs=>if h:∃s' es,NextB P A s (tt s) (dd s) (nn s) s' es/\bad s' then h.choose else s
 let sq:Nat->Sb:=λm=>Nat.rec ⟨fr₀,[],none,w⟩ (λ_ s=>nx s) m
 let D:Nat->Nat:=λm=>Nat.rec 0 (λm x=>x+nn (sq m)) m
 have sqS:∀m,sq (m+1)=nx (sq m):=λm=>rfl;have DS:∀m,D (m+1)=D m+nn (sq m):=λm=>rfl;have Dmono:∀m m',m<=m'->D m<=D m':=by
  intro m m' h
  induction h with
  |refl=>exact Nat.le_refl _
  |step _ ih=>exact Nat.le_trans ih (by rw[DS];exact Nat.le_add_right _ _)
 let τ:Nat->Question->Nat:=λi=>if h:∃m,D m<=i/\i<D (m+1)then tt (sq h.choose) (dd (sq h.choose)+(i - D h.choose))else λ_=>0
 have hτ:∀m j,j<nn (sq m)->τ (D m+j)=tt (sq m) (dd (sq m)+j):=by
  intro m j hj;have hex:∃m',D m'<=D m+j/\D m+j<D (m'+1):=⟨m,Nat.le_add_right _ _,by rw[DS];omega⟩;have hm:hex.choose=m:=by
   obtain⟨h1,h2⟩:=hex.choose_spec;rcases Nat.lt_trichotomy hex.choose m with h|h|h
   . have:=Dmono (hex.choose+1) m h;omega
   . exact h
   . have:=Dmono (m+1) hex.choose h;rw[DS]at this;omega
  simp only[τ,dif_pos hex];rw[hm];congr 1;omega
 obtain⟨N,frf,wf,hrun,hΦ⟩:=alone τ 0;have hbad0:bad (sq 0):=⟨⟨hfine,λc hc=>(by cases hc),λb hb=>(by cases hb),λ_=>rfl⟩,hnot⟩
 let LN:Sb->World->Machine:=λs w=>Go.lone (s.tp wall [] .normal) (s.fs wall [] .normal++[trap]) w
 have main':∀m,m<=N->bad (sq m)/\runN P (N - m) (LN (sq m) (re (sq m).w τ (D m)))=.next (Go.lone frf [trap] wf):=by
  intro m
  induction m with
  |zero=>exact λ_=>⟨hbad0,hrun⟩
  |succ m ih=>
   intro hm;obtain⟨hb,hr⟩:=ih (by omega);obtain⟨p,hp⟩:∃p,N - m=p+1:=⟨N - m - 1,by omega⟩;rw[hp]at hr;have hag:∀j,j<nn (sq m)->τ (D m+j)=tt (sq m) (dd (sq m)+j):=λj hj=>hτ m j hj;rcases hdn _ hb with hex|hh
   . have e:sq (m+1)=hex.choose:=by rw[sqS];simp only[nx,dif_pos hex]
     obtain⟨es,hn,hb'⟩:=hex.choose_spec;rw[<-e]at hn hb';refine⟨hb',?_⟩;have hst:=hn.2.2.2.2 true wall [] .normal [trap] (by decide) τ (D m) hag;rw[real_G,real_G]at hst;rw[zq2g hst]at hr;rw[show N - (m+1)=p by omega,DS];exact hr
   . exfalso;rcases hh with⟨h1,h2⟩|hh
     . have hab:=hb.1.none h1;have hfs:(sq m).fs wall [] .normal=[]:=by unfold Sb.fs;rw[h1]
       have htp:(sq m).tp wall [] .normal=sfx wall [] .normal (sq m).fr:=by unfold Sb.tp;rw[h1]
       simp only[LN,hfs,htp,List.nil_append]at hr;have hf:=hb.1.top;rcases h2 with h2|h2
       . exact zq7e (fr:=sfx wall [] .normal (sq m).fr) rfl rfl h2 (Nat.succ_ne_zero p) hr
       . rcases hf.mode with hmr|hmr
         . have hst:∃o w' es,stepG P true (G (sfx wall [] .normal (sq m).fr) [trap]) (re (sq m).w τ (D m))=.ended o w' es:=by
            simp[sfx,wall,h2,hmr,G,stepG,stepG.exec]
           obtain⟨o,w',es,hst⟩:=hst;exact zq2f hst _ _ hr
         . exact zq7e (fr:=sfx wall [] .normal (sq m).fr) rfl rfl hmr (Nat.succ_ne_zero p) hr
     . have hbb:=hh true wall [trap] (by intro id;rfl) τ (D m) hag;rw[real_G]at hbb;rcases hbb with⟨o,w',es,h⟩|⟨fr',ch,w',es,h,hm',hd'⟩
       . exact zq2f h _ _ hr
       . simp only[LN]at hr;rw[zq2g h]at hr;exact doomed _ fr' _ w' ch hm' hd' (fine_fs hb.1) (hΦm _ _ hΦ) hr
 obtain⟨hb,hr⟩:=main' N (Nat.le_refl _);simp only[Nat.sub_self,runN,Stepped.next.injEq,LN]at hr;obtain⟨e1,e2,e3⟩:=zq3s hr;have hbot:(sq N).bot=none:=by
  cases h:(sq N).bot with
  |none=>rfl
  |some b=>
   unfold Sb.fs at e2;rw[h]at e2;have:=congrArg List.length e2;simp at this
 have htp:(sq N).tp wall [] .normal=sfx wall [] .normal (sq N).fr:=by unfold Sb.tp;rw[hbot]
 rw[htp]at e1;refine hb.2 ?_;have hreal:(sq N).real k ds kd cs=G (sfx k ds kd (sq N).fr) cs:=by unfold Sb.real Sb.tp Sb.fs;rw[hbot];rfl
 rw[hreal];refine after _ _ ?_;rw[e1];have hw:(sq N).w=re wf (sq N).w.tape (sq N).w.drawn:=by rw[<-e3];rfl
 rw[hw];exact hΦr _ _ _ _ hΦ
end
section
variable {P:Program} {A:FuncId->Bool}
theorem zq90(fn:Func)(tmps:Array Value):zq2 P (results fn tmps):=by
 unfold results;refine zq3 (zq8w _ (λx=>?_) _) λ_=>zq1b _;cases x with
 |tmp t=>exact zq1b _
 |cell a t=>exact zq3 (zq8k _) λ_=>zq8v _ _
theorem zq3e{X:Snap}{fn:FuncId}{es:Array Event}(h:∀e∈es,e∈(#[]:Array Event)\/apart X e):∀e∈seen P fn es,apart X e:=λe he=>(h e (mem_seen he)).resolve_left (by simp)
theorem zqbq(hP:Plain P A){main:Bool}{fr:Frame}{cs:List Frame}{s:Sem Next}{X:Snap}{w wc wc':World}{fr':Frame}{cs':List Frame}{es:Array Event}(hk:fr.kind≠.early)(hcall:∀d b r v k,fr.todo≠.call d b r v::k)(hext:∀r v k,fr.todo≠.extern r v::k)
 (hst:zq2 P s) (hl:leaf P (zq1u P A) s) (ht:tame P true s) (h:Cut X w wc) (hs:stepG.apply P true fr cs none s wc=.go (G fr' cs') wc' es):
 ∃w',Cut X w' wc'/\stepG.apply P true fr cs none s w=.go (G fr' cs') w' es/\(∀e∈es,apart X e)/\Chans w w':=by
 have h1:=hst X w wc #[] h;have hg:=zq36 s ht hl wc #[];have hke:(fr.kind==CallKind.early)=false:=by simpa using hk
 unfold stepG.apply at hs |-;simp only[if_true,hke,Bool.false_eq_true,if_false]at hs |-;generalize hr:s.runT P wc #[]=r at h1 hg hs;obtain⟨r,es'⟩:=r;simp only at h1 hg hs;cases r with
 |ok nx w1=>
  obtain⟨w',c1,e1,v1⟩:=h1 trivial;rw[e1];have hnx:zq1u P A nx:=hg;simp only[resW,setW]at c1 |-;cases nx with
  |value v=>
   simp only[GStep.after,GStep.go.injEq,Array.append_empty]at hs |-;obtain⟨a1,rfl,rfl⟩:=hs;exact⟨w',c1,⟨a1,rfl,rfl⟩,zq3e v1,by have:=zq2h s ht w #[];rw[e1]at this;exact this⟩
  |skip=>
   simp only[GStep.after,GStep.go.injEq,Array.append_empty]at hs |-;obtain⟨a1,rfl,rfl⟩:=hs;exact⟨w',c1,⟨a1,rfl,rfl⟩,zq3e v1,by have:=zq2h s ht w #[];rw[e1]at this;exact this⟩
  |enter f args=>
   simp only[GStep.after,GStep.go.injEq,Array.append_empty]at hs |-;obtain⟨a1,rfl,rfl⟩:=hs;exact⟨w',c1,⟨a1,rfl,rfl⟩,zq3e v1,by have:=zq2h s ht w #[];rw[e1]at this;exact this⟩
  |_=>exact hnx.elim
 |halt x w1=>
  rcases hg with hg|⟨b,rfl⟩
  . cases x with
    |panic v=>
     obtain⟨w',c1,e1,v1⟩:=h1 trivial;rw[e1];simp only[resW,setW,GStep.after,GStep.go.injEq,Array.append_empty]at hs c1 |-;obtain⟨a1,rfl,rfl⟩:=hs;exact⟨w',c1,⟨a1,rfl,rfl⟩,zq3e v1,by have:=zq2h s ht w #[];rw[e1]at this;exact this⟩
    |stuck s=>simp only[GStep.after]at hs;cases hs
    |unsupported u=>cases u<;>first|(simp only[GStep.after]at hs;cases hs)|exact hg.elim
    |_=>exact hg.elim
  . obtain⟨o,w'',es'',he⟩:=zq3i hP fr cs none b w1;simp only[he,GStep.after]at hs;cases hs
theorem zq1f{main:Bool}{fr:Frame}{cs:List Frame}{X:Snap}{w wc wc':World}{fr':Frame}{cs':List Frame}{es:Array Event}(h:Cut X w wc)
 (hc:(∃g:Goroutine,∀w,stepG P main (G fr cs) w=.go g w)\/∀w,∃o w' es,stepG P main (G fr cs) w=.ended o w' es) (hs:stepG P main (G fr cs) wc=.go (G fr' cs') wc' es):
 ∃w',Cut X w' wc'/\stepG P main (G fr cs) w=.go (G fr' cs') w' es/\(∀e∈es,apart X e)/\Chans w w':=by
 rcases hc with⟨g,hc⟩|hc
 . rw[hc]at hs;cases hs;exact⟨w,h,hc w,by simp,Chans.refl w⟩
 . obtain⟨o,w',es',he⟩:=hc wc;rw[he]at hs;cases hs
theorem step_cut(hP:Plain P A)(hR:RowsS P A){main:Bool}{fr:Frame}{cs:List Frame}{X:Snap}{w wc wc':World}{fr':Frame}{cs':List Frame}{es:Array Event}(ht:Top P A fr)(h:Cut X w wc)
 (hs:stepG P main (G fr cs) wc=.go (G fr' cs') wc' es):∃w',Cut X w' wc'/\stepG P main (G fr cs) w=.go (G fr' cs') w' es/\(∀e∈es,apart X e)/\Chans w w':=by
 obtain⟨fn,tmps,todo,defers,mode,kind,round⟩:=fr;have hrd:=ht.round;have hkd:=ht.kind;have hhd:=ht.head;simp only at hrd hkd hhd;subst hrd;rcases hhd with⟨rfl,i,t,rfl,hi⟩|⟨rfl,rfl⟩|⟨rfl,rfl⟩
 . cases i with
   |code c=>
    have hc:zqp P A c=true:=hi;cases c with
    |skip=>exact zq1f h (.inl ⟨_,λw=>by simp only[G,stepG,stepG.exec];rfl⟩) hs
    |exit id=>
     refine zq1f h ?_ hs;cases hx:exitTo id t with
     |some k'=>exact .inl ⟨_,λw=>by simp only[G,stepG,stepG.exec,hx,Option.elim];rfl⟩
     |none=>exact .inr λw=>by simp[G,stepG,stepG.exec,hx]
    |ret=>exact zq1f h (.inl ⟨_,λw=>by simp only[G,stepG,stepG.exec];rfl⟩) hs
    |refuse why=>exact zq1f h (.inr λw=>by simp[G,stepG,stepG.exec]) hs
    |region id ops draw=>
     cases draw with
     |false=>exact zq1f h (.inl ⟨_,λw=>by simp only[G,stepG,stepG.exec,Bool.not_false,if_true];rfl⟩) hs
     |true=>
      have e:∀w:World,stepG P main (G ⟨fn,tmps,.code (.region id ops true)::t,defers,.run,kind,none⟩ cs) w=.go (G ⟨fn,tmps,.inRegion ops (Region.schedule (P.follows .mixedOrders) ops (w.tape w.drawn (.order fn id)))::t,defers,.run,kind,none⟩ cs) w.drew #[]:=by
       intro w;have:=stepG_region_draw (P:=P) (main:=main) (b:=⟨fn,tmps,[],[],.run,kind,none⟩) (a:=⟨tmps,defers⟩) (k:=t) (cs:=cs) (w:=w) (id:=id) (ops:=ops);exact this
      rw[e wc]at hs;rw[e w,<-h.tape,<-h.drawn];cases hs;exact⟨w.drew,⟨h.is,h.no,h.size,h.tape,by show wc.drawn+1=w.drawn+1;rw[h.drawn],h.os,h.output⟩,rfl,by simp,⟨λ_ _ h _=>h,rfl,rfl⟩⟩
    |seq a b=>exact zq1f h (.inl ⟨_,λw=>by simp only[G,stepG,stepG.exec];rfl⟩) hs
    |cond c a b=>
     refine zq1f h ?_ hs;cases hb:(⟨fn,tmps,.code (.cond c a b)::t,defers,.run,kind,none⟩:Frame).eval c with
     |bool x=>exact .inl ⟨_,λw=>by simp only[G,stepG,stepG.exec,hb];rfl⟩
     |_=>exact .inr λw=>by simp[G,stepG,stepG.exec,hb]
    |block id c=>exact zq1f h (.inl ⟨_,λw=>by simp only[G,stepG,stepG.exec];rfl⟩) hs
    |loop c=>exact zq1f h (.inl ⟨_,λw=>by simp only[G,stepG,stepG.exec];rfl⟩) hs
    |_=>simp[zqp]at hc
   |inBlock id=>exact zq1f h (.inl ⟨_,λw=>by simp only[G,stepG,stepG.exec];rfl⟩) hs
   |inLoop c=>exact zq1f h (.inl ⟨_,λw=>by simp only[G,stepG,stepG.exec];rfl⟩) hs
   |inRegion ops l=>
    cases l with
    |nil=>exact zq1f h (.inl ⟨_,λw=>by simp only[G,stepG,stepG.exec];rfl⟩) hs
    |cons j r=>
     cases hj:ops[j]? with
     |none=>
      refine zq1f h (.inl ⟨G (Frame.finish ⟨fn,tmps,.inRegion ops (j::r)::t,defers,.run,kind,none⟩ undef) cs,λw=>?_⟩) hs;simp only[G,stepG,stepG.exec,hj,Option.map_none,Option.getD_none,Bool.false_eq_true,if_false]
     |some o=>
      cases hw:Region.wanted o (yielded ops tmps)with
      |false=>
       refine zq1f h (.inl ⟨G (Frame.finish ⟨fn,tmps,.inRegion ops (j::r)::t,defers,.run,kind,none⟩ undef) cs,λw=>?_⟩) hs;simp only[G,stepG,stepG.exec,hj,Option.map_some,al_od,hw,Bool.false_eq_true,if_false]
      |true=>
       have e:∀w,stepG P main (G ⟨fn,tmps,.inRegion ops (j::r)::t,defers,.run,kind,none⟩ cs) w=stepG.apply P true ⟨fn,tmps,.inRegion ops (j::r)::t,defers,.run,kind,none⟩ cs none (execOp (Frame.eval ⟨fn,tmps,.inRegion ops (j::r)::t,defers,.run,kind,none⟩) o) w:=by
        intro w;have:=stepG_oper (P:=P) (main:=main) (b:=⟨fn,tmps,[],[],.run,kind,none⟩) (a:=⟨tmps,defers⟩) (k:=t) (cs:=cs) (w:=w) (ops:=ops) (i:=j) (rest:=r) hj hw;exact this
       rw[e wc]at hs;rw[e w];have hop:okOp P A o.op=true:=zq4u hi hj;obtain⟨k1,k2⟩:=zq1n hP.fns o hop (Frame.eval ⟨fn,tmps,.inRegion ops (j::r)::t,defers,.run,kind,none⟩) (λf=>rfl);exact zqbq (main:=main) hP (fr:=⟨fn,tmps,.inRegion ops (j::r)::t,defers,.run,kind,none⟩) hkd (by intro d b r v k h;cases h) (by intro r v k h;cases h) (zqc6 hP.fns hR o hop _ (λf=>rfl)) k2 k1 h hs
   |_=>simp[zq11]at hi
 . exact zq1f h (.inl ⟨_,λw=>by simp only[G,stepG,stepG.exec];rfl⟩) hs
 . simp only[G,stepG,unwind]at hs |-;cases hf:P.funcs[fn]? with
   |none=>
    rw[hf]at hs;obtain⟨rfl,rfl,h3⟩:=zq4g hs;exact⟨w,h,h3 w,by simp,Chans.refl w⟩
   |some f=>
    rw[hf]at hs;simp only[]at hs |-;have h1:=zq90 (P:=P) f tmps X w wc #[] h;generalize (results f tmps).runT P wc #[]=r at h1 hs;obtain⟨r,es'⟩:=r;cases r with
    |halt x w1=>cases x<;>(simp only[GStep.after]at hs;cases hs)
    |ok v w1=>
     obtain⟨w',c1,e1,v1⟩:=h1 trivial;rw[e1];simp only[resW,setW]at c1 hs |-;generalize hd:doReturn P main ⟨fn,tmps,todo,[],.returning,kind,none⟩ cs none v w1=S at hs;cases S<;>simp only[GStep.after,GStep.go.injEq,reduceCtorEq]at hs;rename_i g w2 es2;obtain⟨rfl,rfl,rfl⟩:=hs;obtain⟨rfl,rfl,h3⟩:=zq4g hd;rw[h3 w'];exact⟨w',c1,rfl,λe he=>zq3e v1 e (by simpa using he),by have:=zq2h _ (zq25 _ (zq1i (P:=P) f tmps)) w #[];rw[e1]at this;exact this⟩
end
section
variable {P:Program} {main:Bool} {Kc:Addr->Option Value} {γ:Type} {J:γ->Goroutine->World->Prop} {A:FuncId->Bool}
def ends(C R:Act->World->Prop):Exit->Act->World->Prop
 |.normal,a,w=>a.defers=[]/\C a w
 |.ret,a,w=>a.defers=[]/\R a w
 |_,_,_=>False
theorem zqas(hJ:JS P main Kc J)(hcalm:CalmJ P main J)(hP:Plain P A){c:Code}(hc:zqp P A c=true)(C R:Act->World->Prop)
 (hC:∀a w τ d,C a w->C a (re w τ d)) (hR:∀a w τ d,R a w->R a (re w τ d)) {Q:γ->Exit->Act->World->Prop} {s:γ} {a:Act} {w:World}
 (h:∀τ d,Code.wp P c (ends C R) ⟨a.tmps,[]⟩ (re w τ d))
 (hq:∀t w,C ⟨t,[]⟩ w->Q s .normal ⟨t,a.defers⟩ w) (hr:∀t w,R ⟨t,[]⟩ w->Q s .ret ⟨t,a.defers⟩ w):wpJ J c Q s a w:=by
 intro b k cs hb hk
 let b₀:Frame:={(default:Frame)with fn:=b.fn,kind:=.normal}
 let Φ:Frame->World->Prop:=λfr w=>(∃t,fr=b₀.at ⟨t,[]⟩ wall/\C ⟨t,[]⟩ w)\/(fr.mode=.returning/\fr.fn=b.fn/\R ⟨fr.tmps,[]⟩ w)
 have hsfx:b.at a (.code c::k)=sfx k a.defers b.kind (Fr b.fn a.tmps [.code c]):=rfl;have hwall:sfx wall [] .normal (Fr b.fn a.tmps [.code c])=b₀.at ⟨a.tmps,[]⟩ (.code c::wall):=rfl;rw[hsfx];refine chunk (J:=λg w=>J s g w) hP hb (λfr cs' w ht h=>zq5f hcalm hP ht h) (zq1h (λi hi=>by rw[List.mem_singleton.1 hi];exact hc)) (Φ:=Φ) ?_ ?_ ?_ ?_
 . rintro fr w τ d (⟨t,h1,h2⟩|⟨h1,h2,h3⟩)
   . exact .inl ⟨t,h1,hC _ _ _ _ h2⟩
   . exact .inr ⟨h1,h2,hR _ _ _ _ h3⟩
 . rintro fr w (⟨t,h1,h2⟩|⟨h1,h2,h3⟩) ch hm
   . rw[h1]at hm;cases hm
   . rw[h1]at hm;cases hm
 . intro τ d;rw[hwall];obtain⟨e,a',w',hC',harr⟩:=h τ d b₀ wall [trap];cases e with
   |normal=>
    obtain⟨t,dd⟩:=a';obtain⟨hd,hC'⟩:=hC';simp only at hd;subst hd;obtain⟨n,hn⟩:=harr;exact⟨n,_,_,hn,.inl ⟨t,rfl,hC'⟩⟩
   |ret=>
    obtain⟨t,dd⟩:=a';obtain⟨hd,hC'⟩:=hC';simp only at hd;subst hd;obtain⟨todo,n,hn⟩:=harr;exact⟨n,_,_,hn,.inr ⟨rfl,rfl,hC'⟩⟩
   |_=>exact hC'.elim
 . rintro fr w (⟨t,h1,h2⟩|⟨h1,h2,h3⟩)
   . have e1:fr.fn=b.fn:=by have:=congrArg Frame.fn h1;exact this
     have e2:fr.tmps=t:=by have:=congrArg Frame.tmps h1;exact this
     have e3:fr.todo++wall=wall:=by have:=congrArg Frame.todo h1;exact this
     have e4:fr.mode=.run:=by have:=congrArg Frame.mode h1;exact this
     have e5:fr.todo=[]:=by
      have:=congrArg List.length e3;simp at this;exact this
     have:sfx k a.defers b.kind fr=b.at ⟨t,a.defers⟩ k:=by
      simp only[sfx,Frame.at,e1,e2,e4,e5,List.nil_append]
     rw[this];exact hk s .normal _ _ (hq _ _ h2)
   . have h1':fr.mode=.returning:=h1;have h2':fr.fn=b.fn:=h2;have:sfx k a.defers b.kind fr={b.at ⟨fr.tmps,a.defers⟩ (fr.todo++k)with mode:=.returning}:=by
      simp only[sfx,Frame.at,h1',h2']
     rw[this];exact hk s .ret _ _ (hr _ _ h3) _
end
def Rows(X:Snap)(w:World):Prop:=∀b c e,X b=some (c,e)->w.heap[b]?=some (.cells c e)
def cutW(X:Snap)(w:World):World:={w with heap:=Array.ofFn λi:Fin w.heap.size=>match X i with|some (_,e)=>Obj.cells #[] e|none=>w.heap[i]}
theorem zq6x(X:Snap)(w:World)(b:Nat)(hb:b<w.heap.size):(cutW X w).heap[b]?=some (match X b with|some (_,e)=>Obj.cells #[] e|none=>w.heap[b]):=by
 simp[cutW,hb]
theorem zq4f{X:Snap}{w:World}(h:Rows X w):Cut X w (cutW X w):=by
 refine⟨λb c e hb=>⟨h b c e hb,?_⟩,λb hb=>?_,by simp[cutW],rfl,rfl,rfl,rfl⟩
 . have hlt:=(Array.getElem?_eq_some_iff.1 (h b c e hb)).1;rw[zq6x X w b hlt,hb]
 . by_cases hlt:b<w.heap.size
   . rw[zq6x X w b hlt,hb,Array.getElem?_eq_getElem hlt]
   . rw[Array.getElem?_eq_none (by simp[cutW];omega),Array.getElem?_eq_none (by omega)]
theorem Cut.rows {X:Snap}{w wc:World}(h:Cut X w wc):Rows X w:=λb c e hb=>(h.is b c e hb).1
theorem Cut.inj {X:Snap}{w w' wc:World}(h:Cut X w wc)(h':Cut X w' wc):w=w':=by
 obtain⟨h1,h2,h3,h4,h5,h6,h7⟩:=h;obtain⟨k1,k2,k3,k4,k5,k6,k7⟩:=h';have hh:w.heap=w'.heap:=by
  apply Array.ext_getElem?;intro b;cases hx:X b with
  |none=>rw[<-h2 b hx,k2 b hx]
  |some x=>obtain⟨c,e⟩:=x;rw[(h1 b c e hx).1,(k1 b c e hx).1]
 cases w;cases w';simp_all
section
variable {P:Program} {main:Bool} {Kc:Addr->Option Value} {γ:Type} {J:γ->Goroutine->World->Prop} {A:FuncId->Bool} {X:Snap}
def CalmX(P:Program)(main:Bool)(X:Snap){γ:Type}(J:γ->Goroutine->World->Prop):Prop:=
 ∀s fr cs w,Rows X w->(∀τ d,∃fr' cs' w' es,stepG P main (G fr cs) (re w τ d)=.go (G fr' cs') w' es/\(∀e∈es,calmEv true e/\apart X e)/\Chans w w'/\Rows X w'/\J s (G fr' cs') w')->J s (G fr cs) w
theorem cut_J(hcalm:CalmX P main X J)(hP:Plain P A)(hR:RowsS P A)(w₀:World)(s:γ)(fr:Frame)(cs':List Frame)(wc:World)(ht:Top P A fr)
 (h:∀τ d,∃fr' cs'' wc' es,stepG P main (G fr cs') (re wc τ d)=.go (G fr' cs'') wc' es/\(∀e∈es,calmEv true e)/\∀w',Cut X w' wc'->Chans w₀ w'->J s (G fr' cs'') w'):∀w',Cut X w' wc->Chans w₀ w'->J s (G fr cs') w':=by
 intro w' hc hch;refine hcalm s fr cs' w' hc.rows λτ d=>?_;obtain⟨fr',cs'',wc',es,h1,h2,h3⟩:=h τ d;obtain⟨w'',c1,e1,a1,ch1⟩:=step_cut hP hR ht (hc.re τ d) h1;have ch2:Chans w' w'':=ch1;exact⟨fr',cs'',w'',es,e1,λe he=>⟨h2 e he,a1 e he⟩,ch2,c1.rows,h3 w'' c1 (hch.trans ch2)⟩
theorem zqbf(hJ:JS P main Kc J)(hcalm:CalmX P main X J)(hP:Plain P A)(hRS:RowsS P A){f:FuncId}{fn:Func}{c:Code}{args:Array Value}{s:γ}{w:World}(hf:P.funcs[f]?=some fn)(hb:fn.body=some c)(hc:zqp P A c=true)
 {R:Value->World->Prop} (hR:∀v w τ d,R v w->R v (re w τ d)) (hX:Rows X w) (h:∀wc,(∃τ d,Cut X (re w τ d) wc)->Calls P f args wc (zq38 R))
 {Post:γ->Ending->World->Prop} (hpost:∀v wc w',R v wc->Cut X w' wc->Chans w w'->Post s (.returned v) w'):zq1g P J f args Post s w:=by
 intro cl cs h1 h2
 let Φ:Frame->World->Prop:=λfr w=>fr.mode=.returning/\fr.defers=[]/\fr.kind=.normal/\fr.fn=f/\∃v,(results fn fr.tmps).run P w=.ok v w/\R v w
 refine lift hP (J:=λg wc=>∀w',Cut X w' wc->Chans w w'->J s g w') (main:=main) (cs:=cl::cs) (λfr cs' wc ht h=>cut_J hcalm hP hRS w s fr cs' wc ht h) (zq5h args hf hb hc) (Φ:=Φ) ?_ (λfr w h=>h.1) ?_ ?_ (w:=cutW X w) w (zq4f hX) (Chans.refl w)
 . rintro fr w τ d ⟨a,b,c,e,v,hv,hr⟩;exact⟨a,b,c,e,v,zq3a hv τ d,hR _ _ _ _ hr⟩
 . intro τ d;obtain⟨e,w',fr,hRe,hcm,hfn,hl⟩:=h (re (cutW X w) τ d) ⟨τ,d,(zq4f hX).re τ d⟩ [trap];cases e with
   |returned v=>
    obtain⟨n,hn⟩:=hcm;obtain⟨hm,hd,hk,fn',hf',hr⟩:=hl;rw[hfn,hf]at hf';obtain rfl:=Option.some.inj hf';exact⟨n,fr,w',hn,hm,hd,hk,hfn,v,hr,hRe⟩
   |_=>exact hRe.elim
 . rintro fr wc ⟨hm,hd,hk,hfn,v,hv,hr⟩ w' hcut hch;have hj:=h1 s v w' (hpost v wc w' hr hcut hch);have hv':(results fn fr.tmps).run P w'=.ok v w':=by
    have:=zq90 (P:=P) fn fr.tmps X w' wc #[] hcut;rw[Sem.runT_eq,hv]at this;obtain⟨w'',c1,e1,_⟩:=this trivial;obtain rfl:=c1.inj hcut;have:=(Prod.mk.inj e1).1;rw[Sem.runT_eq]at this;exact this
   refine hJ.step _ _ _ rfl λτ d=>?_;have hev:∀e∈((results fn fr.tmps).runT P (re w' τ d) #[]).2,EvOk Kc e:=λe he=>zq2o ((zq1y _ (zq1i fn fr.tmps) _ #[] e he).resolve_left (by simp));refine⟨G (cl.finish v) cs,re w' τ d,seen P fr.fn ((results fn fr.tmps).runT P (re w' τ d) #[]).2,?_,OkD.refl _ _ _,λe he=>hev e (mem_seen he),hJ.re' _ _ _ _ _ hj⟩;have h1:((results fn fr.tmps).runT P (re w' τ d) #[]).1=.ok v (re w' τ d):=by rw[Sem.runT_eq];exact zq3a hv' τ d
   rw[<-hfn]at hf;simp only[G,stepG,unwind,hm,hd,hf];generalize (results fn fr.tmps).runT P (re w' τ d) #[]=r at h1;obtain⟨r,es⟩:=r;simp only at h1;subst h1;simp only[doReturn,hk,GStep.after,Array.append_empty]
theorem zqcl{Fin:Machine->Trace->Prop}(hFin:Back P Fin){Kc:Addr->Option Value}{Inb:Nat->Option Seat}{h n:Nat}(hK:∀a v,Kc a=some v->∃c e,X a.block=some (c,e)):CalmX P (h==0) X (λ(_:Unit)=>HoldR P Fin Kc Inb h n):=
 λ_ fr cs w hX hs=>zq5l hFin rfl λτ d=>by
  obtain⟨fr',cs',w',es,h1,h2,h3,h4,h5⟩:=hs τ d;refine⟨_,w',es,h1,⟨⟨λhk a v e=>?_,h3.2.1,h3.2.2⟩,λc _⟨cap,k,hx⟩=>?_⟩,λe he=>?_,h5⟩
  . obtain⟨c,t,hx⟩:=hK a v e;obtain⟨k1,k2⟩:=hk a v e;have hsame:w'.heap[a.block]?=(re w τ d).heap[a.block]?:=(h4 _ _ _ hx).trans (hX _ _ _ hx).symm;exact⟨by rw[<-k1];simp only[World.cell?,hsame],by rw[<-k2];simp only[World.frozen?,hsame]⟩
  . exact(h3.1 c _ hx (by simp)).trans hx.symm
  . obtain⟨he1,he2⟩:=h2 e he;refine⟨λx hx hst=>?_,zq4e he1⟩;obtain⟨a,v,hl,hv⟩:=hst;obtain⟨c,t,hxx⟩:=hK a v hv;rw[(zqam he1.1 hx).2]at hl;rw[he2 a hl]at hxx;cases hxx
end
def zq27(P:Program)(it:Item)(Q:Exit->Act->World->Prop)(a:Act)(w:World):Prop:=
 ∀(b:Frame)(k:List Item)(cs:List Frame),∃e a' w',Q e a' w'/\Arrives P (lone (b.at a (it::k)) cs w) b k cs e a' w'
theorem zq59{P:Program}{c:Code}{Q:Exit->Act->World->Prop}{a:Act}{w:World}(h:Code.wp P c Q a w):zq27 P (.code c) Q a w:=h
theorem zqar{P:Program}{ops:Array Oper}{Q:Exit->Act->World->Prop}{a:Act}{w:World}(p r:Nat){todo:List Nat}(hsz:p+r=ops.size)(ht:todo=List.range' p r)(h:wpList P ops Q (ops.toList.drop p) a w):zq27 P (.inRegion ops todo) Q a w:=by
 subst ht;have hl:(ops.toList.drop p).length=r:=by simp;omega
 have:=wpOps_eq_wpList (P:=P) (ops:=ops) (Q:=Q) (ops.toList.drop p) p (λj=>by simp);rw[hl]at this;rw[<-this]at h;exact wp_ops _ _ _ h
theorem zq28{P:Program}{it:Item}{Q Q':Exit->Act->World->Prop}{a:Act}{w:World}(h:zq27 P it Q a w)(hq:∀e a w,Q e a w->Q' e a w):zq27 P it Q' a w:=
 λb k cs=>let ⟨e,a',w',q,r⟩:=h b k cs;⟨e,a',w',hq _ _ _ q,r⟩
def wpI{γ:Type}(J:γ->Goroutine->World->Prop)(it:Item)(Q:γ->Exit->Act->World->Prop)(s:γ)(a:Act)(w:World):Prop:=
 ∀(b:Frame)(k:List Item)(cs:List Frame),b.kind≠.early->(∀s' e a' w',Q s' e a' w'->AfterJ J b k cs s' e a' w')->J s (G (b.at a (it::k)) cs) w
section
variable {P:Program} {main:Bool} {Kc:Addr->Option Value} {γ:Type} {J:γ->Goroutine->World->Prop} {A:FuncId->Bool} {X:Snap}
theorem wpI_lone(hJ:JS P main Kc J)(hcalm:CalmJ P main J)(hP:Plain P A){it:Item}(hc:zq11 P A it=true)(C R:Act->World->Prop)
 (hC:∀a w τ d,C a w->C a (re w τ d)) (hR:∀a w τ d,R a w->R a (re w τ d)) {Q:γ->Exit->Act->World->Prop} {s:γ} {a:Act} {w:World}
 (h:∀τ d,zq27 P it (ends C R) ⟨a.tmps,[]⟩ (re w τ d))
 (hq:∀t w,C ⟨t,[]⟩ w->Q s .normal ⟨t,a.defers⟩ w) (hr:∀t w,R ⟨t,[]⟩ w->Q s .ret ⟨t,a.defers⟩ w):wpI J it Q s a w:=by
 intro b k cs hb hk
 let b₀:Frame:={(default:Frame)with fn:=b.fn,kind:=.normal}
 let Φ:Frame->World->Prop:=λfr w=>(∃t,fr=b₀.at ⟨t,[]⟩ wall/\C ⟨t,[]⟩ w)\/(fr.mode=.returning/\fr.fn=b.fn/\R ⟨fr.tmps,[]⟩ w)
 have hsfx:b.at a (it::k)=sfx k a.defers b.kind (Fr b.fn a.tmps [it]):=rfl;have hwall:sfx wall [] .normal (Fr b.fn a.tmps [it])=b₀.at ⟨a.tmps,[]⟩ (it::wall):=rfl;rw[hsfx];refine chunk (J:=λg w=>J s g w) hP hb (λfr cs' w ht h=>zq5f hcalm hP ht h) (zq1h (λi hi=>by rw[List.mem_singleton.1 hi];exact hc)) (Φ:=Φ) ?_ ?_ ?_ ?_
 . rintro fr w τ d (⟨t,h1,h2⟩|⟨h1,h2,h3⟩)
   . exact .inl ⟨t,h1,hC _ _ _ _ h2⟩
   . exact .inr ⟨h1,h2,hR _ _ _ _ h3⟩
 . rintro fr w (⟨t,h1,h2⟩|⟨h1,h2,h3⟩) ch hm
   . rw[h1]at hm;cases hm
   . rw[h1]at hm;cases hm
 . intro τ d;rw[hwall];obtain⟨e,a',w',hC',harr⟩:=h τ d b₀ wall [trap];cases e with
   |normal=>
    obtain⟨t,dd⟩:=a';obtain⟨hd,hC'⟩:=hC';simp only at hd;subst hd;obtain⟨n,hn⟩:=harr;exact⟨n,_,_,hn,.inl ⟨t,rfl,hC'⟩⟩
   |ret=>
    obtain⟨t,dd⟩:=a';obtain⟨hd,hC'⟩:=hC';simp only at hd;subst hd;obtain⟨todo,n,hn⟩:=harr;exact⟨n,_,_,hn,.inr ⟨rfl,rfl,hC'⟩⟩
   |_=>exact hC'.elim
 . rintro fr w (⟨t,h1,h2⟩|⟨h1,h2,h3⟩)
   . have e1:fr.fn=b.fn:=by have:=congrArg Frame.fn h1;exact this
     have e2:fr.tmps=t:=by have:=congrArg Frame.tmps h1;exact this
     have e3:fr.todo++wall=wall:=by have:=congrArg Frame.todo h1;exact this
     have e4:fr.mode=.run:=by have:=congrArg Frame.mode h1;exact this
     have e5:fr.todo=[]:=by
      have:=congrArg List.length e3;simp at this;exact this
     have:sfx k a.defers b.kind fr=b.at ⟨t,a.defers⟩ k:=by
      simp only[sfx,Frame.at,e1,e2,e4,e5,List.nil_append]
     rw[this];exact hk s .normal _ _ (hq _ _ h2)
   . have h1':fr.mode=.returning:=h1;have h2':fr.fn=b.fn:=h2;have:sfx k a.defers b.kind fr={b.at ⟨fr.tmps,a.defers⟩ (fr.todo++k)with mode:=.returning}:=by
      simp only[sfx,Frame.at,h1',h2']
     rw[this];exact hk s .ret _ _ (hr _ _ h3) _
theorem wpI_away(hJ:JS P main Kc J)(hcalm:CalmX P main X J)(hP:Plain P A)(hR:RowsS P A){it:Item}(hc:zq11 P A it=true)(C R:Act->World->Prop)
 (hC:∀a w τ d,C a w->C a (re w τ d)) (hRr:∀a w τ d,R a w->R a (re w τ d)) {Q:γ->Exit->Act->World->Prop} {s:γ} {a:Act} {w:World} (hX:Rows X w)
 (h:∀wc,(∃τ d,Cut X (re w τ d) wc)->zq27 P it (ends C R) ⟨a.tmps,[]⟩ wc)
 (hq:∀t wc w',C ⟨t,[]⟩ wc->Cut X w' wc->Chans w w'->Q s .normal ⟨t,a.defers⟩ w') (hr:∀t wc w',R ⟨t,[]⟩ wc->Cut X w' wc->Chans w w'->Q s .ret ⟨t,a.defers⟩ w'):wpI J it Q s a w:=by
 intro b k cs hb hk
 let b₀:Frame:={(default:Frame)with fn:=b.fn,kind:=.normal}
 let Φ:Frame->World->Prop:=λfr w=>(∃t,fr=b₀.at ⟨t,[]⟩ wall/\C ⟨t,[]⟩ w)\/(fr.mode=.returning/\fr.fn=b.fn/\R ⟨fr.tmps,[]⟩ w)
 have hsfx:b.at a (it::k)=sfx k a.defers b.kind (Fr b.fn a.tmps [it]):=rfl;have hwall:sfx wall [] .normal (Fr b.fn a.tmps [it])=b₀.at ⟨a.tmps,[]⟩ (it::wall):=rfl;rw[hsfx];refine chunk (J:=λg wc=>∀w',Cut X w' wc->Chans w w'->J s g w') hP hb (λfr cs' wc ht h=>cut_J hcalm hP hR w s fr cs' wc ht h) (zq1h (λi hi=>by rw[List.mem_singleton.1 hi];exact hc)) (Φ:=Φ) ?_ ?_ ?_ ?_ (w:=cutW X w) w (zq4f hX) (Chans.refl w)
 . rintro fr w τ d (⟨t,h1,h2⟩|⟨h1,h2,h3⟩)
   . exact .inl ⟨t,h1,hC _ _ _ _ h2⟩
   . exact .inr ⟨h1,h2,hRr _ _ _ _ h3⟩
 . rintro fr w (⟨t,h1,h2⟩|⟨h1,h2,h3⟩) ch hm
   . rw[h1]at hm;cases hm
   . rw[h1]at hm;cases hm
 . intro τ d;rw[hwall];obtain⟨e,a',w',hC',harr⟩:=h (re (cutW X w) τ d) ⟨τ,d,(zq4f hX).re τ d⟩ b₀ wall [trap];cases e with
   |normal=>
    obtain⟨t,dd⟩:=a';obtain⟨hd,hC'⟩:=hC';simp only at hd;subst hd;obtain⟨n,hn⟩:=harr;exact⟨n,_,_,hn,.inl ⟨t,rfl,hC'⟩⟩
   |ret=>
    obtain⟨t,dd⟩:=a';obtain⟨hd,hC'⟩:=hC';simp only at hd;subst hd;obtain⟨todo,n,hn⟩:=harr;exact⟨n,_,_,hn,.inr ⟨rfl,rfl,hC'⟩⟩
   |_=>exact hC'.elim
 . rintro fr wc (⟨t,h1,h2⟩|⟨h1,h2,h3⟩) w' hcut hch
   . have e1:fr.fn=b.fn:=by have:=congrArg Frame.fn h1;exact this
     have e2:fr.tmps=t:=by have:=congrArg Frame.tmps h1;exact this
     have e3:fr.todo++wall=wall:=by have:=congrArg Frame.todo h1;exact this
     have e4:fr.mode=.run:=by have:=congrArg Frame.mode h1;exact this
     have e5:fr.todo=[]:=by
      have:=congrArg List.length e3;simp at this;exact this
     have:sfx k a.defers b.kind fr=b.at ⟨t,a.defers⟩ k:=by
      simp only[sfx,Frame.at,e1,e2,e4,e5,List.nil_append]
     rw[this];exact hk s .normal _ _ (hq _ _ _ h2 hcut hch)
   . have h1':fr.mode=.returning:=h1;have h2':fr.fn=b.fn:=h2;have:sfx k a.defers b.kind fr={b.at ⟨fr.tmps,a.defers⟩ (fr.todo++k)with mode:=.returning}:=by
      simp only[sfx,Frame.at,h1',h2']
     rw[this];exact hk s .ret _ _ (hr _ _ _ h3 hcut hch) _
end
end Go.Car
