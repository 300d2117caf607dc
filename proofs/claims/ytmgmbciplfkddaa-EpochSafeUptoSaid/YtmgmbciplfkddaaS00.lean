/- YtmgmbciplfkddaaESaf16: part 0 of the proof (the texts behind it, in order). -/
import Derived.Test.YtmgmbciplfkddaaRows
import Derived.Conc.Token
import Derived.Conc.TokenWalk
import Derived.Below
import Derived.Conc.CompanyDraw
import Derived.Conc.DeferLaws
import Derived.Conc.Own3
import Derived.Conc.CompanyMem
import Derived.OrdersHeld
import Derived.Conc.AppendEvents2
import Derived.Maps.AppendAt
import Derived.Conc.CompanyCalls
import Derived.Deep.AppendLies
import Derived.Deep.Quiet
import Derived.Tactics2
import Derived.WalkKit
import Derived.BigQuiet
import Derived.Lib.Hide
import Derived.Deep.LoopGhost
import Derived.Conc.TokenWords
import Derived.LaidEql
import Derived.IntWalk
import Derived.Conc.SmallLaws
import Derived.Laws.MakeOwn
import Derived.Laws.Tables
import Derived.Great.BuildSlice
import Derived.Conc.Beside
import Derived.Deep.Slices
import Derived.WideShapes
import Derived.ChangeArms
import Derived.Carry
import Derived.Conc.Holds
import Derived.Conc.LeavingOf
import Derived.JoinedCond
import Derived.ProofKit
import Derived.OpenShut
import Derived.Laws.LoneSync
import Derived.Laws.Pointers
import Derived.Deep.RegionLaw
import Derived.Deep.RegionWith
import Derived.Lib.SmallJoins
namespace Go
theorem al_gn {α : Type _} {xs : Array α} {i : Nat} {a : α} {j : Nat} (h : i ≠ j) : (xs.setIfInBounds i a)[j]? = xs[j]? := Array.getElem?_setIfInBounds_ne h
theorem al_gs {α : Type _} {xs : Array α} {i j : Nat} {a : α} : (xs.setIfInBounds i a)[j]? = if i = j then if i < xs.size then some a else none else xs[j]? := Array.getElem?_setIfInBounds
theorem al_gz {α : Type _} {xs : Array α} {i : Nat} {a : α} : (xs.setIfInBounds i a).size = xs.size := Array.size_setIfInBounds
theorem al_gd {α : Type _} {xs : Array α} {i : Nat} {d : α} : xs.getD i d = xs[i]?.getD d := Array.getD_eq_getD_getElem?
theorem al_gl {α : Type _} {xs : List α} {i : Nat} : xs.toArray[i]? = xs[i]? := List.getElem?_toArray
theorem al_g0 {α : Type _} {a : α} {l : List α} : (a :: l)[0]? = some a := List.getElem?_cons_zero
theorem al_g1 {α : Type _} {a : α} {i : Nat} {l : List α} : (a :: l)[i + 1]? = l[i]? := List.getElem?_cons_succ
theorem al_g2 {α : Type _} (l : List α) (i : Nat) (a : α) : l.toArray.setIfInBounds i a = (l.set i a).toArray := List.setIfInBounds_toArray l i a
theorem al_ob {α β : Type _} (a : α) (f : α → Option β) : (some a).bind f = f a := Option.bind_some a f
theorem al_od {α : Type _} {a b : α} : (some a).getD b = a := Option.getD_some
theorem al_oi {α : Type _} (a b : α) : (some a = some b) = (a = b) := Option.some.injEq a b
end Go
set_option maxHeartbeats 4000000
set_option maxRecDepth 100000
set_option linter.all false
namespace Go.Car
open Go
def zq4v:Mark->Prop
 |.acquire _|.release _|.releaseMerge _|.disable|.enable|.read _|.write _=>False
 |_=>True
def okHalt:Halt->Prop
 |.panic _=>True
 |.stuck _=>True
 |.unsupported (.initOrder _)=>False
 |.unsupported _=>True
 |_=>False
def tame{α:Type}(P:Program)(st:Bool):Sem α->Prop
 |.pure _=>True
 |.load _ _ k=>∀v,tame P st (k v)
 |.store _ _ _ k=>st=true/\tame P st k
 |.new _ k=>∀n,tame P st (k n)
 |.shape _ k=>∀s,tame P st (k s)
 |.freeze .. =>False
 |.frozen _ k=>∀b,tame P st (k b)
 |.getObj _ k=>∀o,tame P st (k o)
 |.setObj .. =>False
 |.choose _ k=>∀n,tame P st (k n)
 |.sys .. =>False
 |.program k=>tame P st (k P)
 |.mark m k=>zq4v m/\tame P st k
 |.halt h=>okHalt h
section
variable {α β:Type} {P:Program} {st:Bool}
theorem zq0{s:Sem α}{f:α->Sem β}(hs:tame P st s)(hf:∀a,tame P st (f a)):tame P st (s>>= f):=by
 show tame P st (s.bind f)
 induction s with
 |pure a=>exact hf a
 |load m a k ih=>exact λv=>ih v (hs v)
 |store m a v k ih=>exact⟨hs.1,ih hs.2⟩
 |new o k ih=>exact λv=>ih v (hs v)
 |shape r k ih=>exact λv=>ih v (hs v)
 |freeze a n k ih=>exact hs.elim
 |frozen a k ih=>exact λv=>ih v (hs v)
 |getObj r k ih=>exact λv=>ih v (hs v)
 |setObj r o k ih=>exact hs.elim
 |choose q k ih=>exact λv=>ih v (hs v)
 |sys c k ih=>exact hs.elim
 |program k ih=>exact ih P hs
 |mark m k ih=>exact⟨hs.1,ih hs.2⟩
 |halt h=>exact hs
class Tm {α:Type} (P:Program) (st:Bool) (s:Sem α):Prop where
 out:tame P st s
theorem zq9(a:α):tame P st (Pure.pure a:Sem α):=trivial
instance (a:α):Tm P st (Pure.pure a:Sem α):=⟨zq9 a⟩
theorem zq4{s:Sem α}{f:α->β}(hs:tame P st s):tame P st (Functor.map f s):=zq0 hs λ_=>trivial
theorem zq1d(s:String):tame P st (stuck s:Sem α):=trivial
instance (s:String):Tm P st (stuck s:Sem α):=⟨zq1d s⟩
theorem tame_u1(x:String):tame P st (unsupported (.resourceLimit x):Sem α):=True.intro
instance (x:String):Tm P st (unsupported (.resourceLimit x):Sem α):=⟨tame_u1 x⟩
theorem zq67(x:String):tame P st (unsupported (.noEntry x):Sem α):=True.intro
instance (x:String):Tm P st (unsupported (.noEntry x):Sem α):=⟨zq67 x⟩
theorem tame_u3:tame P st (unsupported .addressObserved:Sem α):=True.intro
instance:Tm P st (unsupported .addressObserved:Sem α):=⟨tame_u3⟩
theorem zqag(x:String):tame P st (unsupported (.unsafePointer x):Sem α):=True.intro
instance (x:String):Tm P st (unsupported (.unsafePointer x):Sem α):=⟨zqag x⟩
theorem zqig(v:Value):tame P st (goPanic v:Sem α):=trivial
instance (v:Value):Tm P st (goPanic v:Sem α):=⟨zqig v⟩
theorem zq65:tame P st program:=trivial
instance:Tm P st program:=⟨zq65⟩
theorem zq9z(a:Addr)(m:Mode):tame P st (load a m):=λ_=>trivial
instance (a:Addr) (m:Mode):Tm P st (load a m):=⟨zq9z a m⟩
theorem zqj9(r:Nat):tame P st (shape r):=λ_=>trivial
instance (r:Nat):Tm P st (shape r):=⟨zqj9 r⟩
theorem zq63(a:Addr):tame P st (frozen a):=λ_=>trivial
instance (a:Addr):Tm P st (frozen a):=⟨zq63 a⟩
theorem zqif(r:Nat):tame P st (getObj r):=λ_=>trivial
instance (r:Nat):Tm P st (getObj r):=⟨zqif r⟩
theorem zqix(o:Obj):tame P st (newObj o):=λ_=>trivial
instance (o:Obj):Tm P st (newObj o):=⟨zqix o⟩
theorem zq9j(q:Question):tame P st (choose q):=λ_=>trivial
instance (q:Question):Tm P st (choose q):=⟨zq9j q⟩
theorem zqac(a:Addr)(v:Value)(m:Mode):tame P true (store a v m):=⟨rfl,trivial⟩
instance (a:Addr) (v:Value) (m:Mode):Tm P true (store a v m):=⟨zqac a v m⟩
theorem zqa7{m:Mark}(h:zq4v m):tame P st (mark m):=⟨h,trivial⟩
theorem zqj0:tame P st (mark .noRoom):=zqa7 trivial
instance:Tm P st (mark .noRoom):=⟨zqj0⟩
theorem zq55(t:TypeId):tame P st (underlying t):=by
 unfold underlying
 repeat' (first|with_reducible (first|exact Tm.out|refine zq4 ?_|refine zq0 ?_ (λ_=>?_))|split|simp only[])
instance (t:TypeId):Tm P st (underlying t):=⟨zq55 t⟩
theorem zqaf(t:TypeId):tame P st (typeInfo t):=by
 unfold typeInfo
 repeat' (first|with_reducible (first|exact Tm.out|refine zq4 ?_|refine zq0 ?_ (λ_=>?_))|split|simp only[])
instance (t:TypeId):Tm P st (typeInfo t):=⟨zqaf t⟩
theorem zqa(t:TypeId):tame P st (sizeOf t):=by
 unfold sizeOf
 repeat' (first|with_reducible (first|exact Tm.out|refine zq4 ?_|refine zq0 ?_ (λ_=>?_))|split|simp only[])
instance (t:TypeId):Tm P st (sizeOf t):=⟨zqa t⟩
theorem zqjn(t:TypeId):tame P st (zeroValue t):=by
 unfold zeroValue
 repeat' (first|with_reducible (first|exact Tm.out|refine zq4 ?_|refine zq0 ?_ (λ_=>?_))|split|simp only[])
instance (t:TypeId):Tm P st (zeroValue t):=⟨zqjn t⟩
theorem zqim(t:TypeId):tame P st (isAgg t):=by
 unfold isAgg
 repeat' (first|with_reducible (first|exact Tm.out|refine zq4 ?_|refine zq0 ?_ (λ_=>?_))|split|simp only[])
instance (t:TypeId):Tm P st (isAgg t):=⟨zqim t⟩
theorem zqi7(t:TypeId):tame P st (elemOf t):=by
 unfold elemOf
 repeat' (first|with_reducible (first|exact Tm.out|refine zq4 ?_|refine zq0 ?_ (λ_=>?_))|split|simp only[])
instance (t:TypeId):Tm P st (elemOf t):=⟨zqi7 t⟩
theorem zqjl(t:TypeId):tame P st (typeStr t):=by
 unfold typeStr
 repeat' (first|with_reducible (first|exact Tm.out|refine zq4 ?_|refine zq0 ?_ (λ_=>?_))|split|simp only[])
instance (t:TypeId):Tm P st (typeStr t):=⟨zqjl t⟩
theorem zqa1(a:Addr):∀(n i:Nat)(acc:Array Value),tame P st (loadCellsFrom a i n acc)
 |0,_,_=>trivial
 |n+1,_,_=>zq0 (zq9z _ _) λ_=>zqa1 a n _ _
theorem zqio(a:Addr)(n:Nat):tame P st (loadCells a n):=zqa1 a n 0 #[]
instance (a:Addr) (n:Nat):Tm P st (loadCells a n):=⟨zqio a n⟩
theorem zq54(a:Addr):∀(vs:List Value)(i:Nat),tame P true (storeCells a vs i)
 |[],_=>trivial
 |_::r,i=>zq0 (zqac _ _ _) λ_=>zq54 a r (i+1)
instance (a:Addr) (vs:List Value) (i:Nat):Tm P true (storeCells a vs i):=⟨zq54 a vs i⟩
theorem zqa2(t:TypeId)(a:Addr):tame P st (loadVar t a):=by
 unfold loadVar
 repeat' (first|with_reducible (first|exact Tm.out|refine zq4 ?_|refine zq0 ?_ (λ_=>?_))|split|simp only[])
instance (t:TypeId) (a:Addr):Tm P st (loadVar t a):=⟨zqa2 t a⟩
theorem zqjg(t:TypeId)(a:Addr)(v:Value):tame P true (storeVar t a v):=by
 unfold storeVar;refine zq0 (zqa t) λn=>?_;split
 . exact zq0 (zq1d _) λ_=>zq54 a _ 0
 . exact zq54 a _ 0
theorem zqiy(t:TypeId)(c:Array Value):tame P st (newRow t c):=by
 unfold newRow
 repeat' (first|with_reducible (first|exact Tm.out|refine zq4 ?_|refine zq0 ?_ (λ_=>?_))|split|simp only[])
instance (t:TypeId) (c:Array Value):Tm P st (newRow t c):=⟨zqiy t c⟩
theorem zqiz(t:TypeId)(v:Value):tame P st (newVar t v):=by
 unfold newVar
 repeat' (first|with_reducible (first|exact Tm.out|refine zq4 ?_|refine zq0 ?_ (λ_=>?_))|split|simp only[])
instance (t:TypeId) (v:Value):Tm P st (newVar t v):=⟨zqiz t v⟩
theorem zqj3(t:TypeId)(cs:Array Value)(off:Nat):tame P st (part t cs off):=by
 unfold part
 repeat' (first|with_reducible (first|exact Tm.out|refine zq4 ?_|refine zq0 ?_ (λ_=>?_))|split|simp only[])
instance (t:TypeId) (cs:Array Value) (off:Nat):Tm P st (part t cs off):=⟨zqj3 t cs off⟩
theorem zq66(e:RuntimeError):tame P st (runtimePanic e:Sem α):=by
 unfold runtimePanic;cases e<;>repeat' (first|with_reducible (first|exact Tm.out|refine zq4 ?_|refine zq0 ?_ (λ_=>?_))|split|simp only[])
instance (e:RuntimeError):Tm P st (runtimePanic e:Sem α):=⟨zq66 e⟩
theorem zqhv(k:IntKind)(x y:Int)(c:BoundsCode):tame P st (boundsPanic k x y c:Sem α):=by
 unfold boundsPanic
 repeat' (first|with_reducible (first|exact Tm.out|refine zq4 ?_|refine zq0 ?_ (λ_=>?_))|split|simp only[])
instance (k:IntKind) (x y:Int) (c:BoundsCode):Tm P st (boundsPanic k x y c:Sem α):=⟨zqhv k x y c⟩
theorem zqhr(v:Value):tame P st (asIntOf v):=by
 unfold asIntOf
 repeat' (first|with_reducible (first|exact Tm.out|refine zq4 ?_|refine zq0 ?_ (λ_=>?_))|split|simp only[])
instance (v:Value):Tm P st (asIntOf v):=⟨zqhr v⟩
theorem zq9e(v:Value):tame P st (asInt v):=by
 unfold asInt
 repeat' (first|with_reducible (first|exact Tm.out|refine zq4 ?_|refine zq0 ?_ (λ_=>?_))|split|simp only[])
instance (v:Value):Tm P st (asInt v):=⟨zq9e v⟩
theorem zq62(v:Value):tame P st (asBool v):=by
 unfold asBool
 repeat' (first|with_reducible (first|exact Tm.out|refine zq4 ?_|refine zq0 ?_ (λ_=>?_))|split|simp only[])
instance (v:Value):Tm P st (asBool v):=⟨zq62 v⟩
theorem zqhq(v:Value):tame P st (asAgg v):=by
 unfold asAgg
 repeat' (first|with_reducible (first|exact Tm.out|refine zq4 ?_|refine zq0 ?_ (λ_=>?_))|split|simp only[])
instance (v:Value):Tm P st (asAgg v):=⟨zqhq v⟩
theorem zq9d(v:Value):tame P st (asAddr v):=by
 unfold asAddr
 repeat' (first|with_reducible (first|exact Tm.out|refine zq4 ?_|refine zq0 ?_ (λ_=>?_))|split|simp only[])
instance (v:Value):Tm P st (asAddr v):=⟨zq9d v⟩
theorem zqad(v:Value):tame P st (Instr.sureAddr v):=by
 unfold Instr.sureAddr
 repeat' (first|with_reducible (first|exact Tm.out|refine zq4 ?_|refine zq0 ?_ (λ_=>?_))|split|simp only[])
instance (v:Value):Tm P st (Instr.sureAddr v):=⟨zqad v⟩
theorem zqaj(r:Nat):tame P st (viewAt r):=by
 unfold viewAt
 repeat' (first|with_reducible (first|exact Tm.out|refine zq4 ?_|refine zq0 ?_ (λ_=>?_))|split|simp only[])
instance (r:Nat):Tm P st (viewAt r):=⟨zqaj r⟩
theorem zqj1(a:Addr):tame P st (noView a):=by
 unfold noView
 repeat' (first|with_reducible (first|exact Tm.out|refine zq4 ?_|refine zq0 ?_ (λ_=>?_))|split|simp only[])
instance (a:Addr):Tm P st (noView a):=⟨zqj1 a⟩
theorem zqhw(a:Addr):tame P st (byteOf a):=by
 unfold byteOf
 repeat' (first|with_reducible (first|exact Tm.out|refine zq4 ?_|refine zq0 ?_ (λ_=>?_))|split|simp only[])
instance (a:Addr):Tm P st (byteOf a):=⟨zqhw a⟩
theorem zqj4(a:Addr)(i j:Nat):tame P st (partAt a i j):=by
 unfold partAt
 repeat' (first|with_reducible (first|exact Tm.out|refine zq4 ?_|refine zq0 ?_ (λ_=>?_))|split|simp only[])
instance (a:Addr) (i j:Nat):Tm P st (partAt a i j):=⟨zqj4 a i j⟩
theorem zqia(a:Addr)(f:Field):tame P st (fieldPlace a f):=by
 unfold fieldPlace
 repeat' (first|with_reducible (first|exact Tm.out|refine zq4 ?_|refine zq0 ?_ (λ_=>?_))|split|simp only[])
instance (a:Addr) (f:Field):Tm P st (fieldPlace a f):=⟨zqia a f⟩
theorem zq9c(t:TypeId):tame P st (Instr.alloc t true (.tuple #[])):=by
 unfold Instr.alloc
 repeat' (first|with_reducible (first|exact Tm.out|refine zq4 ?_|refine zq0 ?_ (λ_=>?_))|split|simp only[])
theorem zq9g(t:TypeId)(v:Value):tame P st (Instr.box t v):=by
 unfold Instr.box
 repeat' (first|with_reducible (first|exact Tm.out|refine zq4 ?_|refine zq0 ?_ (λ_=>?_))|split|simp only[])
theorem zqiq{γ δ:Type}(f:γ->Sem δ)(h:∀a,tame P st (f a))(l:List γ):tame P st (l.mapM f):=by
 induction l with
 |nil=>exact zq9 _
 |cons a l ih=>rw[List.mapM_cons];exact zq0 (h a) λ_=>zq0 ih λ_=>zq9 _
theorem zqe{γ δ:Type}(f:γ->Sem δ)(h:∀a,tame P st (f a))(l:Array γ):tame P st (l.mapM f):=by
 rw[Array.mapM_eq_mapM_toList];exact zq4 (zqiq f h _)
theorem zq9h(t:TypeId)(ps:Array (Nat×Value)):tame P st (Instr.build t ps):=by
 unfold Instr.build
 repeat' (first|with_reducible (first|exact Tm.out|exact zqe _ (λ_=>zq0 (zqa _) λ_=>zq9 _) _|refine zq4 ?_|refine zq0 ?_ (λ_=>?_))|split|simp only[])
theorem zq9i(t:TypeId)(n:Nat)(ps:Array (Nat×Value)):tame P st (Instr.buildSlice t n ps):=by
 unfold Instr.buildSlice
 repeat' (first|with_reducible (first|exact Tm.out|exact zqe _ (λ_=>zq0 (zqa _) λ_=>zq9 _) _|refine zq4 ?_|refine zq0 ?_ (λ_=>?_))|split|simp only[])
theorem zqa0(t:TypeId)(v:Value):tame P st (Instr.loadAt t v):=by
 unfold Instr.loadAt
 repeat' (first|with_reducible (first|exact Tm.out|exact zqe _ (λ_=>zq0 (zqa _) λ_=>zq9 _) _|refine zq4 ?_|refine zq0 ?_ (λ_=>?_))|split|simp only[])
theorem zqje(t:TypeId)(v x:Value):tame P true (Instr.storeAt t v x):=zq0 (zqad v) λ_=>zqjg t _ x
theorem zq9q(t:TypeId)(v:Value)(i:Nat):tame P st (Instr.fieldAt t v i):=by
 unfold Instr.fieldAt
 repeat' (first|with_reducible (first|exact Tm.out|exact zqe _ (λ_=>zq0 (zqa _) λ_=>zq9 _) _|refine zq4 ?_|refine zq0 ?_ (λ_=>?_))|split|simp only[])
theorem zq9x(t:TypeId)(v x:Value):tame P st (Instr.indexAt t v x):=by
 unfold Instr.indexAt
 repeat' (first|with_reducible (first|exact Tm.out|exact zqe _ (λ_=>zq0 (zqa _) λ_=>zq9 _) _|refine zq4 ?_|refine zq0 ?_ (λ_=>?_))|split|simp only[])
theorem zqjc(v:Value)(y:Nat)(c:BoundsCode):tame P st (Instr.sliceBound v y c):=by
 unfold Instr.sliceBound
 repeat' (first|with_reducible (first|exact Tm.out|exact zqe _ (λ_=>zq0 (zqa _) λ_=>zq9 _) _|refine zq4 ?_|refine zq0 ?_ (λ_=>?_))|split|simp only[])
instance (v:Value) (y:Nat) (c:BoundsCode):Tm P st (Instr.sliceBound v y c):=⟨zqjc v y c⟩
theorem zqjd(b:Bool)(n m:Nat)(x y z:Option Value):tame P st (Instr.sliceBounds b n m x y z):=by
 unfold Instr.sliceBounds
 repeat' (first|with_reducible (first|exact Tm.out|exact zqe _ (λ_=>zq0 (zqa _) λ_=>zq9 _) _|refine zq4 ?_|refine zq0 ?_ (λ_=>?_))|split|simp only[])
instance (b:Bool) (n m:Nat) (x y z:Option Value):Tm P st (Instr.sliceBounds b n m x y z):=⟨zqjd b n m x y z⟩
theorem zqjb(t:TypeId)(v:Value)(x y z:Option Value):tame P st (Instr.slice t v x y z):=by
 unfold Instr.slice
 repeat' (first|with_reducible (first|exact Tm.out|exact zqe _ (λ_=>zq0 (zqa _) λ_=>zq9 _) _|refine zq4 ?_|refine zq0 ?_ (λ_=>?_))|split|simp only[])
instance (t:TypeId) (v:Value) (x y z:Option Value):Tm P st (Instr.slice t v x y z):=⟨zqjb t v x y z⟩
theorem zqab(t:TypeId)(v:Value)(x y z:Option Value):tame P st (Instr.sliceAt t v x y z):=by
 unfold Instr.sliceAt
 repeat' (first|with_reducible (first|exact Tm.out|exact zqe _ (λ_=>zq0 (zqa _) λ_=>zq9 _) _|refine zq4 ?_|refine zq0 ?_ (λ_=>?_))|split|simp only[])
theorem zqa5(t:TypeId)(v:Value):tame P st (Instr.makeInterface t v):=by
 unfold Instr.makeInterface
 repeat' (first|with_reducible (first|exact Tm.out|exact zqe _ (λ_=>zq0 (zqa _) λ_=>zq9 _) _|refine zq4 ?_|refine zq0 ?_ (λ_=>?_))|split|simp only[])
theorem zqa4(f:Fn)(a b:Array Value):tame P st (Instr.makeFunc f a b):=by
 unfold Instr.makeFunc
 repeat' (first|with_reducible (first|exact Tm.out|exact zqe _ (λ_=>zq0 (zqa _) λ_=>zq9 _) _|refine zq4 ?_|refine zq0 ?_ (λ_=>?_))|split|simp only[])
theorem zqa3(t:TypeId)(v:Value):tame P st (Instr.makeChan t v):=by
 unfold Instr.makeChan
 repeat' (first|with_reducible (first|exact Tm.out|exact zqe _ (λ_=>zq0 (zqa _) λ_=>zq9 _) _|refine zq4 ?_|refine zq0 ?_ (λ_=>?_))|split|simp only[])
theorem zqht(n:Nat):tame P st (askRoom n):=by
 unfold askRoom
 repeat' (first|with_reducible (first|exact Tm.out|exact zqe _ (λ_=>zq0 (zqa _) λ_=>zq9 _) _|refine zq4 ?_|refine zq0 ?_ (λ_=>?_))|split|simp only[])
instance (n:Nat):Tm P st (askRoom n):=⟨zqht n⟩
theorem zqa6(t:TypeId)(a b:Value):tame P st (Instr.makeSlice t a b):=by
 unfold Instr.makeSlice
 repeat' (first|with_reducible (first|exact Tm.out|exact zqe _ (λ_=>zq0 (zqa _) λ_=>zq9 _) _|refine zq4 ?_|refine zq0 ?_ (λ_=>?_))|split|simp only[])
theorem zq9p(t:TypeId)(v:Value)(i:Nat):tame P st (Instr.field t v i):=by
 unfold Instr.field
 repeat' (first|with_reducible (first|exact Tm.out|exact zqe _ (λ_=>zq0 (zqa _) λ_=>zq9 _) _|refine zq4 ?_|refine zq0 ?_ (λ_=>?_))|split|simp only[])
theorem zq9w(t:TypeId)(v x:Value):tame P st (Instr.index t v x):=by
 unfold Instr.index
 repeat' (first|with_reducible (first|exact Tm.out|exact zqe _ (λ_=>zq0 (zqa _) λ_=>zq9 _) _|refine zq4 ?_|refine zq0 ?_ (λ_=>?_))|split|simp only[])
theorem zq9o(v:Value)(i:Nat):tame P st (Instr.extract v i):=by
 unfold Instr.extract
 repeat' (first|with_reducible (first|exact Tm.out|exact zqe _ (λ_=>zq0 (zqa _) λ_=>zq9 _) _|refine zq4 ?_|refine zq0 ?_ (λ_=>?_))|split|simp only[])
theorem zqae(v:Value)(t u:TypeId)(b:Bool):tame P st (Instr.typeAssert v t u b):=by
 unfold Instr.typeAssert
 repeat' (first|with_reducible (first|exact Tm.out|exact zqe _ (λ_=>zq0 (zqa _) λ_=>zq9 _) _|refine zq4 ?_|refine zq0 ?_ (λ_=>?_))|split|simp only[])
theorem zqii(o:BinOp)(k:IntKind)(x y:Int):tame P st (Op.intArith o k x y):=by
 unfold Op.intArith
 repeat' (first|with_reducible (first|exact Tm.out|exact zqe _ (λ_=>zq0 (zqa _) λ_=>zq9 _) _|refine zq4 ?_|refine zq0 ?_ (λ_=>?_))|split|simp only[])
instance (o:BinOp) (k:IntKind) (x y:Int):Tm P st (Op.intArith o k x y):=⟨zqii o k x y⟩
theorem zqil(o:BinOp)(k:IntKind)(x y:Int):tame P st (Op.intDiv o k x y):=by
 unfold Op.intDiv
 repeat' (first|with_reducible (first|exact Tm.out|exact zqe _ (λ_=>zq0 (zqa _) λ_=>zq9 _) _|refine zq4 ?_|refine zq0 ?_ (λ_=>?_))|split|simp only[])
instance (o:BinOp) (k:IntKind) (x y:Int):Tm P st (Op.intDiv o k x y):=⟨zqil o k x y⟩
theorem zqij(o:BinOp)(k:IntKind)(x y:Int):tame P st (Op.intBits o k x y):=by
 unfold Op.intBits
 repeat' (first|with_reducible (first|exact Tm.out|exact zqe _ (λ_=>zq0 (zqa _) λ_=>zq9 _) _|refine zq4 ?_|refine zq0 ?_ (λ_=>?_))|split|simp only[])
instance (o:BinOp) (k:IntKind) (x y:Int):Tm P st (Op.intBits o k x y):=⟨zqij o k x y⟩
theorem zqik(o:BinOp)(x y:Int):tame P st (Op.intCmp o x y):=by
 unfold Op.intCmp
 repeat' (first|with_reducible (first|exact Tm.out|exact zqe _ (λ_=>zq0 (zqa _) λ_=>zq9 _) _|refine zq4 ?_|refine zq0 ?_ (λ_=>?_))|split|simp only[])
instance (o:BinOp) (x y:Int):Tm P st (Op.intCmp o x y):=⟨zqik o x y⟩
theorem zqja(o:BinOp)(k:IntKind)(x:Int)(l:IntKind)(y:Int):tame P st (Op.shift o k x l y):=by
 unfold Op.shift
 repeat' (first|with_reducible (first|exact Tm.out|exact zqe _ (λ_=>zq0 (zqa _) λ_=>zq9 _) _|refine zq4 ?_|refine zq0 ?_ (λ_=>?_))|split|simp only[])
instance (o:BinOp) (k:IntKind) (x:Int) (l:IntKind) (y:Int):Tm P st (Op.shift o k x l y):=⟨zqja o k x l y⟩
theorem zqic(o:BinOp)(k:FloatKind)(x y:Nat):tame P st (Op.floatArith o k x y):=by
 unfold Op.floatArith
 repeat' (first|with_reducible (first|exact Tm.out|exact zqe _ (λ_=>zq0 (zqa _) λ_=>zq9 _) _|refine zq4 ?_|refine zq0 ?_ (λ_=>?_))|split|simp only[])
instance (o:BinOp) (k:FloatKind) (x y:Nat):Tm P st (Op.floatArith o k x y):=⟨zqic o k x y⟩
theorem zqid(o:BinOp)(k:FloatKind)(x y:Nat):tame P st (Op.floatCmp o k x y):=by
 unfold Op.floatCmp
 repeat' (first|with_reducible (first|exact Tm.out|exact zqe _ (λ_=>zq0 (zqa _) λ_=>zq9 _) _|refine zq4 ?_|refine zq0 ?_ (λ_=>?_))|split|simp only[])
instance (o:BinOp) (k:FloatKind) (x y:Nat):Tm P st (Op.floatCmp o k x y):=⟨zqid o k x y⟩
theorem zqjh(o:BinOp)(x y:ByteArray):tame P st (Op.stringOp o x y):=by
 unfold Op.stringOp
 repeat' (first|with_reducible (first|exact Tm.out|exact zqe _ (λ_=>zq0 (zqa _) λ_=>zq9 _) _|refine zq4 ?_|refine zq0 ?_ (λ_=>?_))|split|simp only[])
instance (o:BinOp) (x y:ByteArray):Tm P st (Op.stringOp o x y):=⟨zqjh o x y⟩
theorem zqie(k:FloatKind)(x:Nat)(l:FloatKind):tame P st (Conv.floatToFloat k x l):=by
 unfold Conv.floatToFloat
 repeat' (first|with_reducible (first|exact Tm.out|exact zqe _ (λ_=>zq0 (zqa _) λ_=>zq9 _) _|refine zq4 ?_|refine zq0 ?_ (λ_=>?_))|split|simp only[])
instance (k:FloatKind) (x:Nat) (l:FloatKind):Tm P st (Conv.floatToFloat k x l):=⟨zqie k x l⟩
theorem zqhy(o:BinOp)(k:FloatKind)(x y:Nat):tame P st (Op.Complex.arith o k x y):=by
 unfold Op.Complex.arith
 repeat' (first|with_reducible (first|exact Tm.out|exact zqe _ (λ_=>zq0 (zqa _) λ_=>zq9 _) _|refine zq4 ?_|refine zq0 ?_ (λ_=>?_))|split|simp only[])
instance (o:BinOp) (k:FloatKind) (x y:Nat):Tm P st (Op.Complex.arith o k x y):=⟨zqhy o k x y⟩
theorem zqi0(o:BinOp)(k:FloatKind)(x y:Nat):tame P st (Op.Complex.cmp o k x y):=by
 unfold Op.Complex.cmp
 repeat' (first|with_reducible (first|exact Tm.out|exact zqe _ (λ_=>zq0 (zqa _) λ_=>zq9 _) _|refine zq4 ?_|refine zq0 ?_ (λ_=>?_))|split|simp only[])
instance (o:BinOp) (k:FloatKind) (x y:Nat):Tm P st (Op.Complex.cmp o k x y):=⟨zqi0 o k x y⟩
theorem zqi1(k:FloatKind)(x:Nat)(l:FloatKind):tame P st (Op.Complex.conv k x l):=by
 unfold Op.Complex.conv
 repeat' (first|with_reducible (first|exact Tm.out|exact zqe _ (λ_=>zq0 (zqa _) λ_=>zq9 _) _|refine zq4 ?_|refine zq0 ?_ (λ_=>?_))|split|simp only[])
instance (k:FloatKind) (x:Nat) (l:FloatKind):Tm P st (Op.Complex.conv k x l):=⟨zqi1 k x l⟩
theorem zqhx(x y:Nat):tame P st (Op.Complex.add x y):=by
 unfold Op.Complex.add
 repeat' (first|with_reducible (first|exact Tm.out|exact zqe _ (λ_=>zq0 (zqa _) λ_=>zq9 _) _|refine zq4 ?_|refine zq0 ?_ (λ_=>?_))|split|simp only[])
instance (x y:Nat):Tm P st (Op.Complex.add x y):=⟨zqhx x y⟩
theorem zqi6(x y:Nat):tame P st (Op.Complex.sub x y):=by
 unfold Op.Complex.sub
 repeat' (first|with_reducible (first|exact Tm.out|exact zqe _ (λ_=>zq0 (zqa _) λ_=>zq9 _) _|refine zq4 ?_|refine zq0 ?_ (λ_=>?_))|split|simp only[])
instance (x y:Nat):Tm P st (Op.Complex.sub x y):=⟨zqi6 x y⟩
theorem zqi2(x y:Nat):tame P st (Op.Complex.mul x y):=by
 unfold Op.Complex.mul
 repeat' (first|with_reducible (first|exact Tm.out|exact zqe _ (λ_=>zq0 (zqa _) λ_=>zq9 _) _|refine zq4 ?_|refine zq0 ?_ (λ_=>?_))|split|simp only[])
instance (x y:Nat):Tm P st (Op.Complex.mul x y):=⟨zqi2 x y⟩
theorem zqi5(x y:Nat):tame P st (Op.Complex.quo x y):=by
 unfold Op.Complex.quo
 repeat' (first|with_reducible (first|exact Tm.out|exact zqe _ (λ_=>zq0 (zqa _) λ_=>zq9 _) _|refine zq4 ?_|refine zq0 ?_ (λ_=>?_))|split|simp only[])
instance (x y:Nat):Tm P st (Op.Complex.quo x y):=⟨zqi5 x y⟩
theorem zqj5(a b c d:Nat):tame P st (Op.Complex.product a b c d):=by
 unfold Op.Complex.product
 repeat' (first|with_reducible (first|exact Tm.out|exact zqe _ (λ_=>zq0 (zqa _) λ_=>zq9 _) _|refine zq4 ?_|refine zq0 ?_ (λ_=>?_))|split|simp only[])
instance (a b c d:Nat):Tm P st (Op.Complex.product a b c d):=⟨zqj5 a b c d⟩
theorem zqi4(s a b c d:Nat):tame P st (Op.Complex.corrected s a b c d):=by
 unfold Op.Complex.corrected
 repeat' (first|with_reducible (first|exact Tm.out|exact zqe _ (λ_=>zq0 (zqa _) λ_=>zq9 _) _|refine zq4 ?_|refine zq0 ?_ (λ_=>?_))|split|simp only[])
instance (s a b c d:Nat):Tm P st (Op.Complex.corrected s a b c d):=⟨zqi4 s a b c d⟩
theorem zqj6(a b c d:Nat):tame P st (Op.Complex.quotient a b c d):=by
 unfold Op.Complex.quotient
 repeat' (first|with_reducible (first|exact Tm.out|exact zqe _ (λ_=>zq0 (zqa _) λ_=>zq9 _) _|refine zq4 ?_|refine zq0 ?_ (λ_=>?_))|split|simp only[])
instance (a b c d:Nat):Tm P st (Op.Complex.quotient a b c d):=⟨zqj6 a b c d⟩
theorem zqi3(o:BinOp)(k:FloatKind)(a b c d:Nat):tame P st (Op.complexOp o k a b c d):=by
 unfold Op.complexOp
 repeat' (first|with_reducible (first|exact Tm.out|exact zqe _ (λ_=>zq0 (zqa _) λ_=>zq9 _) _|refine zq4 ?_|refine zq0 ?_ (λ_=>?_))|split|simp only[])
instance (o:BinOp) (k:FloatKind) (a b c d:Nat):Tm P st (Op.complexOp o k a b c d):=⟨zqi3 o k a b c d⟩
theorem zqj2(r:Nat):tame P st (numberAt r):=by
 unfold numberAt
 repeat' (first|with_reducible (first|exact Tm.out|exact zqe _ (λ_=>zq0 (zqa _) λ_=>zq9 _) _|refine zq4 ?_|refine zq0 ?_ (λ_=>?_))|split|simp only[])
instance (r:Nat):Tm P st (numberAt r):=⟨zqj2 r⟩
theorem zqhu(a:Addr):tame P st (behindNumber a):=by
 unfold behindNumber
 repeat' (first|with_reducible (first|exact Tm.out|exact zqe _ (λ_=>zq0 (zqa _) λ_=>zq9 _) _|refine zq4 ?_|refine zq0 ?_ (λ_=>?_))|split|simp only[])
instance (a:Addr):Tm P st (behindNumber a):=⟨zqhu a⟩
theorem zqhs(a:Addr)(b:Bool):tame P st (asNumber a b):=by
 unfold asNumber
 repeat' (first|with_reducible (first|exact Tm.out|exact zqe _ (λ_=>zq0 (zqa _) λ_=>zq9 _) _|refine zq4 ?_|refine zq0 ?_ (λ_=>?_))|split|simp only[])
instance (a:Addr) (b:Bool):Tm P st (asNumber a b):=⟨zqhs a b⟩
theorem zqji(a:Addr):tame P st (stringish a):=by
 unfold stringish
 repeat' (first|with_reducible (first|exact Tm.out|exact zqe _ (λ_=>zq0 (zqa _) λ_=>zq9 _) _|refine zq4 ?_|refine zq0 ?_ (λ_=>?_))|split|simp only[])
instance (a:Addr):Tm P st (stringish a):=⟨zqji a⟩
theorem zqis(a b:Addr):tame P st (mayBeOne a b):=by
 unfold mayBeOne
 repeat' (first|with_reducible (first|exact Tm.out|exact zqe _ (λ_=>zq0 (zqa _) λ_=>zq9 _) _|refine zq4 ?_|refine zq0 ?_ (λ_=>?_))|split|simp only[])
instance (a b:Addr):Tm P st (mayBeOne a b):=⟨zqis a b⟩
theorem zqj7(a b:Addr):tame P st (sameAddr a b):=by
 unfold sameAddr
 repeat' (first|with_reducible (first|exact Tm.out|exact zqe _ (λ_=>zq0 (zqa _) λ_=>zq9 _) _|refine zq4 ?_|refine zq0 ?_ (λ_=>?_))|split|simp only[])
instance (a b:Addr):Tm P st (sameAddr a b):=⟨zqj7 a b⟩
theorem zqj8(a b:Option Addr):tame P st (samePointer a b):=by
 unfold samePointer
 repeat' (first|with_reducible (first|exact Tm.out|exact zqe _ (λ_=>zq0 (zqa _) λ_=>zq9 _) _|refine zq4 ?_|refine zq0 ?_ (λ_=>?_))|split|simp only[])
instance (a b:Option Addr):Tm P st (samePointer a b):=⟨zqj8 a b⟩
theorem zqjk(a b:Addr):tame P st (Op.twoPlaces a b):=by
 unfold Op.twoPlaces
 repeat' (first|with_reducible (first|exact Tm.out|exact zqe _ (λ_=>zq0 (zqa _) λ_=>zq9 _) _|refine zq4 ?_|refine zq0 ?_ (λ_=>?_))|split|simp only[])
instance (a b:Addr):Tm P st (Op.twoPlaces a b):=⟨zqjk a b⟩
theorem zqhm(k:IntKind)(a b:Addr):tame P st (Op.addrSub k a b):=by
 unfold Op.addrSub
 repeat' (first|with_reducible (first|exact Tm.out|exact zqe _ (λ_=>zq0 (zqa _) λ_=>zq9 _) _|refine zq4 ?_|refine zq0 ?_ (λ_=>?_))|split|simp only[])
instance (k:IntKind) (a b:Addr):Tm P st (Op.addrSub k a b):=⟨zqhm k a b⟩
theorem zqhk(o:BinOp)(a b:Addr):tame P st (Op.addrCmp o a b):=by
 unfold Op.addrCmp
 repeat' (first|with_reducible (first|exact Tm.out|exact zqe _ (λ_=>zq0 (zqa _) λ_=>zq9 _) _|refine zq4 ?_|refine zq0 ?_ (λ_=>?_))|split|simp only[])
instance (o:BinOp) (a b:Addr):Tm P st (Op.addrCmp o a b):=⟨zqhk o a b⟩
theorem zqhl(k:IntKind)(a:Addr)(n:Int):tame P st (Op.addrMod k a n):=by
 unfold Op.addrMod
 repeat' (first|with_reducible (first|exact Tm.out|exact zqe _ (λ_=>zq0 (zqa _) λ_=>zq9 _) _|refine zq4 ?_|refine zq0 ?_ (λ_=>?_))|split|simp only[])
instance (k:IntKind) (a:Addr) (n:Int):Tm P st (Op.addrMod k a n):=⟨zqhl k a n⟩
theorem zqai(t:TypeId)(x:Option Addr)(y:Value):tame P st (Builtin.unsafeAdd_ #[] t #[.pointer x,y]):=by
 refine zq0 (s:=asInt y) (zq9e y) (λn=>?_)
 repeat' (first|with_reducible (first|exact Tm.out|exact zqe _ (λ_=>zq0 (zqa _) λ_=>zq9 _) _|refine zq4 ?_|refine zq0 ?_ (λ_=>?_))|split|simp only[])
instance (t:TypeId) (x:Option Addr) (y:Value):Tm P st (Builtin.unsafeAdd_ #[] t #[.pointer x,y]):=⟨zqai t x y⟩
theorem zqjm(t:TypeId)(x y:Value):tame P st (Builtin.unsafeAdd_ #[] t #[x,y]):=by
 cases x<;>first|exact zqai _ _ _|exact True.intro
instance (t:TypeId) (x y:Value):Tm P st (Builtin.unsafeAdd_ #[] t #[x,y]):=⟨zqjm t x y⟩
theorem zqiv(t:TypeId)(x y:Value):tame P st (movedNumber t x y):=by
 unfold movedNumber
 repeat' (first|with_reducible (first|exact Tm.out|exact zqe _ (λ_=>zq0 (zqa _) λ_=>zq9 _) _|refine zq4 ?_|refine zq0 ?_ (λ_=>?_))|split|simp only[])
instance (t:TypeId) (x y:Value):Tm P st (movedNumber t x y):=⟨zqiv t x y⟩
theorem zqiw(t:TypeId)(x y:Value):tame P st (movedPointer t x y):=by
 unfold movedPointer
 repeat' (first|with_reducible (first|exact Tm.out|exact zqe _ (λ_=>zq0 (zqa _) λ_=>zq9 _) _|refine zq4 ?_|refine zq0 ?_ (λ_=>?_))|split|simp only[])
instance (t:TypeId) (x y:Value):Tm P st (movedPointer t x y):=⟨zqiw t x y⟩
theorem zqi8(a b:Addr):tame P st ((do pure ((<-byteOf a)==(<-byteOf b)):Sem Bool)):=by
 repeat' (first|with_reducible (first|exact Tm.out|exact zqe _ (λ_=>zq0 (zqa _) λ_=>zq9 _) _|refine zq4 ?_|refine zq0 ?_ (λ_=>?_))|split|simp only[])
instance (a b:Addr):Tm P st ((do pure ((<-byteOf a)==(<-byteOf b)):Sem Bool)):=⟨zqi8 a b⟩
theorem zq9t{γ δ:Type}(l:List γ)(b:δ)(f:γ->δ->Sem (ForInStep δ))(h:∀a b,tame P st (f a b)):tame P st (forIn l b f):=by
 induction l generalizing b with
 |nil=>exact zq9 _
 |cons a l ih=>
  rw[List.forIn_cons];refine zq0 (h a b) λr=>?_;cases r with
  |done b=>exact zq9 _
  |yield b=>exact ih b
theorem zq9u{γ δ:Type}(l:Array γ)(b:δ)(f:γ->δ->Sem (ForInStep δ))(h:∀a b,tame P st (f a b)):tame P st (forIn l b f):=by
 rw[<-Array.forIn_toList];exact zq9t _ _ _ h
theorem zq9v{δ:Type}(r:Std.Legacy.Range)(b:δ)(f:Nat->δ->Sem (ForInStep δ))(h:∀a b,tame P st (f a b)):tame P st (forIn r b f):=by
 rw[Std.Legacy.Range.forIn_eq_forIn_range'];exact zq9t _ _ _ h
theorem zq9n:∀(d:Nat)(t:TypeId)(x y:Value),tame P st (Op.equalIn d t x y)
 |0,_,_,_=>True.intro
 |d+1,t,x,y=>by
  have ih:=λt x y=>zq9n d t x y;unfold Op.equalIn;refine zq0 (zq55 _) (λk=>?_)
  repeat' (first|with_reducible (first|exact Tm.out|exact zqe _ (λ_=>zq0 (zqa _) λ_=>zq9 _) _|refine zq4 ?_|refine zq0 ?_ (λ_=>?_))|split|simp only[]|with_reducible exact ih _ _ _|refine zq9u _ _ _ (λ_ _=>?_)|refine zq9v _ _ _ (λ_ _=>?_))
theorem zqi9(t:TypeId)(x y:Value):tame P st (Op.equal t x y):=zq9n _ t x y
instance (t:TypeId) (x y:Value):Tm P st (Op.equal t x y):=⟨zqi9 t x y⟩
theorem zq9m:∀(d:Nat)(t:TypeId)(x y:Value),tame P st (Op.eqGuardIn d t x y)
 |0,_,_,_=>True.intro
 |d+1,t,x,y=>by
  have ih:=λt x y=>zq9m d t x y;unfold Op.eqGuardIn;refine zq0 (zq55 _) (λk=>?_)
  repeat' (first|with_reducible (first|exact Tm.out|exact zqe _ (λ_=>zq0 (zqa _) λ_=>zq9 _) _|refine zq4 ?_|refine zq0 ?_ (λ_=>?_))|split|simp only[]|with_reducible exact ih _ _ _|refine zq9u _ _ _ (λ_ _=>?_)|refine zq9v _ _ _ (λ_ _=>?_))
instance (d:Nat) (t:TypeId) (x y:Value):Tm P st (Op.eqGuardIn d t x y):=⟨zq9m d t x y⟩
theorem zq9l(o:BinOp)(t:TypeId)(x y:Operand)(a b:Value):tame P st (eqGuard o t x y a b):=by
 unfold eqGuard
 repeat' (first|with_reducible (first|exact Tm.out|exact zqe _ (λ_=>zq0 (zqa _) λ_=>zq9 _) _|refine zq4 ?_|refine zq0 ?_ (λ_=>?_))|split|simp only[])
theorem zq9f(o:BinOp)(t:TypeId)(x y:Value):tame P st (binOp o t x y):=by
 unfold binOp
 repeat' (first|with_reducible (first|exact Tm.out|exact zqe _ (λ_=>zq0 (zqa _) λ_=>zq9 _) _|refine zq4 ?_|refine zq0 ?_ (λ_=>?_))|split|simp only[])
theorem zqah(o:UnOp)(x:Value):tame P st (Op.unary o x):=by
 unfold Op.unary
 repeat' (first|with_reducible (first|exact Tm.out|exact zqe _ (λ_=>zq0 (zqa _) λ_=>zq9 _) _|refine zq4 ?_|refine zq0 ?_ (λ_=>?_))|split|simp only[])
end
section
variable {α β:Type} {P:Program} {st:Bool}
theorem zqih(a:Addr)(n:Nat):tame P st (Builtin.holdsCells a n):=by
 unfold Builtin.holdsCells
 repeat' (first|with_reducible (first|exact Tm.out|exact zqe _ (λ_=>zq0 (zqa _) λ_=>zq9 _) _|refine zq4 ?_|refine zq0 ?_ (λ_=>?_))|split|simp only[])
instance (a:Addr) (n:Nat):Tm P st (Builtin.holdsCells a n):=⟨zqih a n⟩
theorem zqit(s n m:Nat)(b:Option Addr)(x:Value):tame P st (Builtin.mayShare s n m b x):=by
 unfold Builtin.mayShare
 repeat' (first|with_reducible (first|exact Tm.out|exact zqe _ (λ_=>zq0 (zqa _) λ_=>zq9 _) _|refine zq4 ?_|refine zq0 ?_ (λ_=>?_))|split|simp only[])
instance (s n m:Nat) (b:Option Addr) (x:Value):Tm P st (Builtin.mayShare s n m b x):=⟨zqit s n m b x⟩
theorem zqin(x:Value):tame P st (Builtin.lenOf x):=by
 unfold Builtin.lenOf
 repeat' (first|with_reducible (first|exact Tm.out|exact zqe _ (λ_=>zq0 (zqa _) λ_=>zq9 _) _|refine zq4 ?_|refine zq0 ?_ (λ_=>?_))|split|simp only[])
instance (x:Value):Tm P st (Builtin.lenOf x):=⟨zqin x⟩
theorem zqib(s n:Nat)(x:Value):tame P st (Builtin.firstCells s n x):=by
 unfold Builtin.firstCells
 repeat' (first|with_reducible (first|exact Tm.out|exact zqe _ (λ_=>zq0 (zqa _) λ_=>zq9 _) _|refine zq4 ?_|refine zq0 ?_ (λ_=>?_))|split|simp only[])
instance (s n:Nat) (x:Value):Tm P st (Builtin.firstCells s n x):=⟨zqib s n x⟩
theorem zq68{t:TypeId}{f:TypeDesc->Sem α}(h:∀d,P.underlying t=some d->tame P st (f d)):tame P st (do let d<-underlying t;f d):=by
 have key:∀x:Option TypeDesc,P.underlying t=x->tame P st ((match x with|some d=>Sem.pure d|none=>Sem.halt (.stuck "no such type"):Sem TypeDesc).bind f):=by
  intro x hx;cases x with
  |none=>exact True.intro
  |some d=>exact h d hx
 exact key _ rfl
theorem zqho(l:Array TypeId)(t:TypeId)(a:Array Value)(hx:∀x,l[1]?=some x->∀k,P.underlying x≠some (.int k)):tame P true (Builtin.append_ l t a):=by
 unfold Builtin.append_;split
 . refine zq0 (zq55 _) λd=>?_;split
   . split
     . refine zq0 (zqa _) λsize=>?_;simp only[];cases e:l[1]? with
       |none=>
        simp only[Bool.false_eq_true,if_false,Bool.not_false,if_true,false_or,reduceIte,pure_bind]
        repeat' (first|with_reducible (first|exact Tm.out|exact zqe _ (λ_=>zq0 (zqa _) λ_=>zq9 _) _|refine zq4 ?_|refine zq0 ?_ (λ_=>?_))|split|simp only[])
       |some x=>
        refine zq68 λd hd=>?_;have hne:=hx x e;cases d<;>first
         |(rename_i k;exact absurd hd (hne k))
         |(clear hd hne e hx
           simp only[Bool.false_eq_true,if_false,Bool.not_false,if_true,false_or,reduceIte,pure_bind]
           repeat' (first|with_reducible (first|exact Tm.out|exact zqe _ (λ_=>zq0 (zqa _) λ_=>zq9 _) _|refine zq4 ?_|refine zq0 ?_ (λ_=>?_))|split|simp only[]))
     . exact zq1d _
   . exact zq1d _
 . exact zq1d _
theorem zq9y(l:Array TypeId)(t:TypeId)(a:Array Value):tame P st (Builtin.len_ l t a):=by
 unfold Builtin.len_
 repeat' (first|with_reducible (first|exact Tm.out|exact zqe _ (λ_=>zq0 (zqa _) λ_=>zq9 _) _|refine zq4 ?_|refine zq0 ?_ (λ_=>?_))|split|simp only[])
theorem zqiu(x y:Value):tame P st (Builtin.min2 x y):=by
 unfold Builtin.min2
 repeat' (first|with_reducible (first|exact Tm.out|exact zqe _ (λ_=>zq0 (zqa _) λ_=>zq9 _) _|refine zq4 ?_|refine zq0 ?_ (λ_=>?_))|split|simp only[])
theorem zqir(x y:Value):tame P st (Builtin.max2 x y):=by
 unfold Builtin.max2
 repeat' (first|with_reducible (first|exact Tm.out|exact zqe _ (λ_=>zq0 (zqa _) λ_=>zq9 _) _|refine zq4 ?_|refine zq0 ?_ (λ_=>?_))|split|simp only[])
theorem zq9r{γ:Type}(f:Value->γ->Sem Value)(h:∀a b,tame P st (f a b))(l:List γ):∀(b:Value),tame P st (l.foldlM f b):=by
 induction l with
 |nil=>exact λb=>zq9 _
 |cons a l ih=>intro b;rw[List.foldlM_cons];exact zq0 (h b a) λ_=>ih _
theorem zqa9(l:Array TypeId)(t:TypeId)(a:Array Value):tame P st (Builtin.min_ l t a):=by
 unfold Builtin.min_;split
 . exact zq1d _
 . exact zq9r _ (λ_ _=>zqiu _ _) _ _
theorem zqa8(l:Array TypeId)(t:TypeId)(a:Array Value):tame P st (Builtin.max_ l t a):=by
 unfold Builtin.max_;split
 . exact zq1d _
 . exact zq9r _ (λ_ _=>zqir _ _) _ _
theorem zq9s:∀(l:List FieldStep)(t:TypeId)(x:Option Value),tame P st (followBlind l t x)
 |[],_,_=>zq9 _
 |s::rest,t,x=>by
  have ih:=λt x=>zq9s rest t x;unfold followBlind
  repeat' (first|with_reducible (first|exact Tm.out|exact zqe _ (λ_=>zq0 (zqa _) λ_=>zq9 _) _|refine zq4 ?_|refine zq0 ?_ (λ_=>?_))|split|simp only[]|with_reducible exact ih _ _)
instance (l:List FieldStep) (t:TypeId) (x:Option Value):Tm P st (followBlind l t x):=⟨zq9s l t x⟩
theorem zq64:∀(n:Nat)(t:TypeId)(x:Value)(s:String),tame P st (nilAhead n t x s)
 |0,_,_,_=>zq9 _
 |n+1,t,x,s=>by
  have ih:=λt x s=>zq64 n t x s;unfold nilAhead
  repeat' (first|with_reducible (first|exact Tm.out|exact zqe _ (λ_=>zq0 (zqa _) λ_=>zq9 _) _|refine zq4 ?_|refine zq0 ?_ (λ_=>?_))|split|simp only[]|with_reducible exact ih _ _ _)
end
def re(w:World)(τ:Nat->Question->Nat)(d:Nat):World:={w with tape:=τ,drawn:=d}
theorem re_re(w:World)(τ τ':Nat->Question->Nat)(d d':Nat):re (re w τ d) τ' d'=re w τ' d':=rfl
theorem re_self(w:World):re w w.tape w.drawn=w:=rfl
def resRe{α:Type}(r:Result α)(τ:Nat->Question->Nat)(d:Nat):Result α:=
 match r with
 |.ok a w=>.ok a (re w τ d)
 |.halt h w=>.halt h (re w τ d)
def resW{α:Type}:Result α->World
 |.ok _ w=>w
 |.halt _ w=>w
theorem seen_re(P:Program)(w:World)(τ:Nat->Question->Nat)(d:Nat)(a:Addr)(t:TypeId)(k:Addr)(b:Bool):(re w τ d).seen P a t k b=w.seen P a t k b:=rfl
theorem zqca(P:Program)(w:World)(τ:Nat->Question->Nat)(d:Nat)(a:Addr)(b:Bool):(re w τ d).farLoad P a b=w.farLoad P a b:=rfl
theorem zqjs(P:Program)(w:World)(τ:Nat->Question->Nat)(d:Nat)(a:Addr)(t:TypeId)(k:Addr)(v:Value)(b:Bool):
 (re w τ d).viewStore P a t k v b=(w.viewStore P a t k v b).map λx=>(re x.1 τ d,x.2):=by
 unfold World.viewStore;rw[seen_re];simp only[bind,Except.bind,pure,Except.pure,Except.map,throw,throwThe,MonadExceptOf.throw];cases tight P P.depth t<;>simp only[Bool.not_true,Bool.not_false,Bool.false_eq_true,if_true,if_false,reduceIte]
 . cases w.seen P a t k b<;>cases v.bytes?<;>rfl
 cases w.seen P a t k b with
 |error e=>cases v.bytes?<;>rfl
 |ok x=>
  obtain⟨c,e,fr,first,like,cells⟩:=x;simp only[];cases v.bytes? with
  |none=>rfl
  |some bytes=>
   simp only[]
   by_cases hl:some bytes.length≠Option.map (λx=>x.length) like.bytes?
   . simp only[if_pos hl];rfl
   . simp only[if_neg hl];generalize (List.foldlM (m:=Except String) _ _ _:Except String (Array Value))=X;cases X<;>rfl
theorem zq79(P:Program)(w:World)(τ:Nat->Question->Nat)(d:Nat)(a:Addr)(v:Value)(b:Bool):
 (re w τ d).farStore P a v b=(w.farStore P a v b).map λx=>(re x.1 τ d,x.2):=by
 unfold World.farStore;have hh:(re w τ d).heap=w.heap:=rfl;rw[hh];cases hO:w.heap[a.block]? with
 |none=>simp only[World.noCell,hh,hO,Except.map]
 |some o=>
  cases o<;>simp only[World.noCell,hh,hO,Except.map,zqjs];cases w.viewStore P _ _ a v b<;>rfl
theorem zqcc(P:Program)(w w':World)(a:Addr)(v:Value)(b:Bool)(l:List Addr)(h:w.farStore P a v b=.ok (w',l)):w'.tape=w.tape/\w'.drawn=w.drawn:=by
 have:=zq79 P w w.tape w.drawn a v b;rw[re_self,h]at this;simp only[Except.map,Except.ok.injEq,Prod.mk.injEq]at this;constructor
 . have h1:=this.1;rw[h1];rfl
 . have h1:=this.1;rw[h1];rfl
theorem zq2t{α:Type}{P:Program}(s:Sem α)(hs:tame P true s):∀(w:World)(es:Array Event),
 w.drawn<=(resW (s.runT P w es).1).drawn/\(resW (s.runT P w es).1).tape=w.tape/\
 ∀(τ:Nat->Question->Nat)(d:Nat),(∀j,w.drawn+j<(resW (s.runT P w es).1).drawn->τ (d+j)=w.tape (w.drawn+j))->
  s.runT P (re w τ d) es=(resRe (s.runT P w es).1 τ (d+((resW (s.runT P w es).1).drawn - w.drawn)),(s.runT P w es).2):=by
 induction s with
 |pure a=>intro w es;exact⟨Nat.le_refl _,rfl,λτ d _=>by simp[Sem.runT,resRe,resW]⟩
 |load m a k ih=>
  intro w es;simp only[Sem.runT];have hc:∀τ d,(re w τ d).cell? a=w.cell? a:=λ_ _=>rfl;simp only[hc,zqca];cases w.cell? a with
  |some v=>exact ih v (hs v) w _
  |none=>
   simp only[];cases w.farLoad P a (m==Mode.atomic)with
   |ok x=>exact ih x.1 (hs x.1) w _
   |error h=>exact⟨Nat.le_refl _,rfl,λτ d _=>by simp[resRe,resW]⟩
 |store m a v k ih=>
  intro w es;have main:∀(hv:(∀c,v≠.agg c)/\∀c,v≠.tuple c),_:=λhv=>ih hs.2
  by_cases hagg:(∃c,v=.agg c)\/∃c,v=.tuple c
  . rcases hagg with⟨c,rfl⟩|⟨c,rfl⟩<;>exact⟨Nat.le_refl _,rfl,λτ d _=>by simp[Sem.runT,resRe,resW]⟩
  . have e:∀w,(Sem.store m a v k).runT P w es=match w.cell? a with
     |some _=>
      if w.frozen? a then(.halt (.unsupported (.unsafePointer "a write to bytes that a string shares")) w,es)
      else k.runT P (w.setCell a v) (es.push ⟨.cell a,true,m== .atomic⟩)
     |none=>match w.farStore P a v (m== .atomic)with
      |.ok (w,touched)=>k.runT P w (es++touched.toArray.map (⟨.cell ·,true,m== .atomic⟩))
      |.error h=>(.halt h w,es):=by
     intro w;cases v<;>first|rfl |(exact absurd (.inl ⟨_,rfl⟩) hagg)|(exact absurd (.inr ⟨_,rfl⟩) hagg)
    rw[e w];have e':∀τ d,(Sem.store m a v k).runT P (re w τ d) es=_:=λτ d=>e (re w τ d);simp only[e'];have hc:∀τ d,(re w τ d).cell? a=w.cell? a:=λ_ _=>rfl;have hf:∀τ d,(re w τ d).frozen? a=w.frozen? a:=λ_ _=>rfl;have hset:∀τ d,(re w τ d).setCell a v=re (w.setCell a v) τ d:=λ_ _=>rfl;simp only[hc,hf,hset,zq79];cases w.cell? a with
    |some x=>
     simp only[]
     by_cases hfz:w.frozen? a=true
     . simp only[hfz,if_true];exact⟨Nat.le_refl _,rfl,λτ d _=>by simp[resRe,resW]⟩
     . simp only[hfz,Bool.false_eq_true,if_false];exact ih hs.2 (w.setCell a v) _
    |none=>
     simp only[];cases hx:w.farStore P a v (m==Mode.atomic)with
     |ok x=>
      obtain⟨w',l⟩:=x;obtain⟨ht,hd⟩:=zqcc P w w' a v _ l hx;simp only[Except.map];have:=ih hs.2 w' (es++l.toArray.map (⟨.cell ·,true,m== .atomic⟩));rw[ht,hd]at this;exact this
     |error h=>exact⟨Nat.le_refl _,rfl,λτ d _=>by simp[Except.map,resRe,resW]⟩
 |new o k ih=>
  intro w es;exact ih w.heap.size (hs _) {w with heap:=w.heap.push o} es
 |shape r k ih=>intro w es;exact ih _ (hs _) w es
 |freeze a n k ih=>exact hs.elim
 |frozen a k ih=>intro w es;exact ih _ (hs _) w es
 |getObj r k ih=>
  intro w es;simp only[Sem.runT];have hh:∀τ d,(re w τ d).heap=w.heap:=λ_ _=>rfl;simp only[hh];split
  . exact⟨Nat.le_refl _,rfl,λτ d _=>by simp[resRe,resW]⟩
  . exact ih _ (hs _) w _
  . exact⟨Nat.le_refl _,rfl,λτ d _=>by simp[resRe,resW]⟩
 |setObj r o k ih=>exact hs.elim
 |choose q k ih=>
  intro w es;simp only[Sem.runT]
  by_cases hq:q.forced=true
  . simp only[hq,if_true];exact ih 0 (hs 0) w es
  . simp only[hq,Bool.false_eq_true,if_false];obtain⟨h1,h2,h3⟩:=ih (q.cut (w.tape w.drawn q)) (hs _) {w with drawn:=w.drawn+1} es;refine⟨Nat.le_trans (Nat.le_succ _) h1,h2,λτ d hτ=>?_⟩;have h0:τ d=w.tape w.drawn:=by have:=hτ 0 (by simp only[Nat.add_zero];exact h1);simpa using this
    have e0:(re w τ d).tape (re w τ d).drawn q=w.tape w.drawn q:=by show τ d q=_;rw[h0]
    rw[e0];have:=h3 τ (d+1) (λj hj=>by
     have hj':w.drawn+1+j<(resW (Sem.runT P (k (q.cut (w.tape w.drawn q))) {w with drawn:=w.drawn+1} es).fst).drawn:=hj;have:=hτ (1+j) (by omega);rw[show d+1+j=d+(1+j)by omega,this];show w.tape (w.drawn+(1+j))=w.tape (w.drawn+1+j);rw[show w.drawn+1+j=w.drawn+(1+j)by omega])
    refine Eq.trans this ?_;have hle:w.drawn+1<=(resW (Sem.runT P (k (q.cut (w.tape w.drawn q))) {w with drawn:=w.drawn+1} es).fst).drawn:=h1;congr 2;show d+1+(_ - (w.drawn+1))=d+(_ - w.drawn);omega
 |sys c k ih=>exact hs.elim
 |program k ih=>intro w es;exact ih P hs w es
 |mark m k ih=>intro w es;exact ih hs.2 w _
 |halt h=>intro w es;exact⟨Nat.le_refl _,rfl,λτ d _=>by simp[Sem.runT,resRe,resW]⟩
end Go.Car
namespace Go.Car
open Go Go.RowKit
def calmEv(st:Bool)(e:Event):Prop:=(∀m,e.loc=.mark m->zq4v m)/\(st=false->e.write=false)
theorem zq2i{α:Type}{P:Program}{m:Mode}{a:Addr}{v:Value}{k:Sem α}(hagg:¬((∃c,v=.agg c)\/∃c,v=.tuple c))(w:World)(es:Array Event):
 (Sem.store m a v k).runT P w es=match w.cell? a with
  |some _=>
   if w.frozen? a then(.halt (.unsupported (.unsafePointer "a write to bytes that a string shares")) w,es)
   else k.runT P (w.setCell a v) (es.push ⟨.cell a,true,m== .atomic⟩)
  |none=>match w.farStore P a v (m== .atomic)with
   |.ok (w,touched)=>k.runT P w (es++touched.toArray.map (⟨.cell ·,true,m== .atomic⟩))
   |.error h=>(.halt h w,es):=by
 cases v<;>first|rfl |(exact absurd (.inl ⟨_,rfl⟩) hagg)|(exact absurd (.inr ⟨_,rfl⟩) hagg)
theorem zq1y{α:Type}{P:Program}{st:Bool}(s:Sem α)(hs:tame P st s):∀(w:World)(es:Array Event),∀e∈(s.runT P w es).2,e∈es\/calmEv st e:=by
 have cellEv:∀(a:Addr)(b:Bool),calmEv st ⟨.cell a,false,b⟩:=λa b=>⟨by simp,λ_=>rfl⟩
 induction s with
 |pure a=>intro w es e he;exact .inl he
 |load m a k ih=>
  intro w es e he;simp only[Sem.runT]at he;split at he
  . rcases ih _ (hs _) w _ e he with h|h
    . rcases Array.mem_push.1 h with h|rfl
      . exact .inl h
      . exact .inr (cellEv _ _)
    . exact .inr h
  . split at he
    . rcases ih _ (hs _) w _ e he with h|h
      . rcases Array.mem_append.1 h with h|h
        . exact .inl h
        . obtain⟨x,_,rfl⟩:=Array.mem_map.1 h;exact .inr (cellEv _ _)
      . exact .inr h
    . exact .inl he
 |store m a v k ih=>
  intro w es e he;have hst:st=true:=hs.1;have wEv:∀(x:Addr)(b:Bool),calmEv st ⟨.cell x,true,b⟩:=λx b=>⟨by simp,λh=>by rw[hst]at h;cases h⟩
  by_cases hagg:(∃c,v=.agg c)\/∃c,v=.tuple c
  . rcases hagg with⟨c,rfl⟩|⟨c,rfl⟩<;>exact .inl he
  . rw[zq2i hagg]at he;split at he
    . split at he
      . exact .inl he
      . rcases ih hs.2 _ _ e he with h|h
        . rcases Array.mem_push.1 h with h|rfl
          . exact .inl h
          . exact .inr (wEv _ _)
        . exact .inr h
    . split at he
      . rcases ih hs.2 _ _ e he with h|h
        . rcases Array.mem_append.1 h with h|h
          . exact .inl h
          . obtain⟨x,_,rfl⟩:=Array.mem_map.1 h;exact .inr (wEv _ _)
        . exact .inr h
      . exact .inl he
 |new o k ih=>intro w es;exact ih _ (hs _) _ es
 |shape r k ih=>intro w es;exact ih _ (hs _) w es
 |freeze a n k ih=>exact hs.elim
 |frozen a k ih=>intro w es;exact ih _ (hs _) w es
 |getObj r k ih=>
  intro w es e he;simp only[Sem.runT]at he;split at he
  . exact .inl he
  . rcases ih _ (hs _) w _ e he with h|h
    . rcases Array.mem_push.1 h with h|rfl
      . exact .inl h
      . exact .inr ⟨by simp,λ_=>rfl⟩
    . exact .inr h
  . exact .inl he
 |setObj r o k ih=>exact hs.elim
 |choose q k ih=>
  intro w es e he;simp only[Sem.runT]at he;split at he
  . exact ih _ (hs _) w _ e he
  . exact ih _ (hs _) _ _ e he
 |sys c k ih=>exact hs.elim
 |program k ih=>intro w es;exact ih P hs w es
 |mark m k ih=>
  intro w es e he;rcases ih hs.2 w _ e he with h|h
  . rcases Array.mem_push.1 h with h|rfl
    . exact .inl h
    . exact .inr ⟨λx hx=>by simp only[Loc.mark.injEq]at hx;rw[<-hx];exact hs.1,λ_=>rfl⟩
  . exact .inr h
 |halt h=>intro w es e he;exact .inl he
theorem zq8a{α:Type}{P:Program}(s:Sem α)(hs:tame P false s):∀(w:World)(es:Array Event),Below w.heap.size w (resW (s.runT P w es).1):=by
 induction s with
 |pure a=>intro w es;exact Below.refl _ _
 |load m a k ih=>
  intro w es;simp only[Sem.runT];split
  . exact ih _ (hs _) w _
  . split
    . exact ih _ (hs _) w _
    . exact Below.refl _ _
 |store m a v k ih=>cases hs.1
 |new o k ih=>
  intro w es;have h:Below w.heap.size w (w.alloc o):=(Below.refl _ _).alloc (Nat.le_refl _) _;have h2:=ih w.heap.size (hs _) (w.alloc o) es;exact h.trans (h2.mono (by show w.heap.size<=(w.heap.push o).size;simp))
 |shape r k ih=>intro w es;exact ih _ (hs _) w es
 |freeze a n k ih=>exact hs.elim
 |frozen a k ih=>intro w es;exact ih _ (hs _) w es
 |getObj r k ih=>
  intro w es;simp only[Sem.runT];split
  . exact Below.refl _ _
  . exact ih _ (hs _) w _
  . exact Below.refl _ _
 |setObj r o k ih=>exact hs.elim
 |choose q k ih=>
  intro w es;simp only[Sem.runT];split
  . exact ih _ (hs _) w _
  . exact(Below.drew (Below.refl w.heap.size w)).trans (ih _ (hs _) w.drew es)
 |sys c k ih=>exact hs.elim
 |program k ih=>intro w es;exact ih P hs w es
 |mark m k ih=>intro w es;exact ih hs.2 w _
 |halt h=>intro w es;exact Below.refl _ _
def leaf{α:Type}(P:Program)(L:α->Prop):Sem α->Prop
 |.pure a=>L a
 |.load _ _ k=>∀v,leaf P L (k v)
 |.store _ _ _ k=>leaf P L k
 |.new _ k=>∀n,leaf P L (k n)
 |.shape _ k=>∀s,leaf P L (k s)
 |.freeze _ _ k=>leaf P L k
 |.frozen _ k=>∀b,leaf P L (k b)
 |.getObj _ k=>∀o,leaf P L (k o)
 |.setObj _ _ k=>leaf P L k
 |.choose _ k=>∀n,leaf P L (k n)
 |.sys _ k=>∀r,leaf P L (k r)
 |.program k=>leaf P L (k P)
 |.mark _ k=>leaf P L k
 |.halt _=>True
theorem zq3r{α β:Type}{P:Program}{L:β->Prop}(s:Sem α){f:α->Sem β}(hf:∀a,leaf P L (f a)):leaf P L (s>>= f):=by
 show leaf P L (s.bind f)
 induction s with
 |pure a=>exact hf a
 |load m a k ih=>exact λv=>ih v
 |store m a v k ih=>exact ih
 |new o k ih=>exact λv=>ih v
 |shape r k ih=>exact λv=>ih v
 |freeze a n k ih=>exact ih
 |frozen a k ih=>exact λv=>ih v
 |getObj r k ih=>exact λv=>ih v
 |setObj r o k ih=>exact ih
 |choose q k ih=>exact λv=>ih v
 |sys c k ih=>exact λv=>ih v
 |program k ih=>exact ih P
 |mark m k ih=>exact ih
 |halt h=>trivial
def goodRes{α:Type}(L:α->Prop):Result α->Prop
 |.ok a _=>L a
 |.halt h _=>okHalt h\/∃b,h=.unsupported (.initOrder b)
theorem zq36{α:Type}{P:Program}{L:α->Prop}(s:Sem α)(ht:tame P true s)(hs:leaf P L s):∀(w:World)(es:Array Event),goodRes L (s.runT P w es).1:=by
 induction s with
 |pure a=>intro w es;exact hs
 |load m a k ih=>
  intro w es;simp only[Sem.runT];split
  . exact ih _ (ht _) (hs _) w _
  . split
    . exact ih _ (ht _) (hs _) w _
    . rename_i h hh;unfold World.farLoad at hh;split at hh
      . split at hh
        . cases hh
        . cases hh;exact Or.inl trivial
      . cases hh;unfold World.noCell;split<;>first|exact Or.inr ⟨_,rfl⟩|exact Or.inl trivial
 |store m a v k ih=>
  intro w es
  by_cases hagg:(∃c,v=.agg c)\/∃c,v=.tuple c
  . rcases hagg with⟨c,rfl⟩|⟨c,rfl⟩<;>exact Or.inl trivial
  . rw[zq2i hagg];split
    . split
      . exact Or.inl trivial
      . exact ih ht.2 hs _ _
    . split
      . exact ih ht.2 hs _ _
      . rename_i h hh;unfold World.farStore at hh;split at hh
        . split at hh
          . cases hh
          . cases hh;exact Or.inl trivial
        . cases hh;unfold World.noCell;split<;>first|exact Or.inr ⟨_,rfl⟩|exact Or.inl trivial
 |new o k ih=>intro w es;exact ih _ (ht _) (hs _) _ es
 |shape r k ih=>intro w es;exact ih _ (ht _) (hs _) w es
 |freeze a n k ih=>exact ht.elim
 |frozen a k ih=>intro w es;exact ih _ (ht _) (hs _) w es
 |getObj r k ih=>
  intro w es;simp only[Sem.runT];split
  . exact Or.inl trivial
  . exact ih _ (ht _) (hs _) w _
  . exact Or.inl trivial
 |setObj r o k ih=>exact ht.elim
 |choose q k ih=>
  intro w es;simp only[Sem.runT];split
  . exact ih _ (ht _) (hs _) w _
  . exact ih _ (ht _) (hs _) _ _
 |sys c k ih=>exact ht.elim
 |program k ih=>intro w es;exact ih P ht hs w es
 |mark m k ih=>intro w es;exact ih ht.2 hs w _
 |halt h=>intro w es;exact Or.inl ht
def okOp(P:Program)(A:FuncId->Bool):Op->Bool
 |.move _|.assign _|.pick .. |.alloc _|.box .. |.build .. |.buildSlice .. |.load .. |.store .. |.nilCheck _|.binOp .. |.unOp .. |.makeInterface .. |.makeFunc .. =>true
 |.makeChan .. |.makeSlice .. |.slice .. |.fieldAddr .. |.field .. |.indexAddr .. |.index .. |.typeAssert .. |.extract .. =>true
 |.convert s d _=>(match P.underlying s with|some (.int _)=>true|_=>false)&&(match P.underlying d with|some (.int _)=>true|_=>false)
 |.call c=>match c.callee with
  |.builtin .append=>match c.argTypes[1]? with
   |some x=>match P.underlying x with
    |some (.int _)=>false
    |_=>true
   |none=>true
  |.builtin .len|.builtin .min|.builtin .max=>true
  |.value (.func f)=>A f
  |_=>false
 |_=>false
def zqp(P:Program)(A:FuncId->Bool):Code->Bool
 |.skip|.exit _|.ret|.refuse _=>true
 |.region _ ops _=>ops.all λo=>okOp P A o.op
 |.seq a b=>zqp P A a&&zqp P A b
 |.cond _ a b=>zqp P A a&&zqp P A b
 |.block _ c=>zqp P A c
 |.loop c=>zqp P A c
 |_=>false
inductive okFn(P:Program)(A:FuncId->Bool)(f:FuncId):Prop
 |text (fn:Func) (c:Code) (hf:P.funcs[f]?=some fn) (hb:fn.body=some c) (hn:(fn.name== "runtime.NumGoroutine")=false) (hc:zqp P A c=true)
 |row (fn:Func) (e:Array Value->Sem Value) (hf:P.funcs[f]?=some fn) (hb:fn.body=none) (hn:(fn.name== "runtime.NumGoroutine")=false) (hx:Extern.findNext fn=none) (he:Extern.find fn=some e) (ht:∀args,tame P true (e args))
def zq1u(P:Program)(A:FuncId->Bool):Next->Prop
 |.value _=>True
 |.skip=>True
 |.enter f _=>A f=true/\∃fn c,P.funcs[f]?=some fn/\fn.body=some c/\zqp P A c=true
 |_=>False
theorem zqn{P:Program}{st:Bool}{s:Sem Value}(h:tame P st s):tame P st (do pure (.value (<-s)):Sem Next):=zq0 h λ_=>trivial
theorem zq16{P:Program}{A:FuncId->Bool}(s:Sem Value):leaf P (zq1u P A) (do pure (.value (<-s)):Sem Next):=zq3r s λ_=>trivial
theorem zqaa{α:Type}{P:Program}{st:Bool}{f:Program->Sem α}(h:tame P st (f P)):tame P st (program>>= f):=h
theorem zq7l{α:Type}{P:Program}{L:α->Prop}{f:Program->Sem α}(h:leaf P L (f P)):leaf P L (program>>= f):=h
theorem zqbd{P:Program}{A:FuncId->Bool}{f:FuncId}{args:Array Value}(hA:A f=true)(h:okFn P A f):tame P true (callFunc f args)/\leaf P (zq1u P A) (callFunc f args):=by
 cases h with
 |text fn c hf hb hn hc=>
  constructor
  . unfold callFunc;refine zqaa ?_;simp only[hf,hn,hb,Option.isNone_some,Bool.false_eq_true,if_false]
    trivial
  . unfold callFunc;refine zq7l ?_;simp only[hf,hn,hb,Option.isNone_some,Bool.false_eq_true,if_false];exact⟨hA,fn,c,hf,hb,hc⟩
 |row fn e hf hb hn hx he ht=>
  constructor
  . unfold callFunc;refine zqaa ?_;simp only[hf,hn,hb,hx,he,Option.isNone_none,Bool.false_eq_true,if_false,if_true];exact zq0 (zqa7 trivial) λ_=>zqn (ht args)
  . unfold callFunc;refine zq7l ?_;simp only[hf,hn,hb,hx,he,Option.isNone_none,Bool.false_eq_true,if_false,if_true];exact zq3r _ λ_=>zq16 _
theorem zq9k{P:Program}{st:Bool}{s d:TypeId}{k k':IntKind}(hs:P.underlying s=some (.int k))(hd:P.underlying d=some (.int k'))(x:Value):tame P st (convert s d x):=by
 refine zq68 λa ha=>?_;refine zq68 λb hb=>?_;rw[hs]at ha;rw[hd]at hb;cases ha;cases hb;split<;>first|exact True.intro|contradiction|(unfold Conv.floatToInt;simp only[];repeat' (first|exact zq9 _|exact zq9j _|refine zq0 ?_ (λ_=>?_)|split))
theorem zq1n{P:Program}{A:FuncId->Bool}(hA:∀f,A f=true->okFn P A f)(o:Oper)(ho:okOp P A o.op=true)(ρ:Operand->Value)(hρ:∀f,ρ (.func f)=.func (.func f) #[] #[]):tame P true (execOp ρ o)/\leaf P (zq1u P A) (execOp ρ o):=by
 obtain⟨dst,op,type,pos,after,guard⟩:=o;simp only at ho;unfold execOp;cases op<;>simp only[okOp,Bool.false_eq_true]at ho
 case move=>exact⟨trivial,trivial⟩
 case assign=>exact⟨trivial,trivial⟩
 case pick=>exact⟨zq0 (zq62 _) λ_=>trivial,zq3r _ λ_=>trivial⟩
 case alloc=>exact⟨zqn (zq9c _),zq16 _⟩
 case box=>exact⟨zqn (zq9g _ _),zq16 _⟩
 case build=>exact⟨zqn (zq9h _ _),zq16 _⟩
 case buildSlice=>exact⟨zqn (zq9i _ _ _),zq16 _⟩
 case load=>exact⟨zqn (zqa0 _ _),zq16 _⟩
 case store=>exact⟨zq0 (zqje _ _ _) λ_=>trivial,zq3r _ λ_=>trivial⟩
 case nilCheck x=>
  simp only[];constructor
  . repeat' (first|exact zq9 _|exact zq66 _|exact zq65|exact zq64 _ _ _ _|exact zq67 _|refine zq0 ?_ (λ_=>?_)|split|simp only[])
  . repeat' (first|exact True.intro|refine zq3r _ (λ_=>?_)|split|simp only[])
 case binOp=>exact⟨zqn (zq0 (zq9l _ _ _ _ _ _) λ_=>zq9f _ _ _ _),zq16 _⟩
 case unOp=>exact⟨zqn (zqah _ _),zq16 _⟩
 case convert s d x=>
  have:∃k k',P.underlying s=some (.int k)/\P.underlying d=some (.int k'):=by
   simp only[Bool.and_eq_true]at ho;obtain⟨h1,h2⟩:=ho;split at h1
   . split at h2
     . exact⟨_,_,‹_›,‹_›⟩
     . cases h2
   . cases h1
  obtain⟨k,k',hs,hd⟩:=this;exact⟨zqn (zq9k hs hd _),zq16 _⟩
 case makeInterface=>exact⟨zqn (zqa5 _ _),zq16 _⟩
 case makeFunc=>exact⟨zqn (zqa4 _ _ _),zq16 _⟩
 case makeChan=>exact⟨zqn (zqa3 _ _),zq16 _⟩
 case makeSlice=>exact⟨zqn (zqa6 _ _ _),zq16 _⟩
 case slice=>exact⟨zqn (zqab _ _ _ _ _),zq16 _⟩
 case fieldAddr=>exact⟨zqn (zq9q _ _ _),zq16 _⟩
 case field=>exact⟨zqn (zq9p _ _ _),zq16 _⟩
 case indexAddr=>exact⟨zqn (zq9x _ _ _),zq16 _⟩
 case index=>exact⟨zqn (zq9w _ _ _),zq16 _⟩
 case typeAssert=>exact⟨zqn (zqae _ _ _ _),zq16 _⟩
 case extract=>exact⟨zqn (zq9o _ _),zq16 _⟩
 case call c=>
  obtain⟨callee,args,argTypes⟩:=c;simp only at ho;cases callee with
  |invoke r m=>simp at ho
  |value f=>
   cases f with
   |func f=>
    have hAf:A f=true:=by simpa using ho
    have h:∀args,_:=λargs=>zqbd (args:=args) hAf (hA f hAf);simp only[resolve,hρ f];exact⟨(h _).1,(h _).2⟩
   |_=>simp at ho
  |builtin b=>
   cases b<;>simp at ho
   case append=>
    have hx:∀x,argTypes[1]?=some x->∀k,P.underlying x≠some (.int k):=by
     intro x hx k hk;rw[hx]at ho;simp only[hk]at ho;cases ho
    exact⟨zqn (zqho _ _ _ hx),zq16 _⟩
   case len=>exact⟨zqn (zq9y _ _ _),zq16 _⟩
   case max=>exact⟨zqn (zqa8 _ _ _),zq16 _⟩
   case min=>exact⟨zqn (zqa9 _ _ _),zq16 _⟩
end Go.Car
namespace Go.Car
open Go Go.Conc Go.RowKit
structure Plain(P:Program)(A:FuncId->Bool):Prop where
 fns:∀f,A f=true->okFn P A f
 early:P.follows .staticDataAhead=true
 noStep:∀g,P.stepOf g=none
def zq11(P:Program)(A:FuncId->Bool):Item->Bool
 |.code c=>zqp P A c
 |.inBlock _=>true
 |.inLoop c=>zqp P A c
 |.inRegion ops l=>l.all λi=>match ops[i]? with
  |some o=>okOp P A o.op
  |none=>true
 |_=>false
theorem zqdh{P:Program}{A:FuncId->Bool}{ops:Array Oper}(h:(ops.all λo=>okOp P A o.op)=true)(l:List Nat):zq11 P A (.inRegion ops l)=true:=by
 unfold zq11;rw[List.all_eq_true];intro i _;cases hi:ops[i]? with
 |none=>rfl
 |some o=>
  rw[Array.all_eq_true_iff_forall_mem]at h;exact h o (Array.mem_of_getElem? hi)
theorem zq4u{P:Program}{A:FuncId->Bool}{ops:Array Oper}{j:Nat}{r:List Nat}{o:Oper}(h:zq11 P A (.inRegion ops (j::r))=true)(hj:ops[j]?=some o):okOp P A o.op=true:=by
 unfold zq11 at h;rw[List.all_eq_true]at h;have:=h j (by simp);rw[hj]at this;exact this
theorem zqdi{P:Program}{A:FuncId->Bool}{ops:Array Oper}{j:Nat}{r:List Nat}(h:zq11 P A (.inRegion ops (j::r))=true):zq11 P A (.inRegion ops r)=true:=by
 unfold zq11 at h |-;rw[List.all_eq_true]at h |-;exact λx hx=>h x (List.mem_cons_of_mem _ hx)
structure Fine(P:Program)(A:FuncId->Bool)(fr:Frame):Prop where
 todo:∀i∈fr.todo,zq11 P A i=true
 defers:fr.defers=[]
 kind:fr.kind=.normal
 round:fr.roundOf=none
 mode:fr.mode=.run\/fr.mode=.returning
structure Top(P:Program)(A:FuncId->Bool)(fr:Frame):Prop where
 round:fr.roundOf=none
 kind:fr.kind≠.early
 head:(fr.mode=.run/\∃i t,fr.todo=i::t/\zq11 P A i=true)\/(fr.mode=.run/\fr.todo=[])\/(fr.mode=.returning/\fr.defers=[])
theorem Fine.top {P:Program}{A:FuncId->Bool}{fr:Frame}(h:Fine P A fr):Top P A fr:=by
 refine⟨h.round,by rw[h.kind];simp,?_⟩;rcases h.mode with hm|hm
 . cases ht:fr.todo with
   |nil=>exact .inr (.inl ⟨hm,rfl⟩)
   |cons i t=>exact .inl ⟨hm,i,t,rfl,h.todo i (by rw[ht];simp)⟩
 . exact .inr (.inr ⟨hm,h.defers⟩)
section
variable {P:Program} {A:FuncId->Bool}
def agree(w w':World)(τ:Nat->Question->Nat)(d:Nat):Prop:=∀j,w.drawn+j<w'.drawn->τ (d+j)=w.tape (w.drawn+j)
def Bad(s:GStep)(above cs:List Frame):Prop:=
 (∃o w' es,s=.ended o w' es)\/∃fr' ch w' es,s=.go (G fr' (above++cs)) w' es/\fr'.mode=.panicking ch/\fr'.defers=[]
inductive Way(P:Program)(A:FuncId->Bool)(fr:Frame)(above:List Frame)(w:World):Prop
 |pop (h:above=[]) (hm:fr.mode=.returning)
 |on (fr':Frame) (above':List Frame) (w':World) (es:Array Event) (hf:Fine P A fr') (ha:∀c∈above',Fine P A c) (hd:w.drawn<=w'.drawn) (ht:w'.tape=w.tape) (he:∀e∈es,calmEv true e)
  (hs:∀main cs τ d,agree w w' τ d->stepG P main (G fr (above++cs)) (re w τ d)=.go (G fr' (above'++cs)) (re w' τ (d+(w'.drawn - w.drawn))) es)
 |bad (w':World) (hd:w.drawn<=w'.drawn) (hs:∀main cs τ d,agree w w' τ d->Bad (stepG P main (G fr (above++cs)) (re w τ d)) above cs)
theorem zq3i(hP:Plain P A)(fr:Frame)(cs:List Frame)(dy:Option Dying)(g:Nat)(w:World):∃o w' es,early P fr cs dy g w=.ended o w' es:=by
 unfold early;simp only[hP.early,hP.noStep,Bool.not_true,Bool.false_eq_true,if_false];exact⟨_,_,_,rfl⟩
theorem zq1j{fr fr':Frame}{above above':List Frame}{w:World}(hf:Fine P A fr')(ha:∀c∈above',Fine P A c)
 (hs:∀main cs w,stepG P main (G fr (above++cs)) w=.go (G fr' (above'++cs)) w):Way P A fr above w:=
 .on fr' above' w #[] hf ha (Nat.le_refl _) rfl (by simp) λmain cs τ d _=>by rw[hs];simp
theorem zq6b{fr:Frame}{above:List Frame}{w:World}(hs:∀main cs w,∃o w' es,stepG P main (G fr (above++cs)) w=.ended o w' es):Way P A fr above w:=
 .bad w (Nat.le_refl _) λmain cs τ d _=>.inl (hs main cs _)
theorem zq34{fr:Frame}(h:Fine P A fr)(v:Value):Fine P A (fr.finish v):=by
 obtain⟨fn,tmps,todo,defers,mode,kind,round⟩:=fr;have ht:=h.todo;simp only at ht;cases todo with
 |nil=>exact h
 |cons i k=>
  have hi:=ht i (by simp);cases i with
  |inRegion ops l=>
   cases l with
   |nil=>exact h
   |cons j r=>
    refine⟨λx hx=>?_,h.defers,h.kind,h.round,h.mode⟩;simp only[Frame.finish,List.mem_cons]at hx;rcases hx with rfl |hx
    . exact zqdi hi
    . exact ht x (by simp[hx])
  |code c=>exact h
  |inBlock id=>exact h
  |inLoop c=>exact h
  |_=>simp[zq11]at hi
theorem zq5h{f:FuncId}{fn:Func}{c:Code}(args:Array Value)(hf:P.funcs[f]?=some fn)(hb:fn.body=some c)(hc:zqp P A c=true):Fine P A (Frame.enter P f args .normal):=by
 refine⟨λi hi=>?_,rfl,rfl,rfl,.inl rfl⟩;simp only[Frame.enter,hf,al_ob,hb,al_od,List.mem_singleton]at hi;subst hi;exact hc
def Fr(fn:FuncId)(tmps:Array Value)(todo:List Item):Frame:={fn,tmps,todo,defers:=[],mode:=.run,kind:=.normal}
theorem zq1h{fn:FuncId}{tmps:Array Value}{todo:List Item}(h:∀i∈todo,zq11 P A i=true):Fine P A (Fr fn tmps todo):=⟨h,rfl,rfl,rfl,.inl rfl⟩
theorem zq7d{fr:Frame}(h:Fine P A fr)(hm:fr.mode=.run):fr=Fr fr.fn fr.tmps fr.todo:=by
 obtain⟨fn,tmps,todo,defers,mode,kind,round⟩:=fr;have h1:=h.defers;have h2:=h.kind;have h3:=h.round;simp only at h1 h2 h3 hm;subst h1 h2 h3 hm;rfl
theorem zqjt(hP:Plain P A){fn:FuncId}{tmps:Array Value}{ops:Array Oper}{l:List Nat}{k:List Item}{above:List Frame}{w:World}{s:Sem Next}(hfr:Fine P A (Fr fn tmps (.inRegion ops l::k)))(habove:∀c∈above,Fine P A c)
 (ht:tame P true s) (hl:leaf P (zq1u P A) s) (hs:∀main cs w,stepG P main (G (Fr fn tmps (.inRegion ops l::k)) (above++cs)) w=stepG.apply P true (Fr fn tmps (.inRegion ops l::k)) (above++cs) none s w):Way P A (Fr fn tmps (.inRegion ops l::k)) above w:=by
 obtain⟨h1,h2,h3⟩:=zq2t s ht w #[];have hg:=zq36 s ht hl w #[];have hc:=zq1y s ht w #[];generalize hrr:s.runT P w #[]=r at h1 h2 h3 hg hc;obtain⟨res,es⟩:=r;simp only at h1 h2 h3 hg hc;have hev:∀fn,∀e∈seen P fn es,calmEv true e:=λfn e he=>(hc e (mem_seen he)).resolve_left (by simp);have hke:((Fr fn tmps (.inRegion ops l::k)).kind==CallKind.early)=false:=rfl;cases res with
 |ok nx w'=>
  have hnx:zq1u P A nx:=hg;cases nx with
  |value v=>
   refine .on ((Fr fn tmps (.inRegion ops l::k)).finish v) above w' (seen P fn es) (zq34 hfr v) habove h1 h2 (hev _) λmain cs τ d hag=>?_;rw[hs,stepG.apply];simp only[if_true,h3 τ d hag,resRe,hke,Bool.false_eq_true,if_false,GStep.after,Array.append_empty,resW];rfl
  |skip=>
   refine .on ((Fr fn tmps (.inRegion ops l::k)).finish undef) above w' (seen P fn es) (zq34 hfr _) habove h1 h2 (hev _) λmain cs τ d hag=>?_;rw[hs,stepG.apply];simp only[if_true,h3 τ d hag,resRe,hke,Bool.false_eq_true,if_false,GStep.after,Array.append_empty,resW];rfl
  |enter f args=>
   obtain⟨_,fn',c,hf,hb,hcc⟩:=hnx;refine .on (Frame.enter P f args .normal) (Fr fn tmps (.inRegion ops l::k)::above) w' (seen P fn es) (zq5h args hf hb hcc) (λx hx=>?_) h1 h2 (hev _) λmain cs τ d hag=>?_
   . rcases List.mem_cons.1 hx with rfl |hx
     . exact hfr
     . exact habove x hx
   . rw[hs,stepG.apply];simp only[if_true,h3 τ d hag,resRe,hke,Bool.false_eq_true,if_false,GStep.after,Array.append_empty,resW];rfl
  |_=>exact hnx.elim
 |halt h w'=>
  refine .bad w' h1 λmain cs τ d hag=>?_;rw[hs,stepG.apply];simp only[if_true,h3 τ d hag,resRe,hke,Bool.false_eq_true,if_false,resW];rcases hg with hg|⟨b,rfl⟩
  . cases h with
    |panic v=>exact .inr ⟨_,_,_,_,rfl,rfl,rfl⟩
    |stuck s=>exact .inl ⟨_,_,_,rfl⟩
    |unsupported u=>cases u<;>first|exact .inl ⟨_,_,_,rfl⟩|exact hg.elim
    |_=>exact hg.elim
  . obtain⟨o,w'',es',he⟩:=zq3i hP (Fr fn tmps (.inRegion ops l::k)) (above++cs) none b (re w' τ (d+(w'.drawn - w.drawn)));simp only[he];exact .inl ⟨_,_,_,rfl⟩
theorem zq1i(fn:Func)(tmps:Array Value):tame P false (results fn tmps):=by
 unfold results;refine zq0 (zqe _ (λx=>?_) _) λ_=>trivial;cases x with
 |tmp t=>trivial
 |cell a t=>exact zq0 (zq9d _) λ_=>zqa2 _ _
theorem zq25{α:Type}(s:Sem α)(h:tame P false s):tame P true s:=by
 induction s with
 |pure a=>trivial
 |load m a k ih=>exact λv=>ih v (h v)
 |store m a v k ih=>cases h.1
 |new o k ih=>exact λv=>ih v (h v)
 |shape r k ih=>exact λv=>ih v (h v)
 |freeze a n k ih=>exact h.elim
 |frozen a k ih=>exact λv=>ih v (h v)
 |getObj r k ih=>exact λv=>ih v (h v)
 |setObj r o k ih=>exact h.elim
 |choose q k ih=>exact λv=>ih v (h v)
 |sys c k ih=>exact h.elim
 |program k ih=>exact ih P h
 |mark m k ih=>exact⟨h.1,ih h.2⟩
 |halt x=>exact h
theorem zqd2{α:Type}(s:Sem α):leaf P (λ_=>True) s:=by
 induction s with
 |pure a=>trivial
 |load m a k ih=>exact λv=>ih v
 |store m a v k ih=>exact ih
 |new o k ih=>exact λv=>ih v
 |shape r k ih=>exact λv=>ih v
 |freeze a n k ih=>exact ih
 |frozen a k ih=>exact λv=>ih v
 |getObj r k ih=>exact λv=>ih v
 |setObj r o k ih=>exact ih
 |choose q k ih=>exact λv=>ih v
 |sys c k ih=>exact λv=>ih v
 |program k ih=>exact ih P
 |mark m k ih=>exact ih
 |halt x=>trivial
theorem way(hP:Plain P A)(fr:Frame)(above:List Frame)(w:World)(hfr:Fine P A fr)(ha:∀c∈above,Fine P A c):Way P A fr above w:=by
 rcases hfr.mode with hm|hm
 . have e:=zq7d hfr hm;rw[e]at hfr |-;generalize fr.fn=fn at *;generalize fr.tmps=tmps at *;generalize fr.todo=todo at *;clear e hm fr;have ht:=hfr.todo;simp only[Fr]at ht;cases todo with
   |nil=>
    refine zq1j (fr':={Fr fn tmps []with mode:=.returning}) (above':=above) ⟨λi hi=>(by cases hi),rfl,rfl,rfl,.inr rfl⟩ ha λmain cs w=>?_;simp[G,stepG,stepG.exec,Fr]
   |cons i k=>
    have hi:=ht i (by simp);have hk:∀x∈k,zq11 P A x=true:=λx hx=>ht x (by simp[hx]);have tq:∀l:List Item,(∀x∈l,zq11 P A x=true)->∀x∈l++k,zq11 P A x=true:=λl hl x hx=>(List.mem_append.1 hx).elim (hl x) (hk x);cases i with
    |code c=>
     have hc:zqp P A c=true:=hi;cases c with
     |skip=>exact zq1j (fr':=Fr fn tmps k) (zq1h hk) ha λmain cs w=>by simp[G,stepG,stepG.exec,Fr]
     |exit id=>
      cases hx:exitTo id k with
      |some k'=>
       have hk':∀x∈k',zq11 P A x=true:=by
        have:∀(k k':List Item),exitTo id k=some k'->∀x∈k',x∈k:=by
         intro k
         induction k with
         |nil=>intro k' h;simp[exitTo]at h
         |cons y k ih=>
          intro k' h x hx;cases y<;>simp only[exitTo]at h
          case inBlock id'=>
           split at h
           . cases h;exact List.mem_cons_of_mem _ hx
           . exact List.mem_cons_of_mem _ (ih _ h x hx)
          all_goals exact List.mem_cons_of_mem _ (ih _ h x hx)
        exact λx hx'=>hk x (this k k' hx x hx')
       exact zq1j (fr':=Fr fn tmps k') (zq1h hk') ha λmain cs w=>by simp[G,stepG,stepG.exec,Fr,hx]
      |none=>exact zq6b λmain cs w=>by simp[G,stepG,stepG.exec,Fr,hx]
     |ret=>
      refine zq1j (fr':={Fr fn tmps (.code .ret::k)with mode:=.returning}) (above':=above) ⟨ht,rfl,rfl,rfl,.inr rfl⟩ ha λmain cs w=>?_;simp[G,stepG,stepG.exec,Fr]
     |refuse why=>exact zq6b λmain cs w=>by simp[G,stepG,stepG.exec,Fr]
     |region id ops draw=>
      have ho:∀l,zq11 P A (.inRegion ops l)=true:=zqdh hc;cases draw with
      |false=>exact zq1j (fr':=Fr fn tmps (.inRegion ops (List.range ops.size)::k)) (zq1h (tq [_] (λx hx=>by rw[List.mem_singleton.1 hx];exact ho _))) ha λmain cs w=>by simp[G,stepG,stepG.exec,Fr]
      |true=>
       refine .on (Fr fn tmps (.inRegion ops (Region.schedule (P.follows .mixedOrders) ops (w.tape w.drawn (.order fn id)))::k)) above w.drew #[] (zq1h (tq [_] (λx hx=>by rw[List.mem_singleton.1 hx];exact ho _))) ha (Nat.le_succ _) rfl (by simp) λmain cs τ d hag=>?_;have h0:=hag 0 (by show w.drawn+0<w.drawn+1;omega);have e:(re w τ d).tape (re w τ d).drawn=w.tape w.drawn:=by show τ d=_;simpa using h0
       have:=stepG_region_draw (P:=P) (main:=main) (b:=Fr fn tmps []) (a:=⟨tmps,[]⟩) (k:=k) (cs:=above++cs) (w:=re w τ d) (id:=id) (ops:=ops);rw[e]at this;refine Eq.trans this ?_;show GStep.go _ (re w τ (d+1)) _=GStep.go _ (re w.drew τ (d+(w.drawn+1 - w.drawn))) _;rw[show d+(w.drawn+1 - w.drawn)=d+1 by omega];rfl
     |seq a b=>
      have hab:zqp P A a=true/\zqp P A b=true:=by simpa[zqp]using hc
      exact zq1j (fr':=Fr fn tmps (.code a::.code b::k)) (zq1h (tq [_,_] (by simpa[zq11]using hab))) ha λmain cs w=>by simp[G,stepG,stepG.exec,Fr]
     |cond c a b=>
      have hab:zqp P A a=true/\zqp P A b=true:=by simpa[zqp]using hc
      by_cases hb:∃t,(Fr fn tmps (.code (.cond c a b)::k)).eval c=.bool t
      . obtain⟨t,ht'⟩:=hb;refine zq1j (fr':=Fr fn tmps (.code (if t then a else b)::k)) (zq1h (tq [_] (by cases t<;>simp[zq11,hab]))) ha λmain cs w=>?_;simp only[Fr]at ht';simp[G,stepG,stepG.exec,Fr,ht']
      . refine zq6b λmain cs w=>?_;simp only[Fr]at hb;simp only[G,stepG,stepG.exec,Fr];split
        . rename_i t h;exact absurd ⟨t,h⟩ hb
        . exact⟨_,_,_,rfl⟩
     |block id c=>exact zq1j (fr':=Fr fn tmps (.code c::.inBlock id::k)) (zq1h (tq [_,_] (λx hx=>by
      rcases List.mem_cons.1 hx with rfl |hx
      . exact hc
      . rw[List.mem_singleton.1 hx];rfl))) ha λmain cs w=>by simp[G,stepG,stepG.exec,Fr]
     |loop c=>exact zq1j (fr':=Fr fn tmps (.code c::.inLoop c::k)) (zq1h (tq [_,_] (λx hx=>by
      rcases List.mem_cons.1 hx with rfl |hx
      . exact hc
      . rw[List.mem_singleton.1 hx];exact hc))) ha λmain cs w=>by simp[G,stepG,stepG.exec,Fr]
     |_=>simp[zqp]at hc
    |inBlock id=>exact zq1j (fr':=Fr fn tmps k) (zq1h hk) ha λmain cs w=>by simp[G,stepG,stepG.exec,Fr]
    |inLoop c=>exact zq1j (fr':=Fr fn tmps (.code c::.inLoop c::k)) (zq1h (tq [_,_] (by simpa[zq11]using hi))) ha λmain cs w=>by simp[G,stepG,stepG.exec,Fr]
    |inRegion ops l=>
     cases l with
     |nil=>exact zq1j (fr':=Fr fn tmps k) (zq1h hk) ha λmain cs w=>by simp[G,stepG,stepG.exec,Fr]
     |cons j r=>
      by_cases hw:((ops[j]?).map (Region.wanted · (yielded ops tmps))).getD false=true
      . cases hj:ops[j]? with
        |none=>simp[hj]at hw
        |some o=>
         have hoo:okOp P A o.op=true:=zq4u hi hj;obtain⟨t1,t2⟩:=zq1n hP.fns o hoo (Fr fn tmps (.inRegion ops (j::r)::k)).eval (λf=>rfl);refine zqjt hP hfr ha t1 t2 λmain cs w=>?_;simp only[hj,Option.map_some,al_od]at hw;simp[G,stepG,stepG.exec,stepG.oper,Frame.oper?,Fr,hj,hw]
      . have hw':((ops[j]?).map (Region.wanted · (yielded ops tmps))).getD false=false:=by simpa using hw
        refine zq1j (fr':=(Fr fn tmps (.inRegion ops (j::r)::k)).finish undef) (zq34 hfr _) ha λmain cs w=>?_;simp only[G,stepG,stepG.exec,Fr,hw',Bool.false_eq_true,if_false]
    |_=>simp[zq11]at hi
 . cases above with
   |nil=>exact .pop rfl hm
   |cons c r=>
    have hc:=ha c (by simp);have hr:∀x∈r,Fine P A x:=λx hx=>ha x (by simp[hx]);cases hf:P.funcs[fr.fn]? with
    |none=>
     refine zq1j (fr':=c.finish (fr.tmps.getD 0 undef)) (zq34 hc _) hr λmain cs w=>?_;simp[G,stepG,unwind,doReturn,hm,hfr.defers,hfr.kind,hf]
    |some fn=>
     obtain⟨h1,h2,h3⟩:=zq2t (P:=P) (results fn fr.tmps) (zq25 _ (zq1i fn fr.tmps)) w #[];have hcalm:=zq1y (P:=P) (results fn fr.tmps) (zq25 _ (zq1i fn fr.tmps)) w #[];have hg:=zq36 (P:=P) (L:=λ_=>True) (results fn fr.tmps) (zq25 _ (zq1i fn fr.tmps)) (zqd2 _) w #[];generalize (results fn fr.tmps).runT P w #[]=rr at h1 h2 h3 hcalm hg;obtain⟨res,es⟩:=rr;simp only at h1 h2 h3 hcalm hg;have hev:∀fn,∀e∈seen P fn es,calmEv true e:=λfn e he=>(hcalm e (mem_seen he)).resolve_left (by simp);have hst:∀main cs w,stepG P main (G fr (c::r++cs)) w=GStep.after (seen P fr.fn ((results fn fr.tmps).runT P w #[]).2) (match ((results fn fr.tmps).runT P w #[]).1 with
      |.ok v w=>doReturn P main fr (c::r++cs) none v w
      |.halt (.stuck s) w=>.ended (.stuck s (fr.pos P)) w
      |.halt _ w=>.ended (.stuck "return: the result variables cannot be read" (fr.pos P)) w):=λmain cs w=>by
      simp only[G,stepG,unwind,hm,hfr.defers,hf];cases (Sem.runT P (results fn fr.tmps) w #[]).fst with
      |ok v w=>rfl
      |halt h w=>cases h<;>rfl
     cases res with
     |ok v w'=>
      refine .on (c.finish v) r w' (seen P fr.fn es) (zq34 hc v) hr h1 h2 (hev _) λmain cs τ d hag=>?_;rw[hst,h3 τ d hag];simp only[resRe,doReturn,hfr.kind,GStep.after,Array.append_empty,resW,List.cons_append];rfl
     |halt h w'=>
      refine .bad w' h1 λmain cs τ d hag=>?_;rw[hst,h3 τ d hag];simp only[resRe];cases h<;>exact .inl ⟨_,_,_,rfl⟩
end
def trap:Frame:={fn:=0,tmps:=#[],todo:=[.code (.refuse "")],defers:=[{target:=.nil,args:=#[]}],mode:=.run,kind:=.normal}
section
variable {P:Program} {A:FuncId->Bool}
theorem zq3s{fr fr':Frame}{cs cs':List Frame}{w w':World}(h:lone fr cs w=lone fr' cs' w'):fr=fr'/\cs=cs'/\w=w':=by
 simp only[lone,Machine.mk.injEq,Array.mk.injEq,List.cons.injEq,Goroutine.mk.injEq,and_true,true_and]at h;exact⟨h.2.1,h.2.2,h.1⟩
theorem zq2g{fr fr':Frame}{cs cs':List Frame}{w w':World}{es:Array Event}(h:stepG P true (G fr cs) w=.go (G fr' cs') w' es)(n:Nat):runN P (n+1) (lone fr cs w)=runN P n (lone fr' cs' w'):=by
 have:step P (lone fr cs w)=.next (lone fr' cs' w'):=step_lone_go (by
  have h':stepG P true {frame:=fr,callers:=cs,status:=.running,dying:=none} w=.go (G fr' cs') w' es:=h;rw[h'];rfl)
 simp only[runN,this]
theorem zq2f{fr:Frame}{cs:List Frame}{w w':World}{o:Outcome}{es:Array Event}(h:stepG P true (G fr cs) w=.ended o w' es)(n:Nat)(m:Machine):runN P (n+1) (lone fr cs w)≠.next m:=by
 have:step P (lone fr cs w)=.ended o w':=step_lone_ended (by
  have h':stepG P true {frame:=fr,callers:=cs,status:=.running,dying:=none} w=.ended o w' es:=h;rw[h'];rfl)
 simp[runN,this]
theorem zqan(k:Nat)(v:Value)(w:World){frf:Frame}{wf:World}:runN P k (lone (trap.finish v) [] w)≠.next (lone frf [trap] wf):=by
 cases k with
 |zero=>
  intro h;simp only[runN,Stepped.next.injEq]at h;have:=(zq3s h).2.1;cases this
 |succ k=>
  have h:∃o w' es,stepG P true (G (trap.finish v) []) w=.ended o w' es:=by simp[G,stepG,stepG.exec,trap,Frame.finish]
  obtain⟨o,w',es,h⟩:=h;exact zq2f h k _
theorem doomed(k:Nat):∀(fr:Frame)(above:List Frame)(w:World)(ch:List PanicEntry),fr.mode=.panicking ch->fr.defers=[]->(∀c∈above,Fine P A c)->
 ∀{frf:Frame}{wf:World},(∀ch,frf.mode≠.panicking ch)->runN P k (lone fr (above++[trap]) w)≠.next (lone frf [trap] wf):=by
 induction k with
 |zero=>
  intro fr above w ch hm _ _ frf wf hf h;simp only[runN,Stepped.next.injEq]at h;rw[(zq3s h).1]at hm;exact hf _ hm
 |succ k ih=>
  intro fr above w ch hm hd ha frf wf hf
  by_cases hcat:fr.catches P=true
  . have h:∃o w' es,stepG P true (G fr (above++[trap])) w=.ended o w' es:=by cases above<;>simp[G,stepG,unwind,hm,hd,hcat]
    obtain⟨o,w',es,h⟩:=h;exact zq2f h k _
  . cases above with
    |nil=>
     have h1:stepG P true (G fr ([]++[trap])) w=.go (G (trap.raise ch) []) w:=by simp[G,stepG,unwind,hm,hd,hcat]
     rw[zq2g h1];cases k with
     |zero=>
      intro h;simp only[runN,Stepped.next.injEq]at h;have:=(zq3s h).2.1;cases this
     |succ k=>
      have h:∃o w' es,stepG P true (G (trap.raise ch) []) w=.ended o w' es:=⟨_,_,_,by simp[G,stepG,unwind,trap,Frame.raise,callDeferred];exact⟨rfl,rfl,rfl⟩⟩;obtain⟨o,w',es,h⟩:=h;exact zq2f h k _
    |cons c r=>
     have hc:=ha c (by simp);have h1:stepG P true (G fr (c::r++[trap])) w=.go (G (c.raise ch) (r++[trap])) w:=by simp[G,stepG,unwind,hm,hd,hcat]
     rw[zq2g h1];have hrm:(c.raise ch).mode=.panicking ch:=by
      unfold Frame.raise;rcases hc.mode with h|h<;>rw[h]
     have hrd:(c.raise ch).defers=[]:=by
      unfold Frame.raise;rcases hc.mode with h|h<;>rw[h]<;>exact hc.defers
     exact ih (c.raise ch) r w ch hrm hrd (λx hx=>ha x (by simp[hx])) hf
structure St where
 fr:Frame
 ab:List Frame
 w:World
 deriving Inhabited
def zq4a(P:Program)(A:FuncId->Bool)(s:St)(τ0:Nat->Question->Nat)(d n:Nat)(s':St)(es:Array Event):Prop:=
 Fine P A s'.fr/\(∀c∈s'.ab,Fine P A c)/\s'.w.tape=τ0/\(∀e∈es,calmEv true e)/\s'.w.drawn=d+n/\
 ∀main cs τ e,(∀j,j<n->τ (e+j)=τ0 (d+j))->stepG P main (G s.fr (s.ab++cs)) (re s.w τ e)=.go (G s'.fr (s'.ab++cs)) (re s'.w τ (e+n)) es
def Halts(P:Program)(s:St)(τ0:Nat->Question->Nat)(d n:Nat):Prop:=
 (s.ab=[]/\s.fr.mode=.returning)\/∀main cs τ e,(∀j,j<n->τ (e+j)=τ0 (d+j))->Bad (stepG P main (G s.fr (s.ab++cs)) (re s.w τ e)) s.ab cs
theorem way_alt(hP:Plain P A)(s:St)(hf:Fine P A s.fr)(ha:∀c∈s.ab,Fine P A c)(τ0:Nat->Question->Nat)(d:Nat):(∃n s' es,zq4a P A s τ0 d n s' es)\/∃n,Halts P s τ0 d n:=by
 cases way hP s.fr s.ab (re s.w τ0 d) hf ha with
 |pop h hm=>exact .inr ⟨0,.inl ⟨h,hm⟩⟩
 |on fr' above' w' es hf' ha' hd ht he hs=>
  have hd':d<=w'.drawn:=hd;refine .inl ⟨w'.drawn - d,⟨fr',above',w'⟩,es,hf',ha',ht,he,by show w'.drawn=_;omega,λmain cs τ e hag=>?_⟩;exact hs main cs τ e λj hj=>hag j (by have:d+j<w'.drawn:=hj;omega)
 |bad w' hd hs=>
  have hd':d<=w'.drawn:=hd;exact .inr ⟨w'.drawn - d,.inr λmain cs τ e hag=>hs main cs τ e λj hj=>hag j (by have:d+j<w'.drawn:=hj;omega)⟩
theorem lift(hP:Plain P A){main:Bool}{J:Goroutine->World->Prop}{cs:List Frame}
 (hJ:∀fr cs' w,Top P A fr->(∀τ d,∃fr' cs'' w' es,stepG P main (G fr cs') (re w τ d)=.go (G fr' cs'') w' es/\(∀e∈es,calmEv true e)/\J (G fr' cs'') w')->J (G fr cs') w)
 {fr₀:Frame} {w:World} (hfine:Fine P A fr₀) {Φ:Frame->World->Prop} (hΦr:∀fr w τ d,Φ fr w->Φ fr (re w τ d)) (hΦm:∀fr w,Φ fr w->fr.mode=.returning)
 (alone:∀τ d,∃k frf wf,runN P k (lone fr₀ [trap] (re w τ d))=.next (lone frf [trap] wf)/\Φ frf wf)
 (after:∀fr w,Φ fr w->J (G fr cs) w):J (G fr₀ cs) w:=by
 classical
 refine Classical.byContradiction λhnot=>?_
 let bad:St->Prop:=λs=>Fine P A s.fr/\(∀c∈s.ab,Fine P A c)/\¬J (G s.fr (s.ab++cs)) s.w
 have alt:∀s,bad s->∃τ d n,(∃s' es,zq4a P A s τ d n s' es/\bad s')\/Halts P s τ d n:=by
  intro s ⟨hf,ha,hj⟩;have:¬ ∀τ d,∃fr' cs'' w' es,stepG P main (G s.fr (s.ab++cs)) (re s.w τ d)=.go (G fr' cs'') w' es/\(∀e∈es,calmEv true e)/\J (G fr' cs'') w':=λh=>hj (hJ _ _ _ hf.top h);obtain⟨τ,hd⟩:=Classical.not_forall.1 this;obtain⟨d,hd⟩:=Classical.not_forall.1 hd;rcases way_alt hP s hf ha τ d with⟨n,s',es,hn⟩|⟨n,hn⟩
  . refine⟨τ,d,n,.inl ⟨s',es,hn,hn.1,hn.2.1,λhj'=>hd ?_⟩⟩;have hst:=hn.2.2.2.2.2 main cs τ d (λj _=>rfl);have e2:re s'.w τ (d+n)=s'.w:=by rw[<-hn.2.2.2.2.1,<-hn.2.2.1];rfl
    rw[e2]at hst;exact⟨_,_,_,_,hst,hn.2.2.2.1,hj'⟩
  . exact⟨τ,d,n,.inr hn⟩
 let tt:St->Nat->Question->Nat:=λs=>if h:bad s then(alt s h).choose else λ_ _=>0
 let dd:St->Nat:=λs=>if h:bad s then(alt s h).choose_spec.choose else 0
 let nn:St->Nat:=λs=>if h:bad s then(alt s h).choose_spec.choose_spec.choose else 0
 have hdn:∀s(h:bad s),(∃s' es,zq4a P A s (tt s) (dd s) (nn s) s' es/\bad s')\/Halts P s (tt s) (dd s) (nn s):=by
  intro s h;simp only[tt,dd,nn,dif_pos h];exact(alt s h).choose_spec.choose_spec.choose_spec
 let nx:St->St:=λs=>if h:∃s' es,zq4a P A s (tt s) (dd s) (nn s) s' es/\bad s' then h.choose else s
 let sq:Nat->St:=λk=>Nat.rec ⟨fr₀,[],w⟩ (λ_ s=>nx s) k
 let D:Nat->Nat:=λk=>Nat.rec 0 (λk x=>x+nn (sq k)) k
 have sq0:sq 0=⟨fr₀,[],w⟩:=rfl;have sqS:∀k,sq (k+1)=nx (sq k):=λk=>rfl;have DS:∀k,D (k+1)=D k+nn (sq k):=λk=>rfl;have Dmono:∀k m,k<=m->D k<=D m:=by
  intro k m h
  induction h with
  |refl=>exact Nat.le_refl _
  |step _ ih=>exact Nat.le_trans ih (by rw[DS];exact Nat.le_add_right _ _)
 let τ:Nat->Question->Nat:=λi=>if h:∃k,D k<=i/\i<D (k+1)then tt (sq h.choose) (dd (sq h.choose)+(i - D h.choose))else λ_=>0
 have hτ:∀k j,j<nn (sq k)->τ (D k+j)=tt (sq k) (dd (sq k)+j):=by
  intro k j hj;have hex:∃k',D k'<=D k+j/\D k+j<D (k'+1):=⟨k,Nat.le_add_right _ _,by rw[DS];omega⟩;have hk:hex.choose=k:=by
   obtain⟨h1,h2⟩:=hex.choose_spec;rcases Nat.lt_trichotomy hex.choose k with h|h|h
   . have:=Dmono (hex.choose+1) k h;omega
   . exact h
   . have:=Dmono (k+1) hex.choose h;rw[DS]at this;omega
  simp only[τ,dif_pos hex];rw[hk];congr 1;omega
 obtain⟨N,frf,wf,hrun,hΦ⟩:=alone τ 0;have hbad0:bad (sq 0):=⟨hfine,λc hc=>(by cases hc),hnot⟩;have main':∀k,k<=N->bad (sq k)/\runN P (N - k) (lone (sq k).fr ((sq k).ab++[trap]) (re (sq k).w τ (D k)))=.next (lone frf [trap] wf):=by
  intro k
  induction k with
  |zero=>exact λ_=>⟨hbad0,hrun⟩
  |succ k ih=>
   intro hk;obtain⟨hb,hr⟩:=ih (by omega);obtain⟨m,hm⟩:∃m,N - k=m+1:=⟨N - k - 1,by omega⟩;rw[hm]at hr;have hag:∀j,j<nn (sq k)->τ (D k+j)=tt (sq k) (dd (sq k)+j):=λj hj=>hτ k j hj;rcases hdn _ hb with hex|hh
   . have e:sq (k+1)=hex.choose:=by rw[sqS];simp only[nx,dif_pos hex]
     obtain⟨es,hn,hb'⟩:=hex.choose_spec;rw[<-e]at hn hb';refine⟨hb',?_⟩;have hst:=hn.2.2.2.2.2 true [trap] τ (D k) hag;rw[zq2g hst]at hr;rw[show N - (k+1)=m by omega,DS];exact hr
   . exfalso;rcases hh with⟨h1,h2⟩|hh
     ·
      rw[h1]at hr;simp only[List.nil_append]at hr;have hf:=hb.1;generalize (sq k).fr=fr at hr hf h2;generalize re (sq k).w τ (D k)=W at hr;have hend:(∃v w',∃es,stepG P true (G fr [trap]) W=.go (G (trap.finish v) []) w' es)\/∃o w' es,stepG P true (G fr [trap]) W=.ended o w' es:=by
       cases hfn:P.funcs[fr.fn]? with
       |none=>exact .inl ⟨_,_,_,by simp[G,stepG,unwind,doReturn,h2,hf.defers,hf.kind,hfn];exact⟨rfl,rfl,rfl⟩⟩
       |some fn=>
        have hst:stepG P true (G fr [trap]) W=GStep.after (seen P fr.fn ((results fn fr.tmps).runT P W #[]).2) (match ((results fn fr.tmps).runT P W #[]).1 with
         |.ok v w=>doReturn P true fr [trap] none v w
         |.halt (.stuck s) w=>.ended (.stuck s (fr.pos P)) w
         |.halt _ w=>.ended (.stuck "return: the result variables cannot be read" (fr.pos P)) w):=by
         simp only[G,stepG,unwind,h2,hf.defers,hfn];cases (Sem.runT P (results fn fr.tmps) W #[]).fst with
         |ok v w=>rfl
         |halt h w=>cases h<;>rfl
        rw[hst];generalize (Sem.runT P (results fn fr.tmps) W #[]).fst=rr;cases rr with
        |ok v w=>exact .inl ⟨v,w,_,by simp only[doReturn,hf.kind,GStep.after];rfl⟩
        |halt h w=>cases h<;>exact .inr ⟨_,_,_,rfl⟩
      rcases hend with⟨v,w',es,h⟩|⟨o,w',es,h⟩
      . rw[zq2g h]at hr;exact zqan _ _ _ hr
      . exact zq2f h _ _ hr
     . rcases hh true [trap] τ (D k) hag with⟨o,w',es,h⟩|⟨fr',ch,w',es,h,hm',hd'⟩
       . exact zq2f h _ _ hr
       . rw[zq2g h]at hr;exact doomed _ fr' (sq k).ab w' ch hm' hd' hb.2.1 (λch h=>by rw[hΦm _ _ hΦ]at h;cases h) hr
 obtain⟨hb,hr⟩:=main' N (Nat.le_refl _);simp only[Nat.sub_self,runN,Stepped.next.injEq]at hr;obtain⟨e1,e2,e3⟩:=zq3s hr;have hab:(sq N).ab=[]:=by
  cases h:(sq N).ab with
  |nil=>rfl
  |cons c r=>
   rw[h]at e2;have:=congrArg List.length e2;simp at this
 refine hb.2.2 ?_;rw[hab,e1];refine after _ _ ?_;have hw:(sq N).w=re wf (sq N).w.tape (sq N).w.drawn:=by rw[<-e3];rfl
 rw[hw];exact hΦr _ _ _ _ hΦ
end
def KK(Kc:Addr->Option Value)(w:World):Prop:=∀a v,Kc a=some v->w.cell? a=some v/\w.frozen? a=false
def zq21(Kc:Addr->Option Value)(l:Loc):Prop:=∃a v,l=.cell a/\Kc a=some v
def EvOk(Kc:Addr->Option Value)(e:Event):Prop:=(∀x,(MemAct.ofEvent e).touch?=some x->zq21 Kc x.loc->x.write=false)/\e.loc≠.mark .disable/\e.loc≠.mark .enable
def OkD(Kc:Addr->Option Value)(Pb:Nat->Prop)(w w':World):Prop:=
 ((KK Kc w->KK Kc w')/\w'.os=w.os/\w'.output=w.output)/\∀c,Pb c->(∃cap k,w.heap[c]?=some (.chan cap #[] false k k false))->w'.heap[c]?=w.heap[c]?
theorem OkD.refl (Kc:Addr->Option Value)(Pb:Nat->Prop)(w:World):OkD Kc Pb w w:=⟨⟨id,rfl,rfl⟩,λ_ _ _=>rfl⟩
theorem OkD.trans {Kc:Addr->Option Value}{Pb:Nat->Prop}{a b c:World}(h:OkD Kc Pb a b)(k:OkD Kc Pb b c):OkD Kc Pb a c:=
 ⟨⟨λx=>k.1.1 (h.1.1 x),k.1.2.1.trans h.1.2.1,k.1.2.2.trans h.1.2.2⟩,λc' hc hx=>by
   have e:=h.2 c' hc hx;rw[k.2 c' hc (by rw[e];exact hx),e]⟩
theorem cell_lt{w:World}{a:Addr}{v:Value}(h:w.cell? a=some v):a.block<w.heap.size:=by
 refine Classical.byContradiction λhn=>?_;have:w.heap[a.block]?=none:=Array.getElem?_eq_none (by omega);simp[World.cell?,this]at h
theorem OkD.of_below {Kc:Addr->Option Value}{Pb:Nat->Prop}{w w':World}(h:Below w.heap.size w w'):OkD Kc Pb w w':=by
 refine⟨⟨λhK a v e=>?_,h.os,h.output⟩,λc _⟨cap,k,hx⟩=>h.block c ?_⟩
 . obtain⟨h1,h2⟩:=hK a v e;have hlt:=cell_lt h1;exact⟨by rw[<-h1];simp only[World.cell?,h.block _ hlt],by rw[<-h2];simp only[World.frozen?,h.block _ hlt]⟩
 . refine Classical.byContradiction λhn=>?_;rw[Array.getElem?_eq_none (by omega)]at hx;cases hx
theorem zqam{e:Event}(hm:∀m,e.loc=.mark m->zq4v m){x:Touch}(hx:(MemAct.ofEvent e).touch?=some x):x.write=e.write/\x.loc=e.loc:=by
 obtain⟨loc,wr,sy⟩:=e;cases loc with
 |mark m=>
  have:=hm m rfl;cases m<;>first|exact this.elim|simp[MemAct.ofEvent,MemAct.touch?]at hx
 |cell a=>simp only[MemAct.ofEvent,MemAct.touch?,al_oi]at hx;rw[<-hx];exact⟨rfl,rfl⟩
 |obj r=>cases wr<;>cases sy<;>simp only[MemAct.ofEvent,MemAct.touch?,al_oi,reduceCtorEq]at hx<;>(rw[<-hx];exact⟨rfl,rfl⟩)
 |output=>simp only[MemAct.ofEvent,MemAct.touch?,al_oi]at hx;rw[<-hx];exact⟨rfl,rfl⟩
 |goroutines=>simp only[MemAct.ofEvent,MemAct.touch?,al_oi]at hx;rw[<-hx];exact⟨rfl,rfl⟩
theorem zq4e{st:Bool}{e:Event}(h:calmEv st e):e.loc≠.mark .disable/\e.loc≠.mark .enable:=
 ⟨λhx=>h.1 _ hx,λhx=>h.1 _ hx⟩
theorem zq2o{Kc:Addr->Option Value}{e:Event}(h:calmEv false e):EvOk Kc e:=
 ⟨λx hx _=>by rw[(zqam h.1 hx).1];exact h.2 rfl,zq4e h⟩
theorem zq75{e:Event}(h:calmEv true e):EvOk (λ_=>none) e:=⟨λx _⟨a,v,_,hv⟩=>(by cases hv),zq4e h⟩
theorem zq77{Kc:Addr->Option Value}(a:Addr)(s:Bool)(h:Kc a=none):EvOk Kc ⟨.cell a,true,s⟩:=by
 refine⟨λx hx⟨b,v,hb,hv⟩=>?_,by simp,by simp⟩;simp only[MemAct.ofEvent,MemAct.touch?,al_oi]at hx;rw[<-hx]at hb;simp only[Loc.cell.injEq]at hb;rw[<-hb,h]at hv;cases hv
theorem zq76{Kc:Addr->Option Value}(a:Addr)(s:Bool):EvOk Kc ⟨.cell a,false,s⟩:=zq2o ⟨by simp,λ_=>rfl⟩
theorem low_one(x:MemAct):∃B,x.low B:=by
 cases x with
 |access e=>
  obtain⟨loc,wr,sy⟩:=e;cases loc with
  |cell a=>exact⟨a.block+1,Nat.lt_succ_self _⟩
  |obj r=>exact⟨r+1,Nat.lt_succ_self _⟩
  |_=>exact⟨0,trivial⟩
 |mark m=>cases m<;>first|exact⟨_,Nat.lt_succ_self _⟩|exact⟨0,trivial⟩
 |go _=>exact⟨0,trivial⟩
 |start=>exact⟨0,trivial⟩
 |send c _=>exact⟨c+1,Nat.lt_succ_self _⟩
 |sendDone c _=>exact⟨c+1,Nat.lt_succ_self _⟩
 |recv c _ _=>exact⟨c+1,Nat.lt_succ_self _⟩
 |recvDone c _=>exact⟨c+1,Nat.lt_succ_self _⟩
 |close c=>exact⟨c+1,Nat.lt_succ_self _⟩
 |recvClosed c=>exact⟨c+1,Nat.lt_succ_self _⟩
theorem zq4t(es:Array Event):∃B,∀e∈es,(MemAct.ofEvent e).low B:=by
 have:∀l:List Event,∃B,∀e∈l,(MemAct.ofEvent e).low B:=by
  intro l
  induction l with
  |nil=>exact⟨0,λe he=>by cases he⟩
  |cons x l ih=>
   obtain⟨B,hB⟩:=ih;obtain⟨B',hB'⟩:=low_one (MemAct.ofEvent x);refine⟨max B B',λe he=>?_⟩;rcases List.mem_cons.1 he with rfl |he
   . exact MemAct.low_mono (Nat.le_max_right _ _) hB'
   . exact MemAct.low_mono (Nat.le_max_left _ _) (hB e he)
 obtain⟨B,hB⟩:=this es.toList;exact⟨B,λe he=>hB e (Array.mem_toList_iff.2 he)⟩
section
variable {P:Program}
theorem zqcg{main:Bool}{R:World->World->Prop}{D D':World->World->Array Event->Prop}{S S':Goroutine->World->Prop}(hD:∀w w' es,D w w' es->D' w w' es)(hS:∀g w,S g w->S' g w):
 ∀(n:Nat)(g:Goroutine)(w:World),Goes P main R D S n g w->Goes P main R D' S' n g w:=by
 intro n
 induction n with
 |zero=>exact λg w h w₁ h₁=>hS _ _ (h w₁ h₁)
 |succ n ih=>
  intro g w h;rcases h with h|⟨hr,h⟩
  . exact .inl λw₁ h₁=>hS _ _ (h w₁ h₁)
  . refine .inr ⟨hr,λw₁ h₁=>?_⟩;have:=h w₁ h₁
    revert this
    cases stepG P main g w₁<;>simp only[GStep.goes,imp_self];exact λ⟨d,x⟩=>⟨hD _ _ _ d,ih _ _ x⟩
theorem zq74{Still:Loc->Prop}{B B':Nat}(hB:B<=B'){e:Event}(h:EvC Still B e):EvC Still B' e:=by
 obtain⟨a,h1,h2,h3⟩:=h;exact⟨a,h1,h2,by omega⟩
theorem zq5x{main:Bool}{K:World->Prop}{Still:Loc->Prop}{B B':Nat}(hB:B<=B'){s:Seat}{n:Nat}{g:Goroutine}(h:Sits P main K Still B s n g):Sits P main K Still B' s n g:=by
 have hat:∀g g₂,AtIn P main K Still B s g g₂->AtIn P main K Still B' s g g₂:=λg g₂⟨a,b,c,d,e,es,hes,hst⟩=>⟨a,b,c,d,e,es,λx hx=>zq74 hB (hes x hx),hst⟩;rcases h with⟨k,w,hn,hg⟩|⟨hn,g₀,g₂,hg,ha⟩
 . exact .inl ⟨k,w,hn,zqcg (λw w' es h=>⟨h.1,λe he=>zq74 hB (h.2 e he)⟩) (λg w⟨g₂,h⟩=>⟨g₂,hat g g₂ h⟩) _ _ _ hg⟩
 . exact .inr ⟨hn,g₀,g₂,hg,hat _ _ ha⟩
theorem zqcp{K:World->Prop}{Still:Loc->Prop}{B B':Nat}(hB:B<=B'){T:Trace}{i n:Nat}{g:Goroutine}:∀{o:Option Seat},Idle P K Still B T i n g o->Idle P K Still B' T i n g o
 |none,h=>h
 |some _,h=>zq5x hB h
theorem zq3w{K:World->Prop}{Still:Loc->Prop}{B B':Nat}(hB:B<=B'){Mem:Nat->Prop}{Inb:Nat->Option Seat}{h:Nat}{T:Trace}{gs:Array Goroutine}{w:World}{q:Nat->Nat}(C:Ring P K Still B Mem Inb h T gs w q):Ring P K Still B' Mem Inb h T gs w q:=
 Ring.mono C hB λi g hi hg=>zqcp hB (C.idle i g hi hg)
def Back(P:Program)(Fin:Machine->Trace->Prop):Prop:=∀N m T m' T',runNT P N m T=(.next m',T')->m'.world.os=m.world.os->m'.world.output=m.world.output->Fin m' T'->Fin m T
def Hold(P:Program)(Fin:Machine->Trace->Prop)(Kc:Addr->Option Value)(Inb:Nat->Option Seat)(h n:Nat)(g:Goroutine)(w:World):Prop:=
 ∀(d:Nat)(Mem:Nat->Prop)(B:Nat)(gs:Array Goroutine)(sl:Option (Nat×Nat))(T:Trace)(q:Nat->Nat),Mem h->gs.size=n->gs[h]?=some g->
  Ring P (KK Kc) (zq21 Kc) B Mem Inb h T gs (w.at d) q->Fin (crowd gs (w.at d) sl) T
def Seats(Inb:Nat->Option Seat)(c:Nat):Prop:=∃i s,Inb i=some s/\s.has c
theorem hold_at{Fin:Machine->Trace->Prop}{Kc:Addr->Option Value}{Inb:Nat->Option Seat}{h n:Nat}{g:Goroutine}{w:World}(H:Hold P Fin Kc Inb h n g w)(d:Nat):Hold P Fin Kc Inb h n g (w.at d):=λe=>H e
theorem zqcm{Fin:Machine->Trace->Prop}(hFin:Back P Fin){Kc:Addr->Option Value}{Inb:Nat->Option Seat}{h n:Nat}{g:Goroutine}{w:World}(hrun:g.status=.running)
 (hs:∀d,∃g' w' es,stepG P (h==0) g (w.at d)=.go g' w' es/\OkD Kc (Seats Inb) (w.at d) w'/\(∀e∈es,EvOk Kc e)/\Hold P Fin Kc Inb h n g' w'):Hold P Fin Kc Inb h n g w:=by
 intro d Mem B gs sl T q hM hn hg C;obtain⟨N,gs₁,d₁,d₂,sl₁,sl₂,T₁,q₁,hr,hst,hsz,hg₁,C₁⟩:=picked (sl:=sl) (λw d h=>h) hg hrun C;obtain⟨g',w',es,hgo,hd,he,hH⟩:=hs d₂;obtain⟨B',hB'⟩:=zq4t es;have C₂:=zq3w (Nat.le_max_left B B') C₁;have hdh:DH (KK Kc) (zq21 Kc) (max B B') Inb (w.at d₂) w' es:=by
  refine⟨hd.1.1,λi s c hi hc=>hd.2 c ⟨i,s,hi,hc⟩ ?_,λe hx=>⟨(he e hx).1,(he e hx).2.1,(he e hx).2.2,MemAct.low_mono (Nat.le_max_right _ _) (hB' e hx)⟩⟩;exact C₁.chans i s c (λz=>z) hi hc
 obtain⟨C₃,hg₃⟩:=C₂.own (a':=g') hg₁ hdh;have hrt:=runT_crowd_go (P:=P) (sl:=sl₂) hg₁ hgo;refine hFin (N+1) _ _ _ _ (runNT_succ_of hr (hst.trans hrt)) hd.1.2.1 hd.1.2.2 ?_;have e:w'=w'.at w'.drawn:=rfl;rw[e];exact hH w'.drawn Mem _ _ sl₂ _ _ hM (by simp;omega) hg₃ C₃
end
def Chans(w w':World):Prop:=(∀(c:Nat)(o:Obj),w.heap[c]?=some o->(∀x e f,o≠Obj.cells x e f)->w'.heap[c]?=some o)/\w'.os=w.os/\w'.output=w.output
theorem Chans.refl (w:World):Chans w w:=⟨λ_ _ h _=>h,rfl,rfl⟩
theorem Chans.trans {a b c:World}(h:Chans a b)(k:Chans b c):Chans a c:=⟨λx o hx ho=>k.1 x o (h.1 x o hx ho) ho,k.2.1.trans h.2.1,k.2.2.trans h.2.2⟩
theorem zq6s(w:World)(a:Addr)(v:Value):Chans w (w.setCell a v):=by
 refine⟨λc o hc ho=>?_,rfl,rfl⟩;simp only[World.setCell];rw[Array.getElem?_modify];split
 . rw[hc];cases o<;>first|rfl |exact absurd rfl (ho _ _ _)
 . exact hc
theorem zqbl(w:World)(o:Obj):Chans w {w with heap:=w.heap.push o}:=by
 refine⟨λc x hc _=>?_,rfl,rfl⟩;have hlt:c<w.heap.size:=(Array.getElem?_eq_some_iff.1 hc).1;show(w.heap.push o)[c]?=_;rw[Array.getElem?_push,if_neg (by omega)];exact hc
theorem zqee{P:Program}{w:World}{a k:Addr}{t:TypeId}{b:Bool}{x}(h:w.seen P a t k b=.ok x):∃c e f,w.heap[a.block]?=some (.cells c e f):=by
 unfold World.seen at h;simp only[bind,Except.bind,pure,Except.pure,throw,throwThe,MonadExceptOf.throw]at h
 repeat' (first|cases h;done|split at h)
 all_goals first|exact⟨_,_,_,‹_›⟩|cases h
theorem zqbm{P:Program}{w w':World}{a k:Addr}{t:TypeId}{v:Value}{b:Bool}{l:List Addr}(h:w.viewStore P a t k v b=.ok (w',l)):Chans w w':=by
 unfold World.viewStore at h;simp only[bind,Except.bind,pure,Except.pure,throw,throwThe,MonadExceptOf.throw]at h;cases ht:tight P P.depth t<;>simp only[ht,Bool.not_true,Bool.not_false,Bool.false_eq_true,if_true,if_false,reduceIte]at h
 . cases h
 cases hs:w.seen P a t k b with
 |error e=>simp only[hs]at h;cases h
 |ok x=>
  obtain⟨cc,ee,ff,hc⟩:=zqee hs;simp only[hs]at h;obtain⟨c,e,fr,first,like,cells⟩:=x;simp only[]at h;cases hb:v.bytes? with
  |none=>simp only[hb]at h;cases h
  |some bytes=>
   simp only[hb]at h
   by_cases hl:some bytes.length≠Option.map (λx=>x.length) like.bytes?
   . simp only[if_pos hl]at h;cases h
   . simp only[if_neg hl]at h;generalize (List.foldlM (m:=Except String) _ _ _:Except String (Array Value))=X at h;cases X with
     |error _=>cases h
     |ok X=>
      simp only[Except.ok.injEq,Prod.mk.injEq]at h;obtain⟨rfl,_⟩:=h;refine⟨λc o hco ho=>?_,rfl,rfl⟩;show(w.heap.setIfInBounds a.block _)[c]?=_
      by_cases e:a.block=c
      . subst e;rw[hc]at hco;cases hco;exact absurd rfl (ho _ _ _)
      . rw[al_gn e];exact hco
theorem zqbk{P:Program}{w w':World}{a:Addr}{v:Value}{b:Bool}{l:List Addr}(h:w.farStore P a v b=.ok (w',l)):Chans w w':=by
 unfold World.farStore at h;split at h
 . split at h
   . rename_i hh;cases h;exact zqbm hh
   . cases h
 . cases h
theorem zq2h{α:Type}{P:Program}(s:Sem α)(hs:tame P true s):∀(w:World)(es:Array Event),Chans w (resW (s.runT P w es).1):=by
 induction s with
 |pure a=>intro w es;exact Chans.refl _
 |load m a k ih=>
  intro w es;simp only[Sem.runT];split
  . exact ih _ (hs _) w _
  . split
    . exact ih _ (hs _) w _
    . exact Chans.refl _
 |store m a v k ih=>
  intro w es
  by_cases hagg:(∃c,v=.agg c)\/∃c,v=.tuple c
  . rcases hagg with⟨c,rfl⟩|⟨c,rfl⟩<;>exact Chans.refl _
  . rw[zq2i hagg];split
    . split
      . exact Chans.refl _
      . exact(zq6s w a v).trans (ih hs.2 _ _)
    . split
      . rename_i hh;exact(zqbk hh).trans (ih hs.2 _ _)
      . exact Chans.refl _
 |new o k ih=>intro w es;exact(zqbl w o).trans (ih _ (hs _) _ es)
 |shape r k ih=>intro w es;exact ih _ (hs _) w es
 |freeze a n k ih=>exact hs.elim
 |frozen a k ih=>intro w es;exact ih _ (hs _) w es
 |getObj r k ih=>
  intro w es;simp only[Sem.runT];split
  . exact Chans.refl _
  . exact ih _ (hs _) w _
  . exact Chans.refl _
 |setObj r o k ih=>exact hs.elim
 |choose q k ih=>
  intro w es;simp only[Sem.runT];split
  . exact ih _ (hs _) w _
  . exact Chans.trans (b:=w.drew) ⟨λ_ _ h _=>h,rfl,rfl⟩ (ih _ (hs _) _ es)
 |sys c k ih=>exact hs.elim
 |program k ih=>intro w es;exact ih P hs w es
 |mark m k ih=>intro w es;exact ih hs.2 w _
 |halt h=>intro w es;exact Chans.refl _
theorem okD_none{w w':World}(h:Chans w w'):OkD (λ_=>none) (λ_=>True) w w':=
 ⟨⟨λ_ a v e=>(by cases e),h.2.1,h.2.2⟩,λc _⟨cap,k,hx⟩=>by rw[h.1 c _ hx (by simp),hx]⟩
structure JS(P:Program)(main:Bool)(Kc:Addr->Option Value){γ:Type}(J:γ->Goroutine->World->Prop):Prop where
 re':∀s g w τ d,J s g w->J s g (re w τ d)
 step:∀s g w,g.status=.running->(∀τ d,∃g' w' es,stepG P main g (re w τ d)=.go g' w' es/\OkD Kc (λ_=>True) (re w τ d) w'/\(∀e∈es,EvOk Kc e)/\J s g' w')->J s g w
section
variable {P:Program} {main:Bool} {Kc:Addr->Option Value} {γ:Type} {J:γ->Goroutine->World->Prop}
theorem JS.ctl (hJ:JS P main Kc J){s:γ}{fr fr':Frame}{cs cs':List Frame}{w:World}(h:∀w,stepG P main (G fr cs) w=.go (G fr' cs') w)(hj:J s (G fr' cs') w):J s (G fr cs) w:=
 hJ.step s _ w rfl λτ d=>⟨_,_,#[],h _,OkD.refl _ _ _,by simp,hJ.re' s _ w τ d hj⟩
def AfterJ(J:γ->Goroutine->World->Prop)(b:Frame)(k:List Item)(cs:List Frame)(s:γ):Exit->Act->World->Prop
 |.normal,a,w=>J s (G (b.at a k) cs) w
 |.exit id,a,w=>∃k',exitTo id k=some k'/\J s (G (b.at a k') cs) w
 |.ret,a,w=>∀todo,J s (G {b.at a todo with mode:=.returning} cs) w
 |.panic ch,a,w=>∀todo,J s (G {b.at a todo with mode:=.panicking ch} cs) w
 |_,_,_=>False
theorem AfterJ.push {b:Frame}{x:Item}{k:List Item}{cs:List Frame}{s:γ}{e:Exit}{a:Act}{w:World}(hx:x.plain=true)(he:e≠.normal)(h:AfterJ J b k cs s e a w):AfterJ J b (x::k) cs s e a w:=by
 cases e with
 |normal=>exact absurd rfl he
 |exit id=>obtain⟨k',hk,hg⟩:=h;exact⟨k',by cases x<;>simp_all [exitTo,Item.plain],hg⟩
 |ret=>exact h
 |goto l=>exact h
 |panic ch=>exact h
 |outgrown=>exact h
def wpJ(J:γ->Goroutine->World->Prop)(c:Code)(Q:γ->Exit->Act->World->Prop)(s:γ)(a:Act)(w:World):Prop:=
 ∀(b:Frame)(k:List Item)(cs:List Frame),b.kind≠.early->(∀s' e a' w',Q s' e a' w'->AfterJ J b k cs s' e a' w')->J s (G (b.at a (.code c::k)) cs) w
def opsJ(J:γ->Goroutine->World->Prop)(ops:Array Oper)(todo:List Nat)(Q:γ->Exit->Act->World->Prop)(s:γ)(a:Act)(w:World):Prop:=
 ∀(b:Frame)(k:List Item)(cs:List Frame),b.kind≠.early->(∀s' e a' w',Q s' e a' w'->AfterJ J b k cs s' e a' w')->J s (G (b.at a (.inRegion ops todo::k)) cs) w
def thenJ(M:γ->Act->World->Prop)(Q:γ->Exit->Act->World->Prop)(s:γ)(e:Exit)(a:Act)(w:World):Prop:=
 match e with
 |.normal=>M s a w
 |e=>Q s e a w
def zq1p(id:Nat)(Q:γ->Exit->Act->World->Prop)(s:γ)(e:Exit)(a:Act)(w:World):Prop:=
 match e with
 |.exit id'=>if id'=id then Q s .normal a w else Q s (.exit id') a w
 |e=>Q s e a w
section rules
variable {Q:γ->Exit->Act->World->Prop} {s:γ} {a:Act} {w:World}
theorem wpJ_mono{c:Code}{Q':γ->Exit->Act->World->Prop}(h:wpJ J c Q s a w)(hq:∀s e a w,Q s e a w->Q' s e a w):wpJ J c Q' s a w:=
 λb k cs hb hk=>h b k cs hb λs' e a' w' q=>hk s' e a' w' (hq _ _ _ _ q)
def uponJ(o:Oper)(a:Act)(K:Act->World->Prop)(Kp:List PanicEntry->World->Prop)(Ke:FuncId->Array Value->World->Prop):Result Next->Prop
 |.ok (.value v) w'=>K (a.put o.dst v) w'
 |.ok .skip w'=>K (a.put o.dst undef) w'
 |.ok (.defer d) w'=>K ({a with defers:=d::a.defers}.put o.dst undef) w'
 |.ok (.enter f args) w'=>Ke f args w'
 |.halt (.panic v) w'=>Kp [{v,recovered:=false}] w'
 |_=>False
def zq1g(P:Program)(J:γ->Goroutine->World->Prop)(f:FuncId)(args:Array Value)(Post:γ->Ending->World->Prop)(s:γ)(w:World):Prop:=
 ∀(c:Frame)(cs:List Frame),(∀s' v w',Post s' (.returned v) w'->J s' (G (c.finish v) cs) w')->(∀s' ch w',Post s' (.panicked ch) w'->J s' (G (c.raise ch) cs) w')->
  J s (G (Frame.enter P f args .normal) (c::cs)) w
end rules
end
end Go.Car
