/- YtnjpcibdaanpeaaSNone6: part 4 of the proof (the texts behind it, in order). -/
import Derived.Test.YtnjpcibdaanpeaaP03
set_option linter.unusedSimpArgs false
set_option linter.unusedVariables false
set_option linter.unusedSectionVars false
set_option linter.unnecessarySimpa false
set_option maxHeartbeats 1000000
namespace Go.Car
open Go Go.Conc Go.RowKit
structure JC (P : Program) (main : Bool) {γ : Type} (J : γ → Goroutine → World → Prop) : Prop where
 ctl : ∀ {s : γ} {fr fr' : Frame} {cs cs' : List Frame} {w : World}, (∀ w, stepG P main (G fr cs) w = .go (G fr' cs') w) → J s (G fr' cs') w → J s (G fr cs) w
section
variable {P : Program} {main : Bool} {γ : Type} {J : γ → Goroutine → World → Prop}
theorem JC.of_js (h : ∀ s, ∃ Kc, JS P main Kc (fun (_ : Unit) => J s)) : JC P main J := ⟨fun {s fr fr' cs cs' w} hs hj => by
 obtain ⟨Kc, h1⟩ := h s
 exact h1.ctl (s := ()) hs hj⟩
theorem JS.jc {Kc : Addr → Option Value} (h : JS P main Kc J) : JC P main J := .of_js fun s => ⟨Kc, fun _ g w τ d hg => h.re' s g w τ d hg, fun _ g w hr hs => h.step s g w hr hs⟩
section rules
variable {Q : γ → Exit → Act → World → Prop} {s : γ} {a : Act} {w : World}
theorem wpY_skip (hJ : JC P main J) (h : Q s .normal a w) : wpJ J .skip Q s a w := fun b k cs hb hk => hJ.ctl (fun w => stepG_skip) (hk _ _ _ _ h)
theorem wpY_ret (hJ : JC P main J) (h : Q s .ret a w) : wpJ J .ret Q s a w := fun b k cs hb hk => hJ.ctl (fun w => stepG_ret') (hk _ _ _ _ h _)
theorem wpY_exit (hJ : JC P main J) {id : Nat} (h : Q s (.exit id) a w) : wpJ J (.exit id) Q s a w := fun b k cs hb hk => by
 obtain ⟨k', hk', hg⟩ := hk _ _ _ _ h
 exact hJ.ctl (fun w => stepG_exit hk') hg
theorem wpY_seq (hJ : JC P main J) {x y : Code} (h : wpJ J x (thenJ (fun s' a' w' => wpJ J y Q s' a' w') Q) s a w) : wpJ J (.seq x y) Q s a w := fun b k cs hb hk => by
 refine hJ.ctl (fun w => stepG_seq) (h b (.code y :: k) cs hb fun s' e a' w' q => ?_)
 cases e with
 | normal => exact q b k cs hb hk
 | exit id => exact (hk _ _ _ _ q).push rfl (by simp)
 | ret => exact hk _ _ _ _ q
 | goto l => exact hk _ _ _ _ q
 | panic ch => exact hk _ _ _ _ q
 | outgrown => exact hk _ _ _ _ q
theorem wpY_cut (hJ : JC P main J) {x y : Code} (M : γ → Act → World → Prop) (hx : wpJ J x (thenJ M Q) s a w) (hy : ∀ s' a' w', M s' a' w' → wpJ J y Q s' a' w') : wpJ J (.seq x y) Q s a w :=
 wpY_seq hJ (wpJ_mono hx fun s e a w q => by cases e <;> first | exact hy _ _ _ q | exact q)
theorem wpY_cond (hJ : JC P main J) {c : Operand} {x y : Code} {t : Bool} (hc : a.eval c = .bool t) (h : wpJ J (if t then x else y) Q s a w) : wpJ J (.cond c x y) Q s a w :=
 fun b k cs hb hk => hJ.ctl (fun w => stepG_cond hc) (h b k cs hb hk)
theorem wpY_block (hJ : JC P main J) {id : Nat} {c : Code} (h : wpJ J c (inBlockJ id Q) s a w) : wpJ J (.block id c) Q s a w := fun b k cs hb hk => by
 refine hJ.ctl (fun w => stepG_block) (h b (.inBlock id :: k) cs hb fun s' e a' w' q => ?_)
 cases e with
 | normal => exact hJ.ctl (fun w => stepG_inBlock) (hk _ _ _ _ q)
 | exit id' =>
  by_cases hid : id' = id
  · subst hid
    simp only [inBlockJ, if_true] at q
    exact ⟨k, by simp [exitTo], hk _ _ _ _ q⟩
  · simp only [inBlockJ, hid, if_false] at q
    obtain ⟨k', hk', hg⟩ := hk _ _ _ _ q
    have : (id == id') = false := by simp; exact fun h => hid h.symm
    exact ⟨k', by simp [exitTo, this, hk'], hg⟩
 | ret => exact hk _ _ _ _ q
 | goto l => exact hk _ _ _ _ q
 | panic ch => exact hk _ _ _ _ q
 | outgrown => exact hk _ _ _ _ q
theorem wpY_loop (hJ : JC P main J) {c : Code} (I : γ → Act → World → Nat → Prop) (n : Nat) (h₀ : I s a w n)
 (round : ∀ s a w n, I s a w n → wpJ J c (thenJ (fun s' a' w' => ∃ m, m < n ∧ I s' a' w' m) Q) s a w) : wpJ J (.loop c) Q s a w := fun b k cs hb hk => by
 have key : ∀ N n, n ≤ N → ∀ s a w, I s a w n → J s (G (b.at a (.code c :: .inLoop c :: k)) cs) w := by
  intro N
  induction N with
  | zero =>
   intro n hn s a w hI
   refine round s a w n hI b (.inLoop c :: k) cs hb fun s' e a' w' q => ?_
   cases e with
   | normal => obtain ⟨m, h1, _⟩ := q; exact absurd h1 (by omega)
   | exit id => exact (hk _ _ _ _ q).push rfl (by simp)
   | ret => exact hk _ _ _ _ q
   | goto l => exact hk _ _ _ _ q
   | panic ch => exact hk _ _ _ _ q
   | outgrown => exact hk _ _ _ _ q
  | succ N ih =>
   intro n hn s a w hI
   refine round s a w n hI b (.inLoop c :: k) cs hb fun s' e a' w' q => ?_
   cases e with
   | normal => obtain ⟨m, h1, h2⟩ := q; exact hJ.ctl (fun w => stepG_inLoop) (ih m (by omega) s' a' w' h2)
   | exit id => exact (hk _ _ _ _ q).push rfl (by simp)
   | ret => exact hk _ _ _ _ q
   | goto l => exact hk _ _ _ _ q
   | panic ch => exact hk _ _ _ _ q
   | outgrown => exact hk _ _ _ _ q
 exact hJ.ctl (fun w => stepG_loop) (key n n (Nat.le_refl _) s a w h₀)
theorem wpY_region (hJ : JC P main J) {id : Nat} {ops : Array Oper} (h : opsJ J ops (List.range ops.size) Q s a w) : wpJ J (.region id ops false) Q s a w :=
 fun b k cs hb hk => hJ.ctl (fun w => stepG_region) (h b k cs hb hk)
theorem opsC_nil (hJ : JC P main J) {ops : Array Oper} (h : Q s .normal a w) : opsJ J ops [] Q s a w := fun b k cs hb hk => hJ.ctl (fun w => stepG_region_end) (hk _ _ _ _ h)
def bodyC (Bd : γ → Act → World → Prop) (Post : γ → Ending → World → Prop) (s : γ) (e : Exit) (a : Act) (w : World) : Prop :=
 match e with
 | .normal | .ret => Bd s a w
 | .panic ch => a.defers = [] ∧ Post s (.panicked ch) w
 | _ => False
theorem opsC_call (hJ : JC P main J) {ops : Array Oper} {i : Nat} {rest : List Nat} {o : Oper} {f : FuncId} {args : Array Value} {Post : γ → Ending → World → Prop}
 (ho : ops[i]? = some o) (hw : Region.wanted o (yielded ops a.tmps) = true) (hr : ∀ w, (execOp a.eval o).run P w = .ok (.enter f args) w) (hev : ∀ w, (execOp a.eval o).events P w #[] = #[])
 (hc : CallsJ P J f args Post s w) (hpost : ∀ s' e w', Post s' e w' → match e with
  | .returned v => opsJ J ops rest Q s' (a.put o.dst v) w'
  | .panicked ch => Q s' (.panic ch) a w'
  | .outgrown => False) : opsJ J ops (i :: rest) Q s a w := fun b k cs hb hk => by
 refine hJ.ctl (fun w => by rw [stepG_enter ho hw hb (hr w), listed_none (hev w)]) ?_
 refine hc _ cs (fun s' v w' hp => ?_) (fun s' ch w' hp => ?_)
 · rw [Frame.finish_at, ho]
   exact hpost _ _ _ hp b k cs hb hk
 · rw [Frame.raise_at]
   exact hk _ _ _ _ (hpost _ _ _ hp) _
theorem callsC_of_wp (hJ : JC P main J) {f : FuncId} {fn : Func} {c : Code} {args : Array Value} {Bd : γ → Act → World → Prop} {Post : γ → Ending → World → Prop} (hf : P.funcs[f]? = some fn) (hb : fn.body = some c)
 (hL : ∀ (s : γ) (a : Act) (w : World) (b cl : Frame) (cs : List Frame) (todo : List Item), Bd s a w → b.fn = f → b.kind = .normal → (∀ s' v w', Post s' (.returned v) w' → J s' (G (cl.finish v) cs) w') → J s (G { b.at a todo with mode := .returning } (cl :: cs)) w)
 (h : wpJ J c (bodyC Bd Post) s (enterAct fn args) w) : CallsJ P J f args Post s w := by
 intro cl cs h1 h2
 let b : Frame := { (default : Frame) with fn := f, kind := .normal }
 have henter : Frame.enter P f args .normal = b.at (enterAct fn args) [.code c] := by
  simp [Frame.enter, Frame.at, hf, hb, b, enterAct]
 rw [henter]
 refine h b [] (cl :: cs) (by simp [b]) fun s' e a' w' q => ?_
 cases e with
 | normal => exact hJ.ctl (fun w => stepG_end) (hL s' a' w' b cl cs [] q rfl rfl h1)
 | ret => exact fun todo => hL s' a' w' b cl cs todo q rfl rfl h1
 | panic ch =>
  obtain ⟨hd, hp⟩ := q
  exact fun todo => hJ.ctl (fun w => by simp [G, stepG, unwind, Frame.catches, Frame.at, hd, hf, b]) (h2 _ _ _ hp)
 | _ => exact q.elim
end rules
end
end Go.Car
namespace Go.Car
inductive Tree (σ α : Type) where
 | ret (a : α)
 | out
 | step (u : σ → σ) (k : σ → Tree σ α)
abbrev Proc (σ α : Type) := σ → σ × Tree σ α
section
variable {σ α β δ : Type}
def Tree.bind : Tree σ α → (α → Proc σ β) → Proc σ β
 | .ret a, K, s => K a s
 | .out, _, s => (s, .out)
 | .step u k, K, s => (s, .step (fun s => ((k s).bind K (u s)).1) (fun s => ((k s).bind K (u s)).2))
def Proc.bind (p : Proc σ α) (K : α → Proc σ β) : Proc σ β := fun s => (p s).2.bind K (p s).1
def Proc.ret (a : α) : Proc σ α := fun s => (s, .ret a)
def Proc.act (f : σ → σ × α) : Proc σ α := fun s => ((f s).1, .ret (f s).2)
def Proc.then (p : Proc σ α) : Proc σ α := fun s => (s, .step (fun s => (p s).1) (fun s => (p s).2))
@[simp] theorem Tree.bind_ret (a : α) (K : α → Proc σ β) (s : σ) : (Tree.ret a : Tree σ α).bind K s = K a s := rfl
@[simp] theorem Tree.bind_out (K : α → Proc σ β) (s : σ) : (Tree.out : Tree σ α).bind K s = (s, .out) := rfl
theorem Proc.bind_ret (a : α) (K : α → Proc σ β) : (Proc.ret a : Proc σ α).bind K = K a := rfl
theorem Tree.bind_bind (t : Tree σ α) (K : α → Proc σ β) (L : β → Proc σ δ) : ∀ s, (t.bind K s).2.bind L (t.bind K s).1 = t.bind (fun a => (K a).bind L) s := by
 induction t with
 | ret a => intro s; rfl
 | out => intro s; rfl
 | step u k ih =>
  intro s
  show (s, Tree.step _ _) = (s, Tree.step _ _)
  congr 2
  · funext s'
    exact congrArg Prod.fst (ih s' (u s'))
  · funext s'
    exact congrArg Prod.snd (ih s' (u s'))
theorem Proc.bind_bind (p : Proc σ α) (K : α → Proc σ β) (L : β → Proc σ δ) : (p.bind K).bind L = p.bind (fun a => (K a).bind L) := funext fun s => Tree.bind_bind _ K L _
theorem Tree.bind_pure (t : Tree σ α) : ∀ s, t.bind Proc.ret s = (s, t) := by
 induction t with
 | ret a => intro s; rfl
 | out => intro s; rfl
 | step u k ih =>
  intro s
  show (s, Tree.step _ _) = (s, Tree.step _ _)
  congr 2
  · funext s'
    exact congrArg Prod.fst (ih s' (u s'))
  · funext s'
    exact congrArg Prod.snd (ih s' (u s'))
theorem Proc.bind_pure (p : Proc σ α) : p.bind Proc.ret = p := funext fun s => Tree.bind_pure _ _
def Tree.Deep : Nat → Tree σ α → Prop
 | 0, _ => True
 | _ + 1, .ret _ => True
 | _ + 1, .out => False
 | n + 1, .step _ k => ∀ s, (k s).Deep n
def Proc.Deep (n : Nat) (p : Proc σ α) : Prop := ∀ s, (p s).2.Deep n
theorem Tree.Deep.less {n : Nat} : ∀ {m : Nat} {t : Tree σ α}, m ≤ n → t.Deep n → t.Deep m := by
 induction n with
 | zero => intro m t h _; obtain rfl : m = 0 := by omega
           trivial
 | succ n ih =>
  intro m t h hd
  cases m with
  | zero => trivial
  | succ m =>
   cases t with
   | ret a => trivial
   | out => exact hd
   | step u k => exact fun s => ih (by omega) (hd s)
theorem Tree.Deep.bind {n : Nat} : ∀ {t : Tree σ α} {K : α → Proc σ β}, t.Deep n → (∀ a, (K a).Deep n) → ∀ s, (t.bind K s).2.Deep n := by
 induction n with
 | zero => intros; trivial
 | succ n ih =>
  intro t K h hK s
  cases t with
  | ret a => exact hK a s
  | out => exact h.elim
  | step u k => exact fun s' => ih (h s') (fun a s => Tree.Deep.less (Nat.le_succ n) (hK a s)) _
theorem Proc.Deep.bind {n : Nat} {p : Proc σ α} {K : α → Proc σ β} (h : p.Deep n) (hK : ∀ a, (K a).Deep n) : (p.bind K).Deep n := fun s => Tree.Deep.bind (h s) hK _
theorem Proc.Deep.ret {n : Nat} (a : α) : (Proc.ret a : Proc σ α).Deep n := fun s => by cases n <;> trivial
theorem Proc.Deep.act {n : Nat} (f : σ → σ × α) : (Proc.act f).Deep n := fun s => by cases n <;> trivial
theorem Proc.Deep.then {n : Nat} {p : Proc σ α} (h : p.Deep n) : p.then.Deep n := fun s => by
 cases n with
 | zero => trivial
 | succ n => exact fun s' => Tree.Deep.less (Nat.le_succ n) (h s')
def Tree.run : Tree σ α → σ → σ × Option α × Nat
 | .ret a, s => (s, some a, 0)
 | .out, s => (s, none, 0)
 | .step u k, s => (((k s).run (u s)).1, ((k s).run (u s)).2.1, ((k s).run (u s)).2.2 + 1)
def Proc.run (p : Proc σ α) (s : σ) : σ × Option α × Nat := (p s).2.run (p s).1
theorem Tree.run_bind (t : Tree σ α) (K : α → Proc σ β) : ∀ s, (t.bind K s).2.run (t.bind K s).1 = match t.run s with
 | (s', some a, n) => (((K a).run s').1, ((K a).run s').2.1, ((K a).run s').2.2 + n)
 | (s', none, n) => (s', none, n) := by
 induction t with
 | ret a => intro s; rfl
 | out => intro s; rfl
 | step u k ih =>
  intro s
  show (((((k s).bind K (u s)).2).run ((k s).bind K (u s)).1).1, ((((k s).bind K (u s)).2).run ((k s).bind K (u s)).1).2.1, ((((k s).bind K (u s)).2).run ((k s).bind K (u s)).1).2.2 + 1) = _
  rw [ih s (u s)]
  show _ = match (((k s).run (u s)).1, ((k s).run (u s)).2.1, ((k s).run (u s)).2.2 + 1) with
   | (s', some a, n) => (((K a).run s').1, ((K a).run s').2.1, ((K a).run s').2.2 + n)
   | (s', none, n) => (s', none, n)
  obtain ⟨s1, o, n⟩ := (k s).run (u s)
  cases o <;> rfl
theorem Proc.run_bind (p : Proc σ α) (K : α → Proc σ β) (s : σ) : (p.bind K).run s = match p.run s with
 | (s', some a, n) => (((K a).run s').1, ((K a).run s').2.1, ((K a).run s').2.2 + n)
 | (s', none, n) => (s', none, n) := Tree.run_bind _ K _
end
end Go.Car
set_option maxHeartbeats 1000000
namespace Go.Car
open Go Go.Conc Go.RowKit
structure Core (Ml S : Type) where
 foot : Ml → Nat → Prop
 Rep : Ml → World → Prop
 st : Ml → S
 frame : ∀ l w w', Rep l w → (∀ b, foot l b → w'.heap[b]? = w.heap[b]?) → Rep l w'
 lt : ∀ l w b, Rep l w → foot l b → b < w.heap.size
 pin : Ml → Nat
structure BM (Ml : Type) where
 l : Ml
 box : Nat → Nat → Option Obj
def BM.put {Ml : Type} (m : BM Ml) (i : Nat) (l' : Ml) (B' : Nat → Option Obj) : BM Ml := ⟨l', fun j => if j = i then B' else m.box j⟩
structure BRep {Ml S : Type} (C : Core Ml S) (ro : Nat → Option Obj) (m : BM Ml) (w : World) : Prop where
 core : C.Rep m.l w
 box : ∀ i b o, m.box i b = some o → w.heap[b]? = some o
 rod : ∀ b o, ro b = some o → w.heap[b]? = some o
 apart : ∀ i b, m.box i b ≠ none → ¬ C.foot m.l b
 own : ∀ i j b, i ≠ j → m.box i b ≠ none → m.box j b = none
 rol : ∀ b, ro b ≠ none → ¬ C.foot m.l b
 rob : ∀ i b, ro b ≠ none → m.box i b = none
structure Moved {Ml S : Type} (C : Core Ml S) (l : Ml) (B : Nat → Option Obj) (w : World) (l' : Ml) (B' : Nat → Option Obj) (w' : World) : Prop where
 size : w.heap.size ≤ w'.heap.size
 old : ∀ b, b < w.heap.size → ¬ C.foot l b → B b = none → w'.heap[b]? = w.heap[b]?
 rep : C.Rep l' w'
 box : ∀ b o, B' b = some o → w'.heap[b]? = some o
 growl : ∀ b, C.foot l' b → C.foot l b ∨ B b ≠ none ∨ w.heap.size ≤ b
 growb : ∀ b, B' b ≠ none → B b ≠ none ∨ w.heap.size ≤ b
 apart : ∀ b, C.foot l' b → B' b = none
 pin : C.pin l' = C.pin l
structure Ext (w w' : World) : Prop where
 size : w.heap.size ≤ w'.heap.size
 old : ∀ b, b < w.heap.size → w'.heap[b]? = w.heap[b]?
theorem Ext.refl (w : World) : Ext w w := ⟨Nat.le_refl _, fun _ _ => rfl⟩
theorem Ext.re (w : World) (τ : Nat → Question → Nat) (d : Nat) : Ext w (re w τ d) := ⟨Nat.le_refl _, fun _ _ => rfl⟩
theorem Ext.alloc (w : World) (o : Obj) : Ext w (w.alloc o) := by
 have e : (w.alloc o).heap = w.heap.push o := rfl
 refine ⟨by rw [e, Array.size_push]; omega, fun b hb => ?_⟩
 rw [e, Array.getElem?_push]
 rw [if_neg (by omega)]
theorem heap_lt {w : World} {b : Nat} {o : Obj} (h : w.heap[b]? = some o) : b < w.heap.size := (Array.getElem?_eq_some_iff.1 h).1
theorem Ext.heap {w w' : World} (h : Ext w w') {b : Nat} {o : Obj} (hb : w.heap[b]? = some o) : w'.heap[b]? = some o := (h.old b (heap_lt hb)).trans hb
section
variable {Ml S : Type} {C : Core Ml S} {ro : Nat → Option Obj} {i : Nat} {m : BM Ml} {w w' : World} {l' : Ml} {B' : Nat → Option Obj}
@[simp] theorem BM.put_l (m : BM Ml) (i : Nat) (l' : Ml) (B' : Nat → Option Obj) : (m.put i l' B').l = l' := rfl
@[simp] theorem BM.put_box (m : BM Ml) (i : Nat) (l' : Ml) (B' : Nat → Option Obj) : (m.put i l' B').box i = B' := by simp [BM.put]
theorem BM.put_other (m : BM Ml) {i j : Nat} (l' : Ml) (B' : Nat → Option Obj) (h : j ≠ i) : (m.put i l' B').box j = m.box j := by simp [BM.put, h]
def BM.foot (C : Core Ml S) (ro : Nat → Option Obj) (m : BM Ml) (b : Nat) : Prop := C.foot m.l b ∨ (∃ i, m.box i b ≠ none) ∨ ro b ≠ none
theorem BRep.lt (h : BRep C ro m w) {b : Nat} (hb : BM.foot C ro m b) : b < w.heap.size := by
 rcases hb with hb | ⟨i, hb⟩ | hb
 · exact C.lt _ _ _ h.core hb
 · cases ho : m.box i b with
   | none => exact absurd ho hb
   | some o => exact heap_lt (h.box i b o ho)
 · cases ho : ro b with
   | none => exact absurd ho hb
   | some o => exact heap_lt (h.rod b o ho)
theorem BRep.frame (h : BRep C ro m w) (hs : ∀ b, BM.foot C ro m b → w'.heap[b]? = w.heap[b]?) : BRep C ro m w' :=
 ⟨C.frame _ _ _ h.core fun b hb => hs b (.inl hb), fun i b o hb => (hs b (.inr (.inl ⟨i, by rw [hb]; simp⟩))).trans (h.box i b o hb), fun b o hb => (hs b (.inr (.inr (by rw [hb]; simp)))).trans (h.rod b o hb), h.apart, h.own, h.rol, h.rob⟩
theorem BRep.re (h : BRep C ro m w) (τ : Nat → Question → Nat) (d : Nat) : BRep C ro m (re w τ d) := h.frame fun _ _ => rfl
theorem Moved.done (h : BRep C ro m w) (k : Moved C m.l (m.box i) w l' B' w') : BRep C ro (m.put i l' B') w' := by
 have hb : ∀ j b, m.box j b ≠ none → b < w.heap.size := fun j b hb => h.lt (.inr (.inl ⟨j, hb⟩))
 have hr : ∀ b, ro b ≠ none → b < w.heap.size := fun b hb => h.lt (.inr (.inr hb))
 refine ⟨k.rep, fun j b o hj => ?_, fun b o hb' => ?_, fun j b hj => ?_, fun j1 j2 b hne h1 => ?_, fun b hb' hf => ?_, fun j b hb' => ?_⟩
 · by_cases e : j = i
   · subst e
     rw [BM.put_box] at hj
     exact k.box b o hj
   · rw [BM.put_other _ _ _ e] at hj
     have hn : m.box j b ≠ none := by rw [hj]; simp
     rw [k.old b (hb j b hn) (h.apart j b hn) (h.own j i b e hn)]
     exact h.box j b o hj
 · have hn : ro b ≠ none := by rw [hb']; simp
   rw [k.old b (hr b hn) (h.rol b hn) (h.rob i b hn)]
   exact h.rod b o hb'
 · by_cases e : j = i
   · subst e
     rw [BM.put_box] at hj
     exact fun hf => hj (k.apart b hf)
   · rw [BM.put_other _ _ _ e] at hj
     exact fun hf => (k.growl b hf).elim (h.apart j b hj) (fun x => x.elim (fun y => hj (h.own i j b (fun z => e z.symm) y)) (fun x => absurd (hb j b hj) (Nat.not_lt_of_le x)))
 · by_cases e1 : j1 = i
   · subst e1
     rw [BM.put_box] at h1
     rw [BM.put_other _ _ _ (Ne.symm hne)]
     rcases k.growb b h1 with h2 | h2
     · exact h.own _ _ b hne h2
     · exact Classical.byContradiction fun h3 => absurd (hb j2 b h3) (Nat.not_lt_of_le h2)
   · rw [BM.put_other _ _ _ e1] at h1
     by_cases e2 : j2 = i
     · subst e2
       rw [BM.put_box]
       refine Classical.byContradiction fun h3 => ?_
       rcases k.growb b h3 with h2 | h2
       · exact h2 (h.own _ _ b hne h1)
       · exact absurd (hb j1 b h1) (Nat.not_lt_of_le h2)
     · rw [BM.put_other _ _ _ e2]
       exact h.own _ _ b hne h1
 · exact (k.growl b hf).elim (h.rol b hb') (fun x => x.elim (fun y => y (h.rob i b hb')) (fun x => absurd (hr b hb') (Nat.not_lt_of_le x)))
 · by_cases e : j = i
   · subst e
     rw [BM.put_box]
     refine Classical.byContradiction fun h3 => ?_
     rcases k.growb b h3 with h2 | h2
     · exact h2 (h.rob j b hb')
     · exact absurd (hr b hb') (Nat.not_lt_of_le h2)
   · rw [BM.put_other _ _ _ e]
     exact h.rob j b hb'
theorem Moved.foot_old (h : BRep C ro m w) (k : Moved C m.l (m.box i) w l' B' w') : ∀ b, b < w.heap.size → ¬ BM.foot C ro m b → w'.heap[b]? = w.heap[b]? := fun b hb hf =>
 k.old b hb (fun x => hf (.inl x)) (Classical.byContradiction fun x => hf (.inr (.inl ⟨i, x⟩)))
theorem Moved.foot_grow (k : Moved C m.l (m.box i) w l' B' w') : ∀ b, BM.foot C ro (m.put i l' B') b → BM.foot C ro m b ∨ w.heap.size ≤ b := by
 rintro b (hb | ⟨j, hb⟩ | hb)
 · exact (k.growl b hb).elim (fun x => .inl (.inl x)) (fun x => x.elim (fun y => .inl (.inr (.inl ⟨i, y⟩))) .inr)
 · by_cases e : j = i
   · subst e
     rw [BM.put_box] at hb
     exact (k.growb b hb).imp (fun x => .inr (.inl ⟨j, x⟩)) id
   · rw [BM.put_other _ _ _ e] at hb
     exact .inl (.inr (.inl ⟨j, hb⟩))
 · exact .inl (.inr (.inr hb))
theorem Moved.ext (h : BRep C ro m w) (e : Ext w w') : Moved C m.l (m.box i) w m.l (m.box i) w' :=
 ⟨e.size, fun b hb _ _ => e.old b hb, C.frame _ _ _ h.core fun b hb => e.old b (C.lt _ _ _ h.core hb), fun b o hb => e.heap (h.box i b o hb), fun b hb => .inl hb, fun b hb => .inl hb,
  fun b hb => Classical.byContradiction fun x => h.apart i b x hb, rfl⟩
theorem Moved.re {l : Ml} {B : Nat → Option Obj} (k : Moved C l B w l' B' w') (τ : Nat → Question → Nat) (d : Nat) : Moved C l B w l' B' (re w' τ d) :=
 ⟨k.size, k.old, C.frame _ _ _ k.rep fun _ _ => rfl, k.box, k.growl, k.growb, k.apart, k.pin⟩
end
structure OwnRep (ro B : Nat → Option Obj) (w : World) : Prop where
 box : ∀ b o, B b = some o → w.heap[b]? = some o
 rod : ∀ b o, ro b = some o → w.heap[b]? = some o
 rob : ∀ b, ro b ≠ none → B b = none
structure OMoved (B : Nat → Option Obj) (w : World) (B' : Nat → Option Obj) (w' : World) : Prop where
 size : w.heap.size ≤ w'.heap.size
 one : w'.heap.size ≤ w.heap.size + 1
 old : ∀ b, b < w.heap.size → B b = none → w'.heap[b]? = w.heap[b]?
 box : ∀ b o, B' b = some o → w'.heap[b]? = some o
 grow : ∀ b, B' b ≠ none → B b ≠ none ∨ w.heap.size ≤ b
structure Ext1 (w w' : World) : Prop extends Ext w w' where
 one : w'.heap.size ≤ w.heap.size + 1
theorem Ext1.refl (w : World) : Ext1 w w := ⟨Ext.refl w, Nat.le_succ _⟩
theorem Ext1.re (w : World) (τ : Nat → Question → Nat) (d : Nat) : Ext1 w (re w τ d) := ⟨Ext.re w τ d, Nat.le_succ _⟩
theorem Ext1.alloc (w : World) (o : Obj) : Ext1 w (w.alloc o) := ⟨Ext.alloc w o, by show (w.heap.push o).size ≤ _; simp⟩
section
variable {Ml S : Type} {C : Core Ml S} {ro B : Nat → Option Obj} {i : Nat} {m : BM Ml} {w w' : World} {B' : Nat → Option Obj}
theorem BRep.own' (h : BRep C ro m w) : OwnRep ro (m.box i) w := ⟨h.box i, h.rod, h.rob i⟩
theorem OwnRep.lt (h : OwnRep ro B w) {b : Nat} (hb : B b ≠ none) : b < w.heap.size := by
 cases ho : B b with
 | none => exact absurd ho hb
 | some o => exact heap_lt (h.box b o ho)
theorem OMoved.ext (h : OwnRep ro B w) (e : Ext1 w w') : OMoved B w B w' := ⟨e.size, e.one, fun b hb _ => e.old b hb, fun b o hb => e.heap (h.box b o hb), fun b hb => .inl hb⟩
theorem OMoved.moved (h : BRep C ro m w) (k : OMoved (m.box i) w B' w') : Moved C m.l (m.box i) w m.l B' w' := by
 have hbx : ∀ b, C.foot m.l b → m.box i b = none := fun b hb => Classical.byContradiction fun x => h.apart i b x hb
 have hlt : ∀ b, C.foot m.l b → b < w.heap.size := fun b hb => C.lt _ _ _ h.core hb
 exact ⟨k.size, fun b hb' _ hn => k.old b hb' hn, C.frame _ _ _ h.core fun b hb' => k.old b (hlt b hb') (hbx b hb'), k.box, fun b hb' => .inl hb', k.grow, fun b hb' => Classical.byContradiction fun x => (k.grow b x).elim (fun y => y (hbx b hb')) (fun y => absurd (hlt b hb') (Nat.not_lt_of_le y)), rfl⟩
end
def Proc.tick {S : Type} : Proc S Unit := Proc.then (Proc.ret ())
structure YSys (P : Program) (A : FuncId → Bool) {Ml S : Type} (C : Core Ml S) (ro : Nat → Option Obj) (i : Nat) (β : Type) where
 main : Bool
 γ : Type
 J : γ → Goroutine → World → Prop
 jc : JC P main J
 At : γ → BM Ml → World → Proc S β → Prop
 Dead : γ → List PanicEntry → World → Prop
 Kn : BM Ml → World → Prop
 sil : Proc S β → Prop
 kn : ∀ {m w}, Kn m w → OwnRep ro (m.box i) w
 sil_tick : ∀ K : Unit → Proc S β, sil (Proc.tick.bind K)
 drop : ∀ {s m w p B'}, At s m w p → (∀ b o, B' b = some o → m.box i b = some o) → At s (m.put i m.l B') w p
 item : ∀ {s m w p} {it : Item} {t : Array Value} {ds : List Deferred} (Φ Ψ : Array Value → (Nat → Option Obj) → Prop), At s m w p → okItem P A it = true →
  (∀ wc, Kn m wc → wpItem P it (ends (fun a w' => ∃ B', OMoved (m.box i) wc B' w' ∧ Φ a.tmps B') (fun a w' => ∃ B', OMoved (m.box i) wc B' w' ∧ Ψ a.tmps B')) ⟨t, []⟩ wc) →
  wpI J it (fun s' e a w' => s' = s ∧ a.defers = ds ∧ ∃ m', ((e = .normal ∧ Φ a.tmps (m'.box i)) ∨ (e = .ret ∧ Ψ a.tmps (m'.box i))) ∧ At s m' w' p) s ⟨t, ds⟩ w
 pre : ∀ {s m w p} {ops : Array Oper} {todo rest : List Nat} {t : Array Value} {ds : List Deferred} {Q : γ → Exit → Act → World → Prop} (k n q : Nat) (Φ : Array Value → (Nat → Option Obj) → Prop), At s m w p →
  k + n + q = ops.size → todo = List.range' k (n + q) → rest = List.range' (k + n) q → chk P (fun _ => false) true ops k n = true →
  (∀ wc, Kn m wc → ∀ X : Exit → Act → World → Prop, (∀ t' B' w', OMoved (m.box i) wc B' w' → Φ t' B' → X .normal ⟨t', ds⟩ w') → wpList P ops X ((ops.toList.drop k).take n) ⟨t, ds⟩ wc) →
  (∀ t' m' w', Φ t' (m'.box i) → At s m' w' p → opsJ J ops rest Q s ⟨t', ds⟩ w') → opsJ J ops todo Q s ⟨t, ds⟩ w
 call : ∀ {s m w p} {f : FuncId} {fn : Func} {c : Code} {args : Array Value} (R : Value → (Nat → Option Obj) → Prop), At s m w p → P.funcs[f]? = some fn → fn.body = some c → okCode P A c = true →
  (∀ wc, Kn m wc → Calls P f args wc (onlyRet fun v w' => ∃ B', OMoved (m.box i) wc B' w' ∧ R v B')) →
  CallsJ P J f args (fun s' e w' => s' = s ∧ ∃ v m', e = .returned v ∧ R v (m'.box i) ∧ At s m' w' p) s w
 leave : ∀ {s m w p} {b cl : Frame} {cs : List Frame} {todo : List Item} {a : Act} {fn : Func} {v : Value}, At s m w p → P.funcs[b.fn]? = some fn → b.kind = .normal → a.defers = [] → (∀ wc, Kn m wc → (results fn a.tmps).run P wc = .ok v wc) →
  (∀ m' w', m'.box i = m.box i → At s m' w' p → J s (G (cl.finish v) cs) w') → J s (G { b.at a todo with mode := .returning } (cl :: cs)) w
section
variable {P : Program} {A : FuncId → Bool} {Ml S β α : Type} {C : Core Ml S} {ro : Nat → Option Obj} {i : Nat}
def YSys.Bd (Y : YSys P A C ro i β) (fn : Func) (Post : Y.γ → Ending → World → Prop) (s : Y.γ) (a : Act) (w : World) : Prop :=
 a.defers = [] ∧ ((∃ v, ResultsC P fn a.tmps v ∧ Post s (.returned v) w) ∨ ∃ m p v, Y.At s m w p ∧ (∀ wc, Y.Kn m wc → (results fn a.tmps).run P wc = .ok v wc) ∧ ∀ m' w', m'.box i = m.box i → Y.At s m' w' p → Post s (.returned v) w')
def BodyY (Y : YSys P A C ro i β) (f : FuncId) (args : Array Value) (Post : Y.γ → Ending → World → Prop) (s : Y.γ) (w : World) : Prop :=
 ∃ fn c, P.funcs[f]? = some fn ∧ fn.body = some c ∧ wpJ Y.J c (bodyC (Y.Bd fn Post) Post) s (enterAct fn args) w
def PostY (Y : YSys P A C ro i β) (K : α → Proc S β) (val : α → Value) (B : Nat → Option Obj) (s : Y.γ) : Ending → World → Prop
 | .returned v, w => ∃ a m, v = val a ∧ m.box i = B ∧ Y.At s m w (K a)
 | .panicked ch, w => Y.Dead s ch w
 | .outgrown, _ => False
def SpecY (Y : YSys P A C ro i β) (f : FuncId) (args : Array Value) (p : Proc S α) (val : α → Value) : Prop :=
 ∀ (K : α → Proc S β) (s : Y.γ) (m : BM Ml) (w : World), (∀ a, Y.sil (K a)) → Y.At s m w (p.bind K) → CallsJ P Y.J f args (PostY Y K val (m.box i)) s w
def SpecB (Y : YSys P A C ro i β) (f : FuncId) (args : Array Value) (p : Proc S α) (val : α → Value) : Prop :=
 ∀ (K : α → Proc S β) (s : Y.γ) (m : BM Ml) (w : World), (∀ a, Y.sil (K a)) → Y.At s m w (p.bind K) → BodyY Y f args (PostY Y K val (m.box i)) s w
def StepY (Y : YSys P A C ro i β) (f : FuncId) (args : Array Value) : Prop :=
 ∀ (K : Unit → Proc S β) (s : Y.γ) (m : BM Ml) (w : World), Y.At s m w (Proc.tick.bind K) → CallsJ P Y.J f args (PostY Y K (fun _ => .tuple #[]) (m.box i)) s w
theorem BodyY.calls {Y : YSys P A C ro i β} {f : FuncId} {args : Array Value} {Post : Y.γ → Ending → World → Prop} {s : Y.γ} {w : World} (h : BodyY Y f args Post s w) : CallsJ P Y.J f args Post s w := by
 obtain ⟨fn, c, h1, h2, h3⟩ := h
 refine callsC_of_wp Y.jc h1 h2 ?_ h3
 rintro s a w b cl cs todo ⟨hd, (⟨v, k1, k2⟩ | ⟨m, p, v, k1, k2, k3⟩)⟩ rfl hk hP
 · exact Y.jc.ctl (fun w => stepG_leave hk hd h1 (k1 w).1 (k1 w).2) (hP _ _ _ k2)
 · exact Y.leave k1 h1 hk hd k2 fun m' w' e hA => hP _ _ _ (k3 m' w' e hA)
theorem SpecB.spec {Y : YSys P A C ro i β} {f : FuncId} {args : Array Value} {p : Proc S α} {val : α → Value} (h : SpecB Y f args p val) : SpecY Y f args p val := fun K s m w hK hA => (h K s m w hK hA).calls
end
structure Alone (P : Program) (A : FuncId → Bool) {Ml S : Type} (C : Core Ml S) (ro : Nat → Option Obj) (i : Nat) (β : Type) where
 main : Bool
 γ : Type
 J : γ → Goroutine → World → Prop
 js : ∀ s, ∃ Kc, JS P main Kc (fun (_ : Unit) => J s)
 AtE : γ → BM Ml → World → S × Tree S β → Prop
 Dead : γ → List PanicEntry → World → Prop
 Oth : S → S → Prop
 oth : ∀ s, Oth s s
 rep : ∀ {s m w r}, AtE s m w r → BRep C ro m w
 move : ∀ {s m w r l' B' w'}, AtE s m w r → Moved C m.l (m.box i) w l' B' w' → Oth (C.st m.l) (C.st l') → AtE s (m.put i l' B') w' r
 item : ∀ {s m w r} {it : Item} {t : Array Value} {ds : List Deferred} (Φ Ψ : Array Value → Ml → (Nat → Option Obj) → Prop), AtE s m w r → okItem P A it = true →
  (∀ wc, BRep C ro m wc → wc.heap.size = w.heap.size → wpItem P it (ends (fun a w' => ∃ l' B', (Moved C m.l (m.box i) wc l' B' w' ∧ Oth (C.st m.l) (C.st l')) ∧ Φ a.tmps l' B') (fun a w' => ∃ l' B', (Moved C m.l (m.box i) wc l' B' w' ∧ Oth (C.st m.l) (C.st l')) ∧ Ψ a.tmps l' B')) ⟨t, []⟩ wc) →
  wpI J it (fun s' e a w' => s' = s ∧ a.defers = ds ∧ ∃ l' B', ((e = .normal ∧ Φ a.tmps l' B') ∨ (e = .ret ∧ Ψ a.tmps l' B')) ∧ AtE s (m.put i l' B') w' r) s ⟨t, ds⟩ w
 call : ∀ {s m w r} {f : FuncId} {fn : Func} {c : Code} {args : Array Value} (R : Value → Ml → (Nat → Option Obj) → Prop), AtE s m w r → P.funcs[f]? = some fn → fn.body = some c → okCode P A c = true →
  (∀ wc, BRep C ro m wc → wc.heap.size = w.heap.size → Calls P f args wc (onlyRet fun v w' => ∃ l' B', (Moved C m.l (m.box i) wc l' B' w' ∧ Oth (C.st m.l) (C.st l')) ∧ R v l' B')) →
  CallsJ P J f args (fun s' e w' => s' = s ∧ ∃ v l' B', e = .returned v ∧ R v l' B' ∧ AtE s (m.put i l' B') w' r) s w
section
variable {P : Program} {A : FuncId → Bool} {Ml S β α : Type} {C : Core Ml S} {ro : Nat → Option Obj} {i : Nat}
def Alone.sys (Z : Alone P A C ro i β) (I : S → Prop) : YSys P A C ro i β where
 main := Z.main
 γ := Z.γ
 J := Z.J
 jc := .of_js Z.js
 At s m w p := Z.AtE s m w (p (C.st m.l)) ∧ I (C.st m.l)
 Dead := Z.Dead
 Kn m w := BRep C ro m w
 sil _ := True
 kn h := h.own'
 sil_tick _ := trivial
 drop {s m w p B'} h hB := ⟨Z.move h.1 ⟨Nat.le_refl _, fun _ _ _ _ => rfl, (Z.rep h.1).core, fun b o hb => (Z.rep h.1).box i b o (hB b o hb), fun b hb => .inl hb, fun b hb => .inl (by
  cases ho : B' b with
  | none => exact absurd ho hb
  | some o => rw [hB b o ho]; simp), fun b hb => Classical.byContradiction fun x => (Z.rep h.1).apart i b (by
  cases ho : B' b with
  | none => exact absurd ho x
  | some o => rw [hB b o ho]; simp) hb, rfl⟩ (Z.oth _), h.2⟩
 item {s m w p it t ds} Φ Ψ h hok hw := by
  intro b k cs hb hk
  refine Z.item (fun t l' B' => l' = m.l ∧ Φ t B') (fun t l' B' => l' = m.l ∧ Ψ t B') h.1 hok (fun wc hB _ => wpItem_mono (hw wc hB) fun e a w' q => ?_) b k cs hb ?_
  · cases e with
    | normal => obtain ⟨q1, B', q2, q3⟩ := q; exact ⟨q1, m.l, B', ⟨q2.moved hB, Z.oth _⟩, rfl, q3⟩
    | ret => obtain ⟨q1, B', q2, q3⟩ := q; exact ⟨q1, m.l, B', ⟨q2.moved hB, Z.oth _⟩, rfl, q3⟩
    | _ => exact q
  · rintro s' e a w' ⟨rfl, hd, l', B', hh, hA⟩
    refine hk s' e a w' ⟨rfl, hd, m.put i l' B', ?_, ?_⟩
    · rw [BM.put_box]
      exact hh.imp (fun x => ⟨x.1, x.2.2⟩) (fun x => ⟨x.1, x.2.2⟩)
    · have e : l' = m.l := hh.elim (·.2.1) (·.2.1)
      subst e
      exact ⟨hA, h.2⟩
 pre {s m w p ops todo rest t ds Q} k n q Φ h hsz ht hr hc hw hrest := by
  intro b kk cs hb hQ
  obtain ⟨Kc, hJ⟩ := Z.js s
  refine at_piece (J := fun (_ : Unit) => Z.J s) (s := ()) hb hJ (zqe P) true (.inl rfl) k n q hsz ht hr hc fun τ d => ?_
  refine hw (Car.re w τ d) ((Z.rep h.1).re τ d) _ fun t' B' w' k1 k2 => ?_
  have k1' : Moved C m.l (m.box i) w m.l B' w' := by
   have := k1.moved ((Z.rep h.1).re τ d)
   exact ⟨this.size, this.old, this.rep, this.box, this.growl, this.growb, this.apart, this.pin⟩
  refine hrest t' (m.put i m.l B') w' (by rw [BM.put_box]; exact k2) ⟨Z.move h.1 k1' (Z.oth _), h.2⟩ b kk cs hb hQ
 call {s m w p f fn c args} R h hf hb hok hw := by
  intro cl cs h1 h2
  refine Z.call (fun v l' B' => l' = m.l ∧ R v B') h.1 hf hb hok (fun wc hB _ => Calls.mono (hw wc hB) fun e w' q => ?_) cl cs ?_ ?_
  · cases e with
    | returned v => obtain ⟨B', k1, k2⟩ := q; exact ⟨m.l, B', ⟨k1.moved hB, Z.oth _⟩, rfl, k2⟩
    | _ => exact q
  · rintro s' v w' ⟨rfl, v', l', B', e, ⟨rfl, k⟩, hA⟩
    exact h1 _ v w' ⟨rfl, v', m.put i m.l B', e, by rw [BM.put_box]; exact k, hA, h.2⟩
  · rintro s' ch w' ⟨_, _, _, _, e, _⟩
    cases e
 leave {s m w p b cl cs todo a fn v} h hf hk hd hr hP := by
  obtain ⟨Kc, hJ⟩ := Z.js s
  exact leaveJ (J := fun (_ : Unit) => Z.J s) (s := ()) hJ hk hd hf (fun τ d => hr _ ((Z.rep h.1).re τ d)) (hP m w rfl h)
theorem Alone.act (Z : Alone P A C ro i β) {I : S → Prop} {f : FuncId} {fn : Func} {c : Code} {args : Array Value} {g : S → S × α} {val : α → Value} (hf : P.funcs[f]? = some fn) (hb : fn.body = some c) (hok : okCode P A c = true) (hI : ∀ s, I s → I (g s).1) (hO : ∀ s, Z.Oth s (g s).1)
 (h : ∀ m wc, BRep C ro m wc → Calls P f args wc (onlyRet fun v w' => ∃ l', Moved C m.l (m.box i) wc l' (m.box i) w' ∧ C.st l' = (g (C.st m.l)).1 ∧ v = val (g (C.st m.l)).2)) : SpecY (Z.sys I) f args (Proc.act g) val := by
 rintro K s m w _ ⟨hA, hAI⟩ cl cs h1 h2
 refine Z.call (fun v l' B' => B' = m.box i ∧ C.st l' = (g (C.st m.l)).1 ∧ v = val (g (C.st m.l)).2) hA hf hb hok (fun wc hB _ => Calls.mono (h m wc hB) fun e w' q => ?_) cl cs ?_ ?_
 · cases e with
   | returned v => obtain ⟨l', k1, k2, k3⟩ := q; exact ⟨l', m.box i, ⟨k1, by rw [k2]; exact hO _⟩, rfl, k2, k3⟩
   | _ => exact q
 · rintro s' v w' ⟨rfl, v', l', B', e, ⟨rfl, k1, rfl⟩, hA'⟩
   cases e
   refine h1 _ _ _ ⟨_, m.put i l' (m.box i), rfl, BM.put_box _ _ _ _, ?_, ?_⟩
   · rw [BM.put_l, k1]
     exact hA'
   · rw [BM.put_l, k1]
     exact hI _ hAI
 · rintro s' ch w' ⟨_, _, _, _, e, _⟩
   cases e
theorem Alone.actS (Z : Alone P A C ro i β) {I I' : S → Prop} {x : Code} {g : S → S × α} {K : α → Proc S β} {s : Z.γ} {m : BM Ml} {w : World} {t : Array Value} {ds : List Deferred} {Q : Z.γ → Exit → Act → World → Prop} (Φ : Array Value → (Nat → Option Obj) → Prop) (h : (Z.sys I).At s m w ((Proc.act g).bind K)) (hok : okCode P A x = true)
 (hI : ∀ s, I s → I' (g s).1) (hO : ∀ s, Z.Oth s (g s).1)
 (hx : ∀ wc, BRep C ro m wc → I (C.st m.l) → ∀ X : Act → World → Prop, (∀ t l' B' w', Moved C m.l (m.box i) wc l' B' w' → C.st l' = (g (C.st m.l)).1 → Φ t B' → X ⟨t, []⟩ w') → Code.wp P x (ends X (fun _ _ => False)) ⟨t, []⟩ wc)
 (hy : ∀ t' m' w', Φ t' (m'.box i) → (Z.sys I').At s m' w' (K (g (C.st m.l)).2) → Q s .normal ⟨t', ds⟩ w') : wpJ Z.J x Q s ⟨t, ds⟩ w := by
 intro b k cs hb hk
 refine Z.item (it := .code x) (ds := ds) (fun t l' B' => C.st l' = (g (C.st m.l)).1 ∧ Φ t B') (fun _ _ _ => False) h.1 hok (fun wc hB _ => wpItem_mono (wpItem_code (hx wc hB h.2 (fun a w' => ∃ l' B', (Moved C m.l (m.box i) wc l' B' w' ∧ Z.Oth (C.st m.l) (C.st l')) ∧ C.st l' = (g (C.st m.l)).1 ∧ Φ a.tmps B') fun t l' B' w' k1 k2 k3 => ⟨l', B', ⟨k1, by rw [k2]; exact hO _⟩, k2, k3⟩)) fun e a w' q => ?_) b k cs hb ?_
 · cases e with
   | normal => exact q
   | ret => exact q.2.elim
   | _ => exact q
 · rintro s' e a w' ⟨rfl, hd, l', B', (⟨rfl, h1, h2⟩ | ⟨_, h1⟩), hA⟩
   · obtain ⟨tt, dd⟩ := a
     simp only at h2 hd
     subst hd
     refine hk _ .normal _ _ (hy tt (m.put i l' B') w' (by rw [BM.put_box]; exact h2) ⟨?_, ?_⟩)
     · rw [BM.put_l, h1]
       exact hA
     · rw [BM.put_l, h1]
       exact hI _ h.2
   · exact h1.elim
end
section
variable {M1 S1 M2 S2 : Type} {C : Core M1 S1} {D : Core M2 S2} {ro : Nat → Option Obj} {i : Nat}
def prodCore (C : Core M1 S1) (D : Core M2 S2) : Core (M1 × M2) (S1 × S2) where
 foot l b := C.foot l.1 b ∨ D.foot l.2 b
 Rep l w := C.Rep l.1 w ∧ D.Rep l.2 w ∧ ∀ b, C.foot l.1 b → ¬ D.foot l.2 b
 st l := (C.st l.1, D.st l.2)
 frame l w w' h hs := ⟨C.frame _ _ _ h.1 fun b hb => hs b (.inl hb), D.frame _ _ _ h.2.1 fun b hb => hs b (.inr hb), h.2.2⟩
 lt l w b h hb := hb.elim (C.lt _ _ _ h.1) (D.lt _ _ _ h.2.1)
 pin l := D.pin l.2
theorem Moved.left {m : BM (M1 × M2)} {w w' : World} {l1' : M1} {B' : Nat → Option Obj} (h : BRep (prodCore C D) ro m w) (k : Moved C m.l.1 (m.box i) w l1' B' w') : Moved (prodCore C D) m.l (m.box i) w (l1', m.l.2) B' w' := by
 have hlt : ∀ b, D.foot m.l.2 b → b < w.heap.size := fun b hb => D.lt _ _ _ h.core.2.1 hb
 have hbx : ∀ b, D.foot m.l.2 b → m.box i b = none := fun b hb => Classical.byContradiction fun x => h.apart i b x (.inr hb)
 refine ⟨k.size, fun b hb hf hn => k.old b hb (fun x => hf (.inl x)) hn, ⟨k.rep, D.frame _ _ _ h.core.2.1 fun b hb => k.old b (hlt b hb) (fun x => h.core.2.2 b x hb) (hbx b hb), fun b hb hd => ?_⟩, k.box, fun b hb => ?_, k.growb, fun b hb => ?_, rfl⟩
 · exact (k.growl b hb).elim (fun x => h.core.2.2 b x hd) (fun x => x.elim (fun y => y (hbx b hd)) (fun x => absurd (hlt b hd) (Nat.not_lt_of_le x)))
 · exact hb.elim (fun x => (k.growl b x).imp .inl id) (fun x => .inl (.inr x))
 · refine hb.elim (k.apart b) fun x => Classical.byContradiction fun y => ?_
   exact (k.growb b y).elim (fun z => z (hbx b x)) (fun z => absurd (hlt b x) (Nat.not_lt_of_le z))
end
def YSys.AtB {P : Program} {A : FuncId → Bool} {Ml S β : Type} {C : Core Ml S} {ro : Nat → Option Obj} {i : Nat} (Y : YSys P A C ro i β) (B : Nat → Option Obj) (s : Y.γ) (w : World) (p : Proc S β) : Prop := ∃ m, m.box i = B ∧ Y.At s m w p
def YSys.KnB {P : Program} {A : FuncId → Bool} {Ml S β : Type} {C : Core Ml S} {ro : Nat → Option Obj} {i : Nat} (Y : YSys P A C ro i β) (B : Nat → Option Obj) (w : World) : Prop := ∃ m, m.box i = B ∧ Y.Kn m w
section
variable {P : Program} {A : FuncId → Bool} {Ml S β α : Type} {C : Core Ml S} {ro : Nat → Option Obj} {i : Nat} {Y : YSys P A C ro i β} {B : Nat → Option Obj}
variable {Q : Y.γ → Exit → Act → World → Prop} {s : Y.γ} {w : World} {p : Proc S β} {t : Array Value} {ds : List Deferred}
theorem YSys.KnB.own {wc : World} (h : Y.KnB B wc) : OwnRep ro B wc := by
 obtain ⟨m, rfl, h⟩ := h
 exact Y.kn h
theorem YSys.AtB.drop {B' : Nat → Option Obj} (h : Y.AtB B s w p) (hB : ∀ b o, B' b = some o → B b = some o) : Y.AtB B' s w p := by
 obtain ⟨m, rfl, h⟩ := h
 exact ⟨_, BM.put_box _ _ _ _, Y.drop h hB⟩
theorem YSys.itemX {it : Item} (Φ Ψ : Array Value → (Nat → Option Obj) → Prop) (h : Y.AtB B s w p) (hok : okItem P A it = true)
 (hx : ∀ wc, Y.KnB B wc → ∀ X R : Act → World → Prop, (∀ t B' w', OMoved B wc B' w' → Φ t B' → X ⟨t, []⟩ w') → (∀ t B' w', OMoved B wc B' w' → Ψ t B' → R ⟨t, []⟩ w') → wpItem P it (ends X R) ⟨t, []⟩ wc) :
 wpI Y.J it (fun s' e a w' => s' = s ∧ a.defers = ds ∧ ∃ B', ((e = .normal ∧ Φ a.tmps B') ∨ (e = .ret ∧ Ψ a.tmps B')) ∧ Y.AtB B' s w' p) s ⟨t, ds⟩ w := by
 obtain ⟨m, rfl, h⟩ := h
 intro b k cs hb hk
 refine Y.item (ds := ds) Φ Ψ h hok (fun wc hB => hx wc ⟨m, rfl, hB⟩ _ _ (fun t B' w' k1 k2 => ⟨B', k1, k2⟩) (fun t B' w' k1 k2 => ⟨B', k1, k2⟩)) b k cs hb ?_
 rintro s' e a w' ⟨rfl, hd, m', hh, hA⟩
 exact hk s' e a w' ⟨rfl, hd, m'.box i, hh, m', rfl, hA⟩
theorem YSys.codeX {x : Code} (Φ : Array Value → (Nat → Option Obj) → Prop) (h : Y.AtB B s w p) (hok : okCode P A x = true)
 (hx : ∀ wc, Y.KnB B wc → ∀ X : Act → World → Prop, (∀ t B' w', OMoved B wc B' w' → Φ t B' → X ⟨t, []⟩ w') → Code.wp P x (ends X (fun _ _ => False)) ⟨t, []⟩ wc)
 (hy : ∀ t' B' w', Φ t' B' → Y.AtB B' s w' p → Q s .normal ⟨t', ds⟩ w') : wpJ Y.J x Q s ⟨t, ds⟩ w := by
 intro b k cs hb hk
 refine Y.itemX (it := .code x) (ds := ds) Φ (fun _ _ => False) h hok (fun wc hB X R hX _ => wpItem_mono (wpItem_code (hx wc hB X hX)) fun e a w' q => ?_) b k cs hb ?_
 · cases e with
   | normal => exact q
   | ret => exact q.2.elim
   | _ => exact q
 · rintro s' e a w' ⟨rfl, hd, B', (⟨rfl, h1⟩ | ⟨_, h1⟩), hA⟩
   · obtain ⟨tt, dd⟩ := a
     simp only at h1 hd
     subst hd
     exact hk _ .normal _ _ (hy tt B' w' h1 hA)
   · exact h1.elim
theorem YSys.seqX {x y : Code} (Φ : Array Value → (Nat → Option Obj) → Prop) (h : Y.AtB B s w p) (hok : okCode P A x = true)
 (hx : ∀ wc, Y.KnB B wc → ∀ X : Act → World → Prop, (∀ t B' w', OMoved B wc B' w' → Φ t B' → X ⟨t, []⟩ w') → Code.wp P x (ends X (fun _ _ => False)) ⟨t, []⟩ wc)
 (hy : ∀ t' B' w', Φ t' B' → Y.AtB B' s w' p → wpJ Y.J y Q s ⟨t', ds⟩ w') : wpJ Y.J (.seq x y) Q s ⟨t, ds⟩ w := by
 refine wpY_seq Y.jc ?_
 exact Y.codeX Φ h hok hx hy
theorem YSys.code0 {x : Code} {t' : Array Value} (h : Y.AtB B s w p) (hok : okCode P A x = true)
 (hx : ∀ wc, Y.KnB B wc → Code.wp P x (ends (fun a w' => Ext1 wc w' ∧ a.tmps = t') (fun _ _ => False)) ⟨t, []⟩ wc)
 (hy : ∀ w', Y.AtB B s w' p → Q s .normal ⟨t', ds⟩ w') : wpJ Y.J x Q s ⟨t, ds⟩ w := by
 refine Y.codeX (fun t B' => t = t' ∧ B' = B) h hok (fun wc hB X hX => Code.wp_mono (fun e a w' q => ?_) (hx wc hB)) ?_
 · cases e with
   | normal =>
    obtain ⟨q0, q1, q2⟩ := q
    obtain ⟨tt, dd⟩ := a
    simp only at q0 q2
    subst q0 q2
    exact ⟨rfl, hX _ _ _ (OMoved.ext hB.own q1) ⟨rfl, rfl⟩⟩
   | ret => exact q.2.elim
   | _ => exact q
 · rintro _ _ w' ⟨rfl, rfl⟩ hA
   exact hy w' hA
theorem YSys.seq0 {x y : Code} {t' : Array Value} (h : Y.AtB B s w p) (hok : okCode P A x = true)
 (hx : ∀ wc, Y.KnB B wc → Code.wp P x (ends (fun a w' => Ext1 wc w' ∧ a.tmps = t') (fun _ _ => False)) ⟨t, []⟩ wc)
 (hy : ∀ w', Y.AtB B s w' p → wpJ Y.J y Q s ⟨t', ds⟩ w') : wpJ Y.J (.seq x y) Q s ⟨t, ds⟩ w := by
 refine wpY_seq Y.jc ?_
 exact Y.code0 h hok hx hy
theorem YSys.opsX {ops : Array Oper} {todo : List Nat} (k n : Nat) (Φ : Array Value → (Nat → Option Obj) → Prop) (h : Y.AtB B s w p) (hsz : k + n = ops.size) (ht : todo = List.range' k n) (hok : okItem P A (.inRegion ops todo) = true)
 (hx : ∀ wc, Y.KnB B wc → ∀ X : Act → World → Prop, (∀ t B' w', OMoved B wc B' w' → Φ t B' → X ⟨t, []⟩ w') → wpList P ops (ends X (fun _ _ => False)) (ops.toList.drop k) ⟨t, []⟩ wc)
 (hy : ∀ t' B' w', Φ t' B' → Y.AtB B' s w' p → Q s .normal ⟨t', ds⟩ w') : opsJ Y.J ops todo Q s ⟨t, ds⟩ w := by
 intro b kk cs hb hk
 refine Y.itemX (it := .inRegion ops todo) (ds := ds) Φ (fun _ _ => False) h hok (fun wc hB X R hX _ => wpItem_mono (wpItem_ops k n hsz ht (hx wc hB X hX)) fun e a w' q => ?_) b kk cs hb ?_
 · cases e with
   | normal => exact q
   | ret => exact q.2.elim
   | _ => exact q
 · rintro s' e a w' ⟨rfl, hd, B', (⟨rfl, h1⟩ | ⟨_, h1⟩), hA⟩
   · obtain ⟨tt, dd⟩ := a
     simp only at h1 hd
     subst hd
     exact hk _ .normal _ _ (hy tt B' w' h1 hA)
   · exact h1.elim
theorem YSys.ops0 {ops : Array Oper} {todo : List Nat} (k n : Nat) {t' : Array Value} (h : Y.AtB B s w p) (hsz : k + n = ops.size) (ht : todo = List.range' k n) (hok : okItem P A (.inRegion ops todo) = true)
 (hx : ∀ wc, Y.KnB B wc → wpList P ops (ends (fun a w' => Ext1 wc w' ∧ a.tmps = t') (fun _ _ => False)) (ops.toList.drop k) ⟨t, []⟩ wc)
 (hy : ∀ w', Y.AtB B s w' p → Q s .normal ⟨t', ds⟩ w') : opsJ Y.J ops todo Q s ⟨t, ds⟩ w := by
 intro b kk cs hb hk
 refine Y.itemX (it := .inRegion ops todo) (ds := ds) (fun t B' => t = t' ∧ B' = B) (fun _ _ => False) h hok (fun wc hB X R hX _ => wpItem_mono (wpItem_ops k n hsz ht (hx wc hB)) fun e a w' q => ?_) b kk cs hb ?_
 · cases e with
   | normal =>
    obtain ⟨q0, q1, q2⟩ := q
    obtain ⟨tt, dd⟩ := a
    simp only at q0 q2
    subst q0 q2
    exact ⟨rfl, hX _ _ _ (OMoved.ext hB.own q1) ⟨rfl, rfl⟩⟩
   | ret => exact q.2.elim
   | _ => exact q
 · rintro s' e a w' ⟨rfl, hd, B', (⟨rfl, h1, rfl⟩ | ⟨_, h1⟩), hA⟩
   · obtain ⟨tt, dd⟩ := a
     simp only at h1 hd
     subst h1 hd
     exact hk _ .normal _ _ (hy w' hA)
   · exact h1.elim
theorem YSys.preX {ops : Array Oper} {todo rest : List Nat} (k n q : Nat) (Φ : Array Value → (Nat → Option Obj) → Prop) (h : Y.AtB B s w p) (hsz : k + n + q = ops.size) (ht : todo = List.range' k (n + q)) (hr : rest = List.range' (k + n) q) (hc : chk P (fun _ => false) true ops k n = true)
 (hx : ∀ wc, Y.KnB B wc → ∀ X : Exit → Act → World → Prop, (∀ t' B' w', OMoved B wc B' w' → Φ t' B' → X .normal ⟨t', ds⟩ w') → wpList P ops X ((ops.toList.drop k).take n) ⟨t, ds⟩ wc)
 (hy : ∀ t' B' w', Φ t' B' → Y.AtB B' s w' p → opsJ Y.J ops rest Q s ⟨t', ds⟩ w') : opsJ Y.J ops todo Q s ⟨t, ds⟩ w := by
 obtain ⟨m, rfl, h⟩ := h
 exact Y.pre k n q Φ h hsz ht hr hc (fun wc hB X hX => hx wc ⟨m, rfl, hB⟩ X hX) fun t' m' w' h1 h2 => hy t' _ w' h1 ⟨m', rfl, h2⟩
theorem YSys.pre0 {ops : Array Oper} {todo rest : List Nat} (k n q : Nat) {t₁ : Array Value} (h : Y.AtB B s w p) (hsz : k + n + q = ops.size) (ht : todo = List.range' k (n + q)) (hr : rest = List.range' (k + n) q) (hc : chk P (fun _ => false) true ops k n = true)
 (hx : ∀ wc, Y.KnB B wc → ∀ X : Exit → Act → World → Prop, (∀ w', Ext1 wc w' → X .normal ⟨t₁, ds⟩ w') → wpList P ops X ((ops.toList.drop k).take n) ⟨t, ds⟩ wc)
 (hy : ∀ w', Y.AtB B s w' p → opsJ Y.J ops rest Q s ⟨t₁, ds⟩ w') : opsJ Y.J ops todo Q s ⟨t, ds⟩ w := by
 refine Y.preX k n q (fun t B' => t = t₁ ∧ B' = B) h hsz ht hr hc (fun wc hB X hX => hx wc hB X fun w' k1 => hX _ _ _ (OMoved.ext hB.own k1) ⟨rfl, rfl⟩) ?_
 rintro _ _ w' ⟨rfl, rfl⟩ hA
 exact hy w' hA
theorem YSys.callO {ops : Array Oper} {rest : List Nat} {j : Nat} {o : Oper} {f : FuncId} {args : Array Value} {Post : Y.γ → Ending → World → Prop} {d₀ : Tmp} (hc : CallsJ P Y.J f args Post s w) (ho : ops[j]? = some o) (hg : o.guard = none) (hd₀ : o.dst = some d₀)
 (hrun : ∀ w, (execOp (Act.mk t ds).eval o).run P w = .ok (.enter f args) w) (hev : ∀ w, (execOp (Act.mk t ds).eval o).events P w #[] = #[])
 (hk : ∀ s' e w', Post s' e w' → match e with
  | .returned v => opsJ Y.J ops rest Q s' ⟨t.setIfInBounds d₀ v, ds⟩ w'
  | .panicked ch => Q s' (.panic ch) ⟨t, ds⟩ w'
  | .outgrown => False) : opsJ Y.J ops (j :: rest) Q s ⟨t, ds⟩ w := by
 refine opsC_call Y.jc ho (by simp [Region.wanted, hg]) hrun hev hc ?_
 intro s' e w' hp
 have := hk s' e w' hp
 cases e with
 | returned v => rw [hd₀]; exact this
 | panicked ch => exact this
 | outgrown => exact this
theorem YSys.callR {ops : Array Oper} {todo rest : List Nat} (k n q : Nat) {t₁ : Array Value} {o : Oper} {f : FuncId} {args : Array Value} {pp : Proc S α} {val : α → Value} {K : α → Proc S β} {d₀ : Tmp} (hA : Y.AtB B s w (pp.bind K)) (hspec : SpecY Y f args pp val) (hK : ∀ a, Y.sil (K a))
 (hsz : k + n + (q + 1) = ops.size) (ht : todo = List.range' k (n + (q + 1))) (hr : rest = List.range' (k + n + 1) q) (hc : chk P (fun _ => false) true ops k n = true) (ho : ops[k + n]? = some o) (hg : o.guard = none) (hd₀ : o.dst = some d₀)
 (hpre : ∀ wc, Y.KnB B wc → ∀ X : Exit → Act → World → Prop, (∀ w', Ext1 wc w' → X .normal ⟨t₁, ds⟩ w') → wpList P ops X ((ops.toList.drop k).take n) ⟨t, ds⟩ wc)
 (hrun : ∀ w, (execOp (Act.mk t₁ ds).eval o).run P w = .ok (.enter f args) w) (hev : ∀ w, (execOp (Act.mk t₁ ds).eval o).events P w #[] = #[])
 (hd : ∀ s' ch w', Y.Dead s' ch w' → Q s' (.panic ch) ⟨t₁, ds⟩ w')
 (hk : ∀ s' a w', Y.AtB B s' w' (K a) → opsJ Y.J ops rest Q s' ⟨t₁.setIfInBounds d₀ (val a), ds⟩ w') : opsJ Y.J ops todo Q s ⟨t, ds⟩ w := by
 refine Y.pre0 k n (q + 1) (rest := (k + n) :: rest) hA hsz ht (by rw [hr, List.range'_succ]) hc hpre fun w' hA' => ?_
 obtain ⟨m, rfl, hA'⟩ := hA'
 refine Y.callO (hspec K s m w' hK hA') ho hg hd₀ hrun hev ?_
 intro s' e w'' hp
 cases e with
 | returned v =>
  obtain ⟨a, m', rfl, k1, k2⟩ := hp
  exact hk s' a w'' ⟨m', k1, k2⟩
 | panicked ch => exact hd s' ch w'' hp
 | outgrown => exact hp
theorem YSys.callS {ops : Array Oper} {todo rest : List Nat} (k n q : Nat) {t₁ : Array Value} {o : Oper} {f : FuncId} {args : Array Value} {K : Unit → Proc S β} {d₀ : Tmp} (hA : Y.AtB B s w (Proc.tick.bind K)) (hspec : StepY Y f args)
 (hsz : k + n + (q + 1) = ops.size) (ht : todo = List.range' k (n + (q + 1))) (hr : rest = List.range' (k + n + 1) q) (hc : chk P (fun _ => false) true ops k n = true) (ho : ops[k + n]? = some o) (hg : o.guard = none) (hd₀ : o.dst = some d₀)
 (hpre : ∀ wc, Y.KnB B wc → ∀ X : Exit → Act → World → Prop, (∀ w', Ext1 wc w' → X .normal ⟨t₁, ds⟩ w') → wpList P ops X ((ops.toList.drop k).take n) ⟨t, ds⟩ wc)
 (hrun : ∀ w, (execOp (Act.mk t₁ ds).eval o).run P w = .ok (.enter f args) w) (hev : ∀ w, (execOp (Act.mk t₁ ds).eval o).events P w #[] = #[])
 (hd : ∀ s' ch w', Y.Dead s' ch w' → Q s' (.panic ch) ⟨t₁, ds⟩ w')
 (hk : ∀ s' w', Y.AtB B s' w' (K ()) → opsJ Y.J ops rest Q s' ⟨t₁.setIfInBounds d₀ (.tuple #[]), ds⟩ w') : opsJ Y.J ops todo Q s ⟨t, ds⟩ w := by
 refine Y.pre0 k n (q + 1) (rest := (k + n) :: rest) hA hsz ht (by rw [hr, List.range'_succ]) hc hpre fun w' hA' => ?_
 obtain ⟨m, rfl, hA'⟩ := hA'
 refine Y.callO (hspec K s m w' hA') ho hg hd₀ hrun hev ?_
 intro s' e w'' hp
 cases e with
 | returned v =>
  obtain ⟨a, m', rfl, k1, k2⟩ := hp
  exact hk s' w'' ⟨m', k1, k2⟩
 | panicked ch => exact hd s' ch w'' hp
 | outgrown => exact hp
def PureY (Y : YSys P A C ro i β) (f : FuncId) (args : Array Value) (v : Value) : Prop :=
 ∀ (B : Nat → Option Obj) (s : Y.γ) (w : World) (p : Proc S β), Y.AtB B s w p → CallsJ P Y.J f args (fun s' e w' => s' = s ∧ e = .returned v ∧ Y.AtB B s w' p) s w
theorem PureY.of {f : FuncId} {fn : Func} {c : Code} {args : Array Value} {v : Value} (hf : P.funcs[f]? = some fn) (hb : fn.body = some c) (hok : okCode P A c = true)
 (h : ∀ B wc, Y.KnB B wc → Calls P f args wc (onlyRet fun v' w' => Ext1 wc w' ∧ v' = v)) : PureY Y f args v := by
 rintro B s w p ⟨m, rfl, hA⟩ cl cs h1 h2
 refine Y.call (fun v' B' => v' = v ∧ B' = m.box i) hA hf hb hok (fun wc hB => Calls.mono (h _ wc ⟨m, rfl, hB⟩) fun e w' q => ?_) cl cs ?_ ?_
 · cases e with
   | returned v' => exact ⟨m.box i, OMoved.ext (Y.kn hB) q.1, q.2, rfl⟩
   | _ => exact q
 · rintro s' v' w' ⟨rfl, v'', m', e, ⟨rfl, k⟩, hA'⟩
   cases e
   exact h1 _ _ w' ⟨rfl, rfl, m', k, hA'⟩
 · rintro s' ch w' ⟨_, _, _, e, _⟩
   cases e
theorem YSys.callP {ops : Array Oper} {todo rest : List Nat} (k n q : Nat) {t₁ : Array Value} {o : Oper} {f : FuncId} {args : Array Value} {v : Value} {d₀ : Tmp} (hA : Y.AtB B s w p) (hspec : PureY Y f args v)
 (hsz : k + n + (q + 1) = ops.size) (ht : todo = List.range' k (n + (q + 1))) (hr : rest = List.range' (k + n + 1) q) (hc : chk P (fun _ => false) true ops k n = true) (ho : ops[k + n]? = some o) (hg : o.guard = none) (hd₀ : o.dst = some d₀)
 (hpre : ∀ wc, Y.KnB B wc → ∀ X : Exit → Act → World → Prop, (∀ w', Ext1 wc w' → X .normal ⟨t₁, ds⟩ w') → wpList P ops X ((ops.toList.drop k).take n) ⟨t, ds⟩ wc)
 (hrun : ∀ w, (execOp (Act.mk t₁ ds).eval o).run P w = .ok (.enter f args) w) (hev : ∀ w, (execOp (Act.mk t₁ ds).eval o).events P w #[] = #[])
 (hk : ∀ w', Y.AtB B s w' p → opsJ Y.J ops rest Q s ⟨t₁.setIfInBounds d₀ v, ds⟩ w') : opsJ Y.J ops todo Q s ⟨t, ds⟩ w := by
 refine Y.pre0 k n (q + 1) (rest := (k + n) :: rest) hA hsz ht (by rw [hr, List.range'_succ]) hc hpre fun w' hA' => ?_
 refine Y.callO (hspec B s w' p hA') ho hg hd₀ hrun hev ?_
 rintro s' e w'' ⟨rfl, rfl, hA''⟩
 exact hk w'' hA''
def RetY (Y : YSys P A C ro i β) (K : α → Proc S β) (val : α → Value) (B : Nat → Option Obj) (s : Y.γ) : Ending → World → Prop
 | .returned v, w => ∃ a, v = val a ∧ Y.AtB B s w (K a)
 | .panicked ch, w => Y.Dead s ch w
 | .outgrown, _ => False
theorem SpecB.of {f : FuncId} {fn : Func} {c : Code} {args : Array Value} {pp : Proc S α} {val : α → Value} (hf : P.funcs[f]? = some fn) (hb : fn.body = some c)
 (h : ∀ (K : α → Proc S β) (s : Y.γ) (B : Nat → Option Obj) (w : World), (∀ a, Y.sil (K a)) → Y.AtB B s w (pp.bind K) → wpJ Y.J c (bodyC (Y.Bd fn (RetY Y K val B)) (RetY Y K val B)) s (enterAct fn args) w) : SpecB Y f args pp val := by
 intro K s m w hK hA
 refine ⟨fn, c, hf, hb, wpJ_mono (h K s (m.box i) w hK ⟨m, rfl, hA⟩) fun s e a w q => ?_⟩
 have key : ∀ s e w, RetY Y K val (m.box i) s e w → PostY Y K val (m.box i) s e w := by
  intro s e w q
  cases e with
  | returned v => obtain ⟨a, rfl, m', k1, k2⟩ := q; exact ⟨a, m', rfl, k1, k2⟩
  | panicked ch => exact q
  | outgrown => exact q
 have kb : ∀ s a w, Y.Bd fn (RetY Y K val (m.box i)) s a w → Y.Bd fn (PostY Y K val (m.box i)) s a w := by
  rintro s a w ⟨q1, q2⟩
  exact ⟨q1, q2.imp (fun ⟨v, k1, k2⟩ => ⟨v, k1, key _ _ _ k2⟩) (fun ⟨m', p, v, k1, k2, k3⟩ => ⟨m', p, v, k1, k2, fun m'' w' e hA => key _ _ _ (k3 m'' w' e hA)⟩)⟩
 cases e with
 | normal => exact kb _ _ _ q
 | ret => exact kb _ _ _ q
 | panic ch => exact q
 | _ => exact q
theorem YSys.left {Post : Y.γ → Ending → World → Prop} {fn : Func} {v : Value} (h : Y.AtB B s w p) (hr : ∀ wc, Y.KnB B wc → (results fn t).run P wc = .ok v wc) (hp : ∀ w', Y.AtB B s w' p → Post s (.returned v) w') : Y.Bd fn Post s ⟨t, []⟩ w := by
 obtain ⟨m, rfl, h⟩ := h
 exact ⟨rfl, .inr ⟨m, p, v, h, fun wc hw => hr wc ⟨m, rfl, hw⟩, fun m' w' e hA => hp w' ⟨m', e, hA⟩⟩⟩
end
def orB (X B : Nat → Option Obj) : Nat → Option Obj := fun b => match X b with
 | some o => some o
 | none => B b
def upB (B : Nat → Option Obj) (b : Nat) (o : Obj) : Nat → Option Obj := fun x => if x = b then some o else B x
@[simp] theorem upB_same (B : Nat → Option Obj) (b : Nat) (o : Obj) : upB B b o b = some o := by simp [upB]
theorem upB_ne (B : Nat → Option Obj) {b x : Nat} (o : Obj) (h : x ≠ b) : upB B b o x = B x := by simp [upB, h]
theorem upB_le {B : Nat → Option Obj} {b : Nat} {o : Obj} (h : B b = none) : ∀ x y, B x = some y → upB B b o x = some y := fun x y hx => by
 by_cases e : x = b
 · subst e; rw [h] at hx; cases hx
 · rw [upB_ne _ _ e]; exact hx
theorem upB_keep {B B1 : Nat → Option Obj} {b : Nat} {o : Obj} (hle : ∀ x y, B x = some y → B1 x = some y) (h : B b = none) : ∀ x y, B x = some y → upB B1 b o x = some y := fun x y hx => by
 by_cases e : x = b
 · subst e; rw [h] at hx; cases hx
 · rw [upB_ne _ _ e]; exact hle x y hx
theorem upB_of {B : Nat → Option Obj} {b x : Nat} {o y : Obj} (hx : B x = some y) (h : x ≠ b) : upB B b o x = some y := by rw [upB_ne _ _ h]; exact hx
theorem none_ne {B : Nat → Option Obj} {b x : Nat} {y : Obj} (hx : B x = some y) (h : B b = none) : x ≠ b := fun e => by rw [e, h] at hx; cases hx
def RowB (X : Nat → Option Obj) (e : TypeId) (size : Nat) (v : Value) (n : Nat) (xs : List Value) : Prop :=
 xs.length = n * size ∧ ((v = .slice none 0 0 ∧ n = 0 ∧ X = fun _ => none) ∨
  ∃ g cap cur, v = .slice (some ⟨g, 0, none⟩) n cap ∧ (X = fun b => if b = g then some (.cells cur e (0, 0)) else none) ∧ n ≤ cap ∧ cap ≤ maxLen ∧ cur.size = cap * size ∧ cur.toList.take (n * size) = xs)
theorem RowB.nil (e : TypeId) (size : Nat) : RowB (fun _ => none) e size (.slice none 0 0) 0 [] := ⟨by simp, .inl ⟨rfl, rfl, rfl⟩⟩
theorem RowB.own {X : Nat → Option Obj} {e : TypeId} {size n : Nat} {v : Value} {xs : List Value} {w : World} (h : RowB X e size v n xs) (hX : ∀ b o, X b = some o → w.heap[b]? = some o) : w.ownsRow 0 e size v n xs := by
 obtain ⟨h1, h2⟩ := h
 refine ⟨h1, ?_⟩
 rcases h2 with ⟨a, b, c⟩ | ⟨g, cap, cur, a, b, c, d, k, l⟩
 · exact .inl ⟨a, b⟩
 · subst b
   exact .inr ⟨g, cap, cur, a, Nat.zero_le _, hX g _ (by simp), c, d, k, l⟩
theorem RowB.block {X : Nat → Option Obj} {e : TypeId} {size n : Nat} {v : Value} {xs : List Value} (h : RowB X e size v n xs) (b : Nat) : X b ≠ none ↔ v.ownBlock = some b := by
 rcases h.2 with ⟨a, _, c⟩ | ⟨g, cap, cur, a, c, _⟩
 · subst a c
   simp [Value.ownBlock]
 · subst a c
   simp only [Value.ownBlock, al_oi]
   by_cases e : b = g
   · subst e; simp
   · simp [e]; exact fun h => e h.symm
section
variable {ro : Nat → Option Obj} {wc : World} {X B B0 : Nat → Option Obj}
theorem OwnRep.row (hB : OwnRep ro (orB X B) wc) {e : TypeId} {size n : Nat} {v : Value} {xs : List Value} (h : RowB X e size v n xs) : wc.ownsRow 0 e size v n xs :=
 h.own fun b o hb => hB.box b o (by simp [orB, hb])
theorem OwnRep.under (hB : OwnRep ro (orB X B) wc) (hap : ∀ b, X b ≠ none → B b = none) {b : Nat} {o : Obj} (hb : B b = some o) : wc.heap[b]? = some o := by
 refine hB.box b o ?_
 have hx : X b = none := Classical.byContradiction fun x => by rw [hap b x] at hb; cases hb
 simp [orB, hx, hb]
theorem OwnRep.fresh (hB : OwnRep ro B wc) {b : Nat} (hb : wc.heap.size ≤ b) : B b = none := Classical.byContradiction fun h => absurd (hB.lt h) (Nat.not_lt_of_le hb)
theorem OwnRep.mono (hB : OwnRep ro B wc) (h : ∀ b o, B0 b = some o → B b = some o) : OwnRep ro B0 wc := ⟨fun b o hb => hB.box b o (h b o hb), hB.rod, fun b hb => by
 cases ho : B0 b with
 | none => rfl
 | some o => have := h b o ho; rw [hB.rob b hb] at this; cases this⟩
theorem row_push (hB : OwnRep ro B0 wc) (hle : ∀ b o, orB X B b = some o → B0 b = some o) (hap : ∀ b, X b ≠ none → B b = none) {e : TypeId} {size n k g cap : Nat} {v : Value} {xs ys : List Value} (h : RowB X e size v n xs) {w2 : World}
 (hown : w2.ownsRow 0 e size (.slice (some ⟨g, 0, none⟩) k cap) k ys) (hg : wc.grownBy w2 v.ownBlock) (hv : v.ownBlock = some g ∨ g = wc.heap.size) (h1 : w2.heap.size ≤ wc.heap.size + 1) :
 ∃ X', RowB X' e size (.slice (some ⟨g, 0, none⟩) k cap) k ys ∧ (∀ b, X' b ≠ none → B b = none) ∧ OMoved B0 wc (orB X' B) w2 := by
 have hB' : OwnRep ro (orB X B) wc := hB.mono hle
 obtain ⟨hl, h2⟩ := hown
 rcases h2 with ⟨a, _⟩ | ⟨g', cap', cur, a, _, hh, c, d, l, t⟩
 · cases a
 · cases a
   have hBlt : ∀ b o, B b = some o → b < wc.heap.size := fun b o hb => heap_lt (hB'.under hap hb)
   have hgB : B g = none := by
    cases hb : B g with
    | none => rfl
    | some o =>
     rcases hv with x | x
     · rw [hap g ((h.block g).2 x)] at hb; cases hb
     · exact absurd (hBlt g o hb) (by omega)
   have hold : ∀ b, b < wc.heap.size → v.ownBlock ≠ some b → w2.heap[b]? = wc.heap[b]? := fun b hb hne => hg.block b hb (fun x => hne x.symm)
   have hX0 : ∀ b, X b ≠ none → B0 b ≠ none := fun b hb => by
    cases hx : X b with
    | none => exact absurd hx hb
    | some o => rw [hle b o (by simp [orB, hx])]; simp
   refine ⟨fun b => if b = g then some (.cells cur e (0, 0)) else none, ⟨hl, .inr ⟨g, cap, cur, rfl, rfl, c, d, l, t⟩⟩, fun b hb => ?_, ?_⟩
   · by_cases e : b = g
     · rw [e]; exact hgB
     · simp [e] at hb
   · refine ⟨hg.size, h1, fun b hb hn => ?_, fun b o hb => ?_, fun b hb => ?_⟩
     · exact hold b hb fun x => hX0 b ((h.block b).2 x) hn
     · by_cases e : b = g
       · subst e
         simp [orB] at hb
         rw [← hb]; exact hh
       · simp only [orB, e, if_false] at hb
         rw [hold b (hBlt b o hb) fun x => ?_]
         · exact hB'.under hap hb
         · rw [hap b ((h.block b).2 x)] at hb; cases hb
     · by_cases e : b = g
       · subst e
         rcases hv with x | x
         · exact .inl (hX0 b ((h.block b).2 x))
         · exact .inr (by omega)
       · simp only [orB, e, if_false] at hb
         refine .inl ?_
         have hx : X b = none := Classical.byContradiction fun x => hb (hap b x)
         cases ho : B b with
         | none => exact absurd ho hb
         | some o => rw [hle b o (by simp [orB, hx, ho])]; simp
theorem OMoved.poke (hB : OwnRep ro B wc) {w' : World} {b : Nat} {o : Obj} (hb : B b ≠ none) (hs : w'.heap.size = wc.heap.size) (hne : ∀ x, x ≠ b → w'.heap[x]? = wc.heap[x]?) (hn : w'.heap[b]? = some o) : OMoved B wc (upB B b o) w' := by
 refine ⟨by omega, by omega, fun x hx hn' => hne x fun e => hb (by rw [← e]; exact hn'), fun x o' hx => ?_, fun x hx => ?_⟩
 · by_cases e : x = b
   · subst e; rw [upB_same] at hx; rw [hn]; exact hx
   · rw [upB_ne _ _ e] at hx; rw [hne x e]; exact hB.box x o' hx
 · by_cases e : x = b
   · subst e; exact .inl hb
   · rw [upB_ne _ _ e] at hx; exact .inl hx
theorem OMoved.set (hB : OwnRep ro B wc) {b off : Nat} {c : Array Value} {e : TypeId} {f : Nat × Nat} (hb : B b = some (.cells c e f)) (v : Value) : OMoved B wc (upB B b (.cells (c.setIfInBounds off v) e f)) (wc.setCell ⟨b, off, none⟩ v) :=
 .poke hB (by rw [hb]; simp) (hp_size_set _ _ _) (fun x hx => hp_set_ne _ _ _ _ hx) (zqf _ _ _ _ (hB.box b _ hb))
theorem OMoved.set2 (hB : OwnRep ro B wc) {b o1 o2 : Nat} {c : Array Value} {e : TypeId} {f : Nat × Nat} (hb : B b = some (.cells c e f)) (v1 v2 : Value) : OMoved B wc (upB B b (.cells ((c.setIfInBounds o1 v1).setIfInBounds o2 v2) e f)) ((wc.setCell ⟨b, o1, none⟩ v1).setCell ⟨b, o2, none⟩ v2) :=
 .poke hB (by rw [hb]; simp) (by rw [hp_size_set, hp_size_set]) (fun x hx => by rw [hp_set_ne _ _ _ _ hx, hp_set_ne _ _ _ _ hx]) (zqf _ _ _ _ (zqf _ _ _ _ (hB.box b _ hb)))
theorem OMoved.set3 (hB : OwnRep ro B wc) {b o1 o2 o3 : Nat} {c : Array Value} {e : TypeId} {f : Nat × Nat} (hb : B b = some (.cells c e f)) (v1 v2 v3 : Value) : OMoved B wc (upB B b (.cells (((c.setIfInBounds o1 v1).setIfInBounds o2 v2).setIfInBounds o3 v3) e f)) (((wc.setCell ⟨b, o1, none⟩ v1).setCell ⟨b, o2, none⟩ v2).setCell ⟨b, o3, none⟩ v3) :=
 .poke hB (by rw [hb]; simp) (by rw [hp_size_set, hp_size_set, hp_size_set]) (fun x hx => by rw [hp_set_ne _ _ _ _ hx, hp_set_ne _ _ _ _ hx, hp_set_ne _ _ _ _ hx]) (zqf _ _ _ _ (zqf _ _ _ _ (zqf _ _ _ _ (hB.box b _ hb))))
theorem OMoved.push (hB : OwnRep ro B wc) {w' : World} {b : Nat} {o : Obj} (hx : Ext1 wc w') (hb : wc.heap.size ≤ b) (hn : w'.heap[b]? = some o) : OMoved B wc (upB B b o) w' := by
 refine ⟨hx.size, hx.one, fun x hl _ => hx.old x hl, fun x o' hx' => ?_, fun x hx' => ?_⟩
 · by_cases e : x = b
   · subst e; rw [upB_same] at hx'; rw [hn]; exact hx'
   · rw [upB_ne _ _ e] at hx'; exact hx.heap (hB.box x o' hx')
 · by_cases e : x = b
   · subst e; exact .inr hb
   · rw [upB_ne _ _ e] at hx'; exact .inl hx'
end
theorem wpList_appends {P : Program} {ops : Array Oper} {rest : List Oper} {o : Oper} {a : Act} {Q : Exit → Act → World → Prop} {w w' : World} {v : Value} (hgd : o.guard = none) (s x : Operand) (t : TypeId)
 (ho : o.op = .call { callee := .builtin .append, args := #[s, x], argTypes := #[t, t] }) (hr : (Builtin.append_ #[t, t] o.type #[a.eval s, a.eval x]).run P w = .ok v w') (h : wpList P ops Q rest (a.put o.dst v) w') : wpList P ops Q (o :: rest) a w :=
 wpList_plain hgd fun _ hK => by
  unfold Oper.wp execOp
  simp only [ho, resolve, invoke, builtin, Sem.run_bind, Sem.run_pure, Result.andThen_ok, List.map_toArray, List.map_cons, List.map_nil, hr]
  exact hK _ _ h
theorem append_size {P : Program} {w w' : World} {v' : Value} (t ty : TypeId) (base : Nat) (e : TypeId) (i : TypeInfo) (z : Value) (ht : P.underlying t = some (.slice e)) (hi : P.info? e = some i) (hz : i.zero = some z)
 (v : Value) (n : Nat) (xs : List Value) (hown : w.ownsRow base e i.size v n xs)
 (a : Addr) (m c : Nat) (news : List Value) (hl : news.length = m * i.size) (hnews : ∀ j u, news[j]? = some u → w.cell? (a.add j) = some u) (h1 : ∀ u ∈ news, u.oneCell' = true)
 (hm : 0 < m) (h63 : n + m ≤ maxLen) (hbytes : (n + m) * i.bytes ≤ 140737488355328) (hr : (Builtin.append_ #[t, t] ty #[v, .slice (some a) m c]).run P w = .ok v' w') : w'.heap.size ≤ w.heap.size + 1 := by
 have hsmall : n + m ≤ 9223372036854775807 := by simp only [maxLen] at h63; omega
 have hal : ∀ o : Obj, (w.drew.alloc o).heap.size = w.heap.size + 1 := fun o => by show (w.heap.push o).size = _; simp
 rcases hown.2 with ⟨rfl, rfl⟩ | ⟨g, cap, cur, rfl, hbg, hg, hnc, hcm, hcs, htake⟩
 · rw [run_append_nil (P := P) w t ty e i z ht hi hz a m c news hl hnews hm (by omega) (by have hb := hbytes; simp only [Nat.zero_add] at hb; omega)] at hr
   cases hr
   rw [hal]; exact Nat.le_refl _
 · by_cases hroom : n + m ≤ cap
   · have hfit : n * i.size + news.length ≤ cur.size := by rw [hl, hcs, ← Nat.add_mul]; exact Nat.mul_le_mul_right _ hroom
     rw [run_append_room (P := P) w t ty e i ht hi g n cap cur hg a m c news hl hnews h1 hroom hfit] at hr
     cases hr
     rw [show ∀ l, (w.setRow g l).heap.size = w.heap.size from fun l => by simp]
     exact Nat.le_succ _
   · have holds : ∀ j u, xs[j]? = some u → w.cell? ((⟨g, 0, none⟩ : Addr).add j) = some u := hown.cells (g := g) rfl
     rw [run_append_grow (P := P) w t ty e i z ht hi hz ⟨g, 0, none⟩ n cap xs hown.1 holds a m c news hl hnews (by omega) (by omega) (growslice_fits (by omega) hbytes)] at hr
     cases hr
     rw [hal]; exact Nat.le_refl _
theorem row_append {P : Program} {ro X B : Nat → Option Obj} {wc : World} (t ty : TypeId) {e : TypeId} (i : TypeInfo) (z : Value) (size bytes : Nat) (ht : P.underlying t = some (.slice e)) (hi : P.info? e = some i) (hz : i.zero = some z)
 (hsize : i.size = size) (hby : i.bytes = bytes) (hzs : z.cells.size = size) (hsz : 0 < size) {a1 : Nat} {news : List Value} (hl : news.length = size) (h1 : ∀ u ∈ news, u.oneCell' = true)
 (hB : OwnRep ro (upB (orB X B) a1 (.cells news.toArray e)) wc) (ha : orB X B a1 = none) (hap : ∀ b, X b ≠ none → B b = none) {v : Value} {n : Nat} {xs : List Value} (h : RowB X e size v n xs) (h63 : n + 1 ≤ maxLen) (hbytes : (n + 1) * bytes ≤ 140737488355328) :
 ∃ g cap w', (Builtin.append_ #[t, t] ty #[v, .slice (some ⟨a1, 0, none⟩) 1 1]).run P wc = .ok (.slice (some ⟨g, 0, none⟩) (n + 1) cap) w' ∧
  ∃ X', RowB X' e size (.slice (some ⟨g, 0, none⟩) (n + 1) cap) (n + 1) (xs ++ news) ∧ (∀ b, X' b ≠ none → B b = none) ∧ OMoved (upB (orB X B) a1 (.cells news.toArray e)) wc (orB X' B) w' := by
 have hle := upB_le (o := .cells news.toArray e) ha
 have hrow : wc.ownsRow 0 e size v n xs := (hB.mono hle).row h
 have hblk : wc.heap[a1]? = some (.cells news.toArray e) := hB.box a1 _ (upB_same _ _ _)
 have hnews : ∀ j u, news[j]? = some u → wc.cell? ((⟨a1, 0, none⟩ : Addr).add j) = some u := by
  exact fun j u hj => World.news_of_block hblk j u (by simpa using hj)
 obtain ⟨g, cap, w', hr, hown, hg, hat, _⟩ := run_append_lies (P := P) wc t ty 0 e i z size bytes ht hi hz hsize hby hzs hsz v n xs hrow ⟨a1, 0, none⟩ 1 1 news (by simpa using hl) hnews h1 (by omega) h63 hbytes (Nat.zero_le _) _ rfl
 have hs : w'.heap.size ≤ wc.heap.size + 1 := append_size (P := P) t ty 0 e i z ht hi hz v n xs (by rw [hsize]; exact hrow) ⟨a1, 0, none⟩ 1 1 news (by rw [hsize]; simpa using hl) hnews h1 (by omega) h63 (by rw [hby]; exact hbytes) hr
 obtain ⟨X', k1, k2, k3⟩ := row_push hB hle hap h hown hg hat hs
 exact ⟨g, cap, w', hr, X', k1, k2, k3⟩
structure OpX where
 k : Int
 a : Int
 b : Int
 c : Int
structure Ans where
 ok : Bool
 n : Int
 l : List Int
def Ans.none : Ans := ⟨false, 0, []⟩
def OpX.cells (o : OpX) : List Value := [.int .i64 o.k, .int .i64 o.a, .int .i64 o.b, .int .i64 o.c]
def OpX.val (o : OpX) : Value := .agg #[.int .i64 o.k, .int .i64 o.a, .int .i64 o.b, .int .i64 o.c]
def AnsC (tI : TypeId) (X : Nat → Option Obj) (a : Ans) (cs : List Value) : Prop := ∃ sl, cs = [.bool a.ok, .int .i64 a.n, sl] ∧ RowB X tI 1 sl a.l.length (a.l.map (Value.int .i64))
def AnsV (tI : TypeId) (a : Ans) (v : Value) (X : Nat → Option Obj) : Prop := ∃ sl, v = .agg #[.bool a.ok, .int .i64 a.n, sl] ∧ RowB X tI 1 sl a.l.length (a.l.map (Value.int .i64))
theorem AnsV.plain (tI : TypeId) (ok : Bool) (n : Int) : AnsV tI ⟨ok, n, []⟩ (.agg #[.bool ok, .int .i64 n, .slice Option.none 0 0]) (fun _ => Option.none) := ⟨_, rfl, RowB.nil tI 1⟩
inductive AnsL (tI : TypeId) : (Nat → Option Obj) → List Ans → List Value → Prop
 | nil : AnsL tI (fun _ => Option.none) [] []
 | snoc {X Y : Nat → Option Obj} {l : List Ans} {cs cs' : List Value} {a : Ans} (h : AnsL tI X l cs) (ha : AnsC tI Y a cs') (hd : ∀ b, Y b ≠ Option.none → X b = Option.none) : AnsL tI (orB Y X) (l ++ [a]) (cs ++ cs')
theorem AnsL.len {tI : TypeId} {X : Nat → Option Obj} {l : List Ans} {cs : List Value} (h : AnsL tI X l cs) : cs.length = l.length * 3 := by
 induction h with
 | nil => rfl
 | snoc h ha hd ih =>
  obtain ⟨sl, rfl, _⟩ := ha
  simp [ih]; omega
def AnsR (tA tI : TypeId) (X : Nat → Option Obj) (hv : Value) (l : List Ans) : Prop :=
 ∃ Xr XL cs, RowB Xr tA 3 hv l.length cs ∧ AnsL tI XL l cs ∧ X = orB Xr XL ∧ ∀ b, Xr b ≠ Option.none → XL b = Option.none
theorem AnsR.nil (tA tI : TypeId) : AnsR tA tI (fun _ => Option.none) (.slice Option.none 0 0) [] := ⟨_, _, [], RowB.nil tA 3, .nil, rfl, fun _ h => rfl⟩
structure AnsM where
 hv : Nat → Value
 X : Nat → Nat → Option Obj
 st : Nat → List Ans
structure AnsT where
 tA : TypeId
 tAs : TypeId
 tI : TypeId
structure AnsRep (T : AnsT) (ab N : Nat) (m : AnsM) (w : World) : Prop where
 hd : w.heap[ab]? = some (.cells ((List.range N).map m.hv).toArray T.tAs)
 row : ∀ i, i < N → AnsR T.tA T.tI (m.X i) (m.hv i) (m.st i)
 blk : ∀ i b o, i < N → m.X i b = some o → w.heap[b]? = some o
 nab : ∀ i, i < N → m.X i ab = Option.none
 sep : ∀ i j b, i < N → j < N → i ≠ j → m.X i b ≠ Option.none → m.X j b = Option.none
def ansCore (T : AnsT) (ab N : Nat) : Core AnsM (Nat → List Ans) where
 foot m b := b = ab ∨ ∃ i, i < N ∧ m.X i b ≠ Option.none
 Rep m w := AnsRep T ab N m w
 st m := m.st
 frame m w w' h hs := ⟨(hs ab (.inl rfl)).trans h.hd, h.row, fun i b o hi hb => (hs b (.inr ⟨i, hi, by rw [hb]; simp⟩)).trans (h.blk i b o hi hb), h.nab, h.sep⟩
 lt m w b h hb := by
  rcases hb with rfl | ⟨i, hi, hb⟩
  · exact heap_lt h.hd
  · cases ho : m.X i b with
    | none => exact absurd ho hb
    | some o => exact heap_lt (h.blk i b o hi ho)
 pin _ := 0
def upd' {α : Type} (f : Nat → α) (i : Nat) (x : α) : Nat → α := fun j => if j = i then x else f j
@[simp] theorem upd'_same {α : Type} (f : Nat → α) (i : Nat) (x : α) : upd' f i x i = x := by simp [upd']
theorem upd'_ne {α : Type} (f : Nat → α) {i j : Nat} (x : α) (h : j ≠ i) : upd' f i x j = f j := by simp [upd', h]
def pushP {S1 : Type} (i : Nat) (a : Ans) : Proc (S1 × (Nat → List Ans)) Unit := Proc.act fun s => ((s.1, upd' s.2 i (s.2 i ++ [a])), ())
def opsP {S1 : Type} (i : Nat) (dop : OpX → Proc (S1 × (Nat → List Ans)) Ans) : List OpX → Proc (S1 × (Nat → List Ans)) Unit
 | [] => Proc.ret ()
 | op :: l => (dop op).bind fun a => (pushP i a).bind fun _ => opsP i dop l
theorem AnsR.push {tA tI : TypeId} {Xr XL Y X' : Nat → Option Obj} {l : List Ans} {cs cs' : List Value} {a : Ans} {v : Value} (hL : AnsL tI XL l cs) (ha : AnsC tI Y a cs') (hd : ∀ b, Y b ≠ Option.none → XL b = Option.none)
 (hr : RowB X' tA 3 v (l.length + 1) (cs ++ cs')) (hx : ∀ b, X' b ≠ Option.none → orB Y XL b = Option.none) : AnsR tA tI (orB X' (orB Y XL)) v (l ++ [a]) :=
 ⟨X', orB Y XL, cs ++ cs', by simpa using hr, .snoc hL ha hd, rfl, hx⟩
section
variable {P : Program} {A : FuncId → Bool} {Ml S β α : Type} {C : Core Ml S} {ro : Nat → Option Obj} {i : Nat}
def PostR (Y : YSys P A C ro i β) (K : α → Proc S β) (rel : α → Value → (Nat → Option Obj) → Prop) (B : Nat → Option Obj) (s : Y.γ) : Ending → World → Prop
 | .returned v, w => ∃ a X, rel a v X ∧ (∀ b, X b ≠ Option.none → B b = Option.none) ∧ Y.AtB (orB X B) s w (K a)
 | .panicked ch, w => Y.Dead s ch w
 | .outgrown, _ => False
def SpecR (Y : YSys P A C ro i β) (f : FuncId) (args : Array Value) (p : Proc S α) (rel : α → Value → (Nat → Option Obj) → Prop) : Prop :=
 ∀ (K : α → Proc S β) (s : Y.γ) (B : Nat → Option Obj) (w : World), (∀ a, Y.sil (K a)) → Y.AtB B s w (p.bind K) → CallsJ P Y.J f args (PostR Y K rel B) s w
theorem SpecR.of {Y : YSys P A C ro i β} {f : FuncId} {fn : Func} {c : Code} {args : Array Value} {pp : Proc S α} {rel : α → Value → (Nat → Option Obj) → Prop} (hf : P.funcs[f]? = some fn) (hb : fn.body = some c)
 (h : ∀ (K : α → Proc S β) (s : Y.γ) (B : Nat → Option Obj) (w : World), (∀ a, Y.sil (K a)) → Y.AtB B s w (pp.bind K) → wpJ Y.J c (bodyC (Y.Bd fn (PostR Y K rel B)) (PostR Y K rel B)) s (enterAct fn args) w) : SpecR Y f args pp rel :=
 fun K s B w hK hA => BodyY.calls ⟨fn, c, hf, hb, h K s B w hK hA⟩
end
theorem upd'_row {α : Type} (hv : Nat → α) (N i : Nat) (x : α) : ((List.range N).map hv).toArray.setIfInBounds i x = ((List.range N).map (upd' hv i x)).toArray := by
 apply Array.ext_getElem?
 intro j
 simp only [al_gs, al_gl, List.getElem?_map, List.size_toArray, List.length_map, List.length_range]
 by_cases e : i = j
 · subst e
   by_cases h : i < N
   · simp [h]
   · simp [h]
 · rw [if_neg e]
   by_cases h : j < N
   · simp [h, upd'_ne hv x (fun e' => e e'.symm)]
   · simp [h]
section
variable {P : Program} {M1 S1 : Type} {C : Core M1 S1} {T : AnsT} {ab N i : Nat} {ro : Nat → Option Obj} {m : BM (M1 × AnsM)} {wc : World}
theorem ans_push (hB : BRep (prodCore C (ansCore T ab N)) ro m wc) (hi : i < N) (t ty : TypeId) (ti : TypeInfo) (z : Value) (ht : P.underlying t = some (.slice T.tA)) (hti : P.info? T.tA = some ti) (hz : ti.zero = some z) (hsz : ti.size = 3) (hby : ti.bytes = 40) (hzs : z.cells.size = 3)
 {B Y : Nat → Option Obj} {a : Ans} {sl : Value} (hY : RowB Y T.tI 1 sl a.l.length (a.l.map (Value.int .i64))) (hYB : ∀ b o, Y b = some o → m.box i b = some o) (hBB : ∀ b o, B b = some o → m.box i b = some o) (hYn : ∀ b, Y b ≠ none → B b = none)
 (hlen : (m.l.2.st i).length ≤ 65536) (τ : Nat → Question → Nat) (d : Nat) :
 ∃ g cap w2 m', (Builtin.append_ #[t, t] ty #[m.l.2.hv i, .slice (some ⟨wc.heap.size, 0, none⟩) 1 1]).run P ((Car.re wc τ d).alloc (.cells #[.bool a.ok, .int .i64 a.n, sl] T.tA)) = .ok (.slice (some ⟨g, 0, none⟩) ((m.l.2.st i).length + 1) cap) w2 ∧
  (∀ b, b < wc.heap.size → m.l.2.X i b = none → w2.heap[b]? = wc.heap[b]?) ∧ m'.st = upd' m.l.2.st i (m.l.2.st i ++ [a]) ∧
  ∀ τ' d', Moved (prodCore C (ansCore T ab N)) m.l (m.box i) wc (m.l.1, m') B (Car.re (w2.setCell ⟨ab, i, none⟩ (.slice (some ⟨g, 0, none⟩) ((m.l.2.st i).length + 1) cap)) τ' d') := by
 have hone : sl.oneCell' = true := by rcases hY.2 with ⟨rfl, _⟩ | ⟨_, _, _, rfl, _⟩ <;> rfl
 have hD : AnsRep T ab N m.l.2 wc := hB.core.2.1
 have hdis : ∀ b, C.foot m.l.1 b → ¬ (ansCore T ab N).foot m.l.2 b := hB.core.2.2
 obtain ⟨Xr, XL, cs, hr, hL, hX, hd⟩ := hD.row i hi
 have hXr : ∀ b, Xr b ≠ none → m.l.2.X i b ≠ none := fun b hb => by
  rw [hX]
  cases ho : Xr b with
  | none => exact absurd ho hb
  | some o => simp [orB, ho]
 have hfoot : ∀ b, m.l.2.X i b ≠ none → (ansCore T ab N).foot m.l.2 b := fun b hb => .inr ⟨i, hi, hb⟩
 have hfr : ∀ b, Xr b ≠ none → (ansCore T ab N).foot m.l.2 b := fun b hb => hfoot b (hXr b hb)
 have hboxf : ∀ b, m.box i b ≠ none → ¬ (ansCore T ab N).foot m.l.2 b := fun b hb hf => hB.apart i b hb (.inr hf)
 have hboxC : ∀ b, m.box i b ≠ none → ¬ C.foot m.l.1 b := fun b hb hf => hB.apart i b hb (.inl hf)
 have hYbox : ∀ b, Y b ≠ none → m.box i b ≠ none := fun b hb => by
  cases ho : Y b with
  | none => exact absurd ho hb
  | some o => rw [hYB b o ho]; simp
 have hBbox : ∀ b, B b ≠ none → m.box i b ≠ none := fun b hb => by
  cases ho : B b with
  | none => exact absurd ho hb
  | some o => rw [hBB b o ho]; simp
 have hlt : ∀ b, (ansCore T ab N).foot m.l.2 b → b < wc.heap.size := fun b hb => (ansCore T ab N).lt _ _ _ hD hb
 have hltB : ∀ b, m.box i b ≠ none → b < wc.heap.size := fun b hb => hB.own'.lt hb
 obtain ⟨w1, hw1⟩ : ∃ w1, (Car.re wc τ d).alloc (.cells #[.bool a.ok, .int .i64 a.n, sl] T.tA) = w1 := ⟨_, rfl⟩
 have hs1 : w1.heap.size = wc.heap.size + 1 := by rw [← hw1, zqc]; rfl
 have hold1 : ∀ b, b < wc.heap.size → w1.heap[b]? = wc.heap[b]? := fun b hb => by
  rw [← hw1, zq9, if_neg (by show b ≠ wc.heap.size; omega)]; rfl
 have hnew1 : w1.heap[wc.heap.size]? = some (.cells #[.bool a.ok, .int .i64 a.n, sl] T.tA) := by
  rw [← hw1, zq9]; exact if_pos rfl
 have hrow : w1.ownsRow 0 T.tA 3 (m.l.2.hv i) (m.l.2.st i).length cs := hr.own fun b o hb => by
  have hx : m.l.2.X i b = some o := by rw [hX]; simp [orB, hb]
  have hh := hD.blk i b o hi hx
  rw [hold1 b (heap_lt hh)]; exact hh
 obtain ⟨g, cap, w2, hrun, hown, hg, hat, hlt2⟩ := run_append_lies (P := P) w1 t ty 0 T.tA ti z 3 40 ht hti hz hsz hby hzs (by decide) (m.l.2.hv i) (m.l.2.st i).length cs hrow ⟨wc.heap.size, 0, none⟩ 1 1 [.bool a.ok, .int .i64 a.n, sl] (by simp) (World.news_of_block hnew1) (fun u hu => by simp only [List.mem_cons, List.not_mem_nil, or_false] at hu; exact hu.elim (fun e => by rw [e]; rfl) (fun h => h.elim (fun e => by rw [e]; rfl) (fun e => by rw [e]; exact hone))) (by decide) (by simp only [maxLen]; omega) (by omega) (Nat.zero_le _) _ rfl
 have hold2 : ∀ b, b < wc.heap.size → Xr b = none → w2.heap[b]? = wc.heap[b]? := fun b hb hx => by
  rw [hg.block b (by omega) (fun e => (hr.block b).2 e.symm hx)]
  exact hold1 b hb
 have hs2 : wc.heap.size ≤ w2.heap.size := by have := hg.size; omega
 obtain ⟨hl, h2⟩ := hown
 rcases h2 with ⟨e, _⟩ | ⟨g', cap', cur, e, _, hh, c1, c2, c3, c4⟩
 · cases e
 cases e
 have hgx : Xr g ≠ none ∨ wc.heap.size < g := hat.imp (fun e => (hr.block g).2 e) (fun e => by omega)
 have hgab : g ≠ ab := fun e => by
  subst e
  rcases hgx with x | x
  · exact hXr _ x (hD.nab i hi)
  · have := hlt g (.inl rfl); omega
 have hgfoot : (ansCore T ab N).foot m.l.2 g ∨ wc.heap.size ≤ g := hgx.imp (hfr g) (fun x => Nat.le_of_lt x)
 let X' : Nat → Option Obj := fun b => if b = g then some (.cells cur T.tA (0, 0)) else none
 have hX'g : X' g = some (.cells cur T.tA (0, 0)) := by simp [X']
 have hX'n : ∀ b, b ≠ g → X' b = none := fun b hb => by simp [X', hb]
 have hX' : ∀ b, X' b ≠ none → b = g := fun b hb => Classical.byContradiction fun e => hb (hX'n b e)
 have hXL : ∀ b, XL b ≠ none → m.l.2.X i b ≠ none ∧ Xr b = none := fun b hb => by
  have hx : Xr b = none := Classical.byContradiction fun x => hb (hd b x)
  refine ⟨?_, hx⟩
  rw [hX]
  simp [orB, hx]; exact hb
 have hYXL : ∀ b, Y b ≠ none → XL b = none := fun b hb => Classical.byContradiction fun x => hboxf b (hYbox b hb) (hfoot b (hXL b x).1)
 have hYg : ∀ b, Y b ≠ none → b ≠ g := fun b hb e => by
  subst e
  exact hgfoot.elim (hboxf b (hYbox b hb)) (fun x => by have := hltB b (hYbox b hb); omega)
 have hXLg : ∀ b, XL b ≠ none → b ≠ g := fun b hb e => by
  subst e
  rcases hgx with x | x
  · exact x (hXL b hb).2
  · have := hlt b (hfoot b (hXL b hb).1); omega
 have hgn : orB Y XL g = none := by
  have h1 : Y g = none := Classical.byContradiction fun x => hYg g x rfl
  have h2 : XL g = none := Classical.byContradiction fun x => hXLg g x rfl
  simp [orB, h1, h2]
 have hnewX : ∀ b, orB X' (orB Y XL) b ≠ none → b = g ∨ Y b ≠ none ∨ XL b ≠ none := fun b hb => by
  by_cases e : b = g
  · exact .inl e
  · right
    by_cases hy : Y b = none
    · right
      simpa [orB, hX'n b e, hy] using hb
    · exact .inl hy
 have hrowN : AnsR T.tA T.tI (orB X' (orB Y XL)) (.slice (some ⟨g, 0, none⟩) ((m.l.2.st i).length + 1) cap) (m.l.2.st i ++ [a]) :=
  AnsR.push (Xr := Xr) hL ⟨sl, rfl, hY⟩ hYXL ⟨hl, .inr ⟨g, cap, cur, rfl, rfl, c1, c2, c3, c4⟩⟩ fun b hb => by rw [hX' b hb]; exact hgn
 refine ⟨g, cap, w2, ⟨upd' m.l.2.hv i (.slice (some ⟨g, 0, none⟩) ((m.l.2.st i).length + 1) cap), upd' m.l.2.X i (orB X' (orB Y XL)), upd' m.l.2.st i (m.l.2.st i ++ [a])⟩, by rw [hw1]; exact hrun, fun b hb hx => hold2 b hb (Classical.byContradiction fun x => hXr b x hx), rfl, fun τ' d' => ?_⟩
 have hw3 : ∀ b, b ≠ ab → (Car.re (w2.setCell ⟨ab, i, none⟩ (.slice (some ⟨g, 0, none⟩) ((m.l.2.st i).length + 1) cap)) τ' d').heap[b]? = w2.heap[b]? := fun b hb => hp_set_ne _ _ _ _ hb
 have habX : Xr ab = none := Classical.byContradiction fun x => hXr ab x (hD.nab i hi)
 have hab2 : w2.heap[ab]? = some (.cells ((List.range N).map m.l.2.hv).toArray T.tAs) := (hold2 ab (hlt ab (.inl rfl)) habX).trans hD.hd
 have hY2 : ∀ b, Y b ≠ none → Xr b = none := fun b hb => Classical.byContradiction fun x => hboxf b (hYbox b hb) (hfr b x)
 have hkeepF : ∀ b, ¬ (ansCore T ab N).foot m.l.2 b → b < wc.heap.size → (Car.re (w2.setCell ⟨ab, i, none⟩ (.slice (some ⟨g, 0, none⟩) ((m.l.2.st i).length + 1) cap)) τ' d').heap[b]? = wc.heap[b]? := fun b hf hb => by
  rw [hw3 b (fun e => hf (.inl e))]
  exact hold2 b hb (Classical.byContradiction fun x => hf (hfr b x))
 have hAns : AnsRep T ab N ⟨upd' m.l.2.hv i (.slice (some ⟨g, 0, none⟩) ((m.l.2.st i).length + 1) cap), upd' m.l.2.X i (orB X' (orB Y XL)), upd' m.l.2.st i (m.l.2.st i ++ [a])⟩ (Car.re (w2.setCell ⟨ab, i, none⟩ (.slice (some ⟨g, 0, none⟩) ((m.l.2.st i).length + 1) cap)) τ' d') := by
  refine ⟨?_, fun j hj => ?_, fun j b o hj hb => ?_, fun j hj => ?_, fun j k b hj hk hne hb => ?_⟩
  · refine (zqf _ _ _ _ hab2).trans ?_
    rw [upd'_row]
  · by_cases e : j = i
    · subst e; simp only [upd'_same]; exact hrowN
    · simp only [upd'_ne _ _ e]; exact hD.row j hj
  · by_cases e : j = i
    · subst e
      simp only [upd'_same] at hb
      rcases hnewX b (by rw [hb]; simp) with e | hy | hx
      · subst e
        rw [hw3 b hgab]
        have : orB X' (orB Y XL) b = some (.cells cur T.tA (0, 0)) := by simp [orB, hX'g]
        rw [this] at hb
        cases hb
        exact hh
      · have hby : Y b = some o := by
         have h1 := hX'n b (hYg b hy)
         cases ho : Y b with
         | none => exact absurd ho hy
         | some o' => simp [orB, h1, ho] at hb; rw [hb]
        rw [hkeepF b (hboxf b (hYbox b hy)) (hltB b (hYbox b hy))]
        exact hB.box j b o (hYB b o hby)
      · have hbx : XL b = some o := by
         have h1 := hX'n b (hXLg b hx)
         have h2 : Y b = none := Classical.byContradiction fun y => hx (hYXL b y)
         simpa [orB, h1, h2] using hb
        have hx2 := hXL b hx
        have hxb : m.l.2.X j b = some o := by rw [hX]; simp [orB, hx2.2, hbx]
        rw [hw3 b (fun e => by subst e; exact hx2.1 (hD.nab j hj)), hold2 b (hlt b (hfoot b hx2.1)) hx2.2]
        exact hD.blk j b o hj hxb
    · simp only [upd'_ne _ _ e] at hb
      have hn : m.l.2.X j b ≠ none := by rw [hb]; simp
      rw [hw3 b (fun e' => by subst e'; exact hn (hD.nab j hj)), hold2 b (hlt b (.inr ⟨j, hj, hn⟩)) (Classical.byContradiction fun x => hXr b x (hD.sep j i b hj hi e hn))]
      exact hD.blk j b o hj hb
  · by_cases e : j = i
    · subst e
      simp only [upd'_same]
      refine Classical.byContradiction fun x => ?_
      rcases hnewX ab x with e | hy | hx
      · exact hgab e.symm
      · exact hboxf ab (hYbox ab hy) (.inl rfl)
      · exact (hXL ab hx).1 (hD.nab j hj)
    · simp only [upd'_ne _ _ e]; exact hD.nab j hj
  ·
   have key : ∀ x b, x < N → x ≠ i → m.l.2.X x b ≠ none → orB X' (orB Y XL) b = none := fun x b0 hx0 hne0 hb0 => by
    refine Classical.byContradiction fun x1 => ?_
    have hf : (ansCore T ab N).foot m.l.2 b0 := .inr ⟨x, hx0, hb0⟩
    rcases hnewX b0 x1 with e | hy | hx
    · rw [e] at hb0 hf
      rcases hgx with y | y
      · exact hXr g y (hD.sep x i g hx0 hi hne0 hb0)
      · have := hlt g hf; omega
    · exact hboxf b0 (hYbox b0 hy) hf
    · exact (hXL b0 hx).1 (hD.sep x i b0 hx0 hi hne0 hb0)
   by_cases e : j = i
   · subst e
     simp only [upd'_same] at hb
     simp only [upd'_ne _ _ (fun e => hne e.symm)]
     exact Classical.byContradiction fun x => hb (key k b hk (fun e => hne e.symm) x)
   · simp only [upd'_ne _ _ e] at hb
     by_cases e2 : k = i
     · subst e2
       simp only [upd'_same]
       exact key j b hj e hb
     · simp only [upd'_ne _ _ e2]; exact hD.sep j k b hj hk hne hb
 have hnf : ∀ b, (ansCore T ab N).foot ⟨upd' m.l.2.hv i (.slice (some ⟨g, 0, none⟩) ((m.l.2.st i).length + 1) cap), upd' m.l.2.X i (orB X' (orB Y XL)), upd' m.l.2.st i (m.l.2.st i ++ [a])⟩ b → (ansCore T ab N).foot m.l.2 b ∨ Y b ≠ none ∨ wc.heap.size ≤ b := by
  rintro b (e | ⟨j, hj, hb⟩)
  · exact .inl (.inl e)
  · by_cases e : j = i
    · subst e
      have hb2 : orB X' (orB Y XL) b ≠ none := fun h => hb (by show upd' m.l.2.X j _ j b = none; rw [upd'_same]; exact h)
      rcases hnewX b hb2 with e | hy | hx
      · subst e; exact hgfoot.imp id .inr
      · exact .inr (.inl hy)
      · exact .inl (hfoot b (hXL b hx).1)
    · have hb2 : m.l.2.X j b ≠ none := fun h => hb (by show upd' m.l.2.X i _ j b = none; rw [upd'_ne _ _ e]; exact h)
      exact .inl (.inr ⟨j, hj, hb2⟩)
 refine ⟨?_, fun b hb hf hn => hkeepF b (fun x => hf (.inr x)) hb, ⟨C.frame _ _ _ hB.core.1 fun b hb => hkeepF b (hdis b hb) (C.lt _ _ _ hB.core.1 hb), hAns, fun b hb hf => ?_⟩, fun b o hb => ?_, fun b hb => ?_, fun b hb => .inl (hBbox b hb), fun b hb => ?_, rfl⟩
 · show wc.heap.size ≤ (w2.setCell _ _).heap.size
   rw [hp_size_set]; exact hs2
 · rcases hnf b hf with x | x | x
   · exact hdis b hb x
   · exact hboxC b (hYbox b x) hb
   · exact absurd (C.lt _ _ _ hB.core.1 hb) (Nat.not_lt_of_le x)
 · have hbx := hBB b o hb
   have hn : m.box i b ≠ none := by rw [hbx]; simp
   rw [hkeepF b (hboxf b hn) (hltB b hn)]
   exact hB.box i b o hbx
 · rcases hb with hb | hb
   · exact .inl (.inl hb)
   · rcases hnf b hb with x | x | x
     · exact .inl (.inr x)
     · exact .inr (.inl (hYbox b x))
     · exact .inr (.inr x)
 · refine Classical.byContradiction fun x => ?_
   have hbx := hBbox b x
   rcases hb with hb | hb
   · exact hboxC b hbx hb
   · rcases hnf b hb with y | y | y
     · exact hboxf b hbx y
     · exact x (hYn b y)
     · have := hltB b hbx; omega
end
end Go.Car
