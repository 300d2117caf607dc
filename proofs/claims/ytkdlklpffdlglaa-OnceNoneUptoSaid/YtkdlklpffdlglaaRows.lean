/-
  NARROWER THAN 'FOR EVERY INPUT', by the rows' own cells (each row's printed sentence says how): OnceNone: calm.
  DERIVED. THE GIVEN ROWS OF THIS SEAT. 6 by the template 'for every input the law returns true; each argument reads behind the call as it read before'; 0 by the template 'total and deterministic' (their statements: YtkdlklpffdlglaaTotals.lean).
  GIVEN WITH THE SEED: the statements are not yours to turn. If you find one false, say at which input.
  Laid BY PROGRAM, IN A SANDBOX (cutbox-rows.mjs): the forced cells as the released guide's own fill.sh prints them over the translation 6ab787610bc5ee71… (all of the seat's roots in one cut). By AI agents, Wed Nov 11 2026. No macro, syntax, notation, axiom, sorry.
-/
import Derived.Test.YtkdlklpffdlglaaChecked
import GoSem.Claim
import GoSem.ClaimJoined
import GoSem.ClaimMapViews
import Derived.JoinedTies
import Derived.KernelRfl
namespace Go.Proofs.Ytkdlklpffdlglaa
/- THE CELL 'sum', in the pinned program and in every row, IS THE sha256 OF THE DUMP (.gsa) THAT YtkdlklpffdlglaaProg.lean LOADS. Nothing in Lean hashes anything: it is a label: what it is worth is what the hold of that sum in a sandbox is worth. -/
noncomputable def Try.pinned : Pinned := { name := "ytkdlklpffdlglaa", sum := "6ab787610bc5ee7146f42ee51abd2ae7992f497a2a833a99a53caa9f7b7a9340", checked := Try.checked }
namespace Rows
def none {H : Type} : Left H := { results := [], args := [] }

/-- 'carillonlaw03.OncePlays': WHATEVER THE INPUT: true; the input reads as it did. -/
def oncePlaysSpec : ChangeSpec := { name := "oncePlays", fn := fun _ => fun
  | [d1, d2, d3, d4] => { results := [.lit (.bool true)], args := [d1, d2, d3, d4] }
  | _ => none }
def oncePlaysRow : OpenClaim := { program := "ytkdlklpffdlglaa", sum := "6ab787610bc5ee7146f42ee51abd2ae7992f497a2a833a99a53caa9f7b7a9340", func := "carillon/carillonlaw03.OncePlays", spec := "oncePlays", inPlace := ["sync/atomic.LoadInt64", "sync/atomic.CompareAndSwapInt64", "sync/atomic.StoreInt64", "sync/atomic.AddInt64"], unfollowed := true, recurses := true, leaving := true, apart := false }
def OncePlaysSaid : Prop := oncePlaysRow.holds Try.pinned (OpenSpec.ofChange oncePlaysSpec)

/-- ITS FALSE NEIGHBOUR: 'it returns false'. Refute it at one input. -/
def oncePlaysWrong : ChangeSpec := { name := "oncePlays", fn := fun _ => fun
  | [d1, d2, d3, d4] => { results := [.lit (.bool false)], args := [d1, d2, d3, d4] }
  | _ => none }
def OncePlaysWrongFalsely : Prop := oncePlaysRow.holds Try.pinned (OpenSpec.ofChange oncePlaysWrong)

/-- 'carillonlaw03.OnceAlone': WHATEVER THE INPUT: true; the input reads as it did. -/
def onceAloneSpec : ChangeSpec := { name := "onceAlone", fn := fun _ => fun
  | [d] => { results := [.lit (.bool true)], args := [d] }
  | _ => none }
def onceAloneRow : OpenClaim := { program := "ytkdlklpffdlglaa", sum := "6ab787610bc5ee7146f42ee51abd2ae7992f497a2a833a99a53caa9f7b7a9340", func := "carillon/carillonlaw03.OnceAlone", spec := "onceAlone", inPlace := ["sync/atomic.LoadInt64", "sync/atomic.CompareAndSwapInt64", "sync/atomic.StoreInt64", "sync/atomic.AddInt64"], unfollowed := true, recurses := true, leaving := true, apart := false }
def OnceAloneSaid : Prop := onceAloneRow.holds Try.pinned (OpenSpec.ofChange onceAloneSpec)

/-- ITS FALSE NEIGHBOUR: 'it returns false'. Refute it at one input. -/
def onceAloneWrong : ChangeSpec := { name := "onceAlone", fn := fun _ => fun
  | [d] => { results := [.lit (.bool false)], args := [d] }
  | _ => none }
def OnceAloneWrongFalsely : Prop := onceAloneRow.holds Try.pinned (OpenSpec.ofChange onceAloneWrong)

/-- 'carillonlaw03.OnceOne': WHATEVER THE INPUT: true; the input reads as it did. -/
def onceOneSpec : ChangeSpec := { name := "onceOne", fn := fun _ => fun
  | [d1, d2, d3, d4] => { results := [.lit (.bool true)], args := [d1, d2, d3, d4] }
  | _ => none }
def onceOneRow : OpenClaim := { program := "ytkdlklpffdlglaa", sum := "6ab787610bc5ee7146f42ee51abd2ae7992f497a2a833a99a53caa9f7b7a9340", func := "carillon/carillonlaw03.OnceOne", spec := "onceOne", inPlace := ["sync/atomic.LoadInt64", "sync/atomic.CompareAndSwapInt64", "sync/atomic.StoreInt64", "sync/atomic.AddInt64"], unfollowed := true, recurses := true, leaving := true, apart := false }
def OnceOneSaid : Prop := onceOneRow.holds Try.pinned (OpenSpec.ofChange onceOneSpec)

/-- ITS FALSE NEIGHBOUR: 'it returns false'. Refute it at one input. -/
def onceOneWrong : ChangeSpec := { name := "onceOne", fn := fun _ => fun
  | [d1, d2, d3, d4] => { results := [.lit (.bool false)], args := [d1, d2, d3, d4] }
  | _ => none }
def OnceOneWrongFalsely : Prop := onceOneRow.holds Try.pinned (OpenSpec.ofChange onceOneWrong)

/-- 'carillonlaw03.OnceBox': WHATEVER THE INPUT: true; the input reads as it did. -/
def onceBoxSpec : ChangeSpec := { name := "onceBox", fn := fun _ => fun
  | [d1, d2] => { results := [.lit (.bool true)], args := [d1, d2] }
  | _ => none }
def onceBoxRow : OpenClaim := { program := "ytkdlklpffdlglaa", sum := "6ab787610bc5ee7146f42ee51abd2ae7992f497a2a833a99a53caa9f7b7a9340", func := "carillon/carillonlaw03.OnceBox", spec := "onceBox", inPlace := ["sync/atomic.LoadInt64", "sync/atomic.CompareAndSwapInt64", "sync/atomic.StoreInt64", "sync/atomic.AddInt64", "sync/atomic.CompareAndSwapPointer", "sync/atomic.LoadPointer"], unfollowed := true, recurses := true, leaving := true, apart := false }
def OnceBoxSaid : Prop := onceBoxRow.holds Try.pinned (OpenSpec.ofChange onceBoxSpec)

/-- ITS FALSE NEIGHBOUR: 'it returns false'. Refute it at one input. -/
def onceBoxWrong : ChangeSpec := { name := "onceBox", fn := fun _ => fun
  | [d1, d2] => { results := [.lit (.bool false)], args := [d1, d2] }
  | _ => none }
def OnceBoxWrongFalsely : Prop := onceBoxRow.holds Try.pinned (OpenSpec.ofChange onceBoxWrong)

/-- 'carillonlaw03.OnceBoxSteps': WHATEVER THE INPUT: true; the input reads as it did. -/
def onceBoxStepsSpec : ChangeSpec := { name := "onceBoxSteps", fn := fun _ => fun
  | [d1, d2] => { results := [.lit (.bool true)], args := [d1, d2] }
  | _ => none }
def onceBoxStepsRow : OpenClaim := { program := "ytkdlklpffdlglaa", sum := "6ab787610bc5ee7146f42ee51abd2ae7992f497a2a833a99a53caa9f7b7a9340", func := "carillon/carillonlaw03.OnceBoxSteps", spec := "onceBoxSteps", inPlace := ["sync/atomic.LoadInt64", "sync/atomic.CompareAndSwapInt64", "sync/atomic.StoreInt64", "sync/atomic.AddInt64", "sync/atomic.LoadPointer", "sync/atomic.CompareAndSwapPointer"], unfollowed := true, recurses := true, leaving := true, apart := false }
def OnceBoxStepsSaid : Prop := onceBoxStepsRow.holds Try.pinned (OpenSpec.ofChange onceBoxStepsSpec)

/-- ITS FALSE NEIGHBOUR: 'it returns false'. Refute it at one input. -/
def onceBoxStepsWrong : ChangeSpec := { name := "onceBoxSteps", fn := fun _ => fun
  | [d1, d2] => { results := [.lit (.bool false)], args := [d1, d2] }
  | _ => none }
def OnceBoxStepsWrongFalsely : Prop := onceBoxStepsRow.holds Try.pinned (OpenSpec.ofChange onceBoxStepsWrong)

/-- 'carillonlaw03.OnceNone': WHATEVER THE INPUT: true; the input reads as it did. -/
def onceNoneSpec : ChangeSpec := { name := "onceNone", fn := fun _ => fun
  | [d1, d2] => { results := [.lit (.bool true)], args := [d1, d2] }
  | _ => none }
def onceNoneRow : OpenClaim := { program := "ytkdlklpffdlglaa", sum := "6ab787610bc5ee7146f42ee51abd2ae7992f497a2a833a99a53caa9f7b7a9340", func := "carillon/carillonlaw03.OnceNone", spec := "onceNone", inPlace := ["sync/atomic.LoadInt64", "sync/atomic.CompareAndSwapInt64", "sync/atomic.StoreInt64", "sync/atomic.AddInt64", "sync/atomic.LoadPointer", "sync/atomic.CompareAndSwapPointer", "sync/atomic.LoadUint32", "(*internal/sync.Mutex).Lock", "internal/race.Disable", "sync/atomic.CompareAndSwapInt32", "internal/race.Enable", "internal/race.Acquire", "(*internal/sync.Mutex).lockSlow", "internal/sync.runtime_canSpin", "internal/sync.runtime_doSpin", "internal/sync.throw", "internal/sync.runtime_nanotime", "internal/sync.runtime_SemacquireMutex", "sync/atomic.AddInt32", "(*internal/sync.Mutex).Unlock", "internal/race.ReleaseMerge", "(*internal/sync.Mutex).unlockSlow", "internal/sync.fatal", "internal/sync.runtime_Semrelease", "sync/atomic.StoreUint32"], unfollowed := true, recurses := true, leaving := true, apart := false, calm := true, outside := [.timePasses] }
def OnceNoneSaid : Prop := onceNoneRow.holds Try.pinned (OpenSpec.ofChange onceNoneSpec)

/-- ITS FALSE NEIGHBOUR: 'it returns false'. Refute it at one input. -/
def onceNoneWrong : ChangeSpec := { name := "onceNone", fn := fun _ => fun
  | [d1, d2] => { results := [.lit (.bool false)], args := [d1, d2] }
  | _ => none }
def OnceNoneWrongFalsely : Prop := onceNoneRow.holds Try.pinned (OpenSpec.ofChange onceNoneWrong)

/- THE SECOND FORM. 'bulk': how many values and letters a reading holds, each counted each time it is reached (what is shared counts as often as it is met; a slice's spare places count too). A statement '..UptoSaid' is the law's where the arguments, and the package variables that the reading takes, are together of bulk at most 1048576: NARROWER than '..Said'. Prove '..Said' where nothing that the law and all that it calls make is longer than what came in: it says more and counts as full. Else prove '..UptoSaid'. A law counts once. -/
mutual
def uptoBulk {H : Type} : DataW H → Nat
  | .lit (.string bytes) => bytes.length + 1
  | .lit _ => 1
  | .nil => 1
  | .ptr d => uptoBulk d + 1
  | .slice elems spare => uptoBulkAll elems + uptoBulkAll spare + 1
  | .agg parts => uptoBulkAll parts + 1
  | .iface _ d => uptoBulk d + 1
  | .map entries => uptoBulkEntries entries + 1
  | .held _ => 1
def uptoBulkAll {H : Type} : List (DataW H) → Nat
  | [] => 0
  | d :: r => uptoBulk d + uptoBulkAll r
def uptoBulkEntries {H : Type} : List (Lit × DataW H) → Nat
  | [] => 0
  | x :: r => uptoBulkEntry x + uptoBulkEntries r
def uptoBulkEntry {H : Type} : Lit × DataW H → Nat
  | (.string bytes, d) => bytes.length + uptoBulk d + 1
  | (_, d) => uptoBulk d + 1
 end
def uptoSmall : (H : Type) → List (DataW H) → Bool := fun _ ds => decide (uptoBulkAll ds ≤ 1048576)
def OpenSpec.upto (s : _root_.Go.ChangeSpec) : _root_.Go.OpenSpec := { _root_.Go.OpenSpec.ofChange s with cond := some uptoSmall }

/-- 'carillonlaw03.OncePlays', WHERE WHAT IT READS IS OF BULK AT MOST 1048576: true; the input reads as it did. -/
def oncePlaysUptoRow : OpenClaim := { program := "ytkdlklpffdlglaa", sum := "6ab787610bc5ee7146f42ee51abd2ae7992f497a2a833a99a53caa9f7b7a9340", func := "carillon/carillonlaw03.OncePlays", spec := "oncePlays", inPlace := ["sync/atomic.LoadInt64", "sync/atomic.CompareAndSwapInt64", "sync/atomic.StoreInt64", "sync/atomic.AddInt64"], unfollowed := true, recurses := true, leaving := true, apart := false, narrowed := true }
def OncePlaysUptoSaid : Prop := oncePlaysUptoRow.holds Try.pinned (OpenSpec.upto oncePlaysSpec)

/-- 'carillonlaw03.OnceAlone', WHERE WHAT IT READS IS OF BULK AT MOST 1048576: true; the input reads as it did. -/
def onceAloneUptoRow : OpenClaim := { program := "ytkdlklpffdlglaa", sum := "6ab787610bc5ee7146f42ee51abd2ae7992f497a2a833a99a53caa9f7b7a9340", func := "carillon/carillonlaw03.OnceAlone", spec := "onceAlone", inPlace := ["sync/atomic.LoadInt64", "sync/atomic.CompareAndSwapInt64", "sync/atomic.StoreInt64", "sync/atomic.AddInt64"], unfollowed := true, recurses := true, leaving := true, apart := false, narrowed := true }
def OnceAloneUptoSaid : Prop := onceAloneUptoRow.holds Try.pinned (OpenSpec.upto onceAloneSpec)

/-- 'carillonlaw03.OnceOne', WHERE WHAT IT READS IS OF BULK AT MOST 1048576: true; the input reads as it did. -/
def onceOneUptoRow : OpenClaim := { program := "ytkdlklpffdlglaa", sum := "6ab787610bc5ee7146f42ee51abd2ae7992f497a2a833a99a53caa9f7b7a9340", func := "carillon/carillonlaw03.OnceOne", spec := "onceOne", inPlace := ["sync/atomic.LoadInt64", "sync/atomic.CompareAndSwapInt64", "sync/atomic.StoreInt64", "sync/atomic.AddInt64"], unfollowed := true, recurses := true, leaving := true, apart := false, narrowed := true }
def OnceOneUptoSaid : Prop := onceOneUptoRow.holds Try.pinned (OpenSpec.upto onceOneSpec)

/-- 'carillonlaw03.OnceBox', WHERE WHAT IT READS IS OF BULK AT MOST 1048576: true; the input reads as it did. -/
def onceBoxUptoRow : OpenClaim := { program := "ytkdlklpffdlglaa", sum := "6ab787610bc5ee7146f42ee51abd2ae7992f497a2a833a99a53caa9f7b7a9340", func := "carillon/carillonlaw03.OnceBox", spec := "onceBox", inPlace := ["sync/atomic.LoadInt64", "sync/atomic.CompareAndSwapInt64", "sync/atomic.StoreInt64", "sync/atomic.AddInt64", "sync/atomic.CompareAndSwapPointer", "sync/atomic.LoadPointer"], unfollowed := true, recurses := true, leaving := true, apart := false, narrowed := true }
def OnceBoxUptoSaid : Prop := onceBoxUptoRow.holds Try.pinned (OpenSpec.upto onceBoxSpec)

/-- 'carillonlaw03.OnceBoxSteps', WHERE WHAT IT READS IS OF BULK AT MOST 1048576: true; the input reads as it did. -/
def onceBoxStepsUptoRow : OpenClaim := { program := "ytkdlklpffdlglaa", sum := "6ab787610bc5ee7146f42ee51abd2ae7992f497a2a833a99a53caa9f7b7a9340", func := "carillon/carillonlaw03.OnceBoxSteps", spec := "onceBoxSteps", inPlace := ["sync/atomic.LoadInt64", "sync/atomic.CompareAndSwapInt64", "sync/atomic.StoreInt64", "sync/atomic.AddInt64", "sync/atomic.LoadPointer", "sync/atomic.CompareAndSwapPointer"], unfollowed := true, recurses := true, leaving := true, apart := false, narrowed := true }
def OnceBoxStepsUptoSaid : Prop := onceBoxStepsUptoRow.holds Try.pinned (OpenSpec.upto onceBoxStepsSpec)

/-- 'carillonlaw03.OnceNone', WHERE WHAT IT READS IS OF BULK AT MOST 1048576: true; the input reads as it did. -/
def onceNoneUptoRow : OpenClaim := { program := "ytkdlklpffdlglaa", sum := "6ab787610bc5ee7146f42ee51abd2ae7992f497a2a833a99a53caa9f7b7a9340", func := "carillon/carillonlaw03.OnceNone", spec := "onceNone", inPlace := ["sync/atomic.LoadInt64", "sync/atomic.CompareAndSwapInt64", "sync/atomic.StoreInt64", "sync/atomic.AddInt64", "sync/atomic.LoadPointer", "sync/atomic.CompareAndSwapPointer", "sync/atomic.LoadUint32", "(*internal/sync.Mutex).Lock", "internal/race.Disable", "sync/atomic.CompareAndSwapInt32", "internal/race.Enable", "internal/race.Acquire", "(*internal/sync.Mutex).lockSlow", "internal/sync.runtime_canSpin", "internal/sync.runtime_doSpin", "internal/sync.throw", "internal/sync.runtime_nanotime", "internal/sync.runtime_SemacquireMutex", "sync/atomic.AddInt32", "(*internal/sync.Mutex).Unlock", "internal/race.ReleaseMerge", "(*internal/sync.Mutex).unlockSlow", "internal/sync.fatal", "internal/sync.runtime_Semrelease", "sync/atomic.StoreUint32"], unfollowed := true, recurses := true, leaving := true, apart := false, calm := true, outside := [.timePasses], narrowed := true }
def OnceNoneUptoSaid : Prop := onceNoneUptoRow.holds Try.pinned (OpenSpec.upto onceNoneSpec)

end Rows
end Go.Proofs.Ytkdlklpffdlglaa
