/-
  No cell of these rows narrows 'for every input' (looked for: loops, veiled, ifaces, maps, wideKeys, modest, calm, conditions, laid).
  DERIVED. THE GIVEN ROWS OF THIS SEAT. 5 by the template 'for every input the law returns true; each argument reads behind the call as it read before'; 0 by the template 'total and deterministic' (their statements: YtdncabjenacolaaTotals.lean).
  GIVEN WITH THE SEED: the statements are not yours to turn. If you find one false, say at which input.
  Laid BY PROGRAM, IN A SANDBOX (cutbox-rows.mjs): the forced cells as the released guide's own fill.sh prints them over the translation 57eedf654458cd07… (all of the seat's roots in one cut). By AI agents, Wed Nov 11 2026. No macro, syntax, notation, axiom, sorry.
-/
import Derived.Test.YtdncabjenacolaaChecked
import GoSem.Claim
import GoSem.ClaimJoined
import GoSem.ClaimMapViews
import Derived.JoinedTies
import Derived.KernelRfl
namespace Go.Proofs.Ytdncabjenacolaa
/- THE CELL 'sum', in the pinned program and in every row, IS THE sha256 OF THE DUMP (.gsa) THAT YtdncabjenacolaaProg.lean LOADS. Nothing in Lean hashes anything: it is a label: what it is worth is what the hold of that sum in a sandbox is worth. -/
noncomputable def Try.pinned : Pinned := { name := "ytdncabjenacolaa", sum := "57eedf654458cd0707eac449d5ef02fec6e5c62ccac57270cfcf11f3a7f9d4c7", checked := Try.checked }
namespace Rows
def none {H : Type} : Left H := { results := [], args := [] }

/-- 'carillonlaw01.TurnPlays': WHATEVER THE INPUT: true; the input reads as it did. -/
def turnPlaysSpec : ChangeSpec := { name := "turnPlays", fn := fun _ => fun
  | [d1, d2, d3, d4] => { results := [.lit (.bool true)], args := [d1, d2, d3, d4] }
  | _ => none }
def turnPlaysRow : OpenClaim := { program := "ytdncabjenacolaa", sum := "57eedf654458cd0707eac449d5ef02fec6e5c62ccac57270cfcf11f3a7f9d4c7", func := "carillon/carillonlaw01.TurnPlays", spec := "turnPlays", inPlace := ["sync/atomic.StoreInt64", "sync/atomic.LoadInt64", "sync/atomic.AddInt64", "sync/atomic.SwapInt64", "sync/atomic.CompareAndSwapInt64"], unfollowed := true, recurses := true, leaving := true, apart := false }
def TurnPlaysSaid : Prop := turnPlaysRow.holds Try.pinned (OpenSpec.ofChange turnPlaysSpec)

/-- ITS FALSE NEIGHBOUR: 'it returns false'. Refute it at one input. -/
def turnPlaysWrong : ChangeSpec := { name := "turnPlays", fn := fun _ => fun
  | [d1, d2, d3, d4] => { results := [.lit (.bool false)], args := [d1, d2, d3, d4] }
  | _ => none }
def TurnPlaysWrongFalsely : Prop := turnPlaysRow.holds Try.pinned (OpenSpec.ofChange turnPlaysWrong)

/-- 'carillonlaw01.TurnKeeps': WHATEVER THE INPUT: true; the input reads as it did. -/
def turnKeepsSpec : ChangeSpec := { name := "turnKeeps", fn := fun _ => fun
  | [d1, d2, d3] => { results := [.lit (.bool true)], args := [d1, d2, d3] }
  | _ => none }
def turnKeepsRow : OpenClaim := { program := "ytdncabjenacolaa", sum := "57eedf654458cd0707eac449d5ef02fec6e5c62ccac57270cfcf11f3a7f9d4c7", func := "carillon/carillonlaw01.TurnKeeps", spec := "turnKeeps", inPlace := ["sync/atomic.StoreInt64", "sync/atomic.LoadInt64", "sync/atomic.AddInt64", "sync/atomic.SwapInt64", "sync/atomic.CompareAndSwapInt64"], unfollowed := true, recurses := true, leaving := true, apart := false }
def TurnKeepsSaid : Prop := turnKeepsRow.holds Try.pinned (OpenSpec.ofChange turnKeepsSpec)

/-- ITS FALSE NEIGHBOUR: 'it returns false'. Refute it at one input. -/
def turnKeepsWrong : ChangeSpec := { name := "turnKeeps", fn := fun _ => fun
  | [d1, d2, d3] => { results := [.lit (.bool false)], args := [d1, d2, d3] }
  | _ => none }
def TurnKeepsWrongFalsely : Prop := turnKeepsRow.holds Try.pinned (OpenSpec.ofChange turnKeepsWrong)

/-- 'carillonlaw01.TurnOver': WHATEVER THE INPUT: true; the input reads as it did. -/
def turnOverSpec : ChangeSpec := { name := "turnOver", fn := fun _ => fun
  | [d1, d2] => { results := [.lit (.bool true)], args := [d1, d2] }
  | _ => none }
def turnOverRow : OpenClaim := { program := "ytdncabjenacolaa", sum := "57eedf654458cd0707eac449d5ef02fec6e5c62ccac57270cfcf11f3a7f9d4c7", func := "carillon/carillonlaw01.TurnOver", spec := "turnOver", inPlace := ["sync/atomic.StoreInt64", "sync/atomic.LoadInt64", "sync/atomic.AddInt64", "sync/atomic.SwapInt64", "sync/atomic.CompareAndSwapInt64"], unfollowed := true, recurses := true, leaving := true, apart := false }
def TurnOverSaid : Prop := turnOverRow.holds Try.pinned (OpenSpec.ofChange turnOverSpec)

/-- ITS FALSE NEIGHBOUR: 'it returns false'. Refute it at one input. -/
def turnOverWrong : ChangeSpec := { name := "turnOver", fn := fun _ => fun
  | [d1, d2] => { results := [.lit (.bool false)], args := [d1, d2] }
  | _ => none }
def TurnOverWrongFalsely : Prop := turnOverRow.holds Try.pinned (OpenSpec.ofChange turnOverWrong)

/-- 'carillonlaw01.TurnMost': WHATEVER THE INPUT: true; the input reads as it did. -/
def turnMostSpec : ChangeSpec := { name := "turnMost", fn := fun _ => fun
  | [d1, d2, d3] => { results := [.lit (.bool true)], args := [d1, d2, d3] }
  | _ => none }
def turnMostRow : OpenClaim := { program := "ytdncabjenacolaa", sum := "57eedf654458cd0707eac449d5ef02fec6e5c62ccac57270cfcf11f3a7f9d4c7", func := "carillon/carillonlaw01.TurnMost", spec := "turnMost", inPlace := ["sync/atomic.StoreInt64", "sync/atomic.LoadInt64", "sync/atomic.AddInt64", "sync/atomic.SwapInt64", "sync/atomic.CompareAndSwapInt64"], unfollowed := true, recurses := true, leaving := true, apart := false }
def TurnMostSaid : Prop := turnMostRow.holds Try.pinned (OpenSpec.ofChange turnMostSpec)

/-- ITS FALSE NEIGHBOUR: 'it returns false'. Refute it at one input. -/
def turnMostWrong : ChangeSpec := { name := "turnMost", fn := fun _ => fun
  | [d1, d2, d3] => { results := [.lit (.bool false)], args := [d1, d2, d3] }
  | _ => none }
def TurnMostWrongFalsely : Prop := turnMostRow.holds Try.pinned (OpenSpec.ofChange turnMostWrong)

/-- 'carillonlaw01.TurnAlone': WHATEVER THE INPUT: true; the input reads as it did. -/
def turnAloneSpec : ChangeSpec := { name := "turnAlone", fn := fun _ => fun
  | [d1, d2] => { results := [.lit (.bool true)], args := [d1, d2] }
  | _ => none }
def turnAloneRow : OpenClaim := { program := "ytdncabjenacolaa", sum := "57eedf654458cd0707eac449d5ef02fec6e5c62ccac57270cfcf11f3a7f9d4c7", func := "carillon/carillonlaw01.TurnAlone", spec := "turnAlone", inPlace := ["sync/atomic.StoreInt64", "sync/atomic.LoadInt64", "sync/atomic.AddInt64", "sync/atomic.SwapInt64", "sync/atomic.CompareAndSwapInt64"], unfollowed := true, recurses := true, leaving := true, apart := false }
def TurnAloneSaid : Prop := turnAloneRow.holds Try.pinned (OpenSpec.ofChange turnAloneSpec)

/-- ITS FALSE NEIGHBOUR: 'it returns false'. Refute it at one input. -/
def turnAloneWrong : ChangeSpec := { name := "turnAlone", fn := fun _ => fun
  | [d1, d2] => { results := [.lit (.bool false)], args := [d1, d2] }
  | _ => none }
def TurnAloneWrongFalsely : Prop := turnAloneRow.holds Try.pinned (OpenSpec.ofChange turnAloneWrong)

/- THE SECOND FORM. 'bulk': how many values and letters a reading holds, each counted each time it is reached (what is shared counts as often as it is met; a slice's spare places count too). A statement '..UptoSaid' is the law's where the arguments, and the package variables that the reading takes, are together of bulk at most 1048576: NARROWER than '..Said'. Prove '..Said' where nothing that the law and all that it calls make is longer than what came in: it says more and counts as full. Else prove '..UptoSaid'. A law counts once. -/
mutual
def uptoBulk {H : Type} : DataW H → Nat
  | .lit (.string bytes) => bytes.length + 1
  | .lit _ => 1
  | .nil => 1
  | .ptr d => uptoBulk d + 1
  | .slice elems spare => uptoBulkAll elems + uptoBulkAll spare + 1
  | .agg parts => uptoBulkAll parts + 1
  | .iface _ d => uptoBulk d + 1
  | .map entries => uptoBulkEntries entries + 1
  | .held _ => 1
def uptoBulkAll {H : Type} : List (DataW H) → Nat
  | [] => 0
  | d :: r => uptoBulk d + uptoBulkAll r
def uptoBulkEntries {H : Type} : List (Lit × DataW H) → Nat
  | [] => 0
  | x :: r => uptoBulkEntry x + uptoBulkEntries r
def uptoBulkEntry {H : Type} : Lit × DataW H → Nat
  | (.string bytes, d) => bytes.length + uptoBulk d + 1
  | (_, d) => uptoBulk d + 1
 end
def uptoSmall : (H : Type) → List (DataW H) → Bool := fun _ ds => decide (uptoBulkAll ds ≤ 1048576)
def OpenSpec.upto (s : _root_.Go.ChangeSpec) : _root_.Go.OpenSpec := { _root_.Go.OpenSpec.ofChange s with cond := some uptoSmall }

/-- 'carillonlaw01.TurnPlays', WHERE WHAT IT READS IS OF BULK AT MOST 1048576: true; the input reads as it did. -/
def turnPlaysUptoRow : OpenClaim := { program := "ytdncabjenacolaa", sum := "57eedf654458cd0707eac449d5ef02fec6e5c62ccac57270cfcf11f3a7f9d4c7", func := "carillon/carillonlaw01.TurnPlays", spec := "turnPlays", inPlace := ["sync/atomic.StoreInt64", "sync/atomic.LoadInt64", "sync/atomic.AddInt64", "sync/atomic.SwapInt64", "sync/atomic.CompareAndSwapInt64"], unfollowed := true, recurses := true, leaving := true, apart := false, narrowed := true }
def TurnPlaysUptoSaid : Prop := turnPlaysUptoRow.holds Try.pinned (OpenSpec.upto turnPlaysSpec)

/-- 'carillonlaw01.TurnKeeps', WHERE WHAT IT READS IS OF BULK AT MOST 1048576: true; the input reads as it did. -/
def turnKeepsUptoRow : OpenClaim := { program := "ytdncabjenacolaa", sum := "57eedf654458cd0707eac449d5ef02fec6e5c62ccac57270cfcf11f3a7f9d4c7", func := "carillon/carillonlaw01.TurnKeeps", spec := "turnKeeps", inPlace := ["sync/atomic.StoreInt64", "sync/atomic.LoadInt64", "sync/atomic.AddInt64", "sync/atomic.SwapInt64", "sync/atomic.CompareAndSwapInt64"], unfollowed := true, recurses := true, leaving := true, apart := false, narrowed := true }
def TurnKeepsUptoSaid : Prop := turnKeepsUptoRow.holds Try.pinned (OpenSpec.upto turnKeepsSpec)

/-- 'carillonlaw01.TurnOver', WHERE WHAT IT READS IS OF BULK AT MOST 1048576: true; the input reads as it did. -/
def turnOverUptoRow : OpenClaim := { program := "ytdncabjenacolaa", sum := "57eedf654458cd0707eac449d5ef02fec6e5c62ccac57270cfcf11f3a7f9d4c7", func := "carillon/carillonlaw01.TurnOver", spec := "turnOver", inPlace := ["sync/atomic.StoreInt64", "sync/atomic.LoadInt64", "sync/atomic.AddInt64", "sync/atomic.SwapInt64", "sync/atomic.CompareAndSwapInt64"], unfollowed := true, recurses := true, leaving := true, apart := false, narrowed := true }
def TurnOverUptoSaid : Prop := turnOverUptoRow.holds Try.pinned (OpenSpec.upto turnOverSpec)

/-- 'carillonlaw01.TurnMost', WHERE WHAT IT READS IS OF BULK AT MOST 1048576: true; the input reads as it did. -/
def turnMostUptoRow : OpenClaim := { program := "ytdncabjenacolaa", sum := "57eedf654458cd0707eac449d5ef02fec6e5c62ccac57270cfcf11f3a7f9d4c7", func := "carillon/carillonlaw01.TurnMost", spec := "turnMost", inPlace := ["sync/atomic.StoreInt64", "sync/atomic.LoadInt64", "sync/atomic.AddInt64", "sync/atomic.SwapInt64", "sync/atomic.CompareAndSwapInt64"], unfollowed := true, recurses := true, leaving := true, apart := false, narrowed := true }
def TurnMostUptoSaid : Prop := turnMostUptoRow.holds Try.pinned (OpenSpec.upto turnMostSpec)

/-- 'carillonlaw01.TurnAlone', WHERE WHAT IT READS IS OF BULK AT MOST 1048576: true; the input reads as it did. -/
def turnAloneUptoRow : OpenClaim := { program := "ytdncabjenacolaa", sum := "57eedf654458cd0707eac449d5ef02fec6e5c62ccac57270cfcf11f3a7f9d4c7", func := "carillon/carillonlaw01.TurnAlone", spec := "turnAlone", inPlace := ["sync/atomic.StoreInt64", "sync/atomic.LoadInt64", "sync/atomic.AddInt64", "sync/atomic.SwapInt64", "sync/atomic.CompareAndSwapInt64"], unfollowed := true, recurses := true, leaving := true, apart := false, narrowed := true }
def TurnAloneUptoSaid : Prop := turnAloneUptoRow.holds Try.pinned (OpenSpec.upto turnAloneSpec)

end Rows
end Go.Proofs.Ytdncabjenacolaa
