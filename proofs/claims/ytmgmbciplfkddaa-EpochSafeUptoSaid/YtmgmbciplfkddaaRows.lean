/-
  No cell of these rows narrows 'for every input' (looked for: loops, veiled, ifaces, maps, wideKeys, modest, calm, conditions, laid).
  DERIVED. THE GIVEN ROWS OF THIS SEAT. 4 by the template 'for every input the law returns true; each argument reads behind the call as it read before'; 0 by the template 'total and deterministic' (their statements: YtmgmbciplfkddaaTotals.lean).
  GIVEN WITH THE SEED: the statements are not yours to turn. If you find one false, say at which input.
  Laid BY PROGRAM, IN A SANDBOX (cutbox-rows.mjs): the forced cells as the released guide's own fill.sh prints them over the translation 1cd8dc1b5f3ac881… (all of the seat's roots in one cut). By AI agents, Wed Nov 11 2026. No macro, syntax, notation, axiom, sorry.
-/
import Derived.Test.YtmgmbciplfkddaaChecked
import GoSem.Claim
import GoSem.ClaimJoined
import GoSem.ClaimMapViews
import Derived.JoinedTies
import Derived.KernelRfl
namespace Go.Proofs.Ytmgmbciplfkddaa
/- THE CELL 'sum', in the pinned program and in every row, IS THE sha256 OF THE DUMP (.gsa) THAT YtmgmbciplfkddaaProg.lean LOADS. Nothing in Lean hashes anything: it is a label: what it is worth is what the hold of that sum in a sandbox is worth. -/
noncomputable def Try.pinned : Pinned := { name := "ytmgmbciplfkddaa", sum := "1cd8dc1b5f3ac8813e1afb1aac1ee939a29dc44fd5000ef139d32620cc054ed4", checked := Try.checked }
namespace Rows
def none {H : Type} : Left H := { results := [], args := [] }

/-- 'carillonlaw10.EpochPlays': WHATEVER THE INPUT: true; the input reads as it did. -/
def epochPlaysSpec : ChangeSpec := { name := "epochPlays", fn := fun _ => fun
  | [d1, d2, d3, d4] => { results := [.lit (.bool true)], args := [d1, d2, d3, d4] }
  | _ => none }
def epochPlaysRow : OpenClaim := { program := "ytmgmbciplfkddaa", sum := "1cd8dc1b5f3ac8813e1afb1aac1ee939a29dc44fd5000ef139d32620cc054ed4", func := "carillon/carillonlaw10.EpochPlays", spec := "epochPlays", inPlace := ["sync/atomic.StoreInt64", "sync/atomic.LoadInt64", "sync/atomic.CompareAndSwapInt64"], unfollowed := true, recurses := true, leaving := true, apart := false }
def EpochPlaysSaid : Prop := epochPlaysRow.holds Try.pinned (OpenSpec.ofChange epochPlaysSpec)

/-- ITS FALSE NEIGHBOUR: 'it returns false'. Refute it at one input. -/
def epochPlaysWrong : ChangeSpec := { name := "epochPlays", fn := fun _ => fun
  | [d1, d2, d3, d4] => { results := [.lit (.bool false)], args := [d1, d2, d3, d4] }
  | _ => none }
def EpochPlaysWrongFalsely : Prop := epochPlaysRow.holds Try.pinned (OpenSpec.ofChange epochPlaysWrong)

/-- 'carillonlaw10.EpochCalls': WHATEVER THE INPUT: true; the input reads as it did. -/
def epochCallsSpec : ChangeSpec := { name := "epochCalls", fn := fun _ => fun
  | [d1, d2] => { results := [.lit (.bool true)], args := [d1, d2] }
  | _ => none }
def epochCallsRow : OpenClaim := { program := "ytmgmbciplfkddaa", sum := "1cd8dc1b5f3ac8813e1afb1aac1ee939a29dc44fd5000ef139d32620cc054ed4", func := "carillon/carillonlaw10.EpochCalls", spec := "epochCalls", inPlace := ["sync/atomic.StoreInt64", "sync/atomic.LoadInt64", "sync/atomic.CompareAndSwapInt64"], unfollowed := true, recurses := true, leaving := true, apart := false }
def EpochCallsSaid : Prop := epochCallsRow.holds Try.pinned (OpenSpec.ofChange epochCallsSpec)

/-- ITS FALSE NEIGHBOUR: 'it returns false'. Refute it at one input. -/
def epochCallsWrong : ChangeSpec := { name := "epochCalls", fn := fun _ => fun
  | [d1, d2] => { results := [.lit (.bool false)], args := [d1, d2] }
  | _ => none }
def EpochCallsWrongFalsely : Prop := epochCallsRow.holds Try.pinned (OpenSpec.ofChange epochCallsWrong)

/-- 'carillonlaw10.EpochNil': WHATEVER THE INPUT: true; the input reads as it did. -/
def epochNilSpec : ChangeSpec := { name := "epochNil", fn := fun _ => fun
  | [d] => { results := [.lit (.bool true)], args := [d] }
  | _ => none }
def epochNilRow : OpenClaim := { program := "ytmgmbciplfkddaa", sum := "1cd8dc1b5f3ac8813e1afb1aac1ee939a29dc44fd5000ef139d32620cc054ed4", func := "carillon/carillonlaw10.EpochNil", spec := "epochNil", inPlace := ["sync/atomic.StoreInt64", "sync/atomic.LoadInt64", "sync/atomic.CompareAndSwapInt64"], unfollowed := true, recurses := true, leaving := true, apart := false }
def EpochNilSaid : Prop := epochNilRow.holds Try.pinned (OpenSpec.ofChange epochNilSpec)

/-- ITS FALSE NEIGHBOUR: 'it returns false'. Refute it at one input. -/
def epochNilWrong : ChangeSpec := { name := "epochNil", fn := fun _ => fun
  | [d] => { results := [.lit (.bool false)], args := [d] }
  | _ => none }
def EpochNilWrongFalsely : Prop := epochNilRow.holds Try.pinned (OpenSpec.ofChange epochNilWrong)

/-- 'carillonlaw10.EpochSafe': WHATEVER THE INPUT: true; the input reads as it did. -/
def epochSafeSpec : ChangeSpec := { name := "epochSafe", fn := fun _ => fun
  | [d1, d2] => { results := [.lit (.bool true)], args := [d1, d2] }
  | _ => none }
def epochSafeRow : OpenClaim := { program := "ytmgmbciplfkddaa", sum := "1cd8dc1b5f3ac8813e1afb1aac1ee939a29dc44fd5000ef139d32620cc054ed4", func := "carillon/carillonlaw10.EpochSafe", spec := "epochSafe", inPlace := ["sync/atomic.StoreInt64", "sync/atomic.LoadInt64", "sync/atomic.CompareAndSwapInt64"], unfollowed := true, recurses := true, leaving := true, apart := false }
def EpochSafeSaid : Prop := epochSafeRow.holds Try.pinned (OpenSpec.ofChange epochSafeSpec)

/-- ITS FALSE NEIGHBOUR: 'it returns false'. Refute it at one input. -/
def epochSafeWrong : ChangeSpec := { name := "epochSafe", fn := fun _ => fun
  | [d1, d2] => { results := [.lit (.bool false)], args := [d1, d2] }
  | _ => none }
def EpochSafeWrongFalsely : Prop := epochSafeRow.holds Try.pinned (OpenSpec.ofChange epochSafeWrong)

/- THE SECOND FORM. 'bulk': how many values and letters a reading holds, each counted each time it is reached (what is shared counts as often as it is met; a slice's spare places count too). A statement '..UptoSaid' is the law's where the arguments, and the package variables that the reading takes, are together of bulk at most 1048576: NARROWER than '..Said'. Prove '..Said' where nothing that the law and all that it calls make is longer than what came in: it says more and counts as full. Else prove '..UptoSaid'. A law counts once. -/
mutual
def uptoBulk {H : Type} : DataW H → Nat
  | .lit (.string bytes) => bytes.length + 1
  | .lit _ => 1
  | .nil => 1
  | .ptr d => uptoBulk d + 1
  | .slice elems spare => uptoBulkAll elems + uptoBulkAll spare + 1
  | .agg parts => uptoBulkAll parts + 1
  | .iface _ d => uptoBulk d + 1
  | .map entries => uptoBulkEntries entries + 1
  | .held _ => 1
def uptoBulkAll {H : Type} : List (DataW H) → Nat
  | [] => 0
  | d :: r => uptoBulk d + uptoBulkAll r
def uptoBulkEntries {H : Type} : List (Lit × DataW H) → Nat
  | [] => 0
  | x :: r => uptoBulkEntry x + uptoBulkEntries r
def uptoBulkEntry {H : Type} : Lit × DataW H → Nat
  | (.string bytes, d) => bytes.length + uptoBulk d + 1
  | (_, d) => uptoBulk d + 1
 end
def uptoSmall : (H : Type) → List (DataW H) → Bool := fun _ ds => decide (uptoBulkAll ds ≤ 1048576)
def OpenSpec.upto (s : _root_.Go.ChangeSpec) : _root_.Go.OpenSpec := { _root_.Go.OpenSpec.ofChange s with cond := some uptoSmall }

/-- 'carillonlaw10.EpochPlays', WHERE WHAT IT READS IS OF BULK AT MOST 1048576: true; the input reads as it did. -/
def epochPlaysUptoRow : OpenClaim := { program := "ytmgmbciplfkddaa", sum := "1cd8dc1b5f3ac8813e1afb1aac1ee939a29dc44fd5000ef139d32620cc054ed4", func := "carillon/carillonlaw10.EpochPlays", spec := "epochPlays", inPlace := ["sync/atomic.StoreInt64", "sync/atomic.LoadInt64", "sync/atomic.CompareAndSwapInt64"], unfollowed := true, recurses := true, leaving := true, apart := false, narrowed := true }
def EpochPlaysUptoSaid : Prop := epochPlaysUptoRow.holds Try.pinned (OpenSpec.upto epochPlaysSpec)

/-- 'carillonlaw10.EpochCalls', WHERE WHAT IT READS IS OF BULK AT MOST 1048576: true; the input reads as it did. -/
def epochCallsUptoRow : OpenClaim := { program := "ytmgmbciplfkddaa", sum := "1cd8dc1b5f3ac8813e1afb1aac1ee939a29dc44fd5000ef139d32620cc054ed4", func := "carillon/carillonlaw10.EpochCalls", spec := "epochCalls", inPlace := ["sync/atomic.StoreInt64", "sync/atomic.LoadInt64", "sync/atomic.CompareAndSwapInt64"], unfollowed := true, recurses := true, leaving := true, apart := false, narrowed := true }
def EpochCallsUptoSaid : Prop := epochCallsUptoRow.holds Try.pinned (OpenSpec.upto epochCallsSpec)

/-- 'carillonlaw10.EpochNil', WHERE WHAT IT READS IS OF BULK AT MOST 1048576: true; the input reads as it did. -/
def epochNilUptoRow : OpenClaim := { program := "ytmgmbciplfkddaa", sum := "1cd8dc1b5f3ac8813e1afb1aac1ee939a29dc44fd5000ef139d32620cc054ed4", func := "carillon/carillonlaw10.EpochNil", spec := "epochNil", inPlace := ["sync/atomic.StoreInt64", "sync/atomic.LoadInt64", "sync/atomic.CompareAndSwapInt64"], unfollowed := true, recurses := true, leaving := true, apart := false, narrowed := true }
def EpochNilUptoSaid : Prop := epochNilUptoRow.holds Try.pinned (OpenSpec.upto epochNilSpec)

/-- 'carillonlaw10.EpochSafe', WHERE WHAT IT READS IS OF BULK AT MOST 1048576: true; the input reads as it did. -/
def epochSafeUptoRow : OpenClaim := { program := "ytmgmbciplfkddaa", sum := "1cd8dc1b5f3ac8813e1afb1aac1ee939a29dc44fd5000ef139d32620cc054ed4", func := "carillon/carillonlaw10.EpochSafe", spec := "epochSafe", inPlace := ["sync/atomic.StoreInt64", "sync/atomic.LoadInt64", "sync/atomic.CompareAndSwapInt64"], unfollowed := true, recurses := true, leaving := true, apart := false, narrowed := true }
def EpochSafeUptoSaid : Prop := epochSafeUptoRow.holds Try.pinned (OpenSpec.upto epochSafeSpec)

end Rows
end Go.Proofs.Ytmgmbciplfkddaa
