/-
  No cell of these rows narrows 'for every input' (looked for: loops, veiled, ifaces, maps, wideKeys, modest, calm, conditions, laid).
  DERIVED. THE GIVEN ROWS OF THIS SEAT. 5 by the template 'for every input the law returns true; each argument reads behind the call as it read before'; 0 by the template 'total and deterministic' (their statements: YtnjpcibdaanpeaaTotals.lean).
  GIVEN WITH THE SEED: the statements are not yours to turn. If you find one false, say at which input.
  Laid BY PROGRAM, IN A SANDBOX (cutbox-rows.mjs): the forced cells as the released guide's own fill.sh prints them over the translation ed5ddf8fa7d93e84… (all of the seat's roots in one cut). By AI agents, Wed Nov 11 2026. No macro, syntax, notation, axiom, sorry.
-/
import Derived.Test.YtnjpcibdaanpeaaChecked
import GoSem.Claim
import GoSem.ClaimJoined
import GoSem.ClaimMapViews
import Derived.JoinedTies
import Derived.KernelRfl
namespace Go.Proofs.Ytnjpcibdaanpeaa
/- THE CELL 'sum', in the pinned program and in every row, IS THE sha256 OF THE DUMP (.gsa) THAT YtnjpcibdaanpeaaProg.lean LOADS. Nothing in Lean hashes anything: it is a label: what it is worth is what the hold of that sum in a sandbox is worth. -/
noncomputable def Try.pinned : Pinned := { name := "ytnjpcibdaanpeaa", sum := "ed5ddf8fa7d93e84e16b96ea2c63004759aac9d6fd68ecc0d8aada15d38219c2", checked := Try.checked }
namespace Rows
def none {H : Type} : Left H := { results := [], args := [] }

/-- 'carillonlaw05.StripePlays': WHATEVER THE INPUT: true; the input reads as it did. -/
def stripePlaysSpec : ChangeSpec := { name := "stripePlays", fn := fun _ => fun
  | [d] => { results := [.lit (.bool true)], args := [d] }
  | _ => none }
def stripePlaysRow : OpenClaim := { program := "ytnjpcibdaanpeaa", sum := "ed5ddf8fa7d93e84e16b96ea2c63004759aac9d6fd68ecc0d8aada15d38219c2", func := "carillon/carillonlaw05.StripePlays", spec := "stripePlays", inPlace := ["sync/atomic.StoreInt64", "sync/atomic.AddInt64", "sync/atomic.LoadInt64", "sync/atomic.SwapInt64"], unfollowed := true, recurses := true, leaving := true, apart := false }
def StripePlaysSaid : Prop := stripePlaysRow.holds Try.pinned (OpenSpec.ofChange stripePlaysSpec)

/-- ITS FALSE NEIGHBOUR: 'it returns false'. Refute it at one input. -/
def stripePlaysWrong : ChangeSpec := { name := "stripePlays", fn := fun _ => fun
  | [d] => { results := [.lit (.bool false)], args := [d] }
  | _ => none }
def StripePlaysWrongFalsely : Prop := stripePlaysRow.holds Try.pinned (OpenSpec.ofChange stripePlaysWrong)

/-- 'carillonlaw05.StripeCalls': WHATEVER THE INPUT: true; the input reads as it did. -/
def stripeCallsSpec : ChangeSpec := { name := "stripeCalls", fn := fun _ => fun
  | [d1, d2] => { results := [.lit (.bool true)], args := [d1, d2] }
  | _ => none }
def stripeCallsRow : OpenClaim := { program := "ytnjpcibdaanpeaa", sum := "ed5ddf8fa7d93e84e16b96ea2c63004759aac9d6fd68ecc0d8aada15d38219c2", func := "carillon/carillonlaw05.StripeCalls", spec := "stripeCalls", inPlace := ["sync/atomic.StoreInt64", "sync/atomic.AddInt64", "sync/atomic.LoadInt64", "sync/atomic.SwapInt64"], unfollowed := true, recurses := true, leaving := true, apart := false }
def StripeCallsSaid : Prop := stripeCallsRow.holds Try.pinned (OpenSpec.ofChange stripeCallsSpec)

/-- ITS FALSE NEIGHBOUR: 'it returns false'. Refute it at one input. -/
def stripeCallsWrong : ChangeSpec := { name := "stripeCalls", fn := fun _ => fun
  | [d1, d2] => { results := [.lit (.bool false)], args := [d1, d2] }
  | _ => none }
def StripeCallsWrongFalsely : Prop := stripeCallsRow.holds Try.pinned (OpenSpec.ofChange stripeCallsWrong)

/-- 'carillonlaw05.StripeBounds': WHATEVER THE INPUT: true; the input reads as it did. -/
def stripeBoundsSpec : ChangeSpec := { name := "stripeBounds", fn := fun _ => fun
  | [d1, d2, d3] => { results := [.lit (.bool true)], args := [d1, d2, d3] }
  | _ => none }
def stripeBoundsRow : OpenClaim := { program := "ytnjpcibdaanpeaa", sum := "ed5ddf8fa7d93e84e16b96ea2c63004759aac9d6fd68ecc0d8aada15d38219c2", func := "carillon/carillonlaw05.StripeBounds", spec := "stripeBounds", inPlace := ["sync/atomic.StoreInt64", "sync/atomic.AddInt64", "sync/atomic.LoadInt64", "sync/atomic.SwapInt64"], unfollowed := true, recurses := true, leaving := true, apart := false }
def StripeBoundsSaid : Prop := stripeBoundsRow.holds Try.pinned (OpenSpec.ofChange stripeBoundsSpec)

/-- ITS FALSE NEIGHBOUR: 'it returns false'. Refute it at one input. -/
def stripeBoundsWrong : ChangeSpec := { name := "stripeBounds", fn := fun _ => fun
  | [d1, d2, d3] => { results := [.lit (.bool false)], args := [d1, d2, d3] }
  | _ => none }
def StripeBoundsWrongFalsely : Prop := stripeBoundsRow.holds Try.pinned (OpenSpec.ofChange stripeBoundsWrong)

/-- 'carillonlaw05.StripeNone': WHATEVER THE INPUT: true; the input reads as it did. -/
def stripeNoneSpec : ChangeSpec := { name := "stripeNone", fn := fun _ => fun
  | [d] => { results := [.lit (.bool true)], args := [d] }
  | _ => none }
def stripeNoneRow : OpenClaim := { program := "ytnjpcibdaanpeaa", sum := "ed5ddf8fa7d93e84e16b96ea2c63004759aac9d6fd68ecc0d8aada15d38219c2", func := "carillon/carillonlaw05.StripeNone", spec := "stripeNone", inPlace := ["sync/atomic.StoreInt64", "sync/atomic.AddInt64", "sync/atomic.LoadInt64", "sync/atomic.SwapInt64"], unfollowed := true, recurses := true, leaving := true, apart := false }
def StripeNoneSaid : Prop := stripeNoneRow.holds Try.pinned (OpenSpec.ofChange stripeNoneSpec)

/-- ITS FALSE NEIGHBOUR: 'it returns false'. Refute it at one input. -/
def stripeNoneWrong : ChangeSpec := { name := "stripeNone", fn := fun _ => fun
  | [d] => { results := [.lit (.bool false)], args := [d] }
  | _ => none }
def StripeNoneWrongFalsely : Prop := stripeNoneRow.holds Try.pinned (OpenSpec.ofChange stripeNoneWrong)

/-- 'carillonlaw05.StripeKeeps': WHATEVER THE INPUT: true; the input reads as it did. -/
def stripeKeepsSpec : ChangeSpec := { name := "stripeKeeps", fn := fun _ => fun
  | [d1, d2] => { results := [.lit (.bool true)], args := [d1, d2] }
  | _ => none }
def stripeKeepsRow : OpenClaim := { program := "ytnjpcibdaanpeaa", sum := "ed5ddf8fa7d93e84e16b96ea2c63004759aac9d6fd68ecc0d8aada15d38219c2", func := "carillon/carillonlaw05.StripeKeeps", spec := "stripeKeeps", inPlace := ["sync/atomic.StoreInt64", "sync/atomic.AddInt64", "sync/atomic.LoadInt64", "sync/atomic.SwapInt64"], unfollowed := true, recurses := true, leaving := true, apart := false }
def StripeKeepsSaid : Prop := stripeKeepsRow.holds Try.pinned (OpenSpec.ofChange stripeKeepsSpec)

/-- ITS FALSE NEIGHBOUR: 'it returns false'. Refute it at one input. -/
def stripeKeepsWrong : ChangeSpec := { name := "stripeKeeps", fn := fun _ => fun
  | [d1, d2] => { results := [.lit (.bool false)], args := [d1, d2] }
  | _ => none }
def StripeKeepsWrongFalsely : Prop := stripeKeepsRow.holds Try.pinned (OpenSpec.ofChange stripeKeepsWrong)

/- THE SECOND FORM. 'bulk': how many values and letters a reading holds, each counted each time it is reached (what is shared counts as often as it is met; a slice's spare places count too). A statement '..UptoSaid' is the law's where the arguments, and the package variables that the reading takes, are together of bulk at most 1048576: NARROWER than '..Said'. Prove '..Said' where nothing that the law and all that it calls make is longer than what came in: it says more and counts as full. Else prove '..UptoSaid'. A law counts once. -/
mutual
def uptoBulk {H : Type} : DataW H → Nat
  | .lit (.string bytes) => bytes.length + 1
  | .lit _ => 1
  | .nil => 1
  | .ptr d => uptoBulk d + 1
  | .slice elems spare => uptoBulkAll elems + uptoBulkAll spare + 1
  | .agg parts => uptoBulkAll parts + 1
  | .iface _ d => uptoBulk d + 1
  | .map entries => uptoBulkEntries entries + 1
  | .held _ => 1
def uptoBulkAll {H : Type} : List (DataW H) → Nat
  | [] => 0
  | d :: r => uptoBulk d + uptoBulkAll r
def uptoBulkEntries {H : Type} : List (Lit × DataW H) → Nat
  | [] => 0
  | x :: r => uptoBulkEntry x + uptoBulkEntries r
def uptoBulkEntry {H : Type} : Lit × DataW H → Nat
  | (.string bytes, d) => bytes.length + uptoBulk d + 1
  | (_, d) => uptoBulk d + 1
 end
def uptoSmall : (H : Type) → List (DataW H) → Bool := fun _ ds => decide (uptoBulkAll ds ≤ 1048576)
def OpenSpec.upto (s : _root_.Go.ChangeSpec) : _root_.Go.OpenSpec := { _root_.Go.OpenSpec.ofChange s with cond := some uptoSmall }

/-- 'carillonlaw05.StripePlays', WHERE WHAT IT READS IS OF BULK AT MOST 1048576: true; the input reads as it did. -/
def stripePlaysUptoRow : OpenClaim := { program := "ytnjpcibdaanpeaa", sum := "ed5ddf8fa7d93e84e16b96ea2c63004759aac9d6fd68ecc0d8aada15d38219c2", func := "carillon/carillonlaw05.StripePlays", spec := "stripePlays", inPlace := ["sync/atomic.StoreInt64", "sync/atomic.AddInt64", "sync/atomic.LoadInt64", "sync/atomic.SwapInt64"], unfollowed := true, recurses := true, leaving := true, apart := false, narrowed := true }
def StripePlaysUptoSaid : Prop := stripePlaysUptoRow.holds Try.pinned (OpenSpec.upto stripePlaysSpec)

/-- 'carillonlaw05.StripeCalls', WHERE WHAT IT READS IS OF BULK AT MOST 1048576: true; the input reads as it did. -/
def stripeCallsUptoRow : OpenClaim := { program := "ytnjpcibdaanpeaa", sum := "ed5ddf8fa7d93e84e16b96ea2c63004759aac9d6fd68ecc0d8aada15d38219c2", func := "carillon/carillonlaw05.StripeCalls", spec := "stripeCalls", inPlace := ["sync/atomic.StoreInt64", "sync/atomic.AddInt64", "sync/atomic.LoadInt64", "sync/atomic.SwapInt64"], unfollowed := true, recurses := true, leaving := true, apart := false, narrowed := true }
def StripeCallsUptoSaid : Prop := stripeCallsUptoRow.holds Try.pinned (OpenSpec.upto stripeCallsSpec)

/-- 'carillonlaw05.StripeBounds', WHERE WHAT IT READS IS OF BULK AT MOST 1048576: true; the input reads as it did. -/
def stripeBoundsUptoRow : OpenClaim := { program := "ytnjpcibdaanpeaa", sum := "ed5ddf8fa7d93e84e16b96ea2c63004759aac9d6fd68ecc0d8aada15d38219c2", func := "carillon/carillonlaw05.StripeBounds", spec := "stripeBounds", inPlace := ["sync/atomic.StoreInt64", "sync/atomic.AddInt64", "sync/atomic.LoadInt64", "sync/atomic.SwapInt64"], unfollowed := true, recurses := true, leaving := true, apart := false, narrowed := true }
def StripeBoundsUptoSaid : Prop := stripeBoundsUptoRow.holds Try.pinned (OpenSpec.upto stripeBoundsSpec)

/-- 'carillonlaw05.StripeNone', WHERE WHAT IT READS IS OF BULK AT MOST 1048576: true; the input reads as it did. -/
def stripeNoneUptoRow : OpenClaim := { program := "ytnjpcibdaanpeaa", sum := "ed5ddf8fa7d93e84e16b96ea2c63004759aac9d6fd68ecc0d8aada15d38219c2", func := "carillon/carillonlaw05.StripeNone", spec := "stripeNone", inPlace := ["sync/atomic.StoreInt64", "sync/atomic.AddInt64", "sync/atomic.LoadInt64", "sync/atomic.SwapInt64"], unfollowed := true, recurses := true, leaving := true, apart := false, narrowed := true }
def StripeNoneUptoSaid : Prop := stripeNoneUptoRow.holds Try.pinned (OpenSpec.upto stripeNoneSpec)

/-- 'carillonlaw05.StripeKeeps', WHERE WHAT IT READS IS OF BULK AT MOST 1048576: true; the input reads as it did. -/
def stripeKeepsUptoRow : OpenClaim := { program := "ytnjpcibdaanpeaa", sum := "ed5ddf8fa7d93e84e16b96ea2c63004759aac9d6fd68ecc0d8aada15d38219c2", func := "carillon/carillonlaw05.StripeKeeps", spec := "stripeKeeps", inPlace := ["sync/atomic.StoreInt64", "sync/atomic.AddInt64", "sync/atomic.LoadInt64", "sync/atomic.SwapInt64"], unfollowed := true, recurses := true, leaving := true, apart := false, narrowed := true }
def StripeKeepsUptoSaid : Prop := stripeKeepsUptoRow.holds Try.pinned (OpenSpec.upto stripeKeepsSpec)

end Rows
end Go.Proofs.Ytnjpcibdaanpeaa
