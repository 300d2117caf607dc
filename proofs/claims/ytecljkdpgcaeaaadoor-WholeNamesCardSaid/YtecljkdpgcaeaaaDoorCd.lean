/- The tied card of WholeNames holds: the call returns true from every start in which the three listed tables read as the program's own text lays them. Conditions: those of the given card, no more. -/
import Derived.Test.YtecljkdpgcaeaaaDoorPf
import Derived.Test.YtecljkdpgcaeaaaDoorTie
import Derived.Test.YtecljkdpgcaeaaaDoorCards
import Derived.SevenTiedAt
namespace Go.Proofs.YtecljkdpgcaeaaaDoor
open Go

theorem wholeNames_card : Rows.WholeNamesCardSaid :=
  Claim7.holds_tied_plain_at .later [] [.data, .data, .data] true (true, "ab9e8885cbe5a6c72ccaf330636c4ef0b1b495cee28009b1a5d295d13b2beee4") false
    whole_holds (fun _ h => by cases h) (by kernel_rfl) (fun _ h => by cases h) wholeNames_row_tie rfl ⟨rfl, rfl⟩ (by kernel_rfl) rfl
    (fun f fn hf hfn => by
      obtain rfl : f = 3 := Option.some.inj ((show Tryd.prog.funcNamed "carillon/carillontop.WholeNames" = some 3 by kernel_rfl).symm.trans hf) |>.symm
      obtain rfl : fn = Tryd.f3 := (Option.some.inj (Tryd.func3.symm.trans hfn)).symm
      exact ⟨by kernel_rfl, fun j t ht => by
        rw [Tryd.params3] at ht
        simp at ht⟩)
    (by kernel_rfl)
#print axioms wholeNames_card
end Go.Proofs.YtecljkdpgcaeaaaDoor
