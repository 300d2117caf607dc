/- A walk of WholeNames: for every world the call returns true. -/
import Derived.Test.YtecljkdpgcaeaaaDoorRows
import Derived.Test.YtecljkdpgcaeaaaDoorShelf
import Derived.WalkKit
import Derived.WalkSpells
import Derived.WalkLawsBesides
import Derived.Outline
import Derived.Lib.Hide
import Derived.LoopTactic
namespace Go.Proofs.YtecljkdpgcaeaaaDoor
open Go.RowKit

theorem digits_small (i : Nat) (hi : i < 100) : (Lib.decDigits i).length ≤ 20 := by
  have h : ∀ j, j < 100 → (Lib.decDigits j).length ≤ 20 := by decide +kernel
  exact h i hi

def isText (e : Ending) (w w' : World) : Prop := ∃ l : List UInt8, e = .returned (.string ⟨(99 :: l).toArray⟩) ∧ w = w'
set_option maxHeartbeats 400000 in
theorem error_any (i : Nat) (hi : i < 100) (w : World) :
    Calls Tryd.prog 4 #[.int .i64 i] w fun e w' => isText e w w' := by
  have hd := digits_small i hi
  go_enter Tryd.func4, Tryd.ntmps4
  go_wp2_with (go_at_call 5; refine (Tryd.strconv_Itoa_small _ hi _).mono ?_; rintro e w' ⟨rfl, rfl⟩)
  go_ret
  exact ⟨[97, 114, 105, 108, 108, 111, 110, 58, 32, 101, 114, 114, 111, 114, 32] ++ Lib.decDigits i, by simp only [List.cons_append, List.nil_append]; congr 1, rfl⟩

theorem cells_eleven (w : World) (k : Nat) (hk : k < 11) (W : World) (hW : W = w.alloc (.cells #[.int .i64 0, .int .i64 1, .int .i64 2, .int .i64 3, .int .i64 4, .int .i64 5, .int .i64 6, .int .i64 7, .int .i64 8, .int .i64 9, .int .i64 10] 22)) :
    W.cell? ⟨w.heap.size, k, none⟩ = some (.int .i64 k) := by
  subst hW
  rcases k with _ | _ | _ | _ | _ | _ | _ | _ | _ | _ | _ | k <;> first | omega | (simp only [World.cell?, heap_alloc_new]; rfl)

set_option maxHeartbeats 1000000 in
theorem whole_any (w : World) :
    Calls Tryd.prog 3 #[] w fun e w' => e = .returned (.bool true) ∧ Below w.heap.size w w' := by
  go_enter Tryd.func3, Tryd.ntmps3
  go_wp2
  have hb : Below w.heap.size w (w.alloc (.cells #[.int .i64 0, .int .i64 1, .int .i64 2, .int .i64 3, .int .i64 4, .int .i64 5, .int .i64 6, .int .i64 7, .int .i64 8, .int .i64 9, .int .i64 10] 22)) := (Below.refl _ _).alloc (Nat.le_refl _) _
  have HC := Lib.hid (fun k hk => cells_eleven w k hk _ rfl)
  generalize w.alloc (.cells #[.int .i64 0, .int .i64 1, .int .i64 2, .int .i64 3, .int .i64 4, .int .i64 5, .int .i64 6, .int .i64 7, .int .i64 8, .int .i64 9, .int .i64 10] 22) = W at *
  go_loop [7] (fun i => ∃ k : Nat, k ≤ 11 ∧ i = .int .i64 k) (fun i => 11 - (intOf i).toNat)
  case atStart => exact ⟨0, by omega, rfl⟩
  case round =>
    obtain ⟨k, hk, rfl⟩ := hrel
    by_cases hlt : k < 11
    · have g := HC.out k hlt
      clear HC
      go_wp2_with (go_at_call 4; refine (error_any _ (by omega) _).mono ?_; rintro e w' ⟨l, rfl, rfl⟩)
      go_round
      case rel => exact ⟨k + 1, by omega, by go_num⟩
      case measure => simp [intOf]; omega
    · go_wp2
      go_ret
      exact ⟨rfl, hb⟩
end Go.Proofs.YtecljkdpgcaeaaaDoor
