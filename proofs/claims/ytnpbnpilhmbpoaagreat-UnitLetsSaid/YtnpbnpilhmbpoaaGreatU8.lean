/- The reference's small numbers: desks', rings'. -/
import Derived.Test.YtnpbnpilhmbpoaaGreatU7
set_option linter.unusedVariables false
namespace Go.Proofs.YtnpbnpilhmbpoaaGreat
open Go.RowKit

theorem din_calls (n : Int) (w : World) : Calls Tryz.prog 116 #[.int .i64 n] w fun e w' => e = .returned (.bool (decide (0 ≤ n ∧ n ≤ 4611686018427387904))) ∧ w = w' := by
  by_cases h0 : 0 ≤ n <;> by_cases h1 : n ≤ 4611686018427387904
  all_goals
    go_enter Tryz.func116, Tryz.ntmps116
    go_wp2
    go_ret
    simp [*]

theorem of_calls (k : Int) (h0 : 1 ≤ k) (h1 : k ≤ 4611686018427387904) (w : World) : Calls Tryz.prog 113 #[.int .i64 k] w fun e w' => e = .returned (.int .i64 ((k - 1) % 16)) ∧ w = w' := by
  have e : Hid (k - 1 - (k - 1) / 16 * 16 = (k - 1) % 16) := Lib.hid (by omega)
  go_enter Tryz.func113, Tryz.ntmps113
  go_wp2
  go_ret
  exact ⟨by rw [← e.out]; rfl, rfl⟩
end Go.Proofs.YtnpbnpilhmbpoaaGreat
