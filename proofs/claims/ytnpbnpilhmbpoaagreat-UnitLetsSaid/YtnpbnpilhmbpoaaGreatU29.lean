/- UnitLets: the frames that are not heard. -/
import Derived.Test.YtnpbnpilhmbpoaaGreatU26
import Derived.Test.YtnpbnpilhmbpoaaGreatU21
import Derived.Deep.WholeRow
set_option linter.unusedVariables false
namespace Go.Proofs.YtnpbnpilhmbpoaaGreat
open Go.RowKit

/-- The frames that are not heard. -/
def Unheard (k inc : Int) (m : Nat) (y0 y1 : Int) : Prop := k = 1 ∨ k = 3 ∨ k = 4 ∨ k < 1 ∨ 8 < k ∨ (1 < m ∧ (k = 2 ∧ y1 ≠ inc ∨ (k = 8 ∨ k = 5) ∧ y0 ≠ inc ∨ k = 6 ∧ y1 ≠ inc))

end Go.Proofs.YtnpbnpilhmbpoaaGreat
