/- The statement UnitLets: for every setup, unit and frame the law answers true. No condition. -/
import Derived.Test.YtnpbnpilhmbpoaaGreatRows
import Derived.WalkKit
import Derived.ProofKit
import Derived.OpenShut
import Derived.Test.YtnpbnpilhmbpoaaGreatU46
namespace Go.Proofs.YtnpbnpilhmbpoaaGreat.unitLets
open Go.ChangeShapes Go.WideShapes Go.ChangeAt Go.RowKit
set_option linter.unusedVariables false

set_option maxHeartbeats 0 in
set_option maxRecDepth 100000 in
theorem closed : joinedFacts Tryz.pinned.checked.prog 5 Tryz.f5 Rows.unitLetsSpec Rows.unitLetsRow = true := by
  unfold joinedFacts
  iterate 19 (rw [Bool.and_eq_true]; refine And.intro ?_ ?_; rotate_left; as_aux_lemma => kernel_rfl)
  as_aux_lemma => kernel_rfl

theorem wrapped : Tryz.f5.isWrapper Tryz.pinned.checked.prog Rows.unitLetsRow.wrapper Rows.unitLetsRow.mainSum := by
  unfold Func.isWrapper; first | (rw [if_pos (by decide +kernel)]; kernel_rfl) | (rw [if_neg (by decide +kernel)]; exact ⟨rfl, rfl⟩)

theorem over : Rows.unitLetsRow.holds Tryz.pinned (OpenSpec.ofChange Rows.unitLetsSpec) :=
  OpenClaim.holds_of_wide 5 Tryz.f5 rfl rfl rfl rfl rfl rfl rfl ⟨rfl, rfl, rfl, rfl, rfl⟩ rfl rfl rfl rfl rfl (by kernel_rfl) Tryz.func5 closed
    (of_decide_eq_true (by kernel_rfl)) wrapped
    (fun os started H enc _ => lifted os started H enc)

/-- The statement. -/
theorem proved : Rows.UnitLetsSaid :=
  over
#print axioms proved
end Go.Proofs.YtnpbnpilhmbpoaaGreat.unitLets
