/- QuatUnits: the plain law joined to the walk. -/
import Derived.Test.YtdjgafcniifmlaaA11
import Derived.Test.YtdjgafcniifmlaaB3
set_option linter.unusedVariables false
namespace Go.Proofs.Ytdjgafcniifmlaa
open Go.RowKit

theorem right4_mk {a b c d : Int} (ha : Inb a) (hb : Inb b) (hc : Inb c) (hd : Inb d) : right4 a b c d = true := by
  unfold Inb at *
  simp [right4, allIn, nth4, inB, ha.1, ha.2, hb.1, hb.2, hc.1, hc.2, hd.1, hd.2]

theorem units_calls (q0 q1 q2 q3 : Int) (w : World) :
    Calls Try.prog 11 #[.agg #[.int .i64 q0, .int .i64 q1, .int .i64 q2, .int .i64 q3]] w fun e w' => e = .returned (.bool true) ∧ Ext w w' := by
  by_cases hs : sqrtI (normI q0 q1 q2 q3) = 0
  · refine units_gen q0 q1 q2 q3 16777216 0 0 0 (normI 16777216 0 0 0) (unitF (normB q0 q1 q2 q3 || sqrtB (normI q0 q1 q2 q3)) q0 q1 q2 q3 (sqrtI (normI q0 q1 q2 q3))) (normB 16777216 0 0 0) (Lib.hid shown4_calls) (Lib.hid fun w => ?_) (Lib.hid fun w => ?_) (Lib.hid fun w => norm_calls _ _ _ _ w) (Lib.hid ?_) w
    · have := unit_calls q0 q1 q2 q3 w
      rw [show unitQ q0 q1 q2 q3 (sqrtI (normI q0 q1 q2 q3)) = #[.int .i64 16777216, .int .i64 0, .int .i64 0, .int .i64 0] from if_pos hs] at this
      exact this
    · have := refRight_calls 16777216 0 0 0 w
      rw [show right4 16777216 0 0 0 = true from by decide +kernel] at this
      exact this
    · intro a0 a1 b0 b1 c0 c1 d0 d1 hb
      obtain ⟨s, e, h, _⟩ := unit512 a0 a1 b0 b1 c0 c1 d0 d1 (by omega)
      omega
  · obtain ⟨s, e⟩ : ∃ s, s = sqrtI (normI q0 q1 q2 q3) := ⟨_, rfl⟩
    have hs' : ¬ s = 0 := by rw [e]; exact hs
    refine units_gen q0 q1 q2 q3 (divI q0 s) (divI q1 s) (divI q2 s) (divI q3 s) (normI (divI q0 s) (divI q1 s) (divI q2 s) (divI q3 s)) (unitF (normB q0 q1 q2 q3 || sqrtB (normI q0 q1 q2 q3)) q0 q1 q2 q3 s) (normB (divI q0 s) (divI q1 s) (divI q2 s) (divI q3 s)) (Lib.hid shown4_calls) (Lib.hid fun w => ?_) (Lib.hid fun w => ?_) (Lib.hid fun w => norm_calls _ _ _ _ w) (Lib.hid ?_) w
    · have := unit_calls q0 q1 q2 q3 w
      rw [← e, show unitQ q0 q1 q2 q3 s = #[.int .i64 (divI q0 s), .int .i64 (divI q1 s), .int .i64 (divI q2 s), .int .i64 (divI q3 s)] from if_neg hs'] at this
      exact this
    · have := refRight_calls (divI q0 s) (divI q1 s) (divI q2 s) (divI q3 s) w
      rw [right4_mk (divI_bd _ _) (divI_bd _ _) (divI_bd _ _) (divI_bd _ _)] at this
      exact this
    · intro a0 a1 b0 b1 c0 c1 d0 d1 hb
      obtain ⟨s', e', h, _, hn, _⟩ := unit512 a0 a1 b0 b1 c0 c1 d0 d1 (by omega)
      rw [← e] at e'
      subst e'
      exact hn
end Go.Proofs.Ytdjgafcniifmlaa
