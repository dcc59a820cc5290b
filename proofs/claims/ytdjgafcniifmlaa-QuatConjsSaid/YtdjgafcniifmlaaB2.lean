/- QuatConjs: the plain law. -/
import Derived.Test.YtdjgafcniifmlaaA10
import Derived.Test.YtdjgafcniifmlaaB1
set_option linter.unusedVariables false
set_option linter.unusedSimpArgs false
namespace Go.Proofs.Ytdjgafcniifmlaa
open Go.RowKit

theorem conj_whole (p0 p1 p2 p3 : Int) (M : Nat) (a1 : Bd p1 M) (a2 : Bd p2 M) (a3 : Bd p3 M) (hM : M ≤ 4194303) (w : World) :
    Calls Try.prog 17 #[.agg #[.int .i64 (p0 * 16777216), .int .i64 (p1 * 16777216), .int .i64 (p2 * 16777216), .int .i64 (p3 * 16777216)]] w fun e w' => e = .returned (.agg #[.int .i64 (p0 * 16777216), .int .i64 ((-p1) * 16777216), .int .i64 ((-p2) * 16777216), .int .i64 ((-p3) * 16777216)]) ∧ Ext w w' := by
  have := conj_calls (p0 * 16777216) (p1 * 16777216) (p2 * 16777216) (p3 * 16777216) w
  rw [(subS (bd_le a1 hM)).1, (subS (bd_le a2 hM)).1, (subS (bd_le a3 hM)).1] at this
  exact this

theorem pconj (p0 p1 p2 p3 : Int) : (p0 * p0 + -(p1 * (-p1)) + -(p2 * (-p2)) + -(p3 * (-p3))) = (p0 * p0 + p1 * p1 + p2 * p2 + p3 * p3) ∧ (p0 * (-p1) + p1 * p0 + p2 * (-p3) + -(p3 * (-p2))) = 0 ∧ (p0 * (-p2) + -(p1 * (-p3)) + p2 * p0 + p3 * (-p1)) = 0 ∧ (p0 * (-p3) + p1 * (-p2) + -(p2 * (-p1)) + p3 * p0) = 0 := by
  refine ⟨?_, ?_, ?_, ?_⟩ <;> grind
theorem zconj (p0 p1 p2 p3 q0 q1 q2 q3 : Int) : (q0 * p0 + -((-q1) * (-p1)) + -((-q2) * (-p2)) + -((-q3) * (-p3))) = (p0 * q0 + -(p1 * q1) + -(p2 * q2) + -(p3 * q3)) ∧ (q0 * (-p1) + (-q1) * p0 + (-q2) * (-p3) + -((-q3) * (-p2))) = (-(p0 * q1 + p1 * q0 + p2 * q3 + -(p3 * q2))) ∧ (q0 * (-p2) + -((-q1) * (-p3)) + (-q2) * p0 + (-q3) * (-p1)) = (-(p0 * q2 + -(p1 * q3) + p2 * q0 + p3 * q1)) ∧ (q0 * (-p3) + (-q1) * (-p2) + -((-q2) * (-p1)) + (-q3) * p0) = (-(p0 * q3 + p1 * q2 + -(p2 * q1) + p3 * q0)) := by
  refine ⟨?_, ?_, ?_, ?_⟩ <;> grind

theorem conjs_calls (a0 a1 a2 a3 b0 b1 b2 b3 : Int) (w : World) :
    Calls Try.prog 5 #[.agg #[.int .i8 a0, .int .i8 a1, .int .i8 a2, .int .i8 a3], .agg #[.int .i8 b0, .int .i8 b1, .int .i8 b2, .int .i8 b3]] w fun e w' => e = .returned (.bool true) ∧ Ext w w' := by
  have hp0 : Bd (a0.tmod 51) 50 := tmod_bd a0 51 (by decide)
  have hp1 : Bd (a1.tmod 51) 50 := tmod_bd a1 51 (by decide)
  have hp2 : Bd (a2.tmod 51) 50 := tmod_bd a2 51 (by decide)
  have hp3 : Bd (a3.tmod 51) 50 := tmod_bd a3 51 (by decide)
  have hq0 : Bd (b0.tmod 51) 50 := tmod_bd b0 51 (by decide)
  have hq1 : Bd (b1.tmod 51) 50 := tmod_bd b1 51 (by decide)
  have hq2 : Bd (b2.tmod 51) 50 := tmod_bd b2 51 (by decide)
  have hq3 : Bd (b3.tmod 51) 50 := tmod_bd b3 51 (by decide)

  have gp0 := wrapS (bd_le hp0 (by decide))
  have gp1 := wrapS (bd_le hp1 (by decide))
  have gp2 := wrapS (bd_le hp2 (by decide))
  have gp3 := wrapS (bd_le hp3 (by decide))
  have gq0 := wrapS (bd_le hq0 (by decide))
  have gq1 := wrapS (bd_le hq1 (by decide))
  have gq2 := wrapS (bd_le hq2 (by decide))
  have gq3 := wrapS (bd_le hq3 (by decide))

  obtain ⟨X0, X1, X2, X3⟩ := prod_bd hp0 hp1 hp2 hp3 hq0 hq1 hq2 hq3
  obtain ⟨s0, s1, s2, s3⟩ := pconj (a0.tmod 51) (a1.tmod 51) (a2.tmod 51) (a3.tmod 51)
  obtain ⟨t0, t1, t2, t3⟩ := zconj (a0.tmod 51) (a1.tmod 51) (a2.tmod 51) (a3.tmod 51) (b0.tmod 51) (b1.tmod 51) (b2.tmod 51) (b3.tmod 51)
  refine conjs_gen a0 a1 a2 a3 b0 b1 b2 b3 _ _ _ _ _ _ _ _ _ _ _ _ _ _ _ _ _ _ _ _ _ _ _ _ _ _ _ (Lib.hid shown4_calls) (Lib.hid ⟨gp0, gp1, gp2, gp3⟩) (Lib.hid ⟨gq0, gq1, gq2, gq3⟩)
    (Lib.hid fun w => conj_whole _ _ _ _ 50 hp1 hp2 hp3 (by decide) w) (Lib.hid fun w => conj_whole _ _ _ _ 50 hq1 hq2 hq3 (by decide) w)
    (Lib.hid fun w => by
      have := mul_whole _ _ _ _ _ _ _ _ 50 50 hp0 hp1 hp2 hp3 hp0 (bd_neg hp1) (bd_neg hp2) (bd_neg hp3) (by decide) (by decide) (by decide) w
      rw [s0, s1, s2, s3, Int.zero_mul] at this
      exact this)
    (Lib.hid fun w => norm_whole _ _ _ _ 50 hp0 hp1 hp2 hp3 (by decide) (by decide) w)
    (Lib.hid fun w => mul_whole _ _ _ _ _ _ _ _ 50 50 hp0 hp1 hp2 hp3 hq0 hq1 hq2 hq3 (by decide) (by decide) (by decide) w)
    (Lib.hid fun w => by
      have := mul_whole _ _ _ _ _ _ _ _ 50 50 hq0 (bd_neg hq1) (bd_neg hq2) (bd_neg hq3) hp0 (bd_neg hp1) (bd_neg hp2) (bd_neg hp3) (by decide) (by decide) (by decide) w
      rw [t0, t1, t2, t3] at this
      exact this)
    (Lib.hid fun w => conj_whole _ _ _ _ _ X1 X2 X3 (by decide) w) w
end Go.Proofs.Ytdjgafcniifmlaa
