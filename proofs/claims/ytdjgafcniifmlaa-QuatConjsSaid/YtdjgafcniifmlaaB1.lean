/- QuatWholes: the plain law. -/
import Derived.Test.YtdjgafcniifmlaaA9
import Derived.Test.YtdjgafcniifmlaaB0
set_option linter.unusedVariables false
set_option linter.unusedSimpArgs false
namespace Go.Proofs.Ytdjgafcniifmlaa
open Go.RowKit

theorem tmod_bd (a : Int) (m : Nat) (h : 0 < m) : Bd (a.tmod m) (m - 1) := by
  rw [bd_abs, Int.natAbs_tmod]
  have := Nat.mod_lt a.natAbs (y := (m : Int).natAbs) (by omega)
  omega
theorem w64_in (n : Int) (h : -9223372036854775808 ≤ n ∧ n ≤ 9223372036854775807) : wrap64 n = n := by unfold wrap64; omega
theorem wrapS {a : Int} (h : Bd a 4194303) : wrap64 (wrap64 a * 16777216) = a * 16777216 := by
  unfold Bd at h
  rw [w64_in a (by omega), w64_in _ (by omega)]
theorem prod_bd {p0 p1 p2 p3 q0 q1 q2 q3 : Int} {M N : Nat} (a0 : Bd p0 M) (a1 : Bd p1 M) (a2 : Bd p2 M) (a3 : Bd p3 M) (b0 : Bd q0 N) (b1 : Bd q1 N) (b2 : Bd q2 N) (b3 : Bd q3 N) :
    Bd (p0 * q0 + -(p1 * q1) + -(p2 * q2) + -(p3 * q3)) (M * N + M * N + M * N + M * N) ∧ Bd (p0 * q1 + p1 * q0 + p2 * q3 + -(p3 * q2)) (M * N + M * N + M * N + M * N) ∧ Bd (p0 * q2 + -(p1 * q3) + p2 * q0 + p3 * q1) (M * N + M * N + M * N + M * N) ∧ Bd (p0 * q3 + p1 * q2 + -(p2 * q1) + p3 * q0) (M * N + M * N + M * N + M * N) :=
  ⟨bd_add (bd_add (bd_add (bd_mul a0 b0) (bd_neg (bd_mul a1 b1))) (bd_neg (bd_mul a2 b2))) (bd_neg (bd_mul a3 b3)),
   bd_add (bd_add (bd_add (bd_mul a0 b1) (bd_mul a1 b0)) (bd_mul a2 b3)) (bd_neg (bd_mul a3 b2)),
   bd_add (bd_add (bd_add (bd_mul a0 b2) (bd_neg (bd_mul a1 b3))) (bd_mul a2 b0)) (bd_mul a3 b1),
   bd_add (bd_add (bd_add (bd_mul a0 b3) (bd_mul a1 b2)) (bd_neg (bd_mul a2 b1))) (bd_mul a3 b0)⟩

theorem assoc4 (p0 p1 p2 p3 q0 q1 q2 q3 r0 r1 r2 r3 : Int) :
    (p0 * (q0 * r0 + -(q1 * r1) + -(q2 * r2) + -(q3 * r3)) + -(p1 * (q0 * r1 + q1 * r0 + q2 * r3 + -(q3 * r2))) + -(p2 * (q0 * r2 + -(q1 * r3) + q2 * r0 + q3 * r1)) + -(p3 * (q0 * r3 + q1 * r2 + -(q2 * r1) + q3 * r0))) = ((p0 * q0 + -(p1 * q1) + -(p2 * q2) + -(p3 * q3)) * r0 + -((p0 * q1 + p1 * q0 + p2 * q3 + -(p3 * q2)) * r1) + -((p0 * q2 + -(p1 * q3) + p2 * q0 + p3 * q1) * r2) + -((p0 * q3 + p1 * q2 + -(p2 * q1) + p3 * q0) * r3)) ∧ (p0 * (q0 * r1 + q1 * r0 + q2 * r3 + -(q3 * r2)) + p1 * (q0 * r0 + -(q1 * r1) + -(q2 * r2) + -(q3 * r3)) + p2 * (q0 * r3 + q1 * r2 + -(q2 * r1) + q3 * r0) + -(p3 * (q0 * r2 + -(q1 * r3) + q2 * r0 + q3 * r1))) = ((p0 * q0 + -(p1 * q1) + -(p2 * q2) + -(p3 * q3)) * r1 + (p0 * q1 + p1 * q0 + p2 * q3 + -(p3 * q2)) * r0 + (p0 * q2 + -(p1 * q3) + p2 * q0 + p3 * q1) * r3 + -((p0 * q3 + p1 * q2 + -(p2 * q1) + p3 * q0) * r2)) ∧ (p0 * (q0 * r2 + -(q1 * r3) + q2 * r0 + q3 * r1) + -(p1 * (q0 * r3 + q1 * r2 + -(q2 * r1) + q3 * r0)) + p2 * (q0 * r0 + -(q1 * r1) + -(q2 * r2) + -(q3 * r3)) + p3 * (q0 * r1 + q1 * r0 + q2 * r3 + -(q3 * r2))) = ((p0 * q0 + -(p1 * q1) + -(p2 * q2) + -(p3 * q3)) * r2 + -((p0 * q1 + p1 * q0 + p2 * q3 + -(p3 * q2)) * r3) + (p0 * q2 + -(p1 * q3) + p2 * q0 + p3 * q1) * r0 + (p0 * q3 + p1 * q2 + -(p2 * q1) + p3 * q0) * r1) ∧ (p0 * (q0 * r3 + q1 * r2 + -(q2 * r1) + q3 * r0) + p1 * (q0 * r2 + -(q1 * r3) + q2 * r0 + q3 * r1) + -(p2 * (q0 * r1 + q1 * r0 + q2 * r3 + -(q3 * r2))) + p3 * (q0 * r0 + -(q1 * r1) + -(q2 * r2) + -(q3 * r3))) = ((p0 * q0 + -(p1 * q1) + -(p2 * q2) + -(p3 * q3)) * r3 + (p0 * q1 + p1 * q0 + p2 * q3 + -(p3 * q2)) * r2 + -((p0 * q2 + -(p1 * q3) + p2 * q0 + p3 * q1) * r1) + (p0 * q3 + p1 * q2 + -(p2 * q1) + p3 * q0) * r0) := by
  refine ⟨?_, ?_, ?_, ?_⟩ <;> grind
theorem norm4 (p0 p1 p2 p3 q0 q1 q2 q3 : Int) : ((p0 * q0 + -(p1 * q1) + -(p2 * q2) + -(p3 * q3)) * (p0 * q0 + -(p1 * q1) + -(p2 * q2) + -(p3 * q3)) + (p0 * q1 + p1 * q0 + p2 * q3 + -(p3 * q2)) * (p0 * q1 + p1 * q0 + p2 * q3 + -(p3 * q2)) + (p0 * q2 + -(p1 * q3) + p2 * q0 + p3 * q1) * (p0 * q2 + -(p1 * q3) + p2 * q0 + p3 * q1) + (p0 * q3 + p1 * q2 + -(p2 * q1) + p3 * q0) * (p0 * q3 + p1 * q2 + -(p2 * q1) + p3 * q0)) = (p0 * p0 + p1 * p1 + p2 * p2 + p3 * p3) * (q0 * q0 + q1 * q1 + q2 * q2 + q3 * q3) := by grind

theorem mul_whole (p0 p1 p2 p3 q0 q1 q2 q3 : Int) (M N : Nat) (a0 : Bd p0 M) (a1 : Bd p1 M) (a2 : Bd p2 M) (a3 : Bd p3 M) (b0 : Bd q0 N) (b1 : Bd q1 N) (b2 : Bd q2 N) (b3 : Bd q3 N) (hM : M ≤ 4194303) (hN : N ≤ 4194303) (h : 4 * (M * N) ≤ 4194303) (w : World) :
    Calls Try.prog 15 #[.agg #[.int .i64 (p0 * 16777216), .int .i64 (p1 * 16777216), .int .i64 (p2 * 16777216), .int .i64 (p3 * 16777216)], .agg #[.int .i64 (q0 * 16777216), .int .i64 (q1 * 16777216), .int .i64 (q2 * 16777216), .int .i64 (q3 * 16777216)]] w fun e w' => e = .returned (.tuple #[.agg #[.int .i64 ((p0 * q0 + -(p1 * q1) + -(p2 * q2) + -(p3 * q3)) * 16777216), .int .i64 ((p0 * q1 + p1 * q0 + p2 * q3 + -(p3 * q2)) * 16777216), .int .i64 ((p0 * q2 + -(p1 * q3) + p2 * q0 + p3 * q1) * 16777216), .int .i64 ((p0 * q3 + p1 * q2 + -(p2 * q1) + p3 * q0) * 16777216)], .bool false]) ∧ Ext w w' := by
  obtain ⟨e0, e1, e2, e3, e4⟩ := qmS a0 a1 a2 a3 b0 b1 b2 b3 hM hN h
  have := qmul_calls (p0 * 16777216) (p1 * 16777216) (p2 * 16777216) (p3 * 16777216) (q0 * 16777216) (q1 * 16777216) (q2 * 16777216) (q3 * 16777216) w
  rw [e0, e1, e2, e3, show qf3 _ _ _ _ _ _ _ _ _ = _ from e4] at this
  exact this
theorem norm_whole (p0 p1 p2 p3 : Int) (M : Nat) (a0 : Bd p0 M) (a1 : Bd p1 M) (a2 : Bd p2 M) (a3 : Bd p3 M) (hM : M ≤ 4194303) (h : 4 * (M * M) ≤ 4194303) (w : World) :
    Calls Try.prog 18 #[.agg #[.int .i64 (p0 * 16777216), .int .i64 (p1 * 16777216), .int .i64 (p2 * 16777216), .int .i64 (p3 * 16777216)]] w fun e w' => e = .returned (.tuple #[.int .i64 ((p0 * p0 + p1 * p1 + p2 * p2 + p3 * p3) * 16777216), .bool (normB (p0 * 16777216) (p1 * 16777216) (p2 * 16777216) (p3 * 16777216))]) ∧ Ext w w' := by
  have := norm_calls (p0 * 16777216) (p1 * 16777216) (p2 * 16777216) (p3 * 16777216) w
  rw [normS a0 a1 a2 a3 hM h] at this
  exact this

theorem wholes_calls (a0 a1 a2 a3 b0 b1 b2 b3 c0 c1 c2 c3 : Int) (w : World) :
    Calls Try.prog 4 #[.agg #[.int .i8 a0, .int .i8 a1, .int .i8 a2, .int .i8 a3], .agg #[.int .i8 b0, .int .i8 b1, .int .i8 b2, .int .i8 b3], .agg #[.int .i8 c0, .int .i8 c1, .int .i8 c2, .int .i8 c3]] w fun e w' => e = .returned (.bool true) ∧ Ext w w' := by
  have hp0 : Bd (a0.tmod 8) 7 := tmod_bd a0 8 (by decide)
  have hp1 : Bd (a1.tmod 8) 7 := tmod_bd a1 8 (by decide)
  have hp2 : Bd (a2.tmod 8) 7 := tmod_bd a2 8 (by decide)
  have hp3 : Bd (a3.tmod 8) 7 := tmod_bd a3 8 (by decide)
  have hq0 : Bd (b0.tmod 8) 7 := tmod_bd b0 8 (by decide)
  have hq1 : Bd (b1.tmod 8) 7 := tmod_bd b1 8 (by decide)
  have hq2 : Bd (b2.tmod 8) 7 := tmod_bd b2 8 (by decide)
  have hq3 : Bd (b3.tmod 8) 7 := tmod_bd b3 8 (by decide)
  have hr0 : Bd (c0.tmod 8) 7 := tmod_bd c0 8 (by decide)
  have hr1 : Bd (c1.tmod 8) 7 := tmod_bd c1 8 (by decide)
  have hr2 : Bd (c2.tmod 8) 7 := tmod_bd c2 8 (by decide)
  have hr3 : Bd (c3.tmod 8) 7 := tmod_bd c3 8 (by decide)

  have gp0 := wrapS (bd_le hp0 (by decide))
  have gp1 := wrapS (bd_le hp1 (by decide))
  have gp2 := wrapS (bd_le hp2 (by decide))
  have gp3 := wrapS (bd_le hp3 (by decide))
  have gq0 := wrapS (bd_le hq0 (by decide))
  have gq1 := wrapS (bd_le hq1 (by decide))
  have gq2 := wrapS (bd_le hq2 (by decide))
  have gq3 := wrapS (bd_le hq3 (by decide))
  have gr0 := wrapS (bd_le hr0 (by decide))
  have gr1 := wrapS (bd_le hr1 (by decide))
  have gr2 := wrapS (bd_le hr2 (by decide))
  have gr3 := wrapS (bd_le hr3 (by decide))


  obtain ⟨X0, X1, X2, X3⟩ := prod_bd hp0 hp1 hp2 hp3 hq0 hq1 hq2 hq3
  obtain ⟨Z0, Z1, Z2, Z3⟩ := prod_bd hq0 hq1 hq2 hq3 hr0 hr1 hr2 hr3
  obtain ⟨s0, s1, s2, s3⟩ := assoc4 (a0.tmod 8) (a1.tmod 8) (a2.tmod 8) (a3.tmod 8) (b0.tmod 8) (b1.tmod 8) (b2.tmod 8) (b3.tmod 8) (c0.tmod 8) (c1.tmod 8) (c2.tmod 8) (c3.tmod 8)
  refine wholes_gen a0 a1 a2 a3 b0 b1 b2 b3 c0 c1 c2 c3 _ _ _ _ _ _ _ _ _ _ _ _ _ _ _ _ _ _ _ _ _ _ _ _ _ _ _ _ _ _ _ _ _ (Lib.hid shown4_calls) (Lib.hid ⟨gp0, gp1, gp2, gp3⟩) (Lib.hid ⟨gq0, gq1, gq2, gq3⟩) (Lib.hid ⟨gr0, gr1, gr2, gr3⟩)
    (Lib.hid fun w => mul_whole _ _ _ _ _ _ _ _ 7 7 hp0 hp1 hp2 hp3 hq0 hq1 hq2 hq3 (by decide) (by decide) (by decide) w)
    (Lib.hid fun w => mul_whole _ _ _ _ _ _ _ _ _ 7 X0 X1 X2 X3 hr0 hr1 hr2 hr3 (by decide) (by decide) (by decide) w)
    (Lib.hid fun w => mul_whole _ _ _ _ _ _ _ _ 7 7 hq0 hq1 hq2 hq3 hr0 hr1 hr2 hr3 (by decide) (by decide) (by decide) w)
    (Lib.hid fun w => by
      have := mul_whole _ _ _ _ _ _ _ _ 7 _ hp0 hp1 hp2 hp3 Z0 Z1 Z2 Z3 (by decide) (by decide) (by decide) w
      rw [s0, s1, s2, s3] at this
      exact this)
    (Lib.hid fun w => norm_whole _ _ _ _ 7 hp0 hp1 hp2 hp3 (by decide) (by decide) w)
    (Lib.hid fun w => norm_whole _ _ _ _ 7 hq0 hq1 hq2 hq3 (by decide) (by decide) w)
    (Lib.hid fun w => norm_whole _ _ _ _ _ X0 X1 X2 X3 (by decide) (by decide) w)
    (Lib.hid ?_) w
  have N0 : ∀ {u0 u1 u2 u3 : Int}, Bd u0 7 → Bd u1 7 → Bd u2 7 → Bd u3 7 → Bd (u0 * u0 + u1 * u1 + u2 * u2 + u3 * u3) 196 := fun a b c d => bd_add (bd_add (bd_add (bd_mul a a) (bd_mul b b)) (bd_mul c c)) (bd_mul d d)
  have NP := N0 hp0 hp1 hp2 hp3
  have NQ := N0 hq0 hq1 hq2 hq3
  rw [norm4]
  generalize (a0.tmod 8) * (a0.tmod 8) + (a1.tmod 8) * (a1.tmod 8) + (a2.tmod 8) * (a2.tmod 8) + (a3.tmod 8) * (a3.tmod 8) = n1 at NP ⊢
  generalize (b0.tmod 8) * (b0.tmod 8) + (b1.tmod 8) * (b1.tmod 8) + (b2.tmod 8) * (b2.tmod 8) + (b3.tmod 8) * (b3.tmod 8) = n2 at NQ ⊢
  have NN := bd_mul NP NQ
  rw [Int.mul_tdiv_cancel _ (by decide), Int.mul_tdiv_cancel _ (by decide), Int.mul_tdiv_cancel _ (by decide)]
  unfold Bd at NP NQ NN
  rw [w64_in n1 (by omega), w64_in n2 (by omega), w64_in (n1 * n2) (by omega)]
  simp
end Go.Proofs.Ytdjgafcniifmlaa
