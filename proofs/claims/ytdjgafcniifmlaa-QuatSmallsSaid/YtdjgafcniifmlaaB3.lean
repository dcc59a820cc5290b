/- The norm of one of the norm 1: what the roundings may do to it. -/
import Derived.Test.YtdjgafcniifmlaaB0
import Derived.Test.YtdjgafcniifmlaaQ5
set_option linter.unusedVariables false
set_option linter.unusedSimpArgs false
namespace Go.Proofs.Ytdjgafcniifmlaa
open Go.RowKit

theorem rne_near (n : Int) : 2 * (rne n * 16777216 - n) ≤ 16777216 ∧ -16777216 ≤ 2 * (rne n * 16777216 - n) := by unfold rne; omega
theorem mul_bds {a b m : Int} (h0 : -m ≤ a) (h1 : a ≤ m) (g0 : 0 ≤ b) : -(m * b) ≤ a * b ∧ a * b ≤ m * b := by
  have x := Int.mul_le_mul_of_nonneg_right h1 g0
  have y := Int.mul_le_mul_of_nonneg_right h0 g0
  rw [Int.neg_mul] at y
  exact ⟨y, x⟩
theorem sq_le {x m : Int} (h0 : -m ≤ x) (h1 : x ≤ m) : 0 ≤ x * x ∧ x * x ≤ m * m := by
  refine ⟨by rw [← Int.natAbs_mul_self]; exact Int.natCast_nonneg _, ?_⟩
  by_cases h : 0 ≤ x
  · exact Int.mul_le_mul h1 h1 h (by omega)
  · have := Int.mul_le_mul (a := -x) (b := -x) (c := m) (d := m) (by omega) (by omega) (by omega) (by omega)
    rwa [Int.neg_mul_neg] at this
theorem sq_ge {x m : Int} (hm : 0 ≤ m) (h : m ≤ x ∨ x ≤ -m) : m * m ≤ x * x := by
  rcases h with h | h
  · exact Int.mul_le_mul h h hm (by omega)
  · have := Int.mul_le_mul (a := m) (b := m) (c := -x) (d := -x) (by omega) (by omega) (by omega) (by omega)
    rwa [Int.neg_mul_neg] at this

/-- The square of a number of at most 512. -/
theorem sq512 {x : Int} (h0 : -8589934592 ≤ x) (h1 : x ≤ 8589934592) : mulI x x = rne (x * x) ∧ 0 ≤ rne (x * x) ∧ rne (x * x) ≤ 4398046511105 := by
  obtain ⟨a, b⟩ := sq_le h0 h1
  have c := rne_near (x * x)
  have d : 0 ≤ rne (x * x) ∧ rne (x * x) ≤ 4398046511105 := by omega
  refine ⟨?_, d⟩
  unfold mulI
  rw [clamp_in (a := x) (by omega) (by omega), clamp_in (by omega) (by omega)]

theorem norm512 {a b c d : Int} (a0 : -8589934592 ≤ a) (a1 : a ≤ 8589934592) (b0 : -8589934592 ≤ b) (b1 : b ≤ 8589934592) (c0 : -8589934592 ≤ c) (c1 : c ≤ 8589934592) (d0 : -8589934592 ≤ d) (d1 : d ≤ 8589934592) :
    0 ≤ normI a b c d ∧ normI a b c d ≤ 17592186044420 ∧ 2 * (normI a b c d * 16777216 - (a * a + b * b + c * c + d * d)) ≤ 67108864 ∧ -67108864 ≤ 2 * (normI a b c d * 16777216 - (a * a + b * b + c * c + d * d)) := by
  obtain ⟨ea, a2, a3⟩ := sq512 a0 a1
  obtain ⟨eb, b2, b3⟩ := sq512 b0 b1
  obtain ⟨ec, c2, c3⟩ := sq512 c0 c1
  obtain ⟨ed, d2, d3⟩ := sq512 d0 d1
  have ra := rne_near (a * a)
  have rb := rne_near (b * b)
  have rc := rne_near (c * c)
  have rd := rne_near (d * d)
  have e : normI a b c d = rne (a * a) + rne (b * b) + rne (c * c) + rne (d * d) := by
    unfold normI
    rw [ea, eb, ec, ed]
    have f : ∀ x y : Int, 0 ≤ x → x ≤ 17592186044420 → 0 ≤ y → y ≤ 4398046511105 → addI x y = x + y := fun x y h h1 h2 h3 => by
      unfold addI
      rw [clamp_in (a := x) (by omega) (by omega), clamp_in (a := y) (by omega) (by omega), clamp_in (by omega) (by omega)]
    simp only [sumI, List.foldl]
    rw [f _ _ a2 (by omega) b2 b3, f _ _ (by omega) (by omega) c2 c3, f _ _ (by omega) (by omega) d2 d3]
  rw [e]
  omega

/-- One of four, and its rounded quotient by the root. -/
theorem quot512 {x s : Int} (h0 : -(s + 7) ≤ x) (h1 : x ≤ s + 7) (s0 : 4194299 ≤ s) (s1 : s ≤ 68719476736) :
    2 * (divI x s * s - x * 16777216) ≤ s ∧ -s ≤ 2 * (divI x s * s - x * 16777216) ∧ -33554432 ≤ divI x s ∧ divI x s ≤ 33554432 := by
  have hn := rdiv_near (x := (x.natAbs : Int)) (y := s) (by omega)
  have hb : 0 ≤ rdiv (x.natAbs : Int) s ∧ rdiv (x.natAbs : Int) s ≤ 33554432 := by
    constructor
    · by_cases h : rdiv (x.natAbs : Int) s < 0
      · have := Int.mul_le_mul_of_nonneg_right (show rdiv (x.natAbs : Int) s ≤ -1 by omega) (show 0 ≤ s by omega)
        omega
      · omega
    · by_cases h : 33554432 < rdiv (x.natAbs : Int) s
      · have := Int.mul_le_mul_of_nonneg_right (show 33554433 ≤ rdiv (x.natAbs : Int) s by omega) (show 0 ≤ s by omega)
        omega
      · omega
  have e : divI x s = sg (decide (x < 0)) (rdiv (x.natAbs : Int) s) := by
    unfold divI
    rw [clamp_in (a := s) (by omega) (by omega), if_neg (by omega), clamp_in (a := x) (by omega) (by omega), show ((s.natAbs : Nat) : Int) = s by omega,
      show (!(decide (x < 0) == decide (s < 0))) = decide (x < 0) by simp [show ¬ s < 0 by omega]]
    refine clamp_in ?_ ?_ <;> (unfold sg; split <;> omega)
  rw [e]
  unfold sg
  by_cases h : x < 0
  · rw [if_pos (by simpa using h), Int.neg_mul]
    omega
  · rw [if_neg (by simpa using h)]
    omega

theorem root_big {N Q s : Int} (hN : -67108864 ≤ 2 * (N * 16777216 - Q)) (hQ : 17592186044416 ≤ Q) (s0 : 0 ≤ s) (h2 : N * 16777216 < (s + 1) * (s + 1)) : 4194299 ≤ s := by
  by_cases h : 4194299 ≤ s
  · exact h
  · have := Int.mul_le_mul (a := s + 1) (b := s + 1) (c := 4194299) (d := 4194299) (by omega) (by omega) (by omega) (by omega)
    omega
theorem below_root {x Q a s : Int} (ha : a = s * s) (hx : x * x ≤ Q) (hQ : Q ≤ a + 2 * s + 33554433) (s0 : 4194299 ≤ s) : -(s + 7) ≤ x ∧ x ≤ s + 7 := by
  have e : (s + 8) * (s + 8) = s * s + 16 * s + 64 := by grind
  by_cases h : s + 8 ≤ x ∨ x ≤ -(s + 8)
  · have := sq_ge (by omega) h
    omega
  · omega

theorem final512 {q0 q1 q2 q3 u0 u1 u2 u3 s N n : Int}
    (hN1 : 2 * (N * 16777216 - (q0 * q0 + q1 * q1 + q2 * q2 + q3 * q3)) ≤ 67108864) (hN2 : -67108864 ≤ 2 * (N * 16777216 - (q0 * q0 + q1 * q1 + q2 * q2 + q3 * q3)))
    (hs1 : s * s ≤ N * 16777216) (hs2 : N * 16777216 < (s + 1) * (s + 1)) (s0 : 4194299 ≤ s)
    (b0 : -(s + 7) ≤ q0 ∧ q0 ≤ s + 7) (b1 : -(s + 7) ≤ q1 ∧ q1 ≤ s + 7) (b2 : -(s + 7) ≤ q2 ∧ q2 ≤ s + 7) (b3 : -(s + 7) ≤ q3 ∧ q3 ≤ s + 7)
    (e0 : 2 * (u0 * s - q0 * 16777216) ≤ s ∧ -s ≤ 2 * (u0 * s - q0 * 16777216)) (e1 : 2 * (u1 * s - q1 * 16777216) ≤ s ∧ -s ≤ 2 * (u1 * s - q1 * 16777216))
    (e2 : 2 * (u2 * s - q2 * 16777216) ≤ s ∧ -s ≤ 2 * (u2 * s - q2 * 16777216)) (e3 : 2 * (u3 * s - q3 * 16777216) ≤ s ∧ -s ≤ 2 * (u3 * s - q3 * 16777216))
    (hn1 : 2 * (n * 16777216 - (u0 * u0 + u1 * u1 + u2 * u2 + u3 * u3)) ≤ 67108864) (hn2 : -67108864 ≤ 2 * (n * 16777216 - (u0 * u0 + u1 * u1 + u2 * u2 + u3 * u3))) :
    16776960 ≤ n ∧ n ≤ 16777472 := by
  have ex : (s + 1) * (s + 1) = s * s + 2 * s + 1 := by grind
  rw [ex] at hs2
  -- one of the four: the square of the quotient times the root
  have one : ∀ q u : Int, (-(s + 7) ≤ q ∧ q ≤ s + 7) → (2 * (u * s - q * 16777216) ≤ s ∧ -s ≤ 2 * (u * s - q * 16777216)) →
      -(16777216 * (s * s + 7 * s) + s * s) ≤ u * u * (s * s) - 281474976710656 * (q * q) ∧ u * u * (s * s) - 281474976710656 * (q * q) ≤ 16777216 * (s * s + 7 * s) + s * s := by
    intro q u hq hu
    obtain ⟨e, he⟩ : ∃ e, e = 2 * (u * s - q * 16777216) := ⟨_, rfl⟩
    rw [← he] at hu
    have k1 : -((s + 7) * s) ≤ q * e ∧ q * e ≤ (s + 7) * s := by
      have a1 : (q * e).natAbs ≤ ((s + 7) * s).natAbs := by
        rw [Int.natAbs_mul, Int.natAbs_mul]
        exact Nat.mul_le_mul (by omega) (by omega)
      have a2 : 0 ≤ (s + 7) * s := Int.mul_nonneg (by omega) (by omega)
      omega
    obtain ⟨k2, k3⟩ := sq_le hu.2 hu.1
    have id : 4 * (u * u * (s * s)) = 4 * (281474976710656 * (q * q)) + 4 * (16777216 * (q * e)) + e * e := by subst he; grind
    have ex2 : (s + 7) * s = s * s + 7 * s := by grind
    rw [ex2] at k1
    omega
  have d0 := one q0 u0 b0 e0
  have d1 := one q1 u1 b1 e1
  have d2 := one q2 u2 b2 e2
  have d3 := one q3 u3 b3 e3
  have ea : (u0 * u0 + u1 * u1 + u2 * u2 + u3 * u3) * (s * s) = u0 * u0 * (s * s) + u1 * u1 * (s * s) + u2 * u2 * (s * s) + u3 * u3 * (s * s) := by grind
  have g := Int.mul_le_mul_of_nonneg_right s0 (show 0 ≤ s by omega)
  obtain ⟨U, hU⟩ : ∃ U, U = u0 * u0 + u1 * u1 + u2 * u2 + u3 * u3 := ⟨_, rfl⟩
  rw [← hU] at hn1 hn2 ea
  generalize s * s = a at *
  have lo : 281474976710656 - 4261412864 ≤ U := by
    by_cases h : 281474976710656 - 4261412864 ≤ U
    · exact h
    · have := Int.mul_le_mul_of_nonneg_right (show U ≤ 281474976710656 - 4261412864 - 1 by omega) (show 0 ≤ a by omega)
      omega
  have hi : U ≤ 281474976710656 + 4261412864 := by
    by_cases h : U ≤ 281474976710656 + 4261412864
    · exact h
    · have := Int.mul_le_mul_of_nonneg_right (show 281474976710656 + 4261412864 + 1 ≤ U by omega) (show 0 ≤ a by omega)
      omega
  omega

/-- Where all are at most 512, and one at least 1/4. -/
theorem unit512 {q0 q1 q2 q3 : Int} (a0 : -8589934592 ≤ q0) (a1 : q0 ≤ 8589934592) (b0 : -8589934592 ≤ q1) (b1 : q1 ≤ 8589934592) (c0 : -8589934592 ≤ q2) (c1 : q2 ≤ 8589934592) (d0 : -8589934592 ≤ q3) (d1 : q3 ≤ 8589934592)
    (hb : (4194304 ≤ q0 ∨ q0 ≤ -4194304) ∨ (4194304 ≤ q1 ∨ q1 ≤ -4194304) ∨ (4194304 ≤ q2 ∨ q2 ≤ -4194304) ∨ (4194304 ≤ q3 ∨ q3 ≤ -4194304)) :
    ∃ s, s = sqrtI (normI q0 q1 q2 q3) ∧ 4194299 ≤ s ∧ s ≤ 68719476736 ∧ (16776960 ≤ normI (divI q0 s) (divI q1 s) (divI q2 s) (divI q3 s) ∧ normI (divI q0 s) (divI q1 s) (divI q2 s) (divI q3 s) ≤ 16777472) ∧
      (∀ x ∈ [q0, q1, q2, q3], -(s + 7) ≤ x ∧ x ≤ s + 7) ∧ sqrtB (normI q0 q1 q2 q3) = false ∧ normB q0 q1 q2 q3 = normB q0 q1 q2 q3 := by
  obtain ⟨n0, n1, n2, n3⟩ := norm512 a0 a1 b0 b1 c0 c1 d0 d1
  obtain ⟨s1, s2, s3, s4⟩ := sqrt_spec n0 (by omega)
  have p0 := (sq_le a0 a1).1
  have p1 := (sq_le b0 b1).1
  have p2 := (sq_le c0 c1).1
  have p3 := (sq_le d0 d1).1
  have hQ : 17592186044416 ≤ q0 * q0 + q1 * q1 + q2 * q2 + q3 * q3 := by
    rcases hb with h | h | h | h
    all_goals (have := sq_ge (by omega) h; omega)
  have hB : sqrtB (normI q0 q1 q2 q3) = false := by
    unfold sqrtB
    rw [clamp_in (by omega) (by omega), if_neg (by omega)]
    exact clampB_in (by omega) (by omega)
  generalize normI q0 q1 q2 q3 = N at *
  refine ⟨sqrtI N, rfl, ?_⟩
  generalize sqrtI N = s at *
  have s0 := root_big n3 hQ s3 s2
  have ex : (s + 1) * (s + 1) = s * s + 2 * s + 1 := by grind
  have hQ2 : q0 * q0 + q1 * q1 + q2 * q2 + q3 * q3 ≤ s * s + 2 * s + 33554433 := by rw [ex] at s2; omega
  have m0 := below_root rfl (show q0 * q0 ≤ _ by omega) hQ2 s0
  have m1 := below_root rfl (show q1 * q1 ≤ _ by omega) hQ2 s0
  have m2 := below_root rfl (show q2 * q2 ≤ _ by omega) hQ2 s0
  have m3 := below_root rfl (show q3 * q3 ≤ _ by omega) hQ2 s0
  obtain ⟨x0, x1, x2, x3⟩ := quot512 m0.1 m0.2 s0 (by omega)
  obtain ⟨y0, y1, y2, y3⟩ := quot512 m1.1 m1.2 s0 (by omega)
  obtain ⟨z0, z1, z2, z3⟩ := quot512 m2.1 m2.2 s0 (by omega)
  obtain ⟨w0, w1, w2, w3⟩ := quot512 m3.1 m3.2 s0 (by omega)
  obtain ⟨r0, r1, r2, r3⟩ := norm512 (a := divI q0 s) (b := divI q1 s) (c := divI q2 s) (d := divI q3 s) (by omega) (by omega) (by omega) (by omega) (by omega) (by omega) (by omega) (by omega)
  refine ⟨s0, by omega, final512 n2 n3 s1 s2 s0 m0 m1 m2 m3 ⟨x0, x1⟩ ⟨y0, y1⟩ ⟨z0, z1⟩ ⟨w0, w1⟩ r2 r3, ?_, hB, rfl⟩
  intro x hx
  simp only [List.mem_cons, List.not_mem_nil, or_false] at hx
  rcases hx with rfl | rfl | rfl | rfl
  · exact m0
  · exact m1
  · exact m2
  · exact m3
end Go.Proofs.Ytdjgafcniifmlaa
