/- bits.Div64: the quotient of two words by one, and what is left. -/
import Derived.Test.YtdjgafcniifmlaaD0
set_option linter.unusedVariables false
namespace Go.Proofs.Ytdjgafcniifmlaa
open Go.RowKit

theorem bitLen_spec : ∀ (n x : Nat), x < 2 ^ n → n ≤ 64 → x ≠ 0 → ∃ m, Lib.bitLen x = m + 1 ∧ 2 ^ m ≤ x ∧ x < 2 ^ (m + 1) ∧ m < n
  | 0, x, h, _, h0 => by simp at h; omega
  | n + 1, x, h, hn, h0 => by
    have hx : x < 2 ^ 64 := Nat.lt_of_lt_of_le h (Nat.pow_le_pow_right (by omega) hn)
    have e := Lib.bitLen_half x h0 hx
    by_cases h1 : x / 2 = 0
    · have : x = 1 := by omega
      subst this
      exact ⟨0, by rw [e]; rfl, by simp, by simp, by omega⟩
    · obtain ⟨m, h2, h3, h4, h5⟩ := bitLen_spec n (x / 2) (by rw [Nat.pow_succ] at h; omega) (by omega) h1
      refine ⟨m + 1, by rw [e, h2]; omega, ?_, ?_, by omega⟩
      · rw [Nat.pow_succ]; omega
      · rw [Nat.pow_succ (n := 2) (m := m + 1)]; omega

theorem or_shift (k : Nat) (x y : Int) (hk : k < 64) (x0 : 0 ≤ x) (y0 : 0 ≤ y) (h : x * 2 ^ k < 18446744073709551616) (hy : y < 2 ^ k) :
    bits .or .u64 (x * 2 ^ k) y = x * 2 ^ k + y := by
  obtain ⟨a, rfl⟩ := Int.eq_ofNat_of_zero_le x0
  obtain ⟨b, rfl⟩ := Int.eq_ofNat_of_zero_le y0
  have hb : b < 2 ^ k := by exact_mod_cast hy
  have ha : 2 ^ k * a < 18446744073709551616 := by
    have : ((a * 2 ^ k : Nat) : Int) < 18446744073709551616 := by push_cast; exact h
    rw [Nat.mul_comm]; omega
  have hk2 : 2 ^ k ≤ 2 ^ 63 := Nat.pow_le_pow_right (by omega) (by omega)
  have e := bits_or_u64_nat (2 ^ k * a) b ha (by omega)
  rw [← Nat.two_pow_add_eq_or_of_lt hb] at e
  have c : ((a : Int) * 2 ^ k) = ((2 ^ k * a : Nat) : Int) := by push_cast; rw [Int.mul_comm]
  rw [c, e]
  push_cast
  rfl

theorem maskHalf (L : Int) (h0 : 0 ≤ L) (h1 : L < 18446744073709551616) : bits .and .u64 L 4294967295 = L % 4294967296 := by
  obtain ⟨l, rfl⟩ := Int.eq_ofNat_of_zero_le h0
  have h := bits_and_u64_nat l 4294967295 (by omega) (by omega)
  rw [show l &&& 4294967295 = l % 4294967296 from Nat.and_two_pow_sub_one_eq_mod l 32] at h
  exact h

theorem div64_calls (hi lo y : Int) (h0 : 0 < hi) (h1 : hi < y) (h2 : y < 18446744073709551616) (l0 : 0 ≤ lo) (l1 : lo < 18446744073709551616) (w : World) :
    Calls Try.prog 41 #[.int .u64 hi, .int .u64 lo, .int .u64 y] w fun e w' =>
      e = .returned (.tuple #[.int .u64 ((hi * 18446744073709551616 + lo) / y), .int .u64 ((hi * 18446744073709551616 + lo) % y)]) ∧ w = w' := by
  obtain ⟨m, g1, g2, g3, g4⟩ := bitLen_spec 64 y.toNat (by omega) (Nat.le_refl _) (by omega)
  obtain ⟨k, hk⟩ : ∃ k, k = 63 - m := ⟨_, rfl⟩
  obtain ⟨p, hp⟩ : ∃ p : Int, p = 2 ^ k := ⟨_, rfl⟩
  obtain ⟨c, hc⟩ : ∃ c : Int, c = 2 ^ (64 - k) := ⟨_, rfl⟩
  have pc : p * c = 18446744073709551616 := by
    rw [hp, hc, ← Int.pow_add, show k + (64 - k) = 64 from by omega]; rfl
  have p0 : 0 < p := by rw [hp]; exact Int.pow_pos (by omega)
  have c0 : 0 < c := by rw [hc]; exact Int.pow_pos (by omega)
  have yl : 9223372036854775808 ≤ y * p := by
    have a1 : 2 ^ m * 2 ^ k ≤ y.toNat * 2 ^ k := Nat.mul_le_mul_right _ g2
    rw [← Nat.pow_add, show m + k = 63 from by omega] at a1
    have a2 : ((y.toNat * 2 ^ k : Nat) : Int) = y * p := by push_cast; rw [hp, Int.toNat_of_nonneg (by omega)]
    omega
  have yh : y * p < 18446744073709551616 := by
    have a1 : y.toNat * 2 ^ k < 2 ^ (m + 1) * 2 ^ k := Nat.mul_lt_mul_of_pos_right g3 (Nat.two_pow_pos k)
    rw [← Nat.pow_add, show m + 1 + k = 64 from by omega] at a1
    have a2 : ((y.toNat * 2 ^ k : Nat) : Int) = y * p := by push_cast; rw [hp, Int.toNat_of_nonneg (by omega)]
    omega
  have hip : hi * p + p ≤ y * p := by
    have := Int.mul_le_mul_of_nonneg_right (show hi + 1 ≤ y by omega) (Int.le_of_lt p0)
    rw [Int.add_mul, Int.one_mul] at this
    exact this
  have lop : lo / c = lo * p / 18446744073709551616 := by
    rw [← pc, Int.mul_comm lo p]
    exact (Int.mul_ediv_mul_of_pos lo c p0).symm
  have loc : lo / c < p := Int.ediv_lt_of_lt_mul c0 (by rw [pc]; exact l1)
  have loc0 : 0 ≤ lo / c := Int.ediv_nonneg l0 (Int.le_of_lt c0)
  have lp0 : 0 ≤ lo * p := Int.mul_nonneg l0 (Int.le_of_lt p0)
  have hp0 : 0 ≤ hi * p := Int.mul_nonneg (by omega) (Int.le_of_lt p0)
  obtain ⟨yy, hyy⟩ : ∃ yy, yy = y * p := ⟨_, rfl⟩
  obtain ⟨u, hu⟩ : ∃ u, u = hi * p + lo / c := ⟨_, rfl⟩
  obtain ⟨z, hz⟩ : ∃ z, z = lo * p % 18446744073709551616 := ⟨_, rfl⟩
  have hNp : (hi * 18446744073709551616 + lo) * p = u * 18446744073709551616 + z := by
    rw [Int.add_mul, Int.mul_right_comm]; omega
  have uu : u < yy := by omega
  have u0 : 0 ≤ u := by omega
  obtain ⟨a, ha⟩ : ∃ a, a = yy / 4294967296 := ⟨_, rfl⟩
  obtain ⟨b, hb⟩ : ∃ b, b = yy % 4294967296 := ⟨_, rfl⟩
  obtain ⟨v1, hv1⟩ : ∃ v1, v1 = z / 4294967296 := ⟨_, rfl⟩
  obtain ⟨v0, hv0⟩ : ∃ v0, v0 = z % 4294967296 := ⟨_, rfl⟩
  have yy0 : 0 < yy := by omega
  have q1 := Quo.of_div (N := u * 4294967296 + v1) yy0
  have m1 : (u * 4294967296 + v1) - (u * 4294967296 + v1) / yy * yy = (u * 4294967296 + v1) % yy := q1.rem yy0
  obtain ⟨Q1, hQ1⟩ : ∃ Q1, Q1 = (u * 4294967296 + v1) / yy := ⟨_, rfl⟩
  obtain ⟨x2, hx2⟩ : ∃ x2, x2 = (u * 4294967296 + v1) % yy := ⟨_, rfl⟩
  rw [← hQ1] at q1 m1
  rw [← hx2] at m1
  have x20 : 0 ≤ x2 := by rw [hx2]; exact Int.emod_nonneg _ (by omega)
  have x21 : x2 < yy := by rw [hx2]; exact Int.emod_lt_of_pos _ yy0
  have q2 := Quo.of_div (N := x2 * 4294967296 + v0) yy0
  have m2 : (x2 * 4294967296 + v0) - (x2 * 4294967296 + v0) / yy * yy = (x2 * 4294967296 + v0) % yy := q2.rem yy0
  obtain ⟨Q2, hQ2⟩ : ∃ Q2, Q2 = (x2 * 4294967296 + v0) / yy := ⟨_, rfl⟩
  obtain ⟨x3, hx3⟩ : ∃ x3, x3 = (x2 * 4294967296 + v0) % yy := ⟨_, rfl⟩
  rw [← hQ2] at q2 m2
  rw [← hx3] at m2
  have x30 : 0 ≤ x3 := by rw [hx3]; exact Int.emod_nonneg _ (by omega)
  have x31 : x3 < yy := by rw [hx3]; exact Int.emod_lt_of_pos _ yy0
  have K1 : Kn a b u v1 yy (u * 4294967296 + v1) Q1 := ⟨by omega, rfl, q1, by omega, by omega, by omega, by omega, by omega, by omega⟩
  have K2 : Kn a b x2 v0 yy (x2 * 4294967296 + v0) Q2 := ⟨by omega, rfl, q2, by omega, by omega, by omega, by omega, by omega, by omega⟩
  have i1 := K1.init uu u0
  have i2 := K2.init x21 x20
  have n1 := K1.nonneg u0
  have n2 := K2.nonneg x20
  have t1 := K1.lt uu
  have t2 := K2.lt x21
  have aux : ∀ x q : Int, 0 ≤ x → x < yy → 0 ≤ q → q ≤ 4294967297 → 0 ≤ x - q * a → x - q * a < 4294967296 → IntKind.u64.wrap (x - IntKind.u64.wrap (q * a)) = x - q * a := by
    intro x q _ _ _ _ _ _
    rw [IntKind.wrap_u64, IntKind.wrap_u64]
    omega
  have W := div_walk hi lo y yy a b u z v1 v0 (u / a) (u - u / a * a) (u * 4294967296 + v1) Q1 x2 (x2 / a) (x2 - x2 / a * a) (x2 * 4294967296 + v0) Q2 x3 k
    (by omega) h1 h2 l0 l1 h0 (by omega)
    (fun w => by
      have L := Try.bits_LeadingZeros64 y w (by omega) (by omega)
      rw [g1, show (64 - ((m + 1 : Nat) : Int)) = (k : Int) from by omega] at L
      exact L.mono fun e w' ⟨he, hw⟩ => ⟨he, hw.symm⟩)
    (by rw [← hp, IntKind.wrap_u64]; omega) ha.symm (by rw [maskHalf _ (by omega) (by omega)]; omega)
    (by
      rw [← hc, show IntKind.u64.wrap (hi * 2 ^ k) = hi * 2 ^ k from by rw [← hp, IntKind.wrap_u64]; omega, or_shift k hi (lo / c) (by omega) (by omega) loc0 (by rw [← hp]; omega) (by rw [← hp]; exact loc), ← hp]
      exact hu.symm)
    (by rw [← hp, IntKind.wrap_u64]; exact hz.symm) hv1.symm (by rw [maskHalf _ (by omega) (by omega)]; omega)
    K1 K2 (by omega) (by omega) (by omega) (by omega) u0 uu x20 x21 (by omega) (by omega) (by omega) (by omega) (by omega) n1 t1 n2 t2
    rfl (aux u (u / a) u0 uu i1.2.2.1 i1.2.1 i1.2.2.2.2.1 i1.2.2.2.2.2)
    (by rw [IntKind.wrap_u64, IntKind.wrap_u64, IntKind.wrap_u64, IntKind.wrap_u64]; omega)
    rfl (aux x2 (x2 / a) x20 x21 i2.2.2.1 i2.2.1 i2.2.2.2.2.1 i2.2.2.2.2.2) i1 i2
    (by rw [IntKind.wrap_u64, IntKind.wrap_u64, IntKind.wrap_u64, IntKind.wrap_u64]; omega)
    w
  have y0 : 0 < y := by omega
  have qN := Quo.of_div (N := hi * 18446744073709551616 + lo) y0
  have rN := qN.rem y0
  have eN : (Q1 * 4294967296 + Q2) * yy = Q1 * yy * 4294967296 + Q2 * yy := by rw [Int.add_mul, Int.mul_right_comm]
  have up := Int.mul_le_mul_of_nonneg_right qN.lo (Int.le_of_lt p0)
  have un := Int.mul_lt_mul_of_pos_right qN.hi p0
  rw [Int.mul_assoc, ← hyy, hNp] at up un
  have eq : (hi * 18446744073709551616 + lo) / y = Q1 * 4294967296 + Q2 :=
    (⟨by omega, by rw [Int.add_mul]; omega⟩ : Quo (u * 18446744073709551616 + z) yy (Q1 * 4294967296 + Q2)).uniq yy0 up un
  have er : (hi * 18446744073709551616 + lo) % y = x3 / 2 ^ k := by
    rw [← hp]
    have : x3 = (hi * 18446744073709551616 + lo) % y * p := by
      rw [← rN, Int.sub_mul, Int.mul_assoc, ← hyy, hNp, eq]
      omega
    rw [this, Int.mul_ediv_cancel _ (by omega)]
  rw [eq, er]
  exact W
end Go.Proofs.Ytdjgafcniifmlaa
