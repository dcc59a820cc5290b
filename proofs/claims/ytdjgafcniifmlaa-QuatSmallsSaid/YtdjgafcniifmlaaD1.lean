/- A quotient of three half words by two: the guess, and how it is mended. Plain numbers; no program in sight. -/
import Derived.Test.YtdjgafcniifmlaaE0
set_option linter.unusedVariables false
namespace Go.Proofs.Ytdjgafcniifmlaa

theorem mul_lt_cancel {a b c : Int} (hc : 0 ≤ c) (h : a * c < b * c) : a < b := by
  rcases Int.lt_or_le a b with h1 | h1
  · exact h1
  · have := Int.mul_le_mul_of_nonneg_right h1 hc; omega

/-- N by yy is Q. -/
structure Quo (N yy Q : Int) : Prop where
  lo : Q * yy ≤ N
  hi : N < (Q + 1) * yy

theorem Quo.uniq {N yy Q q : Int} (h : Quo N yy Q) (hy : 0 < yy) (h1 : q * yy ≤ N) (h2 : N < (q + 1) * yy) : q = Q := by
  have a := mul_lt_cancel (a := q) (b := Q + 1) (c := yy) (by omega) (by have := h.hi; omega)
  have b := mul_lt_cancel (a := Q) (b := q + 1) (c := yy) (by omega) (by have := h.lo; omega)
  omega
theorem Quo.of_div {N yy : Int} (hy : 0 < yy) : Quo N yy (N / yy) := by
  have e := Int.mul_ediv_add_emod N yy
  have a := Int.emod_nonneg N (b := yy) (by omega)
  have b := Int.emod_lt_of_pos N hy
  have c : N / yy * yy = yy * (N / yy) := Int.mul_comm _ _
  exact ⟨by omega, by rw [Int.add_mul]; omega⟩
theorem Quo.eq_div {N yy Q : Int} (h : Quo N yy Q) (hy : 0 < yy) : Q = N / yy := (h.uniq hy (Quo.of_div hy).lo (Quo.of_div hy).hi).symm
theorem Quo.rem {N yy Q : Int} (h : Quo N yy Q) (hy : 0 < yy) : N - Q * yy = N % yy := by
  rw [h.eq_div hy]
  have e := Int.mul_ediv_add_emod N yy
  have c : N / yy * yy = yy * (N / yy) := Int.mul_comm _ _
  omega

/-- What is known of one step: the divisor's halves a, b; the number u with one half word v more; its quotient Q. -/
structure Kn (a b u v yy N Q : Int) : Prop where
  hyy : yy = a * 4294967296 + b
  hN : N = u * 4294967296 + v
  h : Quo N yy Q
  a0 : 2147483648 ≤ a
  a1 : a < 4294967296
  b0 : 0 ≤ b
  b1 : b < 4294967296
  v0 : 0 ≤ v
  v1 : v < 4294967296

theorem Kn.mul {a b u v yy N Q : Int} (k : Kn a b u v yy N Q) (q : Int) : q * yy = q * a * 4294967296 + q * b := by rw [k.hyy, Int.mul_add, Int.mul_assoc]

theorem Kn.mends {a b u v yy N Q q r : Int} (k : Kn a b u v yy N Q) (hu : u = q * a + r) (ht : 4294967296 * r + v < q * b) : Q ≤ q - 1 := by
  have e := k.mul q
  obtain ⟨hyy, hN, h, a0, a1, b0, b1, v0, v1⟩ := k
  have := mul_lt_cancel (a := Q) (b := q) (c := yy) (by omega) (by have := h.lo; omega)
  omega
theorem Kn.done {a b u v yy N Q q r : Int} (k : Kn a b u v yy N Q) (hu : u = q * a + r) (ht : q * b ≤ 4294967296 * r + v) : q ≤ Q := by
  have e := k.mul q
  obtain ⟨hyy, hN, h, a0, a1, b0, b1, v0, v1⟩ := k
  have := mul_lt_cancel (a := q) (b := Q + 1) (c := yy) (by omega) (by have := h.hi; omega)
  omega
theorem Kn.breaks {a b u v yy N Q q r : Int} (k : Kn a b u v yy N Q) (hu : u = q * a + r) (hr : 4294967296 ≤ r) (hq : q ≤ 4294967296) (q0 : 0 ≤ q) : q ≤ Q := by
  have e := k.mul q
  obtain ⟨hyy, hN, h, a0, a1, b0, b1, v0, v1⟩ := k
  have m : q * b ≤ 4294967296 * b := Int.mul_le_mul_of_nonneg_right hq b0
  have := mul_lt_cancel (a := q) (b := Q + 1) (c := yy) (by omega) (by have := h.hi; omega)
  omega
theorem Kn.lt {a b u v yy N Q : Int} (k : Kn a b u v yy N Q) (hu : u < yy) : Q < 4294967296 := by
  obtain ⟨hyy, hN, h, a0, a1, b0, b1, v0, v1⟩ := k
  have := mul_lt_cancel (a := Q) (b := 4294967296) (c := yy) (by omega) (by have := h.lo; omega)
  omega
theorem Kn.nonneg {a b u v yy N Q : Int} (k : Kn a b u v yy N Q) (u0 : 0 ≤ u) : 0 ≤ Q := by
  obtain ⟨hyy, hN, h, a0, a1, b0, b1, v0, v1⟩ := k
  have := mul_lt_cancel (a := 0) (b := Q + 1) (c := yy) (by omega) (by have := h.hi; omega)
  omega
theorem Kn.init {a b u v yy N Q : Int} (k : Kn a b u v yy N Q) (hu : u < yy) (u0 : 0 ≤ u) : Q ≤ u / a ∧ u / a ≤ 4294967297 ∧ 0 ≤ u / a ∧ u = u / a * a + (u - u / a * a) ∧ 0 ≤ u - u / a * a ∧ u - u / a * a < 4294967296 := by
  have e := k.mul Q
  have Q0 := k.nonneg u0
  obtain ⟨hyy, hN, h, a0, a1, b0, b1, v0, v1⟩ := k
  obtain ⟨d1, d2⟩ := Quo.of_div (N := u) (yy := a) (by omega)
  have m : 0 ≤ Q * b := Int.mul_nonneg Q0 b0
  have l := h.lo
  have x1 : Q * a ≤ u := by omega
  have k1 := mul_lt_cancel (a := Q) (b := u / a + 1) (c := a) (by omega) (by omega)
  have k2 := mul_lt_cancel (a := u / a) (b := 4294967298) (c := a) (by omega) (by omega)
  have k3 := mul_lt_cancel (a := 0) (b := u / a + 1) (c := a) (by omega) (by omega)
  have d3 : (u / a + 1) * a = u / a * a + a := by rw [Int.add_mul, Int.one_mul]
  refine ⟨by omega, by omega, by omega, by omega, by omega, by omega⟩
end Go.Proofs.Ytdjgafcniifmlaa
