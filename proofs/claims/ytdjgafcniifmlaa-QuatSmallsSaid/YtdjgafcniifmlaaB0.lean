/- Whole numbers: products and sums of multiples of 2^24 are exact. -/
import Derived.Test.YtdjgafcniifmlaaA7
set_option linter.unusedVariables false
set_option linter.unusedSimpArgs false
namespace Go.Proofs.Ytdjgafcniifmlaa
open Go.RowKit

def Bd (x : Int) (M : Nat) : Prop := -(M : Int) ≤ x ∧ x ≤ M
theorem bd_abs {x : Int} {M : Nat} : Bd x M ↔ x.natAbs ≤ M := by unfold Bd; omega
theorem bd_mul {x y : Int} {M N : Nat} (hx : Bd x M) (hy : Bd y N) : Bd (x * y) (M * N) := by
  rw [bd_abs] at *
  rw [Int.natAbs_mul]
  exact Nat.mul_le_mul hx hy
theorem bd_add {x y : Int} {M N : Nat} (hx : Bd x M) (hy : Bd y N) : Bd (x + y) (M + N) := by unfold Bd at *; omega
theorem bd_sub {x y : Int} {M N : Nat} (hx : Bd x M) (hy : Bd y N) : Bd (x - y) (M + N) := by unfold Bd at *; omega
theorem bd_neg {x : Int} {M : Nat} (hx : Bd x M) : Bd (-x) M := by unfold Bd at *; omega
theorem bd_le {x : Int} {M N : Nat} (hx : Bd x M) (h : M ≤ N) : Bd x N := by unfold Bd at *; omega

theorem clampS {a : Int} (h : Bd a 4194303) : clampI (a * 16777216) = a * 16777216 ∧ clampB (a * 16777216) = false := by
  unfold Bd at h
  exact ⟨clamp_in (by omega) (by omega), clampB_in (by omega) (by omega)⟩
theorem mulS {a b : Int} (ha : Bd a 4194303) (hb : Bd b 4194303) (hab : Bd (a * b) 4194303) : mulI (a * 16777216) (b * 16777216) = a * b * 16777216 ∧ mulB (a * 16777216) (b * 16777216) = false := by
  have e : a * 16777216 * (b * 16777216) = a * b * 16777216 * 16777216 := by grind
  unfold mulI mulB
  rw [(clampS ha).1, (clampS hb).1, (clampS ha).2, (clampS hb).2, e, rne_mul, (clampS hab).1, (clampS hab).2]
  exact ⟨rfl, rfl⟩
theorem addS {a b : Int} (ha : Bd a 4194303) (hb : Bd b 4194303) (hab : Bd (a + b) 4194303) : addI (a * 16777216) (b * 16777216) = (a + b) * 16777216 ∧ addB (a * 16777216) (b * 16777216) = false := by
  have e : a * 16777216 + b * 16777216 = (a + b) * 16777216 := by grind
  unfold addI addB
  rw [(clampS ha).1, (clampS hb).1, (clampS ha).2, (clampS hb).2, e, (clampS hab).1, (clampS hab).2]
  exact ⟨rfl, rfl⟩
theorem subS {a : Int} (ha : Bd a 4194303) : subI 0 (a * 16777216) = -a * 16777216 ∧ subB 0 (a * 16777216) = false := by
  have e : 0 - a * 16777216 = -a * 16777216 := by grind
  unfold subI subB
  rw [(clampS ha).1, (clampS ha).2, show clampI 0 = 0 from rfl, e, (clampS (bd_neg ha)).1, (clampS (bd_neg ha)).2]
  exact ⟨rfl, rfl⟩

theorem sum4S {a b c d : Int} {M : Nat} (ha : Bd a M) (hb : Bd b M) (hc : Bd c M) (hd : Bd d M) (h : 4 * M ≤ 4194303) :
    sumI (a * 16777216) [b * 16777216, c * 16777216, d * 16777216] = (a + b + c + d) * 16777216 ∧ ∀ f, sumB f (a * 16777216) [b * 16777216, c * 16777216, d * 16777216] = f := by
  have h1 := bd_add ha hb
  have h2 := bd_add h1 hc
  have h3 := bd_add h2 hd
  obtain ⟨e1, g1⟩ := addS (bd_le ha (by omega)) (bd_le hb (by omega)) (bd_le h1 (by omega))
  obtain ⟨e2, g2⟩ := addS (bd_le h1 (by omega)) (bd_le hc (by omega)) (bd_le h2 (by omega))
  obtain ⟨e3, g3⟩ := addS (bd_le h2 (by omega)) (bd_le hd (by omega)) (bd_le h3 (by omega))
  refine ⟨?_, fun f => ?_⟩
  · simp only [sumI, List.foldl, e1, e2, e3]
  · simp only [sumB, e1, e2, e3, g1, g2, g3, Bool.or_false]

theorem termS {a b : Int} {M N : Nat} (ha : Bd a M) (hb : Bd b N) (hM : M ≤ 4194303) (hN : N ≤ 4194303) (h : M * N ≤ 4194303) :
    termI 1 (a * 16777216) (b * 16777216) = a * b * 16777216 ∧ termI (-1) (a * 16777216) (b * 16777216) = -(a * b) * 16777216 ∧
    termB 1 (a * 16777216) (b * 16777216) = false ∧ termB (-1) (a * 16777216) (b * 16777216) = false := by
  have hab := bd_le (bd_mul ha hb) h
  obtain ⟨e, g⟩ := mulS (bd_le ha hM) (bd_le hb hN) hab
  obtain ⟨e1, g1⟩ := subS hab
  rw [term_p, term_n, termB_p, termB_n, e, g, e1, g1]
  exact ⟨rfl, rfl, rfl, rfl⟩

theorem qmS {p0 p1 p2 p3 q0 q1 q2 q3 : Int} {M N : Nat} (a0 : Bd p0 M) (a1 : Bd p1 M) (a2 : Bd p2 M) (a3 : Bd p3 M) (b0 : Bd q0 N) (b1 : Bd q1 N) (b2 : Bd q2 N) (b3 : Bd q3 N)
    (hM : M ≤ 4194303) (hN : N ≤ 4194303) (h : 4 * (M * N) ≤ 4194303) :
    qm0 (p0 * 16777216) (p1 * 16777216) (p2 * 16777216) (p3 * 16777216) (q0 * 16777216) (q1 * 16777216) (q2 * 16777216) (q3 * 16777216) = (p0 * q0 + -(p1 * q1) + -(p2 * q2) + -(p3 * q3)) * 16777216 ∧
    qm1 (p0 * 16777216) (p1 * 16777216) (p2 * 16777216) (p3 * 16777216) (q0 * 16777216) (q1 * 16777216) (q2 * 16777216) (q3 * 16777216) = (p0 * q1 + p1 * q0 + p2 * q3 + -(p3 * q2)) * 16777216 ∧
    qm2 (p0 * 16777216) (p1 * 16777216) (p2 * 16777216) (p3 * 16777216) (q0 * 16777216) (q1 * 16777216) (q2 * 16777216) (q3 * 16777216) = (p0 * q2 + -(p1 * q3) + p2 * q0 + p3 * q1) * 16777216 ∧
    qm3 (p0 * 16777216) (p1 * 16777216) (p2 * 16777216) (p3 * 16777216) (q0 * 16777216) (q1 * 16777216) (q2 * 16777216) (q3 * 16777216) = (p0 * q3 + p1 * q2 + -(p2 * q1) + p3 * q0) * 16777216 ∧
    qfa (p0 * 16777216) (p1 * 16777216) (p2 * 16777216) (p3 * 16777216) (q0 * 16777216) (q1 * 16777216) (q2 * 16777216) (q3 * 16777216) = false := by
  have t : ∀ {a b : Int}, Bd a M → Bd b N → _ := fun {a b} ha hb => termS ha hb hM hN (by omega)
  have m : ∀ {a b : Int}, Bd a M → Bd b N → Bd (a * b) (M * N) := fun ha hb => bd_mul ha hb
  have n : ∀ {a b : Int}, Bd a M → Bd b N → Bd (-(a * b)) (M * N) := fun ha hb => bd_neg (bd_mul ha hb)
  obtain ⟨e0, f0⟩ := sum4S (m a0 b0) (n a1 b1) (n a2 b2) (n a3 b3) h
  obtain ⟨e1, f1⟩ := sum4S (m a0 b1) (m a1 b0) (m a2 b3) (n a3 b2) h
  obtain ⟨e2, f2⟩ := sum4S (m a0 b2) (n a1 b3) (m a2 b0) (m a3 b1) h
  obtain ⟨e3, f3⟩ := sum4S (m a0 b3) (m a1 b2) (n a2 b1) (m a3 b0) h
  refine ⟨?_, ?_, ?_, ?_, ?_⟩
  · simp only [qm0, g40, g41, g42, g43, (t a0 b0).1, (t a1 b1).2.1, (t a2 b2).2.1, (t a3 b3).2.1, e0]
  · simp only [qm1, g40, g41, g42, g43, (t a0 b1).1, (t a1 b0).1, (t a2 b3).1, (t a3 b2).2.1, e1]
  · simp only [qm2, g40, g41, g42, g43, (t a0 b2).1, (t a1 b3).2.1, (t a2 b0).1, (t a3 b1).1, e2]
  · simp only [qm3, g40, g41, g42, g43, (t a0 b3).1, (t a1 b2).1, (t a2 b1).2.1, (t a3 b0).1, e3]
  · simp only [qfa, qf0, qf1, qf2, qf3, g40, g41, g42, g43, (t a0 b0).1, (t a1 b1).2.1, (t a2 b2).2.1, (t a3 b3).2.1, (t a0 b0).2.2.1, (t a1 b1).2.2.2, (t a2 b2).2.2.2, (t a3 b3).2.2.2, f0,
      (t a0 b1).1, (t a1 b0).1, (t a2 b3).1, (t a3 b2).2.1, (t a0 b1).2.2.1, (t a1 b0).2.2.1, (t a2 b3).2.2.1, (t a3 b2).2.2.2, f1,
      (t a0 b2).1, (t a1 b3).2.1, (t a2 b0).1, (t a3 b1).1, (t a0 b2).2.2.1, (t a1 b3).2.2.2, (t a2 b0).2.2.1, (t a3 b1).2.2.1, f2,
      (t a0 b3).1, (t a1 b2).1, (t a2 b1).2.1, (t a3 b0).1, (t a0 b3).2.2.1, (t a1 b2).2.2.1, (t a2 b1).2.2.2, (t a3 b0).2.2.1, f3, Bool.or_false]

theorem normS {p0 p1 p2 p3 : Int} {M : Nat} (a0 : Bd p0 M) (a1 : Bd p1 M) (a2 : Bd p2 M) (a3 : Bd p3 M) (hM : M ≤ 4194303) (h : 4 * (M * M) ≤ 4194303) :
    normI (p0 * 16777216) (p1 * 16777216) (p2 * 16777216) (p3 * 16777216) = (p0 * p0 + p1 * p1 + p2 * p2 + p3 * p3) * 16777216 := by
  have m : ∀ {a : Int}, Bd a M → mulI (a * 16777216) (a * 16777216) = a * a * 16777216 := fun ha => (mulS (bd_le ha hM) (bd_le ha hM) (bd_le (bd_mul ha ha) (by omega))).1
  unfold normI
  rw [m a0, m a1, m a2, m a3]
  exact (sum4S (bd_mul a0 a0) (bd_mul a1 a1) (bd_mul a2 a2) (bd_mul a3 a3) h).1
end Go.Proofs.Ytdjgafcniifmlaa
