/- A small turn: nothing is out of bounds; the plain law of QuatSmalls joined to the walk. -/
import Derived.Test.YtdjgafcniifmlaaA12
import Derived.Test.YtdjgafcniifmlaaA8
import Derived.Test.YtdjgafcniifmlaaB4
set_option linter.unusedVariables false
set_option linter.unusedSimpArgs false
namespace Go.Proofs.Ytdjgafcniifmlaa
open Go.RowKit

theorem sq512B {x : Int} (h0 : -8589934592 ≤ x) (h1 : x ≤ 8589934592) : mulB x x = false := by
  obtain ⟨_, a, b⟩ := sq512 h0 h1
  unfold mulB
  rw [clamp_in (a := x) (by omega) (by omega), clampB_in (a := x) (by omega) (by omega), clampB_in (by omega) (by omega)]
  rfl
theorem norm512B {a b c d : Int} (a0 : -8589934592 ≤ a) (a1 : a ≤ 8589934592) (b0 : -8589934592 ≤ b) (b1 : b ≤ 8589934592) (c0 : -8589934592 ≤ c) (c1 : c ≤ 8589934592) (d0 : -8589934592 ≤ d) (d1 : d ≤ 8589934592) :
    normB a b c d = false := by
  obtain ⟨ea, a2, a3⟩ := sq512 a0 a1
  obtain ⟨eb, b2, b3⟩ := sq512 b0 b1
  obtain ⟨ec, c2, c3⟩ := sq512 c0 c1
  obtain ⟨ed, d2, d3⟩ := sq512 d0 d1
  have f : ∀ x y : Int, 0 ≤ x → x ≤ 17592186044420 → 0 ≤ y → y ≤ 4398046511105 → addI x y = x + y ∧ addB x y = false := fun x y h h1 h2 h3 => by
    unfold addI addB
    rw [clamp_in (a := x) (by omega) (by omega), clamp_in (a := y) (by omega) (by omega), clamp_in (by omega) (by omega), clampB_in (a := x) (by omega) (by omega), clampB_in (a := y) (by omega) (by omega), clampB_in (by omega) (by omega)]
    exact ⟨rfl, rfl⟩
  unfold normB
  rw [ea, eb, ec, ed, sq512B a0 a1, sq512B b0 b1, sq512B c0 c1, sq512B d0 d1]
  simp only [sumB]
  rw [(f _ _ a2 (by omega) b2 b3).1, (f _ _ a2 (by omega) b2 b3).2, (f _ _ (by omega) (by omega) c2 c3).1, (f _ _ (by omega) (by omega) c2 c3).2, (f _ _ (by omega) (by omega) d2 d3).2]
  rfl
theorem quot512B {x s : Int} (h0 : -(s + 7) ≤ x) (h1 : x ≤ s + 7) (s0 : 4194299 ≤ s) (s1 : s ≤ 68719476736) : divB x s = false := by
  have hn := rdiv_near (x := (x.natAbs : Int)) (y := s) (by omega)
  have hb : 0 ≤ rdiv (x.natAbs : Int) s ∧ rdiv (x.natAbs : Int) s ≤ 33554432 := by
    constructor
    · by_cases h : rdiv (x.natAbs : Int) s < 0
      · have := Int.mul_le_mul_of_nonneg_right (show rdiv (x.natAbs : Int) s ≤ -1 by omega) (show 0 ≤ s by omega)
        omega
      · omega
    · by_cases h : 33554432 < rdiv (x.natAbs : Int) s
      · have := Int.mul_le_mul_of_nonneg_right (show 33554433 ≤ rdiv (x.natAbs : Int) s by omega) (show 0 ≤ s by omega)
        omega
      · omega
  unfold divB
  rw [clamp_in (a := s) (by omega) (by omega), if_neg (by omega), clamp_in (a := x) (by omega) (by omega), show ((s.natAbs : Nat) : Int) = s by omega, clampB_in (a := x) (by omega) (by omega), clampB_in (a := s) (by omega) (by omega)]
  rw [clampB_in (by unfold sg; split <;> omega) (by unfold sg; split <;> omega)]
  rfl
theorem mul28 {v h : Int} (v0 : -268435456 ≤ v) (v1 : v ≤ 268435456) (g0 : -268435456 ≤ h) (g1 : h ≤ 268435456) : -8589934592 ≤ mulI v h ∧ mulI v h ≤ 8589934592 ∧ mulB v h = false := by
  have b := bd_mul (x := v) (y := h) (M := 268435456) (N := 268435456) ⟨by omega, by omega⟩ ⟨by omega, by omega⟩
  unfold Bd at b
  have r := rne_near (v * h)
  unfold mulI mulB
  rw [clamp_in (a := v) (by omega) (by omega), clamp_in (a := h) (by omega) (by omega), clamp_in (by omega) (by omega), clampB_in (a := v) (by omega) (by omega), clampB_in (a := h) (by omega) (by omega), clampB_in (by omega) (by omega)]
  exact ⟨by omega, by omega, rfl⟩

theorem smalls_calls (v0 v1 v2 by1 : Int) (B0 : -9223372036854775808 ≤ by1) (B1 : by1 ≤ 9223372036854775807) (w : World) :
    Calls Try.prog 12 #[.agg #[.int .i64 v0, .int .i64 v1, .int .i64 v2], .int .i64 by1] w fun e w' => e = .returned (.bool true) ∧ Ext w w' := by
  obtain ⟨s, es⟩ : ∃ s, s = sqrtI (normI 16777216 (mulI v0 (half1 by1)) (mulI v1 (half1 by1)) (mulI v2 (half1 by1))) := ⟨_, rfl⟩
  refine smalls_gen v0 v1 v2 by1 (divI 16777216 s) (divI (mulI v0 (half1 by1)) s) (divI (mulI v1 (half1 by1)) s) (divI (mulI v2 (half1 by1)) s)
    (normI (divI 16777216 s) (divI (mulI v0 (half1 by1)) s) (divI (mulI v1 (half1 by1)) s) (divI (mulI v2 (half1 by1)) s)) (mulB v0 0 || mulB v1 0 || mulB v2 0)
    (normB (divI 16777216 s) (divI (mulI v0 (half1 by1)) s) (divI (mulI v1 (half1 by1)) s) (divI (mulI v2 (half1 by1)) s))
    (Lib.hid shown4_calls) (Lib.hid fun w => ?_) (Lib.hid fun h w => ?_) (Lib.hid fun a b c d => ?_) w
  · have := small_gen v0 v1 v2 0 0 0 0 0 16777216 0 0 0 (mulB v0 0) (mulB v1 0) (mulB v2 0) false (mulB v0 0 || mulB v1 0 || mulB v2 0) (Lib.hid (by simp))
      (Lib.hid fun w => Half_calls1 0 (by omega) (by omega) w)
      (Lib.hid fun w => by have := mul_calls v0 0 w; rw [mulI_0r] at this; exact this)
      (Lib.hid fun w => by have := mul_calls v1 0 w; rw [mulI_0r] at this; exact this)
      (Lib.hid fun w => by have := mul_calls v2 0 w; rw [mulI_0r] at this; exact this)
      (Lib.hid fun w => by
        have := unit_calls 16777216 0 0 0 w
        rw [show normI 16777216 0 0 0 = 16777216 by decide +kernel, show sqrtI 16777216 = 16777216 by decide +kernel, show normB 16777216 0 0 0 = false by decide +kernel, show sqrtB 16777216 = false by decide +kernel] at this
        rw [show unitF (false || false) 16777216 0 0 0 16777216 = false by decide +kernel, show unitQ 16777216 0 0 0 16777216 = #[.int .i64 (divI 16777216 16777216), .int .i64 (divI 0 16777216), .int .i64 (divI 0 16777216), .int .i64 (divI 0 16777216)] from if_neg (by decide)] at this
        rw [show divI 16777216 16777216 = 16777216 by decide +kernel, show divI 0 16777216 = 0 by decide +kernel] at this
        exact this) w
    simpa using this
  · have := refRight_calls 0 v0 v1 v2 w
    rw [show right4 0 v0 v1 v2 = false from ?_] at this
    · exact this
    · cases k : right4 0 v0 v1 v2
      · rfl
      · obtain ⟨_, k0, k1, k2⟩ := right4_in k
        rw [mulB_0r k0, mulB_0r k1, mulB_0r k2] at h
        cases h
  · have hh : -268435456 ≤ half1 by1 ∧ half1 by1 ≤ 268435456 := by unfold half1; split <;> omega
    obtain ⟨m0, m1, m2⟩ := mul28 a.1 a.2 hh.1 hh.2
    obtain ⟨n0, n1, n2⟩ := mul28 b.1 b.2 hh.1 hh.2
    obtain ⟨o0, o1, o2⟩ := mul28 c.1 c.2 hh.1 hh.2
    obtain ⟨s', e', h1, h2, hn, hx, hB, _⟩ := unit512 (q0 := 16777216) (by omega) (by omega) m0 m1 n0 n1 o0 o1 (Or.inl (by omega))
    rw [← es] at e'
    subst e'
    have hNB := norm512B (a := 16777216) (by omega) (by omega) m0 m1 n0 n1 o0 o1
    obtain ⟨x0, x1⟩ := hx 16777216 (by simp)
    obtain ⟨y0, y1⟩ := hx (mulI v0 (half1 by1)) (by simp)
    obtain ⟨z0, z1⟩ := hx (mulI v1 (half1 by1)) (by simp)
    obtain ⟨u0, u1⟩ := hx (mulI v2 (half1 by1)) (by simp)
    refine ⟨fun w => ?_, fun w => norm_calls _ _ _ _ w, hn.1, hn.2⟩
    have hs0 : ¬ s' = 0 := by omega
    have := small_gen v0 v1 v2 by1 (half1 by1) (mulI v0 (half1 by1)) (mulI v1 (half1 by1)) (mulI v2 (half1 by1)) (divI 16777216 s') (divI (mulI v0 (half1 by1)) s') (divI (mulI v1 (half1 by1)) s') (divI (mulI v2 (half1 by1)) s')
      (mulB v0 (half1 by1)) (mulB v1 (half1 by1)) (mulB v2 (half1 by1)) false false (Lib.hid (by rw [m2, n2, o2]; rfl))
      (Lib.hid fun w => Half_calls1 by1 B0 B1 w)
      (Lib.hid fun w => mul_calls _ _ w) (Lib.hid fun w => mul_calls _ _ w) (Lib.hid fun w => mul_calls _ _ w)
      (Lib.hid fun w => by
        have := unit_calls 16777216 (mulI v0 (half1 by1)) (mulI v1 (half1 by1)) (mulI v2 (half1 by1)) w
        rw [← es, hNB, hB] at this
        rw [show unitF (false || false) 16777216 (mulI v0 (half1 by1)) (mulI v1 (half1 by1)) (mulI v2 (half1 by1)) s' = false by
          unfold unitF
          rw [if_neg hs0, quot512B x0 x1 h1 h2, quot512B y0 y1 h1 h2, quot512B z0 z1 h1 h2, quot512B u0 u1 h1 h2]
          rfl] at this
        rw [show unitQ 16777216 (mulI v0 (half1 by1)) (mulI v1 (half1 by1)) (mulI v2 (half1 by1)) s' = #[.int .i64 (divI 16777216 s'), .int .i64 (divI (mulI v0 (half1 by1)) s'), .int .i64 (divI (mulI v1 (half1 by1)) s'), .int .i64 (divI (mulI v2 (half1 by1)) s')] from if_neg hs0] at this
        exact this) w
    simpa using this
end Go.Proofs.Ytdjgafcniifmlaa
