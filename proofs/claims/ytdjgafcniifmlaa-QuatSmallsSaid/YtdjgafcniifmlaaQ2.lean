/- qfix.Div. -/
import Derived.Test.YtdjgafcniifmlaaD2
import Derived.Deep.QuietTactic
import Derived.BigQuiet
set_option linter.unusedVariables false
namespace Go.Proofs.Ytdjgafcniifmlaa
open Go.RowKit

theorem div64_zero (lo y : Int) (h1 : 0 < y) (h2 : y < 18446744073709551616) (l0 : 0 ≤ lo) (l1 : lo < 18446744073709551616) (w : World) :
    Calls Try.prog 41 #[.int .u64 0, .int .u64 lo, .int .u64 y] w fun e w' => e = .returned (.tuple #[.int .u64 (lo / y), .int .u64 (lo % y)]) ∧ Ext w w' := by
  have c1 : (y == 0) = false := by rw [beq_eq_false_iff_ne]; omega
  have d0 : 0 ≤ lo / y := Int.ediv_nonneg l0 (by omega)
  have d1 : lo / y ≤ lo := Int.ediv_le_self y l0
  have m0 : 0 ≤ lo % y := Int.emod_nonneg _ (by omega)
  have m1 : lo % y < y := Int.emod_lt_of_pos _ h1
  go_enter Try.func41, Try.ntmps41
  go_wp2
  go_quiet (fail)
  go_wp2
  go_ret2
  exact ⟨rfl, (Ext.refl _).drewN _⟩

theorem div64_any (hi lo y : Int) (h0 : 0 ≤ hi) (h1 : hi < y) (h2 : y < 18446744073709551616) (l0 : 0 ≤ lo) (l1 : lo < 18446744073709551616) (w : World) :
    Calls Try.prog 41 #[.int .u64 hi, .int .u64 lo, .int .u64 y] w fun e w' =>
      e = .returned (.tuple #[.int .u64 ((hi * 18446744073709551616 + lo) / y), .int .u64 ((hi * 18446744073709551616 + lo) % y)]) ∧ Ext w w' := by
  by_cases h : hi = 0
  · subst h
    rw [show 0 * 18446744073709551616 + lo = lo from by omega]
    exact div64_zero lo y h1 h2 l0 l1 w
  · exact (div64_calls hi lo y (by omega) h1 h2 l0 l1 w).mono fun e w' ⟨he, hw⟩ => ⟨he, hw ▸ Ext.refl _⟩

/-- A number by another one, to the nearest, of sizes. -/
def rdiv (x y : Int) : Int := if y < 2 * (x * 16777216 % y) ∨ (y = 2 * (x * 16777216 % y) ∧ x * 16777216 / y % 2 = 1) then x * 16777216 / y + 1 else x * 16777216 / y

theorem rdiv_up {x y : Int} (h : y < 2 * (x * 16777216 % y) ∨ (y = 2 * (x * 16777216 % y) ∧ x * 16777216 / y % 2 = 1)) : rdiv x y = x * 16777216 / y + 1 := if_pos h
theorem rdiv_dn {x y : Int} (h : ¬ (y < 2 * (x * 16777216 % y) ∨ (y = 2 * (x * 16777216 % y) ∧ x * 16777216 / y % 2 = 1))) : rdiv x y = x * 16777216 / y := if_neg h

/-- Where the quotient is told by one word, one more fits into a word, too. -/
theorem quot_lt {x y : Int} (x0 : 0 ≤ x) (x1 : x ≤ 70368744177664) (y0 : 0 < y) (h : x / 1099511627776 < y) : x * 16777216 / y < 18446744073709551615 := by
  refine Int.ediv_lt_of_lt_mul y0 ?_
  by_cases c : y < 16777216
  · omega
  · omega

def divI (a b : Int) : Int :=
  if clampI b = 0 then (if 0 < clampI a then 70368744177663 else if clampI a < 0 then -70368744177664 else 0)
  else clampI (sg (!(decide (clampI a < 0) == decide (clampI b < 0))) (rdiv (clampI a).natAbs (clampI b).natAbs))
def divB (a b : Int) : Bool :=
  if clampI b = 0 then true
  else clampB a || clampB b || clampB (sg (!(decide (clampI a < 0) == decide (clampI b < 0))) (rdiv (clampI a).natAbs (clampI b).natAbs))

theorem div_calls0 (a b : Int) (hb0 : clampI b = 0) (w : World) :
    Calls Try.prog 21 #[.int .i64 a, .int .i64 b] w fun e w' => e = .returned (.tuple #[.int .i64 (divI a b), .bool (divB a b)]) ∧ Ext w w' := by
  have hd : divI a b = (if 0 < clampI a then 70368744177663 else if clampI a < 0 then -70368744177664 else 0) := by unfold divI; rw [if_pos hb0]
  have he : divB a b = true := by unfold divB; rw [if_pos hb0]
  have HD := Lib.hid hd
  have HE := Lib.hid he
  clear hd he
  have bc : ∀ w, Calls Try.prog 37 #[.int .i64 a, .int .i64 b] w fun e w' => e = .returned (.tuple #[.int .i64 (clampI a), .int .i64 0, .bool (clampB a || clampB b)]) ∧ w = w' := by
    intro w
    have := both_calls a b w
    rw [hb0] at this
    exact this
  have BC := Lib.hid bc
  clear bc hb0
  by_cases h1 : 0 < clampI a
  · have e1 := HD.out
    rw [if_pos h1] at e1
    rw [e1, HE.out]
    clear e1
    go_enter Try.func21, Try.ntmps21
    go_wp2_with (first | (go_at_call 37; refine (BC.out _).mono ?_; rintro e w' ⟨rfl, rfl⟩))
    go_ret2
    exact ⟨rfl, Ext.refl _⟩
  · by_cases h2 : clampI a < 0
    · have e1 := HD.out
      rw [if_neg h1, if_pos h2] at e1
      rw [e1, HE.out]
      clear e1
      go_enter Try.func21, Try.ntmps21
      go_wp2_with (first | (go_at_call 37; refine (BC.out _).mono ?_; rintro e w' ⟨rfl, rfl⟩))
      go_ret2
      exact ⟨rfl, Ext.refl _⟩
    · have e1 := HD.out
      rw [if_neg h1, if_neg h2] at e1
      rw [e1, HE.out]
      clear e1
      go_enter Try.func21, Try.ntmps21
      go_wp2_with (first | (go_at_call 37; refine (BC.out _).mono ?_; rintro e w' ⟨rfl, rfl⟩))
      go_ret2
      exact ⟨rfl, Ext.refl _⟩

theorem div_calls1 (a b : Int) (hb0 : ¬ clampI b = 0) (w : World) :
    Calls Try.prog 21 #[.int .i64 a, .int .i64 b] w fun e w' => e = .returned (.tuple #[.int .i64 (divI a b), .bool (divB a b)]) ∧ Ext w w' := by
  have hd : divI a b = clampI (sg (!(decide (clampI a < 0) == decide (clampI b < 0))) (rdiv (clampI a).natAbs (clampI b).natAbs)) := by unfold divI; rw [if_neg hb0]
  have he : divB a b = (clampB a || clampB b || clampB (sg (!(decide (clampI a < 0) == decide (clampI b < 0))) (rdiv (clampI a).natAbs (clampI b).natAbs))) := by unfold divB; rw [if_neg hb0]
  rw [hd, he]
  clear hd he
  have ha := clamp_bd a
  have hb := clamp_bd b
  obtain ⟨x, hx⟩ : ∃ x : Int, x = ((clampI a).natAbs : Int) := ⟨_, rfl⟩
  obtain ⟨y, hy⟩ : ∃ y : Int, y = ((clampI b).natAbs : Int) := ⟨_, rfl⟩
  rw [← hx, ← hy]
  have x0 : 0 ≤ x := by omega
  have x1 : x ≤ 70368744177664 := by omega
  have y0 : 0 < y := by omega
  have y1 : y ≤ 70368744177664 := by omega
  have c0 : (clampI b == 0) = false := by rw [beq_eq_false_iff_ne]; exact hb0
  have ex : ((clampI a).natAbs : Int) = x := hx.symm
  have ey : ((clampI b).natAbs : Int) = y := hy.symm
  clear hx hy hb0
  by_cases hh : y ≤ x / 1099511627776
  · -- too great for a word
    have big : 18446744073709551616 ≤ rdiv x y := by
      have : 18446744073709551616 ≤ x * 16777216 / y := by
        refine (Int.le_ediv_iff_mul_le y0).2 ?_
        omega
      unfold rdiv
      omega
    have sc : ∀ b w, Calls Try.prog 40 #[.int .u64 1, .int .u64 0, .bool b] w fun e w' => e = .returned (.tuple #[.int .i64 (clampI (sg b (rdiv x y))), .bool true]) ∧ Ext w w' := by
      intro b w
      have := signed_calls 1 0 b (by omega) (by omega) w
      have e1 : clampI (sg b (rdiv x y)) = clampI (sg b (1 * 18446744073709551616 + 0)) := by
        cases b
        · rw [clamp_hi (a := sg false (rdiv x y)) (by simp [sg]; omega), clamp_hi (by simp [sg])]
        · rw [clamp_lo (a := sg true (rdiv x y)) (by simp [sg]; omega), clamp_lo (by simp [sg])]
      have e2 : clampB (sg b (1 * 18446744073709551616 + 0)) = true := by cases b <;> decide
      rw [e1]
      rw [e2] at this
      exact this
    have e3 : clampB (sg (!(decide (clampI a < 0) == decide (clampI b < 0))) (rdiv x y)) = true := by
      cases (!(decide (clampI a < 0) == decide (clampI b < 0)))
      · rw [clampB, clamp_hi (by simp [sg]; omega), bne_iff_ne]; simp [sg]; omega
      · rw [clampB, clamp_lo (by simp [sg]; omega), bne_iff_ne]; simp [sg]; omega
    rw [e3]
    have SC := Lib.hid sc
    clear sc e3 big
    go_enter Try.func21, Try.ntmps21
    go_wp2_with (first | (go_at_call 37; refine (both_calls _ _ _).mono ?_; rintro e w' ⟨rfl, rfl⟩) | (go_at_call 39; refine (size_calls _ (by omega) (by omega) _).mono ?_; rintro e w' ⟨rfl, rfl⟩) | (go_at_call 40; refine (SC.out _ _).mono ?_; rintro e w' ⟨rfl, hx⟩))
    go_ret2
    exact ⟨by simp, hx⟩
  · -- within a word
    obtain ⟨H, hH⟩ : ∃ H, H = x / 1099511627776 := ⟨_, rfl⟩
    obtain ⟨L, hL⟩ : ∃ L, L = x * 16777216 % 18446744073709551616 := ⟨_, rfl⟩
    have hNe : H * 18446744073709551616 + L = x * 16777216 := by omega
    have dc : ∀ w, Calls Try.prog 41 #[.int .u64 H, .int .u64 L, .int .u64 y] w fun e w' => e = .returned (.tuple #[.int .u64 (x * 16777216 / y), .int .u64 (x * 16777216 % y)]) ∧ Ext w w' := by
      intro w
      have := div64_any H L y (by omega) (by omega) (by omega) (by omega) (by omega) w
      rw [hNe] at this
      exact this
    have ql := quot_lt x0 (by omega) y0 (by omega)
    have q0 : 0 ≤ x * 16777216 / y := Int.ediv_nonneg (by omega) (by omega)
    have r0 : 0 ≤ x * 16777216 % y := Int.emod_nonneg _ (by omega)
    have r1 : x * 16777216 % y < y := Int.emod_lt_of_pos _ y0
    have up : (y < 2 * (x * 16777216 % y) ∨ (y = 2 * (x * 16777216 % y) ∧ x * 16777216 / y % 2 = 1)) → rdiv x y = x * 16777216 / y + 1 := rdiv_up
    have dn : ¬ (y < 2 * (x * 16777216 % y) ∨ (y = 2 * (x * 16777216 % y) ∧ x * 16777216 / y % 2 = 1)) → rdiv x y = x * 16777216 / y := rdiv_dn
    obtain ⟨q, hq⟩ : ∃ q, q = x * 16777216 / y := ⟨_, rfl⟩
    obtain ⟨r, hr⟩ : ∃ r, r = x * 16777216 % y := ⟨_, rfl⟩
    obtain ⟨D, hD⟩ : ∃ D, D = rdiv x y := ⟨_, rfl⟩
    rw [← hq, ← hr] at dc
    rw [← hq, ← hr, ← hD] at up dn
    rw [← hq] at ql q0
    rw [← hr] at r0 r1
    rw [← hD]
    have sc : ∀ l b w, 0 ≤ l → l = D → Calls Try.prog 40 #[.int .u64 0, .int .u64 l, .bool b] w fun e w' => e = .returned (.tuple #[.int .i64 (clampI (sg b D)), .bool (clampB (sg b D))]) ∧ Ext w w' := by
      intro l b w l0 e
      subst e
      have := signed_calls 0 l b (by omega) l0 w
      rw [show 0 * 18446744073709551616 + l = l from by omega] at this
      exact this
    obtain ⟨o, ho⟩ : ∃ o, o = q % 2 := ⟨_, rfl⟩
    have eo : bits .and .u64 q 1 = o := by rw [oneI _ q0 (by omega)]; exact ho.symm
    rw [← ho] at up dn
    have eH : x / 1099511627776 = H := hH.symm
    have eL : IntKind.u64.wrap (x * 16777216) = L := by rw [IntKind.wrap_u64]; exact hL.symm
    have H0 : 0 ≤ H := by omega
    have H1 : H < y := by omega
    have o1 : o = 0 ∨ o = 1 := by omega
    have SC := Lib.hid sc; have DC := Lib.hid dc; have UP := Lib.hid up; have DN := Lib.hid dn
    clear sc dc up dn hD hq hr ho hH hL hNe hh
    by_cases c1 : y - r < r
    · have hD := Lib.hid (UP.out (.inl (by omega)))
      go_enter Try.func21, Try.ntmps21
      go_wp2_with (first | (go_at_call 37; refine (both_calls _ _ _).mono ?_; rintro e w' ⟨rfl, rfl⟩) | (go_at_call 39; refine (size_calls _ (by omega) (by omega) _).mono ?_; rintro e w' ⟨rfl, rfl⟩) | (go_at_call 41; refine (DC.out _).mono ?_; rintro e w1 ⟨rfl, hx1⟩) | (go_at_call 40; refine (SC.out _ _ _ (by omega) (by have := hD.out; omega)).mono ?_; rintro e w' ⟨rfl, hx⟩))
      all_goals
        go_ret2
        exact ⟨by (try clear c3); first | (simp [*]; done) | (exfalso; simp_all; done), hx1.trans hx⟩
    · by_cases c2 : r = y - r
      · have c3 : (r == y - r) = true := by rw [beq_iff_eq]; exact c2
        rcases o1 with o1 | o1
        · have hD := Lib.hid (DN.out (by omega))
          have c4 : (o == 1) = false := by rw [o1]; rfl
          clear o1 c2
          go_enter Try.func21, Try.ntmps21
          go_wp2_with (first | (go_at_call 37; refine (both_calls _ _ _).mono ?_; rintro e w' ⟨rfl, rfl⟩) | (go_at_call 39; refine (size_calls _ (by omega) (by omega) _).mono ?_; rintro e w' ⟨rfl, rfl⟩) | (go_at_call 41; refine (DC.out _).mono ?_; rintro e w1 ⟨rfl, hx1⟩) | (go_at_call 40; refine (SC.out _ _ _ (by omega) (by have := hD.out; omega)).mono ?_; rintro e w' ⟨rfl, hx⟩))
          all_goals
            go_ret2
            exact ⟨by (try clear c3); first | (simp [*]; done) | (exfalso; simp_all; done), hx1.trans hx⟩
        · have hD := Lib.hid (UP.out (.inr (by omega)))
          have c4 : (o == 1) = true := by rw [o1]; rfl
          clear o1 c2
          go_enter Try.func21, Try.ntmps21
          go_wp2_with (first | (go_at_call 37; refine (both_calls _ _ _).mono ?_; rintro e w' ⟨rfl, rfl⟩) | (go_at_call 39; refine (size_calls _ (by omega) (by omega) _).mono ?_; rintro e w' ⟨rfl, rfl⟩) | (go_at_call 41; refine (DC.out _).mono ?_; rintro e w1 ⟨rfl, hx1⟩) | (go_at_call 40; refine (SC.out _ _ _ (by omega) (by have := hD.out; omega)).mono ?_; rintro e w' ⟨rfl, hx⟩))
          all_goals
            go_ret2
            exact ⟨by (try clear c3); first | (simp [*]; done) | (exfalso; simp_all; done), hx1.trans hx⟩
      · have hD := Lib.hid (DN.out (by omega))
        have c3 : (r == y - r) = false := by rw [beq_eq_false_iff_ne]; exact c2
        clear c2 o1
        go_enter Try.func21, Try.ntmps21
        go_wp2_with (first | (go_at_call 37; refine (both_calls _ _ _).mono ?_; rintro e w' ⟨rfl, rfl⟩) | (go_at_call 39; refine (size_calls _ (by omega) (by omega) _).mono ?_; rintro e w' ⟨rfl, rfl⟩) | (go_at_call 41; refine (DC.out _).mono ?_; rintro e w1 ⟨rfl, hx1⟩) | (go_at_call 40; refine (SC.out _ _ _ (by omega) (by have := hD.out; omega)).mono ?_; rintro e w' ⟨rfl, hx⟩))
        all_goals
          go_ret2
          exact ⟨by (try clear c3); first | (simp [*]; done) | (exfalso; simp_all; done), hx1.trans hx⟩

theorem div_calls (a b : Int) (w : World) :
    Calls Try.prog 21 #[.int .i64 a, .int .i64 b] w fun e w' => e = .returned (.tuple #[.int .i64 (divI a b), .bool (divB a b)]) ∧ Ext w w' := by
  by_cases h : clampI b = 0
  · exact div_calls0 a b h w
  · exact div_calls1 a b h w
end Go.Proofs.Ytdjgafcniifmlaa
