/- The walks of the statements of layer 1. -/
import Derived.Test.YtdjgafcniifmlaaQ3
set_option linter.unusedVariables false
namespace Go.Proofs.Ytdjgafcniifmlaa
open Go.RowKit

theorem addI_comm (a b : Int) : addI b a = addI a b := by unfold addI; rw [Int.add_comm]
theorem addB_comm (a b : Int) : addB b a = addB a b := by unfold addB; rw [Int.add_comm, Bool.or_comm (clampB b)]
theorem mulI_comm (a b : Int) : mulI b a = mulI a b := by unfold mulI; rw [Int.mul_comm]
theorem mulB_comm (a b : Int) : mulB b a = mulB a b := by unfold mulB; rw [Int.mul_comm, Bool.or_comm (clampB b)]
theorem clampB_in {a : Int} (h : -70368744177664 ≤ a) (h' : a ≤ 70368744177663) : clampB a = false := by unfold clampB; rw [clamp_in h h']; simp
theorem rne_mul (a : Int) : rne (a * 16777216) = a := by unfold rne; omega
theorem mulI_one {a : Int} (h : -70368744177664 ≤ a) (h' : a ≤ 70368744177663) : mulI a 16777216 = a := by
  unfold mulI; rw [clamp_in h h', show clampI 16777216 = 16777216 from rfl, rne_mul, clamp_in h h']
theorem mulB_one {a : Int} (h : -70368744177664 ≤ a) (h' : a ≤ 70368744177663) : mulB a 16777216 = false := by
  unfold mulB; rw [clamp_in h h', show clampI 16777216 = 16777216 from rfl, rne_mul, clampB_in h h']; rfl
theorem rdiv_one (x : Int) : rdiv x 16777216 = x := by unfold rdiv; omega
theorem div_one_sg (a : Int) : sg (!(decide (a < 0) == decide ((16777216 : Int) < 0))) (rdiv (a.natAbs : Int) ((16777216 : Int).natAbs : Int)) = a := by
  rw [show (((16777216 : Int).natAbs : Nat) : Int) = 16777216 from rfl, rdiv_one]
  by_cases h : a < 0 <;> simp [h, sg] <;> omega
theorem divI_one {a : Int} (h : -70368744177664 ≤ a) (h' : a ≤ 70368744177663) : divI a 16777216 = a := by
  unfold divI; rw [show clampI 16777216 = 16777216 from rfl, if_neg (by omega), clamp_in h h', div_one_sg, clamp_in h h']
theorem divB_one {a : Int} (h : -70368744177664 ≤ a) (h' : a ≤ 70368744177663) : divB a 16777216 = false := by
  unfold divB; rw [show clampI 16777216 = 16777216 from rfl, if_neg (by omega), clamp_in h h', div_one_sg, clampB_in h h']; rfl
theorem subI_self (a : Int) : subI a a = 0 := by unfold subI; rw [Int.sub_self]; rfl
theorem subB_self {a : Int} (h : -70368744177664 ≤ a) (h' : a ≤ 70368744177663) : subB a a = false := by unfold subB; rw [clampB_in h h', Int.sub_self]; rfl

set_option maxHeartbeats 1000000 in
theorem orders_calls (a b : Int) (w : World) :
    Calls Try.prog 8 #[.int .i64 a, .int .i64 b] w fun e w' => e = .returned (.bool true) ∧ Ext w w' := by
  have e1 := addI_comm a b
  have e2 := addB_comm a b
  have e3 := mulI_comm a b
  have e4 := mulB_comm a b
  have hx := Ext.refl w
  by_cases h : -70368744177664 ≤ a ∧ a ≤ 70368744177663
  · have f1 := mulI_one h.1 h.2
    have f2 := mulB_one h.1 h.2
    have f3 := divI_one h.1 h.2
    have f4 := divB_one h.1 h.2
    have f5 := subI_self a
    have f6 := subB_self h.1 h.2
    go_enter Try.func8, Try.ntmps8
    go_wp2_with (first | (go_at_call 19; refine (shown1_calls _).mono ?_; rintro e w1 ⟨rfl, hx1⟩; replace hx := hx.trans hx1; clear hx1) | (go_at_call 20; refine (mul_calls _ _ _).mono ?_; rintro e w1 ⟨rfl, hx1⟩; replace hx := hx.trans hx1; clear hx1) | (go_at_call 21; refine (div_calls _ _ _).mono ?_; rintro e w2 ⟨rfl, hx1⟩; replace hx := hx.trans hx1; clear hx1) | (go_at_call 23; refine (add_calls _ _ _).mono ?_; rintro e w2 ⟨rfl, rfl⟩) | (go_at_call 24; refine (sub_calls _ _ _).mono ?_; rintro e w2 ⟨rfl, rfl⟩) | (go_at_call 22; refine (In_calls _ _).mono ?_; rintro e w2 ⟨rfl, rfl⟩) | (go_at_call 25; refine (sqrt_calls _ _).mono ?_; rintro e w2 ⟨rfl, rfl⟩) | (go_at_call 26; refine (Of_calls _ _).mono ?_; rintro e w2 ⟨rfl, rfl⟩))
    go_ret
    exact ⟨rfl, hx⟩
  · go_enter Try.func8, Try.ntmps8
    go_wp2_with (first | (go_at_call 19; refine (shown1_calls _).mono ?_; rintro e w1 ⟨rfl, hx1⟩; replace hx := hx.trans hx1; clear hx1) | (go_at_call 20; refine (mul_calls _ _ _).mono ?_; rintro e w1 ⟨rfl, hx1⟩; replace hx := hx.trans hx1; clear hx1) | (go_at_call 21; refine (div_calls _ _ _).mono ?_; rintro e w2 ⟨rfl, hx1⟩; replace hx := hx.trans hx1; clear hx1) | (go_at_call 23; refine (add_calls _ _ _).mono ?_; rintro e w2 ⟨rfl, rfl⟩) | (go_at_call 24; refine (sub_calls _ _ _).mono ?_; rintro e w2 ⟨rfl, rfl⟩) | (go_at_call 22; refine (In_calls _ _).mono ?_; rintro e w2 ⟨rfl, rfl⟩) | (go_at_call 25; refine (sqrt_calls _ _).mono ?_; rintro e w2 ⟨rfl, rfl⟩) | (go_at_call 26; refine (Of_calls _ _).mono ?_; rintro e w2 ⟨rfl, rfl⟩))
    go_ret
    exact ⟨rfl, hx⟩

/-- Signs. -/
theorem clampI_neg {n : Int} (h : clampB n = false) (h' : clampB (-n) = false) : clampI (-n) = -clampI n := by
  unfold clampB at h h'
  rw [bne_eq_false_iff_eq] at h h'
  rw [h, h']

theorem mul_sign {a b : Int} (h0 : -70368744177664 < a) (h1 : a ≤ 70368744177663) (hx : mulB a b = false) (hy : mulB (-a) b = false) : mulI (-a) b = -mulI a b := by
  unfold mulB at hx hy
  unfold mulI
  rw [clamp_in (a := -a) (by omega) (by omega), Int.neg_mul, rne_neg] at hy ⊢
  rw [clamp_in (a := a) (by omega) (by omega)] at hx ⊢
  simp only [Bool.or_eq_false_iff] at hx hy
  exact clampI_neg hx.2 hy.2

theorem add_sign {a b : Int} (h0 : -70368744177664 < a) (h1 : a ≤ 70368744177663) (g0 : -70368744177664 < b) (g1 : b ≤ 70368744177663) (hx : addB a b = false) (hy : addB (-a) (-b) = false) : addI (-a) (-b) = -addI a b := by
  unfold addB at hx hy
  unfold addI
  rw [clamp_in (a := -a) (by omega) (by omega), clamp_in (a := -b) (by omega) (by omega), show -a + -b = -(a + b) from by omega] at hy ⊢
  rw [clamp_in (a := a) (by omega) (by omega), clamp_in (a := b) (by omega) (by omega)] at hx ⊢
  simp only [Bool.or_eq_false_iff] at hx hy
  exact clampI_neg hx.2 hy.2

theorem sg_not (b : Bool) (n : Int) : sg (!b) n = -sg b n := by cases b <;> simp [sg]

theorem div_sign {a b : Int} (h0 : -70368744177664 < a) (h1 : a ≤ 70368744177663) (hx : divB a b = false) (hy : divB (-a) b = false) : divI (-a) b = -divI a b := by
  unfold divB at hx hy
  unfold divI
  by_cases hb : clampI b = 0
  · rw [if_pos hb] at hx; cases hx
  · rw [if_neg hb] at hx hy ⊢
    rw [if_neg hb]
    rw [clamp_in (a := -a) (by omega) (by omega), Int.natAbs_neg] at hy ⊢
    rw [clamp_in (a := a) (by omega) (by omega)] at hx ⊢
    simp only [Bool.or_eq_false_iff] at hx hy
    by_cases ha : a = 0
    · subst ha
      have hz : ∀ y : Int, 0 < y → rdiv 0 y = 0 := by
        intro y hy
        unfold rdiv
        rw [if_neg] <;> simp
        omega
      have hp : (0 : Int) < ((clampI b).natAbs : Int) := by omega
      have e1 : rdiv ((0 : Int).natAbs : Int) ((clampI b).natAbs : Int) = 0 := hz _ hp
      rw [e1]
      cases (!(decide ((0:Int) < 0) == decide (clampI b < 0))) <;> cases (!(decide (-(0:Int) < 0) == decide (clampI b < 0))) <;> decide
    · have e : (decide (-a < 0) == decide (clampI b < 0)) = !(decide (a < 0) == decide (clampI b < 0)) := by
        by_cases h : a < 0 <;> by_cases k : clampI b < 0 <;> simp [h, k] <;> omega
      rw [e, sg_not] at hy ⊢
      exact clampI_neg hx.2 hy.2

theorem divI_bd (a b : Int) : -70368744177664 ≤ divI a b ∧ divI a b ≤ 70368744177663 := by
  unfold divI
  split
  · split
    · omega
    · split <;> omega
  · exact clamp_bd _

set_option maxHeartbeats 4000000 in
theorem signs_calls (a b : Int) (ha0 : -9223372036854775808 ≤ a) (ha1 : a ≤ 9223372036854775807) (w : World) :
    Calls Try.prog 7 #[.int .i64 a, .int .i64 b] w fun e w' => e = .returned (.bool true) ∧ Ext w w' := by
  have hx := Ext.refl w
  by_cases h : (-70368744177664 < a ∧ a ≤ 70368744177663) ∧ (-70368744177664 < b ∧ b ≤ 70368744177663)
  · obtain ⟨⟨a1, a2⟩, ⟨b1, b2⟩⟩ := h
    have n1 : (a == -70368744177664) = false := by rw [beq_eq_false_iff_ne]; omega
    have n2 : (b == -70368744177664) = false := by rw [beq_eq_false_iff_ne]; omega
    have g1 : mulB a b = true ∨ (mulB a b = false ∧ mulB (-a) b = true) ∨ (mulB a b = false ∧ mulB (-a) b = false ∧ mulI (-a) b = -mulI a b) := by
      cases h : mulB a b <;> cases h' : mulB (-a) b <;> simp
      exact mul_sign a1 a2 h h'
    have g2 : divB a b = true ∨ (divB a b = false ∧ divB (-a) b = true) ∨ (divB a b = false ∧ divB (-a) b = false ∧ divI (-a) b = -divI a b) := by
      cases h : divB a b <;> cases h' : divB (-a) b <;> simp
      exact div_sign a1 a2 h h'
    have g3 : addB a b = true ∨ (addB a b = false ∧ addB (-a) (-b) = true) ∨ (addB a b = false ∧ addB (-a) (-b) = false ∧ addI (-a) (-b) = -addI a b) := by
      cases h : addB a b <;> cases h' : addB (-a) (-b) <;> simp
      exact add_sign a1 a2 b1 b2 h h'
    have bm := clamp_bd (rne (clampI a * clampI b))
    have bd := divI_bd a b
    have bs := clamp_bd (clampI a + clampI b)
    rw [show clampI (rne (clampI a * clampI b)) = mulI a b from rfl] at bm
    rw [show clampI (clampI a + clampI b) = addI a b from rfl] at bs
    rcases g1 with g1 | ⟨g1, g1'⟩ | ⟨g1, g1', g1''⟩ <;> rcases g2 with g2 | ⟨g2, g2'⟩ | ⟨g2, g2', g2''⟩ <;> rcases g3 with g3 | ⟨g3, g3'⟩ | ⟨g3, g3', g3''⟩
    all_goals
      go_enter Try.func7, Try.ntmps7
      go_wp2_with (first | (go_at_call 19; refine (shown1_calls _).mono ?_; rintro e w1 ⟨rfl, hx1⟩; replace hx := hx.trans hx1; clear hx1) | (go_at_call 20; refine (mul_calls _ _ _).mono ?_; rintro e w1 ⟨rfl, hx1⟩; replace hx := hx.trans hx1; clear hx1) | (go_at_call 21; refine (div_calls _ _ _).mono ?_; rintro e w2 ⟨rfl, hx1⟩; replace hx := hx.trans hx1; clear hx1) | (go_at_call 23; refine (add_calls _ _ _).mono ?_; rintro e w2 ⟨rfl, rfl⟩) | (go_at_call 24; refine (sub_calls _ _ _).mono ?_; rintro e w2 ⟨rfl, rfl⟩) | (go_at_call 22; refine (In_calls _ _).mono ?_; rintro e w2 ⟨rfl, rfl⟩) | (go_at_call 25; refine (sqrt_calls _ _).mono ?_; rintro e w2 ⟨rfl, rfl⟩) | (go_at_call 26; refine (Of_calls _ _).mono ?_; rintro e w2 ⟨rfl, rfl⟩))
      all_goals
        go_ret
        exact ⟨rfl, hx⟩
  · by_cases k1 : (-70368744177664 ≤ a ∧ a ≤ 70368744177663)
    · by_cases k2 : (-70368744177664 ≤ b ∧ b ≤ 70368744177663)
      · by_cases k3 : a = -70368744177664
        · subst k3
          go_enter Try.func7, Try.ntmps7
          go_wp2_with (first | (go_at_call 19; refine (shown1_calls _).mono ?_; rintro e w1 ⟨rfl, hx1⟩; replace hx := hx.trans hx1; clear hx1) | (go_at_call 20; refine (mul_calls _ _ _).mono ?_; rintro e w1 ⟨rfl, hx1⟩; replace hx := hx.trans hx1; clear hx1) | (go_at_call 21; refine (div_calls _ _ _).mono ?_; rintro e w2 ⟨rfl, hx1⟩; replace hx := hx.trans hx1; clear hx1) | (go_at_call 23; refine (add_calls _ _ _).mono ?_; rintro e w2 ⟨rfl, rfl⟩) | (go_at_call 24; refine (sub_calls _ _ _).mono ?_; rintro e w2 ⟨rfl, rfl⟩) | (go_at_call 22; refine (In_calls _ _).mono ?_; rintro e w2 ⟨rfl, rfl⟩) | (go_at_call 25; refine (sqrt_calls _ _).mono ?_; rintro e w2 ⟨rfl, rfl⟩) | (go_at_call 26; refine (Of_calls _ _).mono ?_; rintro e w2 ⟨rfl, rfl⟩))
          all_goals
            go_ret
            exact ⟨rfl, hx⟩
        · obtain rfl : b = -70368744177664 := by omega
          have n1 : (a == -70368744177664) = false := by rw [beq_eq_false_iff_ne]; omega
          clear k3 h
          go_enter Try.func7, Try.ntmps7
          go_wp2_with (first | (go_at_call 19; refine (shown1_calls _).mono ?_; rintro e w1 ⟨rfl, hx1⟩; replace hx := hx.trans hx1; clear hx1) | (go_at_call 20; refine (mul_calls _ _ _).mono ?_; rintro e w1 ⟨rfl, hx1⟩; replace hx := hx.trans hx1; clear hx1) | (go_at_call 21; refine (div_calls _ _ _).mono ?_; rintro e w2 ⟨rfl, hx1⟩; replace hx := hx.trans hx1; clear hx1) | (go_at_call 23; refine (add_calls _ _ _).mono ?_; rintro e w2 ⟨rfl, rfl⟩) | (go_at_call 24; refine (sub_calls _ _ _).mono ?_; rintro e w2 ⟨rfl, rfl⟩) | (go_at_call 22; refine (In_calls _ _).mono ?_; rintro e w2 ⟨rfl, rfl⟩) | (go_at_call 25; refine (sqrt_calls _ _).mono ?_; rintro e w2 ⟨rfl, rfl⟩) | (go_at_call 26; refine (Of_calls _ _).mono ?_; rintro e w2 ⟨rfl, rfl⟩))
          all_goals
            go_ret
            exact ⟨rfl, hx⟩
      · clear h
        go_enter Try.func7, Try.ntmps7
        go_wp2_with (first | (go_at_call 19; refine (shown1_calls _).mono ?_; rintro e w1 ⟨rfl, hx1⟩; replace hx := hx.trans hx1; clear hx1) | (go_at_call 20; refine (mul_calls _ _ _).mono ?_; rintro e w1 ⟨rfl, hx1⟩; replace hx := hx.trans hx1; clear hx1) | (go_at_call 21; refine (div_calls _ _ _).mono ?_; rintro e w2 ⟨rfl, hx1⟩; replace hx := hx.trans hx1; clear hx1) | (go_at_call 23; refine (add_calls _ _ _).mono ?_; rintro e w2 ⟨rfl, rfl⟩) | (go_at_call 24; refine (sub_calls _ _ _).mono ?_; rintro e w2 ⟨rfl, rfl⟩) | (go_at_call 22; refine (In_calls _ _).mono ?_; rintro e w2 ⟨rfl, rfl⟩) | (go_at_call 25; refine (sqrt_calls _ _).mono ?_; rintro e w2 ⟨rfl, rfl⟩) | (go_at_call 26; refine (Of_calls _ _).mono ?_; rintro e w2 ⟨rfl, rfl⟩))
        all_goals
          go_ret
          exact ⟨rfl, hx⟩
    · clear h
      go_enter Try.func7, Try.ntmps7
      go_wp2_with (first | (go_at_call 19; refine (shown1_calls _).mono ?_; rintro e w1 ⟨rfl, hx1⟩; replace hx := hx.trans hx1; clear hx1) | (go_at_call 20; refine (mul_calls _ _ _).mono ?_; rintro e w1 ⟨rfl, hx1⟩; replace hx := hx.trans hx1; clear hx1) | (go_at_call 21; refine (div_calls _ _ _).mono ?_; rintro e w2 ⟨rfl, hx1⟩; replace hx := hx.trans hx1; clear hx1) | (go_at_call 23; refine (add_calls _ _ _).mono ?_; rintro e w2 ⟨rfl, rfl⟩) | (go_at_call 24; refine (sub_calls _ _ _).mono ?_; rintro e w2 ⟨rfl, rfl⟩) | (go_at_call 22; refine (In_calls _ _).mono ?_; rintro e w2 ⟨rfl, rfl⟩) | (go_at_call 25; refine (sqrt_calls _ _).mono ?_; rintro e w2 ⟨rfl, rfl⟩) | (go_at_call 26; refine (Of_calls _ _).mono ?_; rintro e w2 ⟨rfl, rfl⟩))
      all_goals
        go_ret
        exact ⟨rfl, hx⟩
end Go.Proofs.Ytdjgafcniifmlaa
