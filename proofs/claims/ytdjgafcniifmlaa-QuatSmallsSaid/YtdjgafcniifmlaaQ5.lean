/- The walks of the statements of layer 1: QfixBounds, QfixNear, QfixRoots. -/
import Derived.Test.YtdjgafcniifmlaaQ4
set_option linter.unusedVariables false
namespace Go.Proofs.Ytdjgafcniifmlaa
open Go.RowKit

theorem isq_spec (A : Nat) : ∀ j r : Nat, r * r ≤ A → A < (r + 2 ^ j) * (r + 2 ^ j) → isq A j r * isq A j r ≤ A ∧ A < (isq A j r + 1) * (isq A j r + 1) ∧ r ≤ isq A j r ∧ isq A j r < r + 2 ^ j
  | 0, r, h, h' => ⟨h, h', Nat.le_refl _, by simp [isq]⟩
  | j + 1, r, h, h' => by
    have e : r + 2 ^ (j + 1) = r + 2 ^ j + 2 ^ j := by rw [Nat.pow_succ]; omega
    have p := Nat.two_pow_pos j
    rw [e] at h' ⊢
    rw [isq]
    by_cases c : (r + 2 ^ j) * (r + 2 ^ j) ≤ A
    · rw [if_pos c]
      obtain ⟨a, b, d, f⟩ := isq_spec A j (r + 2 ^ j) c h'
      exact ⟨a, b, by omega, f⟩
    · rw [if_neg c]
      obtain ⟨a, b, d, f⟩ := isq_spec A j r h (by omega)
      exact ⟨a, b, d, by omega⟩

/-- The root of a number in bounds. -/
theorem sqrt_spec {a : Int} (h : 0 ≤ a) (h' : a ≤ 70368744177663) : sqrtI a * sqrtI a ≤ a * 16777216 ∧ a * 16777216 < (sqrtI a + 1) * (sqrtI a + 1) ∧ 0 ≤ sqrtI a ∧ sqrtI a < 68719476736 := by
  unfold sqrtI
  rw [clamp_in (by omega) h', if_neg (by omega)]
  obtain ⟨A, hA⟩ : ∃ A, A = (a * 16777216).toNat := ⟨_, rfl⟩
  have hA' : a * 16777216 = (A : Int) := by omega
  rw [← hA, hA']
  obtain ⟨x, y, z, u⟩ := isq_spec A 36 0 (by omega) (by simp only [Nat.zero_add]; rw [show 2 ^ 36 * 2 ^ 36 = 4722366482869645213696 from rfl]; omega)
  have u' : isq A 36 0 < 68719476736 := by omega
  generalize isq A 36 0 = s at *
  refine ⟨?_, ?_, by omega, by omega⟩
  · exact_mod_cast x
  · exact_mod_cast y

theorem sqrtI_bd (a : Int) : 0 ≤ sqrtI a ∧ sqrtI a ≤ 70368744177663 := by
  by_cases h : clampI a < 0
  · rw [show sqrtI a = 0 from if_pos h]; omega
  · have e : sqrtI a = sqrtI (clampI a) := by
      unfold sqrtI
      rw [clamp_in (a := clampI a) (clamp_bd a).1 (clamp_bd a).2]
    have := sqrt_spec (a := clampI a) (by omega) (clamp_bd a).2
    rw [e]
    omega
theorem ofI_bd (a : Int) : -70368744177664 ≤ ofI a ∧ ofI a ≤ 70368744177663 := by unfold ofI; omega

theorem six (x0 x1 x2 x3 x4 x5 : Int) (h0 : -70368744177664 ≤ x0 ∧ x0 ≤ 70368744177663) (h1 : -70368744177664 ≤ x1 ∧ x1 ≤ 70368744177663) (h2 : -70368744177664 ≤ x2 ∧ x2 ≤ 70368744177663) (h3 : -70368744177664 ≤ x3 ∧ x3 ≤ 70368744177663) (h4 : -70368744177664 ≤ x4 ∧ x4 ≤ 70368744177663) (h5 : -70368744177664 ≤ x5 ∧ x5 ≤ 70368744177663) (k : Nat) (hk : k < 6) :
    ∃ x : Int, (#[.int .i64 x0, .int .i64 x1, .int .i64 x2, .int .i64 x3, .int .i64 x4, .int .i64 x5] : Array Value)[k]? = some (.int .i64 x) ∧ -70368744177664 ≤ x ∧ x ≤ 70368744177663 := by
  match k, hk with
  | 0, _ => exact ⟨x0, rfl, h0⟩
  | 1, _ => exact ⟨x1, rfl, h1⟩
  | 2, _ => exact ⟨x2, rfl, h2⟩
  | 3, _ => exact ⟨x3, rfl, h3⟩
  | 4, _ => exact ⟨x4, rfl, h4⟩
  | 5, _ => exact ⟨x5, rfl, h5⟩
  | k + 6, hk => omega

theorem bounds_calls (a b n : Int) (w : World) :
    Calls Try.prog 10 #[.int .i64 a, .int .i64 b, .int .i64 n] w fun e w' => e = .returned (.bool true) ∧ Ext w w' := by
  go_enter Try.func10, Try.ntmps10
  go_wp2_with (first | (go_at_call 19; refine (shown1_calls _).mono ?_; rintro e w1 ⟨rfl, hx⟩) | (go_at_call 23; refine (add_calls _ _ _).mono ?_; rintro e w2 ⟨rfl, rfl⟩) | (go_at_call 24; refine (sub_calls _ _ _).mono ?_; rintro e w2 ⟨rfl, rfl⟩) | (go_at_call 20; fail))
  refine (mul_calls _ _ _).mono ?_
  rintro e w2 ⟨rfl, hx2⟩
  have r2 := (Row.new w1 _ _).ext hx2
  have y2 : Ext w w2 := (hx.alloc _ _).trans hx2
  have S1 := hx.size
  obtain ⟨B, rfl⟩ : ∃ B, B = w1.heap.size := ⟨_, rfl⟩
  clear hx2 hx
  have k2 := r2.cell
  have z2 := r2.frozen
  have R2 := Lib.hid r2
  clear r2
  go_wp2_with (first | (go_at_call 21; fail))
  refine (div_calls _ _ _).mono ?_
  rintro e w3 ⟨rfl, hx3⟩
  have r3 := (R2.out.set 2 _).ext hx3
  have y3 : Ext w w3 := (y2.setCell (p := ⟨w1.heap.size, 2, none⟩) S1 _).trans hx3
  clear hx3 y2 k2 z2 R2
  have k3 := r3.cell
  have z3 := r3.frozen
  have R3 := Lib.hid r3
  clear r3
  go_wp2_with (first | (go_at_call 25; refine (sqrt_calls _ _).mono ?_; rintro e w2 ⟨rfl, rfl⟩) | (go_at_call 26; refine (Of_calls _ _).mono ?_; rintro e w2 ⟨rfl, rfl⟩))
  go_loopw [9] (fun iv wr => ∃ k : Nat, k ≤ 6 ∧ iv = .int .i64 k ∧ Hid (Row wr w1.heap.size #[.int .i64 (addI a b), .int .i64 (subI a b), .int .i64 (mulI a b), .int .i64 (divI a b), .int .i64 (sqrtI a), .int .i64 (ofI n)] 48) ∧ Hid (Ext w wr)) (fun iv _ => 6 - (intOf iv).toNat)
  case atStart => exact ⟨0, by omega, rfl, ((R3.out.set 3 _).set 4 _).set 5 _, ((y3.setCell (p := ⟨w1.heap.size, 3, none⟩) S1 _).setCell (p := ⟨w1.heap.size, 4, none⟩) S1 _).setCell (p := ⟨w1.heap.size, 5, none⟩) S1 _⟩
  case round =>
    obtain ⟨k, hk, rfl, hr, hx⟩ := hrel
    clear k3 z3 y3
    by_cases hlt : k < 6
    · obtain ⟨x, hc, hb⟩ := six (addI a b) (subI a b) (mulI a b) (divI a b) (sqrtI a) (ofI n) (clamp_bd _) (clamp_bd _) (clamp_bd _) (divI_bd a b) ⟨by have := (sqrtI_bd a).1; omega, (sqrtI_bd a).2⟩ (ofI_bd n) k hlt
      have hc' := (hr.out.cell k).trans hc
      clear hc R3
      go_wp2_with (first | (go_at_call 22; refine (In_calls _ _).mono ?_; rintro e w2 ⟨rfl, rfl⟩))
      go_roundw
      case rel => exact ⟨k + 1, by omega, by go_num, hr, hx⟩
      case measure => simp [intOf]; omega
    · go_wp2
      go_ret
      exact ⟨rfl, hx⟩
theorem roots_calls (a m : Int) (a0 : 0 ≤ a) (a1 : a ≤ 4294967295) (m0 : 0 ≤ m) (m1 : m ≤ 255) (w : World) :
    Calls Try.prog 9 #[.int .u32 a, .int .u8 m] w fun e w' => e = .returned (.bool true) ∧ Ext w w' := by
  have hx := Ext.refl w
  have b0 : 0 ≤ a * (m % 16 + 1) := Int.mul_nonneg a0 (by omega)
  have b1 : a * (m % 16 + 1) ≤ 4294967295 * 16 := Int.mul_le_mul a1 (by omega) (by omega) (by omega)
  obtain ⟨N, hN⟩ : ∃ N, N = a * (m % 16 + 1) := ⟨_, rfl⟩
  have wN : wrap64 (a * (m % 16 + 1)) = N := by rw [← hN] at b0 b1 ⊢; unfold wrap64; omega
  rw [← hN] at b0 b1
  obtain ⟨s1, s2, s3, s4⟩ := sqrt_spec (a := N) b0 (by omega)
  have sb : sqrtB N = false := by unfold sqrtB; rw [clamp_in (by omega) (by omega), if_neg (by omega), clampB_in (by omega) (by omega)]
  obtain ⟨S, hS⟩ : ∃ S, S = sqrtI N := ⟨_, rfl⟩
  rw [← hS] at s1 s2 s3 s4
  have sS : sqrtI N = S := hS.symm
  have s5 : S < 1099511627776 := by omega
  have s6 : S ≤ 1073741823 := by
    have k := mul_lt_cancel (a := S) (b := 1073741824) (c := 1073741824) (by omega) (by
      rcases Int.lt_or_le S 1073741824 with h | h
      · have := Int.mul_le_mul_of_nonneg_right (show S ≤ 1073741823 by omega) (show (0 : Int) ≤ 1073741824 by omega); omega
      · have := Int.mul_le_mul h h (by omega) (by omega); omega)
    omega
  obtain ⟨P, hP⟩ : ∃ P, P = S * S := ⟨_, rfl⟩
  obtain ⟨R, hR⟩ : ∃ R, R = (S + 1) * (S + 1) := ⟨_, rfl⟩
  have p0 : 0 ≤ P := by rw [hP]; exact Int.mul_nonneg s3 s3
  have r1 : R ≤ 1073741824 * 1073741824 := by rw [hR]; exact Int.mul_le_mul (by omega) (by omega) (by omega) (by omega)
  rw [← hP] at s1
  rw [← hR] at s2
  have wP : wrap64 (S * S) = P := by rw [← hP]; unfold wrap64; omega
  have wR : wrap64 ((S + 1) * (S + 1)) = R := by rw [← hR]; unfold wrap64; omega
  clear hN hS hP hR
  go_enter Try.func9, Try.ntmps9
  go_wp2_with (first | (go_at_call 19; refine (shown1_calls _).mono ?_; rintro e w1 ⟨rfl, hx1⟩; replace hx := hx.trans hx1; clear hx1) | (go_at_call 20; refine (mul_calls _ _ _).mono ?_; rintro e w1 ⟨rfl, hx1⟩; replace hx := hx.trans hx1; clear hx1) | (go_at_call 21; refine (div_calls _ _ _).mono ?_; rintro e w2 ⟨rfl, hx1⟩; replace hx := hx.trans hx1; clear hx1) | (go_at_call 23; refine (add_calls _ _ _).mono ?_; rintro e w2 ⟨rfl, rfl⟩) | (go_at_call 24; refine (sub_calls _ _ _).mono ?_; rintro e w2 ⟨rfl, rfl⟩) | (go_at_call 22; refine (In_calls _ _).mono ?_; rintro e w2 ⟨rfl, rfl⟩) | (go_at_call 25; refine (sqrt_calls _ _).mono ?_; rintro e w2 ⟨rfl, rfl⟩) | (go_at_call 26; refine (Of_calls _ _).mono ?_; rintro e w2 ⟨rfl, rfl⟩))
  go_ret
  exact ⟨by simp; try omega, hx⟩

theorem rdiv_near {x y : Int} (y0 : 0 < y) : 2 * (x * 16777216 - rdiv x y * y) ≤ y ∧ -y ≤ 2 * (x * 16777216 - rdiv x y * y) := by
  have e := Int.mul_ediv_add_emod (x * 16777216) y
  have c : x * 16777216 / y * y = y * (x * 16777216 / y) := Int.mul_comm _ _
  have m0 := Int.emod_nonneg (x * 16777216) (b := y) (by omega)
  have m1 := Int.emod_lt_of_pos (x * 16777216) y0
  unfold rdiv
  split
  · rw [Int.add_mul, Int.one_mul]; omega
  · omega

theorem near_div {a b : Int} (ha : -2147483648 ≤ a ∧ a ≤ 2147483647) (hb : -2147483648 ≤ b ∧ b ≤ 2147483647) (b0 : b ≠ 0) (hf : divB a b = false) :
    2 * (a * 16777216 - divI a b * b) ≤ (b.natAbs : Int) ∧ -(b.natAbs : Int) ≤ 2 * (a * 16777216 - divI a b * b) := by
  unfold divB at hf
  unfold divI
  rw [clamp_in (a := b) (by omega) (by omega), clamp_in (a := a) (by omega) (by omega), if_neg b0] at hf ⊢
  simp only [Bool.or_eq_false_iff] at hf
  have h3 := hf.2
  unfold clampB at h3
  rw [bne_eq_false_iff_eq] at h3
  rw [h3]
  obtain ⟨n1, n2⟩ := rdiv_near (x := (a.natAbs : Int)) (y := (b.natAbs : Int)) (by omega)
  obtain ⟨D, hD⟩ : ∃ D, D = rdiv (a.natAbs : Int) (b.natAbs : Int) := ⟨_, rfl⟩
  rw [← hD] at n1 n2 ⊢
  by_cases h : a < 0 <;> by_cases k : b < 0
  · have e1 : ((a.natAbs : Nat) : Int) = -a := by omega
    have e2 : ((b.natAbs : Nat) : Int) = -b := by omega
    rw [e1, e2, Int.mul_neg] at n1 n2
    rw [e2]
    simp [h, k, sg]
    omega
  · have e1 : ((a.natAbs : Nat) : Int) = -a := by omega
    have e2 : ((b.natAbs : Nat) : Int) = b := by omega
    rw [e1, e2] at n1 n2
    rw [e2]
    simp [h, k, sg, Int.neg_mul]
    omega
  · have e1 : ((a.natAbs : Nat) : Int) = a := by omega
    have e2 : ((b.natAbs : Nat) : Int) = -b := by omega
    rw [e1, e2, Int.mul_neg] at n1 n2
    rw [e2]
    simp [h, k, sg, Int.neg_mul]
    omega
  · have e1 : ((a.natAbs : Nat) : Int) = a := by omega
    have e2 : ((b.natAbs : Nat) : Int) = b := by omega
    rw [e1, e2] at n1 n2
    rw [e2]
    simp [h, k, sg]
    omega

theorem mul_bd32 {a b : Int} (ha : -2147483648 ≤ a ∧ a ≤ 2147483647) (hb : -2147483648 ≤ b ∧ b ≤ 2147483647) : -4611686018427387904 ≤ a * b ∧ a * b ≤ 4611686018427387904 := by
  have e := Int.natAbs_mul a b
  have : a.natAbs * b.natAbs ≤ 2147483648 * 2147483648 := Nat.mul_le_mul (by omega) (by omega)
  omega

set_option maxHeartbeats 1000000 in
theorem near_calls (a b : Int) (a0 : -2147483648 ≤ a) (a1 : a ≤ 2147483647) (b0 : -2147483648 ≤ b) (b1 : b ≤ 2147483647) (w : World) :
    Calls Try.prog 6 #[.int .i32 a, .int .i32 b] w fun e w' => e = .returned (.bool true) ∧ Ext w w' := by
  have hx := Ext.refl w
  have mb := mul_bd32 (a := a) (b := b) ⟨a0, a1⟩ ⟨b0, b1⟩
  have mI : mulI a b = rne (a * b) := by
    unfold mulI
    rw [clamp_in (a := a) (by omega) (by omega), clamp_in (a := b) (by omega) (by omega)]
    exact clamp_in (by unfold rne; omega) (by unfold rne; omega)
  have mB : mulB a b = false := by
    unfold mulB
    rw [clampB_in (a := a) (by omega) (by omega), clampB_in (a := b) (by omega) (by omega), clamp_in (a := a) (by omega) (by omega), clamp_in (a := b) (by omega) (by omega), clampB_in (by unfold rne; omega) (by unfold rne; omega)]
    rfl
  obtain ⟨P, hP⟩ : ∃ P, P = a * b := ⟨_, rfl⟩
  rw [← hP] at mb mI
  have wP : wrap64 (a * b) = P := by rw [← hP]; unfold wrap64; omega
  obtain ⟨p, hp⟩ : ∃ p, p = rne P := ⟨_, rfl⟩
  rw [← hp] at mI
  have d0 : p * 16777216 - P ≤ 8388608 := by rw [hp]; unfold rne; omega
  have d1 : -8388608 ≤ p * 16777216 - P := by rw [hp]; unfold rne; omega
  have HP := Lib.hid hP
  clear hP hp
  by_cases hb : b = 0
  · subst hb
    obtain rfl : P = 0 := by have := HP.out; omega
    clear HP
    go_enter Try.func6, Try.ntmps6
    go_wp2_with (first | (go_at_call 19; refine (shown1_calls _).mono ?_; rintro e w1 ⟨rfl, hx1⟩; replace hx := hx.trans hx1; clear hx1) | (go_at_call 20; refine (mul_calls _ _ _).mono ?_; rintro e w1 ⟨rfl, hx1⟩; replace hx := hx.trans hx1; clear hx1) | (go_at_call 21; refine (div_calls _ _ _).mono ?_; rintro e w2 ⟨rfl, hx1⟩; replace hx := hx.trans hx1; clear hx1) | (go_at_call 23; refine (add_calls _ _ _).mono ?_; rintro e w2 ⟨rfl, rfl⟩) | (go_at_call 24; refine (sub_calls _ _ _).mono ?_; rintro e w2 ⟨rfl, rfl⟩) | (go_at_call 22; refine (In_calls _ _).mono ?_; rintro e w2 ⟨rfl, rfl⟩) | (go_at_call 25; refine (sqrt_calls _ _).mono ?_; rintro e w2 ⟨rfl, rfl⟩) | (go_at_call 26; refine (Of_calls _ _).mono ?_; rintro e w2 ⟨rfl, rfl⟩))
    go_ret
    exact ⟨rfl, hx⟩
  · have hb' : (b == 0) = false := by rw [beq_eq_false_iff_ne]; exact hb
    cases hf : divB a b
    · obtain ⟨n1, n2⟩ := near_div ⟨a0, a1⟩ ⟨b0, b1⟩ hb hf
      obtain ⟨R, hR⟩ : ∃ R, R = divI a b * b := ⟨_, rfl⟩
      rw [← hR] at n1 n2
      have wR : wrap64 (divI a b * b) = R := by rw [← hR]; unfold wrap64; omega
      clear hR hb
      by_cases k : b < 0
      · have n3 : (a * 16777216 - R) * 2 ≤ -b := by omega
        have n4 : b ≤ (a * 16777216 - R) * 2 := by omega
        clear n1 n2
        go_enter Try.func6, Try.ntmps6
        go_wp2_with (first | (go_at_call 19; refine (shown1_calls _).mono ?_; rintro e w1 ⟨rfl, hx1⟩; replace hx := hx.trans hx1; clear hx1) | (go_at_call 20; refine (mul_calls _ _ _).mono ?_; rintro e w1 ⟨rfl, hx1⟩; replace hx := hx.trans hx1; clear hx1) | (go_at_call 21; refine (div_calls _ _ _).mono ?_; rintro e w2 ⟨rfl, hx1⟩; replace hx := hx.trans hx1; clear hx1) | (go_at_call 23; refine (add_calls _ _ _).mono ?_; rintro e w2 ⟨rfl, rfl⟩) | (go_at_call 24; refine (sub_calls _ _ _).mono ?_; rintro e w2 ⟨rfl, rfl⟩) | (go_at_call 22; refine (In_calls _ _).mono ?_; rintro e w2 ⟨rfl, rfl⟩) | (go_at_call 25; refine (sqrt_calls _ _).mono ?_; rintro e w2 ⟨rfl, rfl⟩) | (go_at_call 26; refine (Of_calls _ _).mono ?_; rintro e w2 ⟨rfl, rfl⟩))
        all_goals
          go_ret
          exact ⟨by simp; try omega, hx⟩
      · have n3 : (a * 16777216 - R) * 2 ≤ b := by omega
        have n4 : -b ≤ (a * 16777216 - R) * 2 := by omega
        clear n1 n2
        go_enter Try.func6, Try.ntmps6
        go_wp2_with (first | (go_at_call 19; refine (shown1_calls _).mono ?_; rintro e w1 ⟨rfl, hx1⟩; replace hx := hx.trans hx1; clear hx1) | (go_at_call 20; refine (mul_calls _ _ _).mono ?_; rintro e w1 ⟨rfl, hx1⟩; replace hx := hx.trans hx1; clear hx1) | (go_at_call 21; refine (div_calls _ _ _).mono ?_; rintro e w2 ⟨rfl, hx1⟩; replace hx := hx.trans hx1; clear hx1) | (go_at_call 23; refine (add_calls _ _ _).mono ?_; rintro e w2 ⟨rfl, rfl⟩) | (go_at_call 24; refine (sub_calls _ _ _).mono ?_; rintro e w2 ⟨rfl, rfl⟩) | (go_at_call 22; refine (In_calls _ _).mono ?_; rintro e w2 ⟨rfl, rfl⟩) | (go_at_call 25; refine (sqrt_calls _ _).mono ?_; rintro e w2 ⟨rfl, rfl⟩) | (go_at_call 26; refine (Of_calls _ _).mono ?_; rintro e w2 ⟨rfl, rfl⟩))
        all_goals
          go_ret
          exact ⟨by simp; try omega, hx⟩
    · go_enter Try.func6, Try.ntmps6
      go_wp2_with (first | (go_at_call 19; refine (shown1_calls _).mono ?_; rintro e w1 ⟨rfl, hx1⟩; replace hx := hx.trans hx1; clear hx1) | (go_at_call 20; refine (mul_calls _ _ _).mono ?_; rintro e w1 ⟨rfl, hx1⟩; replace hx := hx.trans hx1; clear hx1) | (go_at_call 21; refine (div_calls _ _ _).mono ?_; rintro e w2 ⟨rfl, hx1⟩; replace hx := hx.trans hx1; clear hx1) | (go_at_call 23; refine (add_calls _ _ _).mono ?_; rintro e w2 ⟨rfl, rfl⟩) | (go_at_call 24; refine (sub_calls _ _ _).mono ?_; rintro e w2 ⟨rfl, rfl⟩) | (go_at_call 22; refine (In_calls _ _).mono ?_; rintro e w2 ⟨rfl, rfl⟩) | (go_at_call 25; refine (sqrt_calls _ _).mono ?_; rintro e w2 ⟨rfl, rfl⟩) | (go_at_call 26; refine (Of_calls _ _).mono ?_; rintro e w2 ⟨rfl, rfl⟩))
      go_ret
      exact ⟨rfl, hx⟩
end Go.Proofs.Ytdjgafcniifmlaa
