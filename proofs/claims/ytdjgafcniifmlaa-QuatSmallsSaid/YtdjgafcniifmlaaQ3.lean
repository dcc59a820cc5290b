/- qfix.Sqrt, qfix.Half at 1. -/
import Derived.Test.YtdjgafcniifmlaaQ2
set_option linter.unusedVariables false
namespace Go.Proofs.Ytdjgafcniifmlaa
open Go.RowKit

/-- The root's bits from the j-th downward. -/
def isq (A : Nat) : Nat → Nat → Nat
  | 0, r => r
  | j + 1, r => if (r + 2 ^ j) * (r + 2 ^ j) ≤ A then isq A j (r + 2 ^ j) else isq A j r

theorem or_bit (m j : Nat) (h : m * 2 ^ (j + 1) + 2 ^ (j + 1) ≤ 68719476736) : bits .or .u64 ((m * 2 ^ (j + 1) : Nat) : Int) ((2 ^ j : Nat) : Int) = ((m * 2 ^ (j + 1) + 2 ^ j : Nat) : Int) := by
  have e1 : 2 ^ (j + 1) = 2 * 2 ^ j := by rw [Nat.pow_succ, Nat.mul_comm]
  have p0 := Nat.two_pow_pos j
  have e := bits_or_u64_nat (m * 2 ^ (j + 1)) (2 ^ j) (by omega) (by omega)
  have e3 : m * 2 ^ (j + 1) ||| 2 ^ j = m * 2 ^ (j + 1) + 2 ^ j := by
    rw [Nat.mul_comm m]
    exact (Nat.two_pow_add_eq_or_of_lt (i := j + 1) (by omega) m).symm
  rw [e, e3]

theorem half_pow (j : Nat) : 2 ^ (j + 1) / 2 = 2 ^ j := by rw [Nat.pow_succ]; omega

/-- Two words against two words. -/
theorem words_le {t A : Nat} : (t / 18446744073709551616 < A / 18446744073709551616 ∨ (t / 18446744073709551616 = A / 18446744073709551616 ∧ t % 18446744073709551616 ≤ A % 18446744073709551616)) ↔ t ≤ A := by omega

set_option maxHeartbeats 1000000 in
theorem sqrt_calls1 (a : Int) (h : 0 ≤ clampI a) (w : World) :
    Calls Try.prog 25 #[.int .i64 a] w fun e w' => e = .returned (.tuple #[.int .i64 (isq (clampI a * 16777216).toNat 36 0), .bool (clampB a)]) ∧ w = w' := by
  have hb := clamp_bd a
  obtain ⟨A, hA⟩ : ∃ A, A = (clampI a * 16777216).toNat := ⟨_, rfl⟩
  rw [← hA]
  obtain ⟨H, hH⟩ : ∃ H : Nat, H = A / 18446744073709551616 := ⟨_, rfl⟩
  obtain ⟨L, hL⟩ : ∃ L : Nat, L = A % 18446744073709551616 := ⟨_, rfl⟩
  have eH : clampI a / 1099511627776 = H := by omega
  have eL : IntKind.u64.wrap (clampI a * 16777216) = L := by rw [IntKind.wrap_u64]; omega
  have HA := Lib.hid hA; have HH := Lib.hid hH; have HL := Lib.hid hL
  have L1 : L < 18446744073709551616 := by omega
  have H1 : H ≤ 64 := by omega
  clear hA hH hL
  go_enter Try.func25, Try.ntmps25
  go_wp2_with (first | (go_at_call 42; refine (clamp_calls _ _).mono ?_; rintro e w' ⟨rfl, rfl⟩))
  go_loop [7, 8] (fun rv bv => ∃ j r m : Nat, rv = .int .u64 r ∧ bv = .int .u64 (2 ^ j / 2 : Nat) ∧ j ≤ 36 ∧ Hid (r = m * 2 ^ j) ∧ Hid (isq A j r = isq A 36 0) ∧ Hid (r + 2 ^ j ≤ 68719476736)) (fun _ bv => (intOf bv).toNat)
  case atStart => exact ⟨36, 0, 0, rfl, rfl, by omega, rfl, rfl, by unfold Hid; omega⟩
  case round =>
    obtain ⟨j, r, m, rfl, rfl, j1, j2, j3, j4⟩ := hrel
    cases j with
    | zero =>
      have r1 : r ≤ 68719476736 := by have := j4.out; omega
      have e0 : ((2 ^ 0 / 2 : Nat) : Int) = 0 := rfl
      rw [e0]
      go_wp2
      go_ret2
      exact ⟨by rw [← j3.out]; rfl, rfl⟩
    | succ j =>
      have p0 : 0 < 2 ^ j := Nat.two_pow_pos j
      have e2 : 2 ^ (j + 1) = 2 * 2 ^ j := by rw [Nat.pow_succ, Nat.mul_comm]
      have hr := j2.out
      have hs := j4.out
      obtain ⟨t, ht⟩ : ∃ t, t = r + 2 ^ j := ⟨_, rfl⟩
      have ob : bits .or .u64 (r : Int) ((2 ^ j : Nat) : Int) = t := by rw [ht, hr]; exact or_bit m j (by rw [← hr]; exact hs)
      obtain ⟨b, hb2⟩ : ∃ b, b = 2 ^ j := ⟨_, rfl⟩
      rw [half_pow]
      rw [← hb2] at ob ht p0 e2
      rw [← hb2]
      have t1 : t ≤ 68719476736 := by omega
      have b1 : b ≤ 68719476736 := by omega
      have up : t * t ≤ A → isq A j t = isq A 36 0 := fun h => by rw [← j3.out, isq, ← hb2, ← ht, if_pos h]
      have dn : ¬ t * t ≤ A → isq A j r = isq A 36 0 := fun h => by rw [← j3.out, isq, ← hb2, ← ht, if_neg h]
      have mc : ∀ w, Calls Try.prog 38 #[.int .u64 t, .int .u64 t] w fun e w' => e = .returned (.tuple #[.int .u64 ((t * t / 18446744073709551616 : Nat) : Int), .int .u64 ((t * t % 18446744073709551616 : Nat) : Int)]) ∧ w = w' := fun w => mul64_calls t t (by omega) (by omega) w
      obtain ⟨P, hP⟩ : ∃ P, P = t * t / 18446744073709551616 := ⟨_, rfl⟩
      obtain ⟨R, hR⟩ : ∃ R, R = t * t % 18446744073709551616 := ⟨_, rfl⟩
      rw [← hP, ← hR] at mc
      have wl := words_le (t := t * t) (A := A)
      rw [← hP, ← hR, ← HH.out, ← HL.out] at wl
      have T1 := Lib.hid (show t = (2 * m + 1) * 2 ^ j by rw [ht, hr, ← hb2, e2, Nat.add_mul, Nat.mul_assoc, Nat.mul_left_comm]; try omega)
      have T2 := Lib.hid (show r = 2 * m * 2 ^ j by rw [hr, e2, ← hb2, Nat.mul_assoc, Nat.mul_left_comm])
      have S1 := Lib.hid (show t + 2 ^ j ≤ 68719476736 by omega)
      have S2 := Lib.hid (show r + 2 ^ j ≤ 68719476736 by omega)
      have B2 := Lib.hid hb2
      have MC := Lib.hid mc; have UP := Lib.hid up; have DN := Lib.hid dn; have WL := Lib.hid wl
      have hbb : (b : Int) / 2 = (2 ^ j / 2 : Nat) := by rw [← hb2]; omega
      have HB := Lib.hid hbb
      clear mc up dn wl hP hR ht hb2 hr hs e2 j2 j3 j4 hbb
      have c0 : 0 < (b : Int) := by omega
      by_cases c1 : P < H
      · go_wp2_with (first | (go_at_call 38; refine (MC.out _).mono ?_; rintro e w' ⟨rfl, rfl⟩))
        go_round
        case rel => exact ⟨j, t, 2 * m + 1, rfl, by rw [HB.out], by omega, T1, Lib.hid (UP.out (WL.out.1 (by omega))), S1⟩
        case measure => simp [intOf]; omega
      · by_cases c2 : P = H
        · have c3 : ((P : Int) == (H : Int)) = true := by rw [beq_iff_eq]; omega
          subst c2
          by_cases c4 : R ≤ L
          · go_wp2_with (first | (go_at_call 38; refine (MC.out _).mono ?_; rintro e w' ⟨rfl, rfl⟩))
            go_round
            case rel => exact ⟨j, t, 2 * m + 1, rfl, by rw [HB.out], by omega, T1, Lib.hid (UP.out (WL.out.1 (.inr ⟨by first | rfl | trivial, c4⟩))), S1⟩
            case measure => simp [intOf]; omega
          · go_wp2_with (first | (go_at_call 38; refine (MC.out _).mono ?_; rintro e w' ⟨rfl, rfl⟩))
            go_round
            case rel => exact ⟨j, r, 2 * m, rfl, by rw [HB.out], by omega, T2, Lib.hid (DN.out (fun h => by have := WL.out.2 h; omega)), S2⟩
            case measure => simp [intOf]; omega
        · have c3 : ((P : Int) == (H : Int)) = false := by rw [beq_eq_false_iff_ne]; omega
          go_wp2_with (first | (go_at_call 38; refine (MC.out _).mono ?_; rintro e w' ⟨rfl, rfl⟩))
          go_round
          case rel => exact ⟨j, r, 2 * m, rfl, by rw [HB.out], by omega, T2, Lib.hid (DN.out (fun h => by have := WL.out.2 h; omega)), S2⟩
          case measure => simp [intOf]; omega

def sqrtI (a : Int) : Int := if clampI a < 0 then 0 else isq (clampI a * 16777216).toNat 36 0
def sqrtB (a : Int) : Bool := if clampI a < 0 then true else clampB a

theorem sqrt_calls (a : Int) (w : World) :
    Calls Try.prog 25 #[.int .i64 a] w fun e w' => e = .returned (.tuple #[.int .i64 (sqrtI a), .bool (sqrtB a)]) ∧ w = w' := by
  by_cases h : clampI a < 0
  · have e1 : sqrtI a = 0 := if_pos h
    have e2 : sqrtB a = true := if_pos h
    rw [e1, e2]
    clear e1 e2
    go_enter Try.func25, Try.ntmps25
    go_wp2_with (first | (go_at_call 42; refine (clamp_calls _ _).mono ?_; rintro e w' ⟨rfl, rfl⟩))
    go_ret2
    exact ⟨rfl, rfl⟩
  · have e1 : sqrtI a = isq (clampI a * 16777216).toNat 36 0 := if_neg h
    have e2 : sqrtB a = clampB a := if_neg h
    rw [e1, e2]
    exact sqrt_calls1 a (by omega) w

theorem bits_one_u64 (n : Int) : bits .and .u64 (IntKind.u64.wrap n) 1 = n % 2 := by
  rw [oneI _ (by rw [IntKind.wrap_u64]; omega) (by rw [IntKind.wrap_u64]; omega), IntKind.wrap_u64]
  omega
theorem bits_one_i64 (n : Int) : bits .and .i64 n 1 = n % 2 := by
  show IntKind.i64.wrap ((BitVec.ofInt 64 n &&& BitVec.ofInt 64 1).toNat : Int) = _
  rw [BitVec.toNat_and, show (BitVec.ofInt 64 1).toNat = 1 from rfl, Nat.and_one_is_mod, BitVec.toNat_ofInt, IntKind.wrap_i64]
  omega

/-- A number by two, to the nearest; between two, to the even one. -/
def half1 (n : Int) : Int := if n % 2 = 1 ∧ n / 2 % 2 = 1 then n / 2 + 1 else n / 2

theorem Half_calls1 (n : Int) (h0 : -9223372036854775808 ≤ n) (h1 : n ≤ 9223372036854775807) (w : World) :
    Calls Try.prog 36 #[.int .i64 n, .int .i64 1] w fun e w' => e = .returned (.int .i64 (half1 n)) ∧ w = w' := by
  have hm : (min (max 1 0) 62 : Int) = 1 := rfl
  have hu : Hid (n % 2 = 1 ∧ n / 2 % 2 = 1 → half1 n = n / 2 + 1) := fun h => if_pos h
  have hd : Hid (¬ (n % 2 = 1 ∧ n / 2 % 2 = 1) → half1 n = n / 2) := fun h => if_neg h
  have b1 := bits_one_u64 n
  have b2 := bits_one_i64 (n / 2)
  obtain ⟨r, hr⟩ : ∃ r, r = n % 2 := ⟨_, rfl⟩
  obtain ⟨o, ho⟩ : ∃ o, o = n / 2 % 2 := ⟨_, rfl⟩
  have r0 : 0 ≤ r := by omega
  have r1 : r ≤ 1 := by omega
  have o2 : o = 0 ∨ o = 1 := by omega
  rw [← hr] at b1
  rw [← ho] at b2
  have HR := Lib.hid hr; have HO := Lib.hid ho
  have w1 : IntKind.u64.wrap 1 = 1 := rfl
  clear hr ho
  by_cases c1 : r = 1
  · subst c1
    rcases o2 with o2 | o2
    · subst o2
      have HD := Lib.hid (hd.out (by have := HR.out; have := HO.out; omega))
      go_enter Try.func36, Try.ntmps36
      go_wp2
      go_ret
      exact ⟨by rw [HD.out]; rfl, rfl⟩
    · subst o2
      have HD := Lib.hid (hu.out ⟨HR.out.symm, HO.out.symm⟩)
      go_enter Try.func36, Try.ntmps36
      go_wp2
      go_ret
      exact ⟨by rw [HD.out]; rfl, rfl⟩
  · have c2 : (r == 1) = false := by rw [beq_eq_false_iff_ne]; exact c1
    have HD := Lib.hid (hd.out (by have := HR.out; omega))
    clear c1
    go_enter Try.func36, Try.ntmps36
    go_wp2
    go_ret
    exact ⟨by rw [HD.out]; rfl, rfl⟩

theorem shown1_calls (w : World) :
    Calls Try.prog 19 #[] w fun e w' => e = .returned (.bool true) ∧ Ext w w' := by
  have m1 : mulI 25165824 25165824 = 37748736 := by decide
  have m2 : mulB 25165824 25165824 = false := by decide
  have d1 : divI 16777216 50331648 = 5592405 := by decide
  have d2 : divB 16777216 50331648 = false := by decide
  have h1 : half1 5 = 2 := by decide
  have h2 : half1 7 = 4 := by decide
  go_enter Try.func19, Try.ntmps19
  go_wp2_with (first | (go_at_call 20; refine (mul_calls _ _ _).mono ?_; rintro e w1 ⟨rfl, hx1⟩) | (go_at_call 21; refine (div_calls _ _ _).mono ?_; rintro e w2 ⟨rfl, hx2⟩) | (go_at_call 36; refine (Half_calls1 _ (by omega) (by omega) _).mono ?_; rintro e w' ⟨rfl, rfl⟩))
  go_ret
  exact ⟨rfl, hx1.trans hx2⟩
end Go.Proofs.Ytdjgafcniifmlaa
