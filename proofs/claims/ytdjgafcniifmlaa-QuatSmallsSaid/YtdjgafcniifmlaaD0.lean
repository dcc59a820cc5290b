/- bits.Div64 walked. -/
import Derived.Test.YtdjgafcniifmlaaQ1
import Derived.Test.YtdjgafcniifmlaaShelf
import Derived.Test.YtdjgafcniifmlaaD1
set_option linter.unusedVariables false
namespace Go.Proofs.Ytdjgafcniifmlaa
open Go.RowKit

set_option maxHeartbeats 1000000 in
theorem div_walk (hi lo y yy a b u z v1 v0 a1 r1 N1 Q1 x2 a2 r2 N2 Q2 x3 : Int) (k : Nat) (h0 : 0 ≤ hi) (h1 : hi < y) (h2 : y < 18446744073709551616) (l0 : 0 ≤ lo) (l1 : lo < 18446744073709551616) (hh : 0 < hi) (s1 : k < 64) 
    (LZ : Hid (∀ w, Calls Try.prog 44 #[.int .u64 y] w fun e w' => e = .returned (.int .i64 k) ∧ w = w'))
    (e1 : IntKind.u64.wrap (y * 2 ^ k) = yy) (e2 : yy / 4294967296 = a) (e3 : bits .and .u64 yy 4294967295 = b)
    (e4 : bits .or .u64 (IntKind.u64.wrap (hi * 2 ^ k)) (lo / 2 ^ (64 - k)) = u) (e5 : IntKind.u64.wrap (lo * 2 ^ k) = z) (e6 : z / 4294967296 = v1) (e7 : bits .and .u64 z 4294967295 = v0)
    (K1 : Hid (Kn a b u v1 yy N1 Q1)) (K2 : Hid (Kn a b x2 v0 yy N2 Q2)) (a0 : 2147483648 ≤ a) (aa : a < 4294967296) (b0 : 0 ≤ b) (bb : b < 4294967296) (u0 : 0 ≤ u) (uu : u < yy) (x0 : 0 ≤ x2) (xx : x2 < yy) (yyy : yy < 18446744073709551616)
    (v10 : 0 ≤ v1) (v11 : v1 < 4294967296) (v00 : 0 ≤ v0) (v01 : v0 < 4294967296) (q10 : 0 ≤ Q1) (q11 : Q1 < 4294967296) (q20 : 0 ≤ Q2) (q21 : Q2 < 4294967296)
    (e8 : u / a = a1) (e9 : IntKind.u64.wrap (u - IntKind.u64.wrap (a1 * a)) = r1) (e10 : IntKind.u64.wrap (IntKind.u64.wrap (IntKind.u64.wrap (u * 4294967296) + v1) - IntKind.u64.wrap (Q1 * yy)) = x2)
    (e11 : x2 / a = a2) (e12 : IntKind.u64.wrap (x2 - IntKind.u64.wrap (a2 * a)) = r2) (I1 : Hid (Q1 ≤ a1 ∧ a1 ≤ 4294967297 ∧ 0 ≤ a1 ∧ u = a1 * a + r1 ∧ 0 ≤ r1 ∧ r1 < 4294967296)) (I2 : Hid (Q2 ≤ a2 ∧ a2 ≤ 4294967297 ∧ 0 ≤ a2 ∧ x2 = a2 * a + r2 ∧ 0 ≤ r2 ∧ r2 < 4294967296))
    (e13 : IntKind.u64.wrap (IntKind.u64.wrap (IntKind.u64.wrap (x2 * 4294967296) + v0) - IntKind.u64.wrap (Q2 * yy)) = x3)
    (w : World) :
    Calls Try.prog 41 #[.int .u64 hi, .int .u64 lo, .int .u64 y] w fun e w' => e = .returned (.tuple #[.int .u64 (Q1 * 4294967296 + Q2), .int .u64 (x3 / 2 ^ k)]) ∧ w = w' := by
  have c1 : (y == 0) = false := by rw [beq_eq_false_iff_ne]; omega
  have c2 : (hi == 0) = false := by rw [beq_eq_false_iff_ne]; omega
  have c3 : (a == 0) = false := by rw [beq_eq_false_iff_ne]; omega
  go_enter Try.func41, Try.ntmps41
  go_wp2_with (first | (go_at_call 44; refine (LZ.out _).mono ?_; rintro e w' ⟨rfl, rfl⟩))
  go_loop [15, 16] (fun qv rv => ∃ q r : Int, qv = .int .u64 q ∧ rv = .int .u64 r ∧ Q1 ≤ q ∧ q ≤ 4294967297 ∧ 0 ≤ q ∧ Hid (u = q * a + r) ∧ 0 ≤ r ∧ r < 4294967296) (fun qv _ => (intOf qv).toNat)
  case atStart =>
    obtain ⟨i1, i2, i3, i4, i5, i6⟩ := I1.out
    exact ⟨a1, r1, by rw [e8], rfl, i1, i2, i3, i4, i5, i6⟩
  case round =>
    obtain ⟨q, r, rfl, rfl, i1, i2, i3, i4, i5, i6⟩ := hrel
    by_cases t1 : 4294967296 ≤ q
    · have M := Lib.hid (show Q1 ≤ q - 1 by omega)
      have U := Lib.hid (show u = (q - 1) * a + (r + a) by rw [Int.sub_mul, Int.one_mul]; have := i4.out; omega)
      by_cases t2 : 4294967296 ≤ r + a
      · have hq : q - 1 = Q1 := by have x1 := K1.out.breaks U.out t2 (by omega) (by omega); have x2 := M.out; omega
        clear i1 i2 i4 M U
        go_wp2
        go_loop [18, 16] (fun qv rv => ∃ q r : Int, qv = .int .u64 q ∧ rv = .int .u64 r ∧ Q2 ≤ q ∧ q ≤ 4294967297 ∧ 0 ≤ q ∧ Hid (x2 = q * a + r) ∧ 0 ≤ r ∧ r < 4294967296) (fun qv _ => (intOf qv).toNat)
        case atStart =>
          obtain ⟨i1, i2, i3, i4, i5, i6⟩ := I2.out
          exact ⟨a2, r2, by first | rfl | rw [e11], by first | rfl | rw [e12], i1, i2, i3, i4, i5, i6⟩
        case round =>
          obtain ⟨q, r, rfl, rfl, i1, i2, i3, i4, i5, i6⟩ := hrel
          by_cases t1 : 4294967296 ≤ q
          · have M := Lib.hid (show Q2 ≤ q - 1 by omega)
            have U := Lib.hid (show x2 = (q - 1) * a + (r + a) by rw [Int.sub_mul, Int.one_mul]; have := i4.out; omega)
            by_cases t2 : 4294967296 ≤ r + a
            · have hq : q - 1 = Q2 := by have x1 := K2.out.breaks U.out t2 (by omega) (by omega); have x2 := M.out; omega
              clear i1 i2 i4 M U
              go_wp2
              go_ret2
              exact ⟨rfl, rfl⟩
            · go_wp2
              go_round
              case rel => exact ⟨q - 1, r + a, rfl, rfl, M.out, by omega, by omega, U, by omega, by omega⟩
              case measure => simp [intOf]; omega
          · have P0 : 0 ≤ q * b := Int.mul_nonneg i3 b0
            have P1 : q * b ≤ 4294967295 * 4294967295 := Int.mul_le_mul (by omega) (by omega) b0 (by omega)
            obtain ⟨P, hP⟩ : ∃ P, P = q * b := ⟨_, rfl⟩
            have wP : IntKind.u64.wrap (q * b) = P := by rw [IntKind.wrap_u64]; omega
            rw [← hP] at P0 P1
            have HP := Lib.hid hP
            clear hP
            by_cases t3 : 4294967296 * r + v0 < P
            · have M := Lib.hid (show Q2 ≤ q - 1 from K2.out.mends i4.out (by rw [← HP.out]; exact t3))
              have m0 : 0 ≤ q - 1 := by have := M.out; omega
              have U := Lib.hid (show x2 = (q - 1) * a + (r + a) by rw [Int.sub_mul, Int.one_mul]; have := i4.out; omega)
              by_cases t2 : 4294967296 ≤ r + a
              · have hq : q - 1 = Q2 := by have x1 := K2.out.breaks U.out t2 (by omega) (by omega); have x2 := M.out; omega
                clear i1 i2 i4 M U
                go_wp2
                go_ret2
                exact ⟨rfl, rfl⟩
              · go_wp2
                go_round
                case rel => exact ⟨q - 1, r + a, rfl, rfl, M.out, by omega, by omega, U, by omega, by omega⟩
                case measure => simp [intOf]; omega
            · obtain rfl : q = Q2 := by have := K2.out.done i4.out (by rw [← HP.out]; omega); omega
              clear i1 i2 i4
              go_wp2
              go_ret2
              exact ⟨rfl, rfl⟩
      · go_wp2
        go_round
        case rel => exact ⟨q - 1, r + a, rfl, rfl, M.out, by omega, by omega, U, by omega, by omega⟩
        case measure => simp [intOf]; omega
    · have P0 : 0 ≤ q * b := Int.mul_nonneg i3 b0
      have P1 : q * b ≤ 4294967295 * 4294967295 := Int.mul_le_mul (by omega) (by omega) b0 (by omega)
      obtain ⟨P, hP⟩ : ∃ P, P = q * b := ⟨_, rfl⟩
      have wP : IntKind.u64.wrap (q * b) = P := by rw [IntKind.wrap_u64]; omega
      rw [← hP] at P0 P1
      have HP := Lib.hid hP
      clear hP
      by_cases t3 : 4294967296 * r + v1 < P
      · have M := Lib.hid (show Q1 ≤ q - 1 from K1.out.mends i4.out (by rw [← HP.out]; exact t3))
        have m0 : 0 ≤ q - 1 := by have := M.out; omega
        have U := Lib.hid (show u = (q - 1) * a + (r + a) by rw [Int.sub_mul, Int.one_mul]; have := i4.out; omega)
        by_cases t2 : 4294967296 ≤ r + a
        · have hq : q - 1 = Q1 := by have x1 := K1.out.breaks U.out t2 (by omega) (by omega); have x2 := M.out; omega
          clear i1 i2 i4 M U
          go_wp2
          go_loop [18, 16] (fun qv rv => ∃ q r : Int, qv = .int .u64 q ∧ rv = .int .u64 r ∧ Q2 ≤ q ∧ q ≤ 4294967297 ∧ 0 ≤ q ∧ Hid (x2 = q * a + r) ∧ 0 ≤ r ∧ r < 4294967296) (fun qv _ => (intOf qv).toNat)
          case atStart =>
            obtain ⟨i1, i2, i3, i4, i5, i6⟩ := I2.out
            exact ⟨a2, r2, by first | rfl | rw [e11], by first | rfl | rw [e12], i1, i2, i3, i4, i5, i6⟩
          case round =>
            obtain ⟨q, r, rfl, rfl, i1, i2, i3, i4, i5, i6⟩ := hrel
            by_cases t1 : 4294967296 ≤ q
            · have M := Lib.hid (show Q2 ≤ q - 1 by omega)
              have U := Lib.hid (show x2 = (q - 1) * a + (r + a) by rw [Int.sub_mul, Int.one_mul]; have := i4.out; omega)
              by_cases t2 : 4294967296 ≤ r + a
              · have hq : q - 1 = Q2 := by have x1 := K2.out.breaks U.out t2 (by omega) (by omega); have x2 := M.out; omega
                clear i1 i2 i4 M U
                go_wp2
                go_ret2
                exact ⟨rfl, rfl⟩
              · go_wp2
                go_round
                case rel => exact ⟨q - 1, r + a, rfl, rfl, M.out, by omega, by omega, U, by omega, by omega⟩
                case measure => simp [intOf]; omega
            · have P0 : 0 ≤ q * b := Int.mul_nonneg i3 b0
              have P1 : q * b ≤ 4294967295 * 4294967295 := Int.mul_le_mul (by omega) (by omega) b0 (by omega)
              obtain ⟨P, hP⟩ : ∃ P, P = q * b := ⟨_, rfl⟩
              have wP : IntKind.u64.wrap (q * b) = P := by rw [IntKind.wrap_u64]; omega
              rw [← hP] at P0 P1
              have HP := Lib.hid hP
              clear hP
              by_cases t3 : 4294967296 * r + v0 < P
              · have M := Lib.hid (show Q2 ≤ q - 1 from K2.out.mends i4.out (by rw [← HP.out]; exact t3))
                have m0 : 0 ≤ q - 1 := by have := M.out; omega
                have U := Lib.hid (show x2 = (q - 1) * a + (r + a) by rw [Int.sub_mul, Int.one_mul]; have := i4.out; omega)
                by_cases t2 : 4294967296 ≤ r + a
                · have hq : q - 1 = Q2 := by have x1 := K2.out.breaks U.out t2 (by omega) (by omega); have x2 := M.out; omega
                  clear i1 i2 i4 M U
                  go_wp2
                  go_ret2
                  exact ⟨rfl, rfl⟩
                · go_wp2
                  go_round
                  case rel => exact ⟨q - 1, r + a, rfl, rfl, M.out, by omega, by omega, U, by omega, by omega⟩
                  case measure => simp [intOf]; omega
              · obtain rfl : q = Q2 := by have := K2.out.done i4.out (by rw [← HP.out]; omega); omega
                clear i1 i2 i4
                go_wp2
                go_ret2
                exact ⟨rfl, rfl⟩
        · go_wp2
          go_round
          case rel => exact ⟨q - 1, r + a, rfl, rfl, M.out, by omega, by omega, U, by omega, by omega⟩
          case measure => simp [intOf]; omega
      · obtain rfl : q = Q1 := by have := K1.out.done i4.out (by rw [← HP.out]; omega); omega
        clear i1 i2 i4
        go_wp2
        go_loop [18, 16] (fun qv rv => ∃ q r : Int, qv = .int .u64 q ∧ rv = .int .u64 r ∧ Q2 ≤ q ∧ q ≤ 4294967297 ∧ 0 ≤ q ∧ Hid (x2 = q * a + r) ∧ 0 ≤ r ∧ r < 4294967296) (fun qv _ => (intOf qv).toNat)
        case atStart =>
          obtain ⟨i1, i2, i3, i4, i5, i6⟩ := I2.out
          exact ⟨a2, r2, by first | rfl | rw [e11], by first | rfl | rw [e12], i1, i2, i3, i4, i5, i6⟩
        case round =>
          obtain ⟨q, r, rfl, rfl, i1, i2, i3, i4, i5, i6⟩ := hrel
          by_cases t1 : 4294967296 ≤ q
          · have M := Lib.hid (show Q2 ≤ q - 1 by omega)
            have U := Lib.hid (show x2 = (q - 1) * a + (r + a) by rw [Int.sub_mul, Int.one_mul]; have := i4.out; omega)
            by_cases t2 : 4294967296 ≤ r + a
            · have hq : q - 1 = Q2 := by have x1 := K2.out.breaks U.out t2 (by omega) (by omega); have x2 := M.out; omega
              clear i1 i2 i4 M U
              go_wp2
              go_ret2
              exact ⟨rfl, rfl⟩
            · go_wp2
              go_round
              case rel => exact ⟨q - 1, r + a, rfl, rfl, M.out, by omega, by omega, U, by omega, by omega⟩
              case measure => simp [intOf]; omega
          · have P0 : 0 ≤ q * b := Int.mul_nonneg i3 b0
            have P1 : q * b ≤ 4294967295 * 4294967295 := Int.mul_le_mul (by omega) (by omega) b0 (by omega)
            obtain ⟨P, hP⟩ : ∃ P, P = q * b := ⟨_, rfl⟩
            have wP : IntKind.u64.wrap (q * b) = P := by rw [IntKind.wrap_u64]; omega
            rw [← hP] at P0 P1
            have HP := Lib.hid hP
            clear hP
            by_cases t3 : 4294967296 * r + v0 < P
            · have M := Lib.hid (show Q2 ≤ q - 1 from K2.out.mends i4.out (by rw [← HP.out]; exact t3))
              have m0 : 0 ≤ q - 1 := by have := M.out; omega
              have U := Lib.hid (show x2 = (q - 1) * a + (r + a) by rw [Int.sub_mul, Int.one_mul]; have := i4.out; omega)
              by_cases t2 : 4294967296 ≤ r + a
              · have hq : q - 1 = Q2 := by have x1 := K2.out.breaks U.out t2 (by omega) (by omega); have x2 := M.out; omega
                clear i1 i2 i4 M U
                go_wp2
                go_ret2
                exact ⟨rfl, rfl⟩
              · go_wp2
                go_round
                case rel => exact ⟨q - 1, r + a, rfl, rfl, M.out, by omega, by omega, U, by omega, by omega⟩
                case measure => simp [intOf]; omega
            · obtain rfl : q = Q2 := by have := K2.out.done i4.out (by rw [← HP.out]; omega); omega
              clear i1 i2 i4
              go_wp2
              go_ret2
              exact ⟨rfl, rfl⟩
end Go.Proofs.Ytdjgafcniifmlaa
