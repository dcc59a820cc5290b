/- qfix.Mul by its parts: bits.Mul64, the product, rounded to the nearest. -/
import Derived.Test.YtdjgafcniifmlaaQ0
import Derived.Shelf.Bits.Mul64
set_option linter.unusedVariables false
namespace Go.Proofs.Ytdjgafcniifmlaa
open Go.RowKit

set_option maxHeartbeats 1000000 in
theorem mul64_calls (x y : Nat) (hx : x < 18446744073709551616) (hy : y < 18446744073709551616) (w : World) :
    Calls Try.prog 38 #[.int .u64 x, .int .u64 y] w fun e w' => e = .returned (.tuple #[.int .u64 ((x * y / 18446744073709551616 : Nat) : Int), .int .u64 ((x * y % 18446744073709551616 : Nat) : Int)]) ∧ w = w' := by
  obtain ⟨bd, bt, bw, hhi⟩ := Lib.mul64_hi x y hx hy
  have ba := Lib.half_mul_le (a := x / 4294967296) (b := y / 4294967296) (by omega) (by omega)
  have bb := Lib.half_mul_le (a := x / 4294967296) (b := y % 4294967296) (by omega) (by omega)
  have bc := Lib.half_mul_le (a := x % 4294967296) (b := y / 4294967296) (by omega) (by omega)
  have ba' : x / 4294967296 * (y / 4294967296) < 18446744073709551616 := by omega
  have bb' : x / 4294967296 * (y % 4294967296) < 18446744073709551616 := by omega
  have bc' : x % 4294967296 * (y / 4294967296) < 18446744073709551616 := by omega
  have bh1 : x / 4294967296 * (y / 4294967296) + (x / 4294967296 * (y % 4294967296) + x % 4294967296 * (y % 4294967296) / 4294967296) / 4294967296 < 18446744073709551616 := by omega
  have bh : x / 4294967296 * (y / 4294967296) + (x / 4294967296 * (y % 4294967296) + x % 4294967296 * (y % 4294967296) / 4294967296) / 4294967296 + ((x / 4294967296 * (y % 4294967296) + x % 4294967296 * (y % 4294967296) / 4294967296) % 4294967296 + x % 4294967296 * (y / 4294967296)) / 4294967296 < 18446744073709551616 := by omega
  go_enter Try.func38, Try.ntmps38
  go_wp2
  simp only [Mul64.maskN x hx, Mul64.maskN y hy, Mul64.divN, Mul64.mulN, Mul64.addN, Mul64.wrapN _ bd, Mul64.wrapN _ bb', Mul64.wrapN _ bt, Mul64.maskN _ bt, Mul64.wrapN _ bc', Mul64.wrapN _ bw, Mul64.wrapN _ ba', Mul64.wrapN _ bh1, Mul64.wrapN _ bh, Mul64.wrapM (x * y)]
  rw [hhi]
  go_ret2
  exact ⟨rfl, rfl⟩

/-- A number by 2^24, to the nearest whole one; between two, to the even one. -/
def rne (n : Int) : Int := if 8388608 < n % 16777216 ∨ (n % 16777216 = 8388608 ∧ n / 16777216 % 2 = 1) then n / 16777216 + 1 else n / 16777216


theorem maskI (L : Int) (h0 : 0 ≤ L) (h1 : L < 18446744073709551616) : bits .and .u64 L 16777215 = L % 16777216 := by
  obtain ⟨l, rfl⟩ := Int.eq_ofNat_of_zero_le h0
  have h := bits_and_u64_nat l 16777215 (by omega) (by omega)
  rw [show l &&& 16777215 = l % 16777216 from Nat.and_two_pow_sub_one_eq_mod l 24] at h
  exact h
theorem oneI (L : Int) (h0 : 0 ≤ L) (h1 : L < 18446744073709551616) : bits .and .u64 L 1 = L % 2 := by
  obtain ⟨l, rfl⟩ := Int.eq_ofNat_of_zero_le h0
  have h := bits_and_u64_nat l 1 (by omega) (by omega)
  rw [Nat.and_one_is_mod] at h
  exact h
theorem orI (x y : Int) (h0 : 0 ≤ x) (h1 : x < 1099511627776) (g0 : 0 ≤ y) (g1 : y < 16777216) : bits .or .u64 x (y * 1099511627776) = y * 1099511627776 + x := by
  obtain ⟨a, rfl⟩ := Int.eq_ofNat_of_zero_le h0
  obtain ⟨b, rfl⟩ := Int.eq_ofNat_of_zero_le g0
  have h := bits_or_u64_nat a (1099511627776 * b) (by omega) (by omega)
  rw [Nat.or_comm, show 1099511627776 * b ||| a = 1099511627776 * b + a from (Nat.two_pow_add_eq_or_of_lt (i := 40) (by omega) b).symm] at h
  rw [show ((b : Int) * 1099511627776) = ((1099511627776 * b : Nat) : Int) from by omega, h]
  omega

/-- The parts of a product of two words, as the text takes them apart. -/
theorem mul_parts (H L : Int) (h0 : 0 ≤ H) (h1 : H ≤ 268435456) (l0 : 0 ≤ L) (l1 : L < 18446744073709551616) :
    bits .or .u64 (L / 16777216) (IntKind.u64.wrap (H * 1099511627776)) = (H * 18446744073709551616 + L) / 16777216 % 18446744073709551616 := by
  rw [IntKind.wrap_u64]
  have e : H * 1099511627776 % 18446744073709551616 = H % 16777216 * 1099511627776 := by omega
  rw [e, orI _ _ (by omega) (by omega) (by omega) (by omega)]
  omega

theorem rne_up {n : Int} (h : 8388608 < n % 16777216 ∨ (n % 16777216 = 8388608 ∧ n / 16777216 % 2 = 1)) : rne n = n / 16777216 + 1 := if_pos h
theorem rne_dn {n : Int} (h : ¬ (8388608 < n % 16777216 ∨ (n % 16777216 = 8388608 ∧ n / 16777216 % 2 = 1))) : rne n = n / 16777216 := if_neg h

theorem rne_neg (n : Int) : rne (-n) = -rne n := by unfold rne; omega

theorem natAbs_mul_lt {x y : Int} (hx : -70368744177664 ≤ x ∧ x ≤ 70368744177663) (hy : -70368744177664 ≤ y ∧ y ≤ 70368744177663) : x.natAbs * y.natAbs ≤ 70368744177664 * 70368744177664 :=
  Nat.mul_le_mul (by omega) (by omega)

theorem sg_mul (x y : Int) : sg (!(decide (x < 0) == decide (y < 0))) ((x.natAbs * y.natAbs : Nat) : Int) = x * y := by
  have e := Int.natAbs_mul x y
  by_cases hx : x < 0 <;> by_cases hy : y < 0
  · have : 0 ≤ x * y := by have := Int.mul_nonneg (a := -x) (b := -y) (by omega) (by omega); rw [Int.neg_mul_neg] at this; exact this
    simp [hx, hy, sg]; omega
  · have : x * y ≤ 0 := by have := Int.mul_nonneg (a := -x) (b := y) (by omega) (by omega); rw [Int.neg_mul] at this; omega
    simp [hx, hy, sg]; omega
  · have : x * y ≤ 0 := by have := Int.mul_nonneg (a := x) (b := -y) (by omega) (by omega); rw [Int.mul_neg] at this; omega
    simp [hx, hy, sg]; omega
  · have : 0 ≤ x * y := Int.mul_nonneg (by omega) (by omega)
    simp [hx, hy, sg]; omega

theorem sg_rne (b : Bool) (n : Int) : sg b (rne n) = rne (sg b n) := by cases b <;> simp [sg, rne_neg]

def mulI (a b : Int) : Int := clampI (rne (clampI a * clampI b))
def mulB (a b : Int) : Bool := clampB a || clampB b || clampB (rne (clampI a * clampI b))

/-- The tail of 'Mul', behind the product: rounded, and with its sign. -/
theorem mul_calls (a b : Int) (w : World) :
    Calls Try.prog 20 #[.int .i64 a, .int .i64 b] w fun e w' => e = .returned (.tuple #[.int .i64 (mulI a b), .bool (mulB a b)]) ∧ Ext w w' := by
  have ha := clamp_bd a
  have hb := clamp_bd b
  have hN := natAbs_mul_lt ha hb
  have hfin : Hid (∀ (w' : World), Ext w w' → ∀ v, v = Value.tuple #[.int .i64 (clampI (sg (!(decide (clampI a < 0) == decide (clampI b < 0))) (rne ((clampI a).natAbs * (clampI b).natAbs : Nat)))), .bool (clampB a || clampB b || clampB (sg (!(decide (clampI a < 0) == decide (clampI b < 0))) (rne ((clampI a).natAbs * (clampI b).natAbs : Nat))))] →
      Ending.returned v = .returned (.tuple #[.int .i64 (mulI a b), .bool (mulB a b)]) ∧ Ext w w') := by
    intro w' hw v hv
    rw [sg_rne, sg_mul] at hv
    exact ⟨by rw [hv]; rfl, hw⟩
  obtain ⟨N, hNe⟩ : ∃ N : Int, N = (((clampI a).natAbs * (clampI b).natAbs : Nat) : Int) := ⟨_, rfl⟩
  obtain ⟨H, hH⟩ : ∃ H, H = N / 18446744073709551616 := ⟨_, rfl⟩
  obtain ⟨L, hL⟩ : ∃ L, L = N % 18446744073709551616 := ⟨_, rfl⟩
  obtain ⟨q, hq⟩ : ∃ q, q = N / 16777216 % 18446744073709551616 := ⟨_, rfl⟩
  obtain ⟨r, hr⟩ : ∃ r, r = N % 16777216 := ⟨_, rfl⟩
  obtain ⟨o, ho⟩ : ∃ o, o = q % 2 := ⟨_, rfl⟩
  have hN0 : 0 ≤ N := by omega
  have hN1 : N ≤ 70368744177664 * 70368744177664 := by omega
  have b1 : 0 ≤ H := by omega
  have b2 : H ≤ 268435456 := by omega
  have b3 : 0 ≤ L := by omega
  have b4 : L < 18446744073709551616 := by omega
  have b5 : 0 ≤ q := by omega
  have b6 : q < 18446744073709551616 := by omega
  have b7 : 0 ≤ r := by omega
  have b8 : r < 16777216 := by omega
  have e1 : bits .and .u64 L 16777215 = r := by rw [maskI _ b3 b4]; omega
  have e2 : bits .or .u64 (L / 16777216) (IntKind.u64.wrap (H * 1099511627776)) = q := by rw [mul_parts H L b1 b2 b3 b4]; omega
  have e3 : bits .and .u64 q 1 = o := by rw [oneI _ b5 b6]; omega
  have up : Hid ((8388608 < r ∨ (r = 8388608 ∧ o = 1)) → rne N = N / 16777216 + 1) := fun h => rne_up (by omega)
  have dn : Hid (¬ (8388608 < r ∨ (r = 8388608 ∧ o = 1)) → rne N = N / 16777216) := fun h => rne_dn (by omega)
  have mulC : ∀ w, Calls Try.prog 38 #[.int .u64 (clampI a).natAbs, .int .u64 (clampI b).natAbs] w fun e w' => e = .returned (.tuple #[.int .u64 H, .int .u64 L]) ∧ w = w' := by
    intro w
    have := mul64_calls (clampI a).natAbs (clampI b).natAbs (by omega) (by omega) w
    rw [show (((clampI a).natAbs * (clampI b).natAbs / 18446744073709551616 : Nat) : Int) = H from by omega, show (((clampI a).natAbs * (clampI b).natAbs % 18446744073709551616 : Nat) : Int) = L from by omega] at this
    exact this
  rw [← hNe] at hfin
  have HF := Lib.hid hfin
  have W0 : 0 ≤ IntKind.u64.wrap (q + 1) := by rw [IntKind.wrap_u64]; omega
  have sc : ∀ h l : Int, 0 ≤ h → 0 ≤ l → h * 18446744073709551616 + l = rne N → ∀ b w, Calls Try.prog 40 #[.int .u64 h, .int .u64 l, .bool b] w fun e w' => e = .returned (.tuple #[.int .i64 (clampI (sg b (rne N))), .bool (clampB (sg b (rne N)))]) ∧ Ext w w' := by
    intro h l h0 l0 e b w
    rw [← e]
    exact signed_calls h l b h0 l0 w
  have SC := Lib.hid sc
  have su1 : Hid ((8388608 < r ∨ (r = 8388608 ∧ o = 1)) → IntKind.u64.wrap (q + 1) = 0 → (H / 16777216 + 1) * 18446744073709551616 + IntKind.u64.wrap (q + 1) = rne N) := by
    intro h1 h2
    rw [up.out h1, h2]
    rw [IntKind.wrap_u64] at h2
    omega
  have su2 : Hid ((8388608 < r ∨ (r = 8388608 ∧ o = 1)) → ¬ IntKind.u64.wrap (q + 1) = 0 → H / 16777216 * 18446744073709551616 + IntKind.u64.wrap (q + 1) = rne N) := by
    intro h1 h2
    rw [up.out h1]
    rw [IntKind.wrap_u64] at h2 ⊢
    omega
  have su3 : Hid (¬ (8388608 < r ∨ (r = 8388608 ∧ o = 1)) → H / 16777216 * 18446744073709551616 + q = rne N) := by
    intro h1
    rw [dn.out h1]
    omega
  have HH := Lib.hid hH; have HL := Lib.hid hL; have HNe := Lib.hid hNe; have Hq := Lib.hid hq; have Hr := Lib.hid hr; have Ho := Lib.hid ho; have MC := Lib.hid mulC
  clear hH hL hNe hN hq hr ho mulC hfin sc
  by_cases c1 : 8388608 < r
  · by_cases c4 : (IntKind.u64.wrap (q + 1) == 0) = true
    · have SU := Lib.hid (su1.out (.inl c1) (by simpa using c4))
      go_enter Try.func20, Try.ntmps20
      go_wp2_with (first | (go_at_call 37; refine (both_calls _ _ _).mono ?_; rintro e w' ⟨rfl, rfl⟩) | (go_at_call 39; refine (size_calls _ (by omega) (by omega) _).mono ?_; rintro e w' ⟨rfl, rfl⟩) | (go_at_call 38; refine (MC.out _).mono ?_; rintro e w' ⟨rfl, rfl⟩) | (go_at_call 40; refine (SC.out _ _ (by omega) (by first | exact W0 | omega) (by exact SU.out) _ _).mono ?_; rintro e w' ⟨rfl, hx⟩))
      all_goals
        go_ret2
        exact HF.out _ hx _ (by first | (simp [*]; done) | (exfalso; simp_all; done))
    · have SU := Lib.hid (su2.out (.inl c1) (by simpa using c4))
      have c4' : (IntKind.u64.wrap (q + 1) == 0) = false := by simpa using c4
      clear c4
      go_enter Try.func20, Try.ntmps20
      go_wp2_with (first | (go_at_call 37; refine (both_calls _ _ _).mono ?_; rintro e w' ⟨rfl, rfl⟩) | (go_at_call 39; refine (size_calls _ (by omega) (by omega) _).mono ?_; rintro e w' ⟨rfl, rfl⟩) | (go_at_call 38; refine (MC.out _).mono ?_; rintro e w' ⟨rfl, rfl⟩) | (go_at_call 40; refine (SC.out _ _ (by omega) (by first | exact W0 | omega) (by exact SU.out) _ _).mono ?_; rintro e w' ⟨rfl, hx⟩))
      all_goals
        go_ret2
        exact HF.out _ hx _ (by first | (simp [*]; done) | (exfalso; simp_all; done))
  · by_cases c2 : r = 8388608 ∧ o = 1
    · obtain ⟨rfl, rfl⟩ := c2
      by_cases c4 : (IntKind.u64.wrap (q + 1) == 0) = true
      · have SU := Lib.hid (su1.out (.inr ⟨rfl, rfl⟩) (by simpa using c4))
        go_enter Try.func20, Try.ntmps20
        go_wp2_with (first | (go_at_call 37; refine (both_calls _ _ _).mono ?_; rintro e w' ⟨rfl, rfl⟩) | (go_at_call 39; refine (size_calls _ (by omega) (by omega) _).mono ?_; rintro e w' ⟨rfl, rfl⟩) | (go_at_call 38; refine (MC.out _).mono ?_; rintro e w' ⟨rfl, rfl⟩) | (go_at_call 40; refine (SC.out _ _ (by omega) (by first | exact W0 | omega) (by exact SU.out) _ _).mono ?_; rintro e w' ⟨rfl, hx⟩))
        all_goals
          go_ret2
          exact HF.out _ hx _ (by first | (simp [*]; done) | (exfalso; simp_all; done))
      · have SU := Lib.hid (su2.out (.inr ⟨rfl, rfl⟩) (by simpa using c4))
        have c4' : (IntKind.u64.wrap (q + 1) == 0) = false := by simpa using c4
        clear c4
        go_enter Try.func20, Try.ntmps20
        go_wp2_with (first | (go_at_call 37; refine (both_calls _ _ _).mono ?_; rintro e w' ⟨rfl, rfl⟩) | (go_at_call 39; refine (size_calls _ (by omega) (by omega) _).mono ?_; rintro e w' ⟨rfl, rfl⟩) | (go_at_call 38; refine (MC.out _).mono ?_; rintro e w' ⟨rfl, rfl⟩) | (go_at_call 40; refine (SC.out _ _ (by omega) (by first | exact W0 | omega) (by exact SU.out) _ _).mono ?_; rintro e w' ⟨rfl, hx⟩))
        all_goals
          go_ret2
          exact HF.out _ hx _ (by first | (simp [*]; done) | (exfalso; simp_all; done))
    · have SU := Lib.hid (su3.out (by omega))
      by_cases c3 : r = 8388608
      · subst c3
        have c5 : (o == 1) = false := by rw [beq_eq_false_iff_ne]; omega
        clear c2
        go_enter Try.func20, Try.ntmps20
        go_wp2_with (first | (go_at_call 37; refine (both_calls _ _ _).mono ?_; rintro e w' ⟨rfl, rfl⟩) | (go_at_call 39; refine (size_calls _ (by omega) (by omega) _).mono ?_; rintro e w' ⟨rfl, rfl⟩) | (go_at_call 38; refine (MC.out _).mono ?_; rintro e w' ⟨rfl, rfl⟩) | (go_at_call 40; refine (SC.out _ _ (by omega) (by first | exact W0 | omega) (by exact SU.out) _ _).mono ?_; rintro e w' ⟨rfl, hx⟩))
        all_goals
          go_ret2
          exact HF.out _ hx _ (by first | (simp [*]; done) | (exfalso; simp_all; done))
      · have c5 : (r == 8388608) = false := by rw [beq_eq_false_iff_ne]; omega
        clear c2 c3
        go_enter Try.func20, Try.ntmps20
        go_wp2_with (first | (go_at_call 37; refine (both_calls _ _ _).mono ?_; rintro e w' ⟨rfl, rfl⟩) | (go_at_call 39; refine (size_calls _ (by omega) (by omega) _).mono ?_; rintro e w' ⟨rfl, rfl⟩) | (go_at_call 38; refine (MC.out _).mono ?_; rintro e w' ⟨rfl, rfl⟩) | (go_at_call 40; refine (SC.out _ _ (by omega) (by first | exact W0 | omega) (by exact SU.out) _ _).mono ?_; rintro e w' ⟨rfl, hx⟩))
        all_goals
          go_ret2
          exact HF.out _ hx _ (by first | (simp [*]; done) | (exfalso; simp_all; done))
end Go.Proofs.Ytdjgafcniifmlaa
