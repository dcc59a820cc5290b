/- Contracts of the small functions of qfix. -/
import Derived.Test.YtdjgafcniifmlaaRows
import Derived.Test.YtdjgafcniifmlaaE0
namespace Go.Proofs.Ytdjgafcniifmlaa
open Go.RowKit

def clampI (a : Int) : Int := if a < -70368744177664 then -70368744177664 else if 70368744177663 < a then 70368744177663 else a

theorem clamp_lo {a : Int} (h : a < -70368744177664) : clampI a = -70368744177664 := by unfold clampI; omega
theorem clamp_hi {a : Int} (h : 70368744177663 < a) : clampI a = 70368744177663 := by unfold clampI; omega
theorem clamp_in {a : Int} (h : -70368744177664 ≤ a) (h' : a ≤ 70368744177663) : clampI a = a := by unfold clampI; omega
theorem clamp_bd (a : Int) : -70368744177664 ≤ clampI a ∧ clampI a ≤ 70368744177663 := by unfold clampI; omega

def clampB (a : Int) : Bool := clampI a != a

theorem clamp_calls (a : Int) (w : World) :
    Calls Try.prog 42 #[.int .i64 a] w fun e w' => e = .returned (.tuple #[.int .i64 (clampI a), .bool (clampB a)]) ∧ w = w' := by
  by_cases h1 : a < -70368744177664
  · have e1 : (-70368744177664 != a) = true := by rw [bne_iff_ne]; omega
    go_enter Try.func42, Try.ntmps42
    go_wp2
    go_ret2
    exact ⟨by rw [clampB, clamp_lo h1, e1]; rfl, rfl⟩
  · by_cases h2 : 70368744177663 < a
    · have e1 : (70368744177663 != a) = true := by rw [bne_iff_ne]; omega
      go_enter Try.func42, Try.ntmps42
      go_wp2
      go_ret2
      exact ⟨by rw [clampB, clamp_hi h2, e1]; rfl, rfl⟩
    · have e1 : (a != a) = false := by simp
      go_enter Try.func42, Try.ntmps42
      go_wp2
      go_ret2
      exact ⟨by rw [clampB, clamp_in (by omega) (by omega), e1]; rfl, rfl⟩

theorem both_calls (a b : Int) (w : World) :
    Calls Try.prog 37 #[.int .i64 a, .int .i64 b] w fun e w' => e = .returned (.tuple #[.int .i64 (clampI a), .int .i64 (clampI b), .bool (clampB a || clampB b)]) ∧ w = w' := by
  go_enter Try.func37, Try.ntmps37
  go_wp2_with (first | (go_at_call 42; refine (clamp_calls _ _).mono ?_; rintro e w' ⟨rfl, rfl⟩))
  all_goals
    rename_i h
    go_ret3
    exact ⟨by simp [h], rfl⟩


def addI (a b : Int) : Int := clampI (clampI a + clampI b)
def addB (a b : Int) : Bool := clampB a || clampB b || clampB (clampI a + clampI b)
def subI (a b : Int) : Int := clampI (clampI a - clampI b)
def subB (a b : Int) : Bool := clampB a || clampB b || clampB (clampI a - clampI b)

theorem add_calls (a b : Int) (w : World) :
    Calls Try.prog 23 #[.int .i64 a, .int .i64 b] w fun e w' => e = .returned (.tuple #[.int .i64 (addI a b), .bool (addB a b)]) ∧ w = w' := by
  have ha := clamp_bd a
  have hb := clamp_bd b
  by_cases h : (clampB a || clampB b) = true
  all_goals
    go_enter Try.func23, Try.ntmps23
    go_wp2_with (first | (go_at_call 37; refine (both_calls _ _ _).mono ?_; rintro e w' ⟨rfl, rfl⟩) | (go_at_call 42; refine (clamp_calls _ _).mono ?_; rintro e w' ⟨rfl, rfl⟩))
    go_ret2
    exact ⟨by unfold addI addB; simp at h; simp [h], rfl⟩

theorem sub_calls (a b : Int) (w : World) :
    Calls Try.prog 24 #[.int .i64 a, .int .i64 b] w fun e w' => e = .returned (.tuple #[.int .i64 (subI a b), .bool (subB a b)]) ∧ w = w' := by
  have ha := clamp_bd a
  have hb := clamp_bd b
  by_cases h : (clampB a || clampB b) = true
  all_goals
    go_enter Try.func24, Try.ntmps24
    go_wp2_with (first | (go_at_call 37; refine (both_calls _ _ _).mono ?_; rintro e w' ⟨rfl, rfl⟩) | (go_at_call 42; refine (clamp_calls _ _).mono ?_; rintro e w' ⟨rfl, rfl⟩))
    go_ret2
    exact ⟨by unfold subI subB; simp at h; simp [h], rfl⟩

theorem size_calls (a : Int) (h0 : -70368744177664 ≤ a) (h1 : a ≤ 70368744177663) (w : World) :
    Calls Try.prog 39 #[.int .i64 a] w fun e w' => e = .returned (.int .u64 (a.natAbs : Int)) ∧ w = w' := by
  by_cases h : a < 0
  · have e1 : -a = (a.natAbs : Int) := by omega
    go_enter Try.func39, Try.ntmps39
    go_wp2
    go_ret
    exact ⟨by rw [← e1]; rfl, rfl⟩
  · have e1 : a = (a.natAbs : Int) := by omega
    have E1 := Lib.hid e1
    clear e1
    go_enter Try.func39, Try.ntmps39
    go_wp2
    go_ret
    exact ⟨by rw [← E1.out]; rfl, rfl⟩

theorem In_calls (a : Int) (w : World) :
    Calls Try.prog 22 #[.int .i64 a] w fun e w' => e = .returned (.bool (decide (-70368744177664 ≤ a ∧ a ≤ 70368744177663))) ∧ w = w' := by
  by_cases h : a < -70368744177664
  all_goals
    go_enter Try.func22, Try.ntmps22
    go_wp2
    go_ret
    exact ⟨by simp; try omega, rfl⟩

def ofI (n : Int) : Int := if 4194303 < n then 70368744177663 else if n < -4194304 then -70368744177664 else n * 16777216
def ofB (n : Int) : Bool := decide (4194303 < n ∨ n < -4194304)

theorem Of_calls (a : Int) (w : World) :
    Calls Try.prog 26 #[.int .i64 a] w fun e w' => e = .returned (.tuple #[.int .i64 (ofI a), .bool (ofB a)]) ∧ w = w' := by
  have hh : Hid (∀ x, ofI x = if 4194303 < x then 70368744177663 else if x < -4194304 then -70368744177664 else x * 16777216) := fun _ => rfl
  have hg : Hid (∀ x, ofB x = decide (4194303 < x ∨ x < -4194304)) := fun _ => rfl
  by_cases h1 : 4194303 < a
  · go_enter Try.func26, Try.ntmps26
    go_wp2
    go_ret2
    exact ⟨by rw [hh.out, hg.out]; simp [h1], rfl⟩
  · by_cases h2 : a < -4194304
    · go_enter Try.func26, Try.ntmps26
      go_wp2
      go_ret2
      exact ⟨by rw [hh.out, hg.out]; simp [h1, h2], rfl⟩
    · go_enter Try.func26, Try.ntmps26
      go_wp2
      go_ret2
      exact ⟨by rw [hh.out, hg.out, if_neg (by omega), if_neg (by omega)]; simp; omega, rfl⟩

/-- A size with a sign. -/
def sg (b : Bool) (n : Int) : Int := if b then -n else n

theorem signed_calls (h l : Int) (b : Bool) (h0 : 0 ≤ h) (l0 : 0 ≤ l) (w : World) :
    Calls Try.prog 40 #[.int .u64 h, .int .u64 l, .bool b] w fun e w' => e = .returned (.tuple #[.int .i64 (clampI (sg b (h * 18446744073709551616 + l))), .bool (clampB (sg b (h * 18446744073709551616 + l)))]) ∧ Ext w w' := by
  have hmf : ∀ (fn : Fn) (first cap : Array Value) (w : World), (Instr.makeFunc fn first cap).run Try.prog w = .ok (.func fn first cap) w := fun _ _ _ _ => rfl
  by_cases hh : h = 0
  · subst hh
    rw [show 0 * 18446744073709551616 + l = l from by omega]
    by_cases hl : 70368744177664 < l
    · cases b
      · have e1 : clampI (sg false l) = 70368744177663 := clamp_hi (by simp [sg]; omega)
        have e2 : clampB (sg false l) = true := by rw [clampB, e1, bne_iff_ne]; simp [sg]; omega
        rw [e1, e2]
        clear e1 e2
        go_enter Try.func40, Try.ntmps40
        go_wp2_with (first | (go_at_call 42; refine (clamp_calls _ _).mono ?_; rintro e w' ⟨rfl, rfl⟩) | go_in)
        go_ret2
        exact ⟨rfl, (Ext.refl _).alloc _ _⟩
      · have e1 : clampI (sg true l) = -70368744177664 := clamp_lo (by simp [sg]; omega)
        have e2 : clampB (sg true l) = true := by rw [clampB, e1, bne_iff_ne]; simp [sg]; omega
        rw [e1, e2]
        clear e1 e2
        go_enter Try.func40, Try.ntmps40
        go_wp2_with (first | (go_at_call 42; refine (clamp_calls _ _).mono ?_; rintro e w' ⟨rfl, rfl⟩) | go_in)
        go_ret2
        exact ⟨rfl, (Ext.refl _).alloc _ _⟩
    · cases b
      · rw [show sg false l = l from rfl]
        go_enter Try.func40, Try.ntmps40
        go_wp2_with (first | (go_at_call 42; refine (clamp_calls _ _).mono ?_; rintro e w' ⟨rfl, rfl⟩) | go_in)
        go_ret2
        exact ⟨rfl, (Ext.refl _).alloc _ _⟩
      · rw [show sg true l = -l from rfl]
        go_enter Try.func40, Try.ntmps40
        go_wp2_with (first | (go_at_call 42; refine (clamp_calls _ _).mono ?_; rintro e w' ⟨rfl, rfl⟩) | go_in)
        go_ret2
        exact ⟨rfl, (Ext.refl _).alloc _ _⟩
  · cases b
    · have e1 : clampI (sg false (h * 18446744073709551616 + l)) = 70368744177663 := clamp_hi (by simp [sg]; omega)
      have e2 : clampB (sg false (h * 18446744073709551616 + l)) = true := by rw [clampB, e1, bne_iff_ne]; simp [sg]; omega
      rw [e1, e2]
      clear e1 e2
      go_enter Try.func40, Try.ntmps40
      go_wp2_with (first | (go_at_call 42; refine (clamp_calls _ _).mono ?_; rintro e w' ⟨rfl, rfl⟩) | go_in)
      go_ret2
      exact ⟨rfl, (Ext.refl _).alloc _ _⟩
    · have e1 : clampI (sg true (h * 18446744073709551616 + l)) = -70368744177664 := clamp_lo (by simp [sg]; omega)
      have e2 : clampB (sg true (h * 18446744073709551616 + l)) = true := by rw [clampB, e1, bne_iff_ne]; simp [sg]; omega
      rw [e1, e2]
      clear e1 e2
      go_enter Try.func40, Try.ntmps40
      go_wp2_with (first | (go_at_call 42; refine (clamp_calls _ _).mono ?_; rintro e w' ⟨rfl, rfl⟩) | go_in)
      go_ret2
      exact ⟨rfl, (Ext.refl _).alloc _ _⟩

end Go.Proofs.Ytdjgafcniifmlaa
