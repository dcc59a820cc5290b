/- Right (the reference's, quat's), Unit. -/
import Derived.Test.YtdjgafcniifmlaaA2
set_option linter.unusedVariables false
namespace Go.Proofs.Ytdjgafcniifmlaa
open Go.RowKit

def inB (x : Int) : Bool := decide (-70368744177664 ≤ x ∧ x ≤ 70368744177663)
theorem inB_calls (a : Int) (w : World) : Calls Try.prog 22 #[.int .i64 a] w fun e w' => e = .returned (.bool (inB a)) ∧ w = w' := In_calls a w
def nth4 (a b c d : Int) : Nat → Int
  | 0 => a
  | 1 => b
  | 2 => c
  | _ => d
def allIn (a b c d : Int) : Nat → Bool
  | 0 => true
  | k + 1 => allIn a b c d k && inB (nth4 a b c d k)
def right4 (a b c d : Int) : Bool := allIn a b c d 4

theorem right4_no (a b c d : Int) (k : Nat) (hk : k < 4) (h : ¬ inB (nth4 a b c d k) = true) : right4 a b c d = false := by
  have e : inB (nth4 a b c d k) = false := by simpa using h
  have : k = 0 ∨ k = 1 ∨ k = 2 ∨ k = 3 := by omega
  unfold right4
  rcases this with rfl | rfl | rfl | rfl <;> simp [allIn, e]

set_option maxHeartbeats 1000000 in
theorem refRight_calls (a b c d : Int) (w : World) :
    Calls Try.prog 14 #[.agg #[.int .i64 a, .int .i64 b, .int .i64 c, .int .i64 d]] w fun e w' => e = .returned (.bool (right4 a b c d)) ∧ Ext w w' := by
  have FIN := Lib.hid (right4_no a b c d)
  go_enter Try.func14, Try.ntmps14
  go_wp2
  have st := (Own.start w).push #[.int .i64 a, .int .i64 b, .int .i64 c, .int .i64 d] 24 _ rfl
  replace st : Own w _ [w.heap.size] [(#[.int .i64 a, .int .i64 b, .int .i64 c, .int .i64 d], 24)] := st
  obtain ⟨bq, hbq⟩ : ∃ bq, bq = w.heap.size := ⟨_, rfl⟩
  rw [← hbq] at st ⊢
  clear hbq
  go_loopw [3] (fun iv wr => ∃ k : Nat, k ≤ 4 ∧ iv = .int .i64 k ∧ Hid (Own w wr [bq] [(#[.int .i64 a, .int .i64 b, .int .i64 c, .int .i64 d], 24)]) ∧ Hid (allIn a b c d k = true)) (fun iv _ => 4 - (intOf iv).toNat)
  case atStart => exact ⟨0, by omega, rfl, st, rfl⟩
  case round =>
    clear st
    obtain ⟨k, hk, rfl, st, hp⟩ := hrel
    have : k = 0 ∨ k = 1 ∨ k = 2 ∨ k = 3 ∨ k = 4 := by omega
    rcases this with rfl | rfl | rfl | rfl | rfl
    · -- round 0
      have kc : wr.cell? ⟨bq, 0, none⟩ = some (.int .i64 a) := st.out.cell 0 rfl rfl 0
      cases h : inB a
      rotate_left
      · go_wp2_with (first | (go_at_call 22; refine (inB_calls _ _).mono ?_; rintro e w2 ⟨rfl, rfl⟩))
        go_roundw
        case rel => exact ⟨1, by omega, by go_num, st, Lib.hid (by rw [allIn, hp.out]; simp [nth4, h])⟩
        case measure => simp [intOf]
      · go_wp2_with (first | (go_at_call 22; refine (inB_calls _ _).mono ?_; rintro e w2 ⟨rfl, rfl⟩))
        go_ret
        exact ⟨by rw [FIN.out 0 (by omega) (by simp [nth4, h])]; rfl, st.out.x⟩
    · -- round 1
      have kc : wr.cell? ⟨bq, 1, none⟩ = some (.int .i64 b) := st.out.cell 0 rfl rfl 1
      cases h : inB b
      rotate_left
      · go_wp2_with (first | (go_at_call 22; refine (inB_calls _ _).mono ?_; rintro e w2 ⟨rfl, rfl⟩))
        go_roundw
        case rel => exact ⟨2, by omega, by go_num, st, Lib.hid (by rw [allIn, hp.out]; simp [nth4, h])⟩
        case measure => simp [intOf]
      · go_wp2_with (first | (go_at_call 22; refine (inB_calls _ _).mono ?_; rintro e w2 ⟨rfl, rfl⟩))
        go_ret
        exact ⟨by rw [FIN.out 1 (by omega) (by simp [nth4, h])]; rfl, st.out.x⟩
    · -- round 2
      have kc : wr.cell? ⟨bq, 2, none⟩ = some (.int .i64 c) := st.out.cell 0 rfl rfl 2
      cases h : inB c
      rotate_left
      · go_wp2_with (first | (go_at_call 22; refine (inB_calls _ _).mono ?_; rintro e w2 ⟨rfl, rfl⟩))
        go_roundw
        case rel => exact ⟨3, by omega, by go_num, st, Lib.hid (by rw [allIn, hp.out]; simp [nth4, h])⟩
        case measure => simp [intOf]
      · go_wp2_with (first | (go_at_call 22; refine (inB_calls _ _).mono ?_; rintro e w2 ⟨rfl, rfl⟩))
        go_ret
        exact ⟨by rw [FIN.out 2 (by omega) (by simp [nth4, h])]; rfl, st.out.x⟩
    · -- round 3
      have kc : wr.cell? ⟨bq, 3, none⟩ = some (.int .i64 d) := st.out.cell 0 rfl rfl 3
      cases h : inB d
      rotate_left
      · go_wp2_with (first | (go_at_call 22; refine (inB_calls _ _).mono ?_; rintro e w2 ⟨rfl, rfl⟩))
        go_roundw
        case rel => exact ⟨4, by omega, by go_num, st, Lib.hid (by rw [allIn, hp.out]; simp [nth4, h])⟩
        case measure => simp [intOf]
      · go_wp2_with (first | (go_at_call 22; refine (inB_calls _ _).mono ?_; rintro e w2 ⟨rfl, rfl⟩))
        go_ret
        exact ⟨by rw [FIN.out 3 (by omega) (by simp [nth4, h])]; rfl, st.out.x⟩
    · go_wp2
      go_ret
      exact ⟨by rw [right4, hp.out]; rfl, st.out.x⟩

set_option maxHeartbeats 1000000 in
theorem quatRight_calls (a b c d : Int) (w : World) :
    Calls Try.prog 29 #[.agg #[.int .i64 a, .int .i64 b, .int .i64 c, .int .i64 d]] w fun e w' => e = .returned (.bool (right4 a b c d)) ∧ Ext w w' := by
  have FIN := Lib.hid (right4_no a b c d)
  go_enter Try.func29, Try.ntmps29
  go_wp2
  have st := (Own.start w).push #[.int .i64 a, .int .i64 b, .int .i64 c, .int .i64 d] 24 _ rfl
  replace st : Own w _ [w.heap.size] [(#[.int .i64 a, .int .i64 b, .int .i64 c, .int .i64 d], 24)] := st
  obtain ⟨bq, hbq⟩ : ∃ bq, bq = w.heap.size := ⟨_, rfl⟩
  rw [← hbq] at st ⊢
  clear hbq
  go_loopw [6] (fun iv wr => ∃ k : Nat, k ≤ 4 ∧ iv = .int .i64 k ∧ Hid (Own w wr [bq] [(#[.int .i64 a, .int .i64 b, .int .i64 c, .int .i64 d], 24)]) ∧ Hid (allIn a b c d k = true)) (fun iv _ => 4 - (intOf iv).toNat)
  case atStart => exact ⟨0, by omega, rfl, st, rfl⟩
  case round =>
    clear st
    obtain ⟨k, hk, rfl, st, hp⟩ := hrel
    have : k = 0 ∨ k = 1 ∨ k = 2 ∨ k = 3 ∨ k = 4 := by omega
    rcases this with rfl | rfl | rfl | rfl | rfl
    · -- round 0
      have ix : ∀ w, (Instr.index 24 (.agg #[.int .i64 a, .int .i64 b, .int .i64 c, .int .i64 d]) (.int .i64 0)).run Try.prog w = .ok (.int .i64 a) w := fun _ => by kernel_rfl
      by_cases h : inB a = true
      · have h2 : -70368744177664 ≤ a ∧ a ≤ 70368744177663 := by simpa [inB] using h
        obtain ⟨h3, h4⟩ := h2
        clear h
        go_wp2
        go_roundw
        case rel => exact ⟨1, by omega, by go_num, st, Lib.hid (by rw [allIn, hp.out]; simp [nth4, inB, h3, h4])⟩
        case measure => simp [intOf]
      · have f := FIN.out 0 (by omega) (by simpa [nth4] using h)
        have h2 : ¬ (-70368744177664 ≤ a ∧ a ≤ 70368744177663) := by simpa [inB] using h
        have F := Lib.hid f
        clear h f
        by_cases h3 : a < -70368744177664
        · go_wp2
          go_ret
          exact ⟨by rw [F.out]; rfl, st.out.x⟩
        · have h4 : 70368744177663 < a := by omega
          clear h2
          go_wp2
          go_ret
          exact ⟨by rw [F.out]; rfl, st.out.x⟩
    · -- round 1
      have ix : ∀ w, (Instr.index 24 (.agg #[.int .i64 a, .int .i64 b, .int .i64 c, .int .i64 d]) (.int .i64 1)).run Try.prog w = .ok (.int .i64 b) w := fun _ => by kernel_rfl
      by_cases h : inB b = true
      · have h2 : -70368744177664 ≤ b ∧ b ≤ 70368744177663 := by simpa [inB] using h
        obtain ⟨h3, h4⟩ := h2
        clear h
        go_wp2
        go_roundw
        case rel => exact ⟨2, by omega, by go_num, st, Lib.hid (by rw [allIn, hp.out]; simp [nth4, inB, h3, h4])⟩
        case measure => simp [intOf]
      · have f := FIN.out 1 (by omega) (by simpa [nth4] using h)
        have h2 : ¬ (-70368744177664 ≤ b ∧ b ≤ 70368744177663) := by simpa [inB] using h
        have F := Lib.hid f
        clear h f
        by_cases h3 : b < -70368744177664
        · go_wp2
          go_ret
          exact ⟨by rw [F.out]; rfl, st.out.x⟩
        · have h4 : 70368744177663 < b := by omega
          clear h2
          go_wp2
          go_ret
          exact ⟨by rw [F.out]; rfl, st.out.x⟩
    · -- round 2
      have ix : ∀ w, (Instr.index 24 (.agg #[.int .i64 a, .int .i64 b, .int .i64 c, .int .i64 d]) (.int .i64 2)).run Try.prog w = .ok (.int .i64 c) w := fun _ => by kernel_rfl
      by_cases h : inB c = true
      · have h2 : -70368744177664 ≤ c ∧ c ≤ 70368744177663 := by simpa [inB] using h
        obtain ⟨h3, h4⟩ := h2
        clear h
        go_wp2
        go_roundw
        case rel => exact ⟨3, by omega, by go_num, st, Lib.hid (by rw [allIn, hp.out]; simp [nth4, inB, h3, h4])⟩
        case measure => simp [intOf]
      · have f := FIN.out 2 (by omega) (by simpa [nth4] using h)
        have h2 : ¬ (-70368744177664 ≤ c ∧ c ≤ 70368744177663) := by simpa [inB] using h
        have F := Lib.hid f
        clear h f
        by_cases h3 : c < -70368744177664
        · go_wp2
          go_ret
          exact ⟨by rw [F.out]; rfl, st.out.x⟩
        · have h4 : 70368744177663 < c := by omega
          clear h2
          go_wp2
          go_ret
          exact ⟨by rw [F.out]; rfl, st.out.x⟩
    · -- round 3
      have ix : ∀ w, (Instr.index 24 (.agg #[.int .i64 a, .int .i64 b, .int .i64 c, .int .i64 d]) (.int .i64 3)).run Try.prog w = .ok (.int .i64 d) w := fun _ => by kernel_rfl
      by_cases h : inB d = true
      · have h2 : -70368744177664 ≤ d ∧ d ≤ 70368744177663 := by simpa [inB] using h
        obtain ⟨h3, h4⟩ := h2
        clear h
        go_wp2
        go_roundw
        case rel => exact ⟨4, by omega, by go_num, st, Lib.hid (by rw [allIn, hp.out]; simp [nth4, inB, h3, h4])⟩
        case measure => simp [intOf]
      · have f := FIN.out 3 (by omega) (by simpa [nth4] using h)
        have h2 : ¬ (-70368744177664 ≤ d ∧ d ≤ 70368744177663) := by simpa [inB] using h
        have F := Lib.hid f
        clear h f
        by_cases h3 : d < -70368744177664
        · go_wp2
          go_ret
          exact ⟨by rw [F.out]; rfl, st.out.x⟩
        · have h4 : 70368744177663 < d := by omega
          clear h2
          go_wp2
          go_ret
          exact ⟨by rw [F.out]; rfl, st.out.x⟩
    · go_wp2
      go_ret
      exact ⟨by rw [right4, hp.out]; rfl, st.out.x⟩
end Go.Proofs.Ytdjgafcniifmlaa
