/- QuatUnits walked. -/
import Derived.Test.YtdjgafcniifmlaaA6
set_option linter.unusedVariables false
namespace Go.Proofs.Ytdjgafcniifmlaa
open Go.RowKit

set_option maxHeartbeats 2000000 in
theorem units_gen (q0 q1 q2 q3 u0 u1 u2 u3 n : Int) (fu fn : Bool)
    (HS : Hid (∀ w, Calls Try.prog 13 #[] w fun e w' => e = .returned (.bool true) ∧ Ext w w'))
    (HU : Hid (∀ w, Calls Try.prog 27 #[.agg #[.int .i64 q0, .int .i64 q1, .int .i64 q2, .int .i64 q3]] w fun e w' => e = .returned (.tuple #[.agg #[.int .i64 u0, .int .i64 u1, .int .i64 u2, .int .i64 u3], .bool fu]) ∧ Ext w w')) (HR : Hid (∀ w, Calls Try.prog 14 #[.agg #[.int .i64 u0, .int .i64 u1, .int .i64 u2, .int .i64 u3]] w fun e w' => e = .returned (.bool true) ∧ Ext w w')) (HN : Hid (∀ w, Calls Try.prog 18 #[.agg #[.int .i64 u0, .int .i64 u1, .int .i64 u2, .int .i64 u3]] w fun e w' => e = .returned (.tuple #[.int .i64 n, .bool fn]) ∧ Ext w w'))
    (HF : Hid (-8589934592 ≤ q0 → q0 ≤ 8589934592 → -8589934592 ≤ q1 → q1 ≤ 8589934592 → -8589934592 ≤ q2 → q2 ≤ 8589934592 → -8589934592 ≤ q3 → q3 ≤ 8589934592 → (4194304 ≤ q0 ∨ q0 ≤ -4194304 ∨ 4194304 ≤ q1 ∨ q1 ≤ -4194304 ∨ 4194304 ≤ q2 ∨ q2 ≤ -4194304 ∨ 4194304 ≤ q3 ∨ q3 ≤ -4194304) → 16776960 ≤ n ∧ n ≤ 16777472))
    (w : World) :
    Calls Try.prog 11 #[.agg #[.int .i64 q0, .int .i64 q1, .int .i64 q2, .int .i64 q3]] w fun e w' => e = .returned (.bool true) ∧ Ext w w' := by
  go_enter Try.func11, Try.ntmps11
  go_wp2_with fail
  have st := (Own.start w).push #[.int .i64 q0, .int .i64 q1, .int .i64 q2, .int .i64 q3] 24 _ rfl
  replace st : Own w _ [w.heap.size] [(#[.int .i64 q0, .int .i64 q1, .int .i64 q2, .int .i64 q3], 24)] := st
  obtain ⟨bq, hbq⟩ : ∃ bq, bq = w.heap.size := ⟨_, rfl⟩
  rw [← hbq] at st ⊢
  clear hbq
  refine (HS.out _).mono ?_
  rintro e w1 ⟨rfl, hx⟩
  replace st := st.ext hx
  clear hx
  have kq := st.cell 0 rfl rfl
  go_wp2_with fail
  clear kq
  refine (HU.out _).mono ?_
  rintro e w2 ⟨rfl, hx⟩
  replace st := st.ext hx
  clear hx
  go_wp2_with fail
  replace st := st.push #[.int .i64 u0, .int .i64 u1, .int .i64 u2, .int .i64 u3] 24 _ rfl
  replace st : Own w _ [bq, w2.heap.size] [(#[.int .i64 q0, .int .i64 q1, .int .i64 q2, .int .i64 q3], 24), (#[.int .i64 u0, .int .i64 u1, .int .i64 u2, .int .i64 u3], 24)] := st
  refine (HR.out _).mono ?_
  rintro e w3 ⟨rfl, hx⟩
  replace st := st.ext hx
  clear hx
  generalize w2.heap.size = bu at *
  go_wp2
  replace st := Lib.hid st
  go_loopw [6, 7] (fun bv iv wr => ∃ (k : Nat) (b : Bool), k ≤ 4 ∧ iv = .int .i64 k ∧ bv = .bool b ∧ Hid (Own w wr [bq, bu] [(#[.int .i64 q0, .int .i64 q1, .int .i64 q2, .int .i64 q3], 24), (#[.int .i64 u0, .int .i64 u1, .int .i64 u2, .int .i64 u3], 24)]) ∧ Hid ((1 ≤ k → -8589934592 ≤ q0 ∧ q0 ≤ 8589934592) ∧ (2 ≤ k → -8589934592 ≤ q1 ∧ q1 ≤ 8589934592) ∧ (3 ≤ k → -8589934592 ≤ q2 ∧ q2 ≤ 8589934592) ∧ (4 ≤ k → -8589934592 ≤ q3 ∧ q3 ≤ 8589934592)) ∧ Hid (b = true → (4194304 ≤ q0 ∨ q0 ≤ -4194304 ∨ 4194304 ≤ q1 ∨ q1 ≤ -4194304 ∨ 4194304 ≤ q2 ∨ q2 ≤ -4194304 ∨ 4194304 ≤ q3 ∨ q3 ≤ -4194304))) (fun bv iv _ => 4 - (intOf iv).toNat)
  case atStart => exact ⟨0, false, by omega, rfl, rfl, st, Lib.hid ⟨fun h => absurd h (by omega), fun h => absurd h (by omega), fun h => absurd h (by omega), fun h => absurd h (by omega)⟩, Lib.hid (fun h => by cases h)⟩
  case round =>
    clear st
    obtain ⟨k, b, hk, rfl, rfl, st, hp, hb⟩ := hrel
    have : k = 0 ∨ k = 1 ∨ k = 2 ∨ k = 3 ∨ k = 4 := by omega
    rcases this with rfl | rfl | rfl | rfl | rfl
    · -- round 0
      have kq := st.out.cell 0 rfl rfl 0
      by_cases h1 : 8589934592 < q0
      · go_wp2
        go_ret
        exact ⟨rfl, st.out.x⟩
      · by_cases h2 : q0 < -8589934592
        · go_wp2
          go_ret
          exact ⟨rfl, st.out.x⟩
        · cases b
          · by_cases h3 : 4194304 ≤ q0
            · go_wp2
              go_roundw
              case rel => exact ⟨1, true, by omega, by go_num, rfl, st, Lib.hid ⟨fun h => ⟨by omega, by omega⟩, fun h => absurd h (by omega), fun h => absurd h (by omega), fun h => absurd h (by omega)⟩, Lib.hid (fun _ => by omega)⟩
              case measure => simp [intOf]
            · by_cases h4 : q0 ≤ -4194304
              · go_wp2
                go_roundw
                case rel => exact ⟨1, true, by omega, by go_num, rfl, st, Lib.hid ⟨fun h => ⟨by omega, by omega⟩, fun h => absurd h (by omega), fun h => absurd h (by omega), fun h => absurd h (by omega)⟩, Lib.hid (fun _ => by omega)⟩
                case measure => simp [intOf]
              · go_wp2
                go_roundw
                case rel => exact ⟨1, false, by omega, by go_num, rfl, st, Lib.hid ⟨fun h => ⟨by omega, by omega⟩, fun h => absurd h (by omega), fun h => absurd h (by omega), fun h => absurd h (by omega)⟩, Lib.hid (fun h => by cases h)⟩
                case measure => simp [intOf]
          · go_wp2
            go_roundw
            case rel => exact ⟨1, true, by omega, by go_num, rfl, st, Lib.hid ⟨fun h => ⟨by omega, by omega⟩, fun h => absurd h (by omega), fun h => absurd h (by omega), fun h => absurd h (by omega)⟩, Lib.hid hb.out⟩
            case measure => simp [intOf]
    · -- round 1
      have kq := st.out.cell 0 rfl rfl 1
      by_cases h1 : 8589934592 < q1
      · go_wp2
        go_ret
        exact ⟨rfl, st.out.x⟩
      · by_cases h2 : q1 < -8589934592
        · go_wp2
          go_ret
          exact ⟨rfl, st.out.x⟩
        · cases b
          · by_cases h3 : 4194304 ≤ q1
            · go_wp2
              go_roundw
              case rel => exact ⟨2, true, by omega, by go_num, rfl, st, Lib.hid ⟨fun h => hp.out.1 (by omega), fun h => ⟨by omega, by omega⟩, fun h => absurd h (by omega), fun h => absurd h (by omega)⟩, Lib.hid (fun _ => by omega)⟩
              case measure => simp [intOf]
            · by_cases h4 : q1 ≤ -4194304
              · go_wp2
                go_roundw
                case rel => exact ⟨2, true, by omega, by go_num, rfl, st, Lib.hid ⟨fun h => hp.out.1 (by omega), fun h => ⟨by omega, by omega⟩, fun h => absurd h (by omega), fun h => absurd h (by omega)⟩, Lib.hid (fun _ => by omega)⟩
                case measure => simp [intOf]
              · go_wp2
                go_roundw
                case rel => exact ⟨2, false, by omega, by go_num, rfl, st, Lib.hid ⟨fun h => hp.out.1 (by omega), fun h => ⟨by omega, by omega⟩, fun h => absurd h (by omega), fun h => absurd h (by omega)⟩, Lib.hid (fun h => by cases h)⟩
                case measure => simp [intOf]
          · go_wp2
            go_roundw
            case rel => exact ⟨2, true, by omega, by go_num, rfl, st, Lib.hid ⟨fun h => hp.out.1 (by omega), fun h => ⟨by omega, by omega⟩, fun h => absurd h (by omega), fun h => absurd h (by omega)⟩, Lib.hid hb.out⟩
            case measure => simp [intOf]
    · -- round 2
      have kq := st.out.cell 0 rfl rfl 2
      by_cases h1 : 8589934592 < q2
      · go_wp2
        go_ret
        exact ⟨rfl, st.out.x⟩
      · by_cases h2 : q2 < -8589934592
        · go_wp2
          go_ret
          exact ⟨rfl, st.out.x⟩
        · cases b
          · by_cases h3 : 4194304 ≤ q2
            · go_wp2
              go_roundw
              case rel => exact ⟨3, true, by omega, by go_num, rfl, st, Lib.hid ⟨fun h => hp.out.1 (by omega), fun h => hp.out.2.1 (by omega), fun h => ⟨by omega, by omega⟩, fun h => absurd h (by omega)⟩, Lib.hid (fun _ => by omega)⟩
              case measure => simp [intOf]
            · by_cases h4 : q2 ≤ -4194304
              · go_wp2
                go_roundw
                case rel => exact ⟨3, true, by omega, by go_num, rfl, st, Lib.hid ⟨fun h => hp.out.1 (by omega), fun h => hp.out.2.1 (by omega), fun h => ⟨by omega, by omega⟩, fun h => absurd h (by omega)⟩, Lib.hid (fun _ => by omega)⟩
                case measure => simp [intOf]
              · go_wp2
                go_roundw
                case rel => exact ⟨3, false, by omega, by go_num, rfl, st, Lib.hid ⟨fun h => hp.out.1 (by omega), fun h => hp.out.2.1 (by omega), fun h => ⟨by omega, by omega⟩, fun h => absurd h (by omega)⟩, Lib.hid (fun h => by cases h)⟩
                case measure => simp [intOf]
          · go_wp2
            go_roundw
            case rel => exact ⟨3, true, by omega, by go_num, rfl, st, Lib.hid ⟨fun h => hp.out.1 (by omega), fun h => hp.out.2.1 (by omega), fun h => ⟨by omega, by omega⟩, fun h => absurd h (by omega)⟩, Lib.hid hb.out⟩
            case measure => simp [intOf]
    · -- round 3
      have kq := st.out.cell 0 rfl rfl 3
      by_cases h1 : 8589934592 < q3
      · go_wp2
        go_ret
        exact ⟨rfl, st.out.x⟩
      · by_cases h2 : q3 < -8589934592
        · go_wp2
          go_ret
          exact ⟨rfl, st.out.x⟩
        · cases b
          · by_cases h3 : 4194304 ≤ q3
            · go_wp2
              go_roundw
              case rel => exact ⟨4, true, by omega, by go_num, rfl, st, Lib.hid ⟨fun h => hp.out.1 (by omega), fun h => hp.out.2.1 (by omega), fun h => hp.out.2.2.1 (by omega), fun h => ⟨by omega, by omega⟩⟩, Lib.hid (fun _ => by omega)⟩
              case measure => simp [intOf]
            · by_cases h4 : q3 ≤ -4194304
              · go_wp2
                go_roundw
                case rel => exact ⟨4, true, by omega, by go_num, rfl, st, Lib.hid ⟨fun h => hp.out.1 (by omega), fun h => hp.out.2.1 (by omega), fun h => hp.out.2.2.1 (by omega), fun h => ⟨by omega, by omega⟩⟩, Lib.hid (fun _ => by omega)⟩
                case measure => simp [intOf]
              · go_wp2
                go_roundw
                case rel => exact ⟨4, false, by omega, by go_num, rfl, st, Lib.hid ⟨fun h => hp.out.1 (by omega), fun h => hp.out.2.1 (by omega), fun h => hp.out.2.2.1 (by omega), fun h => ⟨by omega, by omega⟩⟩, Lib.hid (fun h => by cases h)⟩
                case measure => simp [intOf]
          · go_wp2
            go_roundw
            case rel => exact ⟨4, true, by omega, by go_num, rfl, st, Lib.hid ⟨fun h => hp.out.1 (by omega), fun h => hp.out.2.1 (by omega), fun h => hp.out.2.2.1 (by omega), fun h => ⟨by omega, by omega⟩⟩, Lib.hid hb.out⟩
            case measure => simp [intOf]
    · -- the end
      replace st := st.out
      have ku := st.cell 1 rfl rfl
      go_wp2_with fail
      refine (HN.out _).mono ?_
      rintro e w4 ⟨rfl, hx⟩
      replace st := st.ext hx
      clear hx ku
      cases b
      · go_wp2
        go_ret
        exact ⟨rfl, st.x⟩
      · obtain ⟨⟨a0, a1⟩, ⟨b0, b1⟩, ⟨c0, c1⟩, ⟨d0, d1⟩⟩ : (-8589934592 ≤ q0 ∧ q0 ≤ 8589934592) ∧ (-8589934592 ≤ q1 ∧ q1 ≤ 8589934592) ∧ (-8589934592 ≤ q2 ∧ q2 ≤ 8589934592) ∧ (-8589934592 ≤ q3 ∧ q3 ≤ 8589934592) := ⟨hp.out.1 (by omega), hp.out.2.1 (by omega), hp.out.2.2.1 (by omega), hp.out.2.2.2 (by omega)⟩
        obtain ⟨m1, m2⟩ := HF.out a0 a1 b0 b1 c0 c1 d0 d1 (hb.out rfl)
        clear a0 a1 b0 b1 c0 c1 d0 d1
        go_wp2
        go_ret
        exact ⟨rfl, st.x⟩
end Go.Proofs.Ytdjgafcniifmlaa
