/- QuatSmalls walked. -/
import Derived.Test.YtdjgafcniifmlaaA6
import Derived.Deep.CutRange
set_option linter.unusedVariables false
namespace Go.Proofs.Ytdjgafcniifmlaa
open Go.RowKit

set_option maxHeartbeats 2000000 in
theorem smalls_gen (v0 v1 v2 by1 u0 u1 u2 u3 n : Int) (odd fn : Bool)
    (HS : Hid (∀ w, Calls Try.prog 13 #[] w fun e w' => e = .returned (.bool true) ∧ Ext w w'))
    (H0 : Hid (∀ w, Calls Try.prog 28 #[.agg #[.int .i64 v0, .int .i64 v1, .int .i64 v2], .int .i64 0] w fun e w' => e = .returned (.tuple #[.agg #[.int .i64 16777216, .int .i64 0, .int .i64 0, .int .i64 0], .bool odd]) ∧ Ext w w')) (HR : Hid (odd = true → (∀ w, Calls Try.prog 14 #[.agg #[.int .i64 0, .int .i64 v0, .int .i64 v1, .int .i64 v2]] w fun e w' => e = .returned (.bool false) ∧ Ext w w')))
    (HF : Hid ((-268435456 ≤ v0 ∧ v0 ≤ 268435456) → (-268435456 ≤ v1 ∧ v1 ≤ 268435456) → (-268435456 ≤ v2 ∧ v2 ≤ 268435456) → (-268435456 ≤ by1 ∧ by1 ≤ 268435456) →
      (∀ w, Calls Try.prog 28 #[.agg #[.int .i64 v0, .int .i64 v1, .int .i64 v2], .int .i64 by1] w fun e w' => e = .returned (.tuple #[.agg #[.int .i64 u0, .int .i64 u1, .int .i64 u2, .int .i64 u3], .bool false]) ∧ Ext w w') ∧ (∀ w, Calls Try.prog 18 #[.agg #[.int .i64 u0, .int .i64 u1, .int .i64 u2, .int .i64 u3]] w fun e w' => e = .returned (.tuple #[.int .i64 n, .bool fn]) ∧ Ext w w') ∧ 16776960 ≤ n ∧ n ≤ 16777472))
    (w : World) :
    Calls Try.prog 12 #[.agg #[.int .i64 v0, .int .i64 v1, .int .i64 v2], .int .i64 by1] w fun e w' => e = .returned (.bool true) ∧ Ext w w' := by
  have he4 := eq4_same
  go_enter Try.func12, Try.ntmps12
  go_wp2_with fail
  have st := (Own.start w).push #[.int .i64 v0, .int .i64 v1, .int .i64 v2] 26 _ rfl
  replace st : Own w _ [w.heap.size] [(#[.int .i64 v0, .int .i64 v1, .int .i64 v2], 26)] := st
  obtain ⟨bv, hbv⟩ : ∃ bv, bv = w.heap.size := ⟨_, rfl⟩
  rw [← hbv] at st ⊢
  clear hbv
  refine (HS.out _).mono ?_
  rintro e w1 ⟨rfl, hx⟩
  replace st := st.ext hx
  clear hx
  have kv := st.cell 0 rfl rfl
  go_wp2_with fail
  clear kv
  refine (H0.out _).mono ?_
  rintro e w2 ⟨rfl, hx⟩
  replace st := st.ext hx
  clear hx
  have kv := st.cell 0 rfl rfl
  have nv := st.lt 0 rfl
  cases odd
  · go_upto_region 5 with fail
    replace st := st.push #[.int .i64 16777216, .int .i64 0, .int .i64 0, .int .i64 0] 24 _ rfl
    replace st : Own w _ [bv, w2.heap.size] [(#[.int .i64 v0, .int .i64 v1, .int .i64 v2], 26), (#[.int .i64 16777216, .int .i64 0, .int .i64 0, .int .i64 0], 24)] := st
    clear kv nv
    generalize w2.heap.size = bo at *
    go_wp2
    replace st := Lib.hid st
    go_loopw [8] (fun iv wr => ∃ k : Nat, k ≤ 3 ∧ iv = .int .i64 k ∧ Hid (Own w wr [bv, bo] [(#[.int .i64 v0, .int .i64 v1, .int .i64 v2], 26), (#[.int .i64 16777216, .int .i64 0, .int .i64 0, .int .i64 0], 24)]) ∧ Hid ((1 ≤ k → (-268435456 ≤ v0 ∧ v0 ≤ 268435456) ∧ (-268435456 ≤ by1 ∧ by1 ≤ 268435456)) ∧ (2 ≤ k → (-268435456 ≤ v1 ∧ v1 ≤ 268435456) ∧ (-268435456 ≤ by1 ∧ by1 ≤ 268435456)) ∧ (3 ≤ k → (-268435456 ≤ v2 ∧ v2 ≤ 268435456) ∧ (-268435456 ≤ by1 ∧ by1 ≤ 268435456)))) (fun iv _ => 3 - (intOf iv).toNat)
    case atStart => exact ⟨0, by omega, rfl, st, Lib.hid ⟨fun h => absurd h (by omega), fun h => absurd h (by omega), fun h => absurd h (by omega)⟩⟩
    case round =>
      clear st
      obtain ⟨k, hk, rfl, st, hp⟩ := hrel
      have : k = 0 ∨ k = 1 ∨ k = 2 ∨ k = 3 := by omega
      rcases this with rfl | rfl | rfl | rfl
      · -- round 0
        have kv := st.out.cell 0 rfl rfl 0
        by_cases h1 : 268435456 < v0
        · go_wp2
          go_ret
          exact ⟨rfl, st.out.x⟩
        by_cases h2 : v0 < -268435456
        · go_wp2
          go_ret
          exact ⟨rfl, st.out.x⟩
        by_cases h3 : 268435456 < by1
        · go_wp2
          go_ret
          exact ⟨rfl, st.out.x⟩
        by_cases h4 : by1 < -268435456
        · go_wp2
          go_ret
          exact ⟨rfl, st.out.x⟩
        go_wp2
        go_roundw
        case rel => exact ⟨1, by omega, by go_num, st, Lib.hid ⟨fun h => ⟨⟨by omega, by omega⟩, ⟨by omega, by omega⟩⟩, fun h => absurd h (by omega), fun h => absurd h (by omega)⟩⟩
        case measure => simp [intOf]
      · -- round 1
        have kv := st.out.cell 0 rfl rfl 1
        by_cases h1 : 268435456 < v1
        · go_wp2
          go_ret
          exact ⟨rfl, st.out.x⟩
        by_cases h2 : v1 < -268435456
        · go_wp2
          go_ret
          exact ⟨rfl, st.out.x⟩
        by_cases h3 : 268435456 < by1
        · go_wp2
          go_ret
          exact ⟨rfl, st.out.x⟩
        by_cases h4 : by1 < -268435456
        · go_wp2
          go_ret
          exact ⟨rfl, st.out.x⟩
        go_wp2
        go_roundw
        case rel => exact ⟨2, by omega, by go_num, st, Lib.hid ⟨fun h => hp.out.1 (by omega), fun h => ⟨⟨by omega, by omega⟩, ⟨by omega, by omega⟩⟩, fun h => absurd h (by omega)⟩⟩
        case measure => simp [intOf]
      · -- round 2
        have kv := st.out.cell 0 rfl rfl 2
        by_cases h1 : 268435456 < v2
        · go_wp2
          go_ret
          exact ⟨rfl, st.out.x⟩
        by_cases h2 : v2 < -268435456
        · go_wp2
          go_ret
          exact ⟨rfl, st.out.x⟩
        by_cases h3 : 268435456 < by1
        · go_wp2
          go_ret
          exact ⟨rfl, st.out.x⟩
        by_cases h4 : by1 < -268435456
        · go_wp2
          go_ret
          exact ⟨rfl, st.out.x⟩
        go_wp2
        go_roundw
        case rel => exact ⟨3, by omega, by go_num, st, Lib.hid ⟨fun h => hp.out.1 (by omega), fun h => hp.out.2.1 (by omega), fun h => ⟨⟨by omega, by omega⟩, ⟨by omega, by omega⟩⟩⟩⟩
        case measure => simp [intOf]
      · -- the end
        obtain ⟨HSm, HN, m1, m2⟩ := HF.out (hp.out.1 (by omega)).1 (hp.out.2.1 (by omega)).1 (hp.out.2.2 (by omega)).1 (hp.out.1 (by omega)).2
        replace HSm := Lib.hid HSm
        replace HN := Lib.hid HN
        replace st : Own w wr [bv, bo] [(#[.int .i64 v0, .int .i64 v1, .int .i64 v2], 26), (#[.int .i64 16777216, .int .i64 0, .int .i64 0, .int .i64 0], 24)] := st.out
        have kv := st.cell 0 rfl rfl
        go_wp2_with fail
        clear kv
        refine (HSm.out _).mono ?_
        rintro e w3 ⟨rfl, hx⟩
        replace st := st.ext hx
        clear hx
        go_wp2_with fail
        replace st := st.push #[.int .i64 u0, .int .i64 u1, .int .i64 u2, .int .i64 u3] 24 _ rfl
        refine (HN.out _).mono ?_
        rintro e w4 ⟨rfl, hx⟩
        replace st := st.ext hx
        clear hx
        go_wp2
        go_ret
        exact ⟨rfl, st.x⟩
  · go_upto_region 5 with fail
    replace st := st.push #[.int .i64 16777216, .int .i64 0, .int .i64 0, .int .i64 0] 24 _ rfl
    refine (HR.out (by first | rfl | trivial) _).mono ?_
    rintro e w5 ⟨rfl, hx⟩
    replace st := st.ext hx
    clear hx
    go_upto_region 5 with fail
    replace st : Own w _ [bv, w2.heap.size] [(#[.int .i64 v0, .int .i64 v1, .int .i64 v2], 26), (#[.int .i64 16777216, .int .i64 0, .int .i64 0, .int .i64 0], 24)] := st
    clear kv nv
    generalize w2.heap.size = bo at *
    go_wp2
    replace st := Lib.hid st
    go_loopw [8] (fun iv wr => ∃ k : Nat, k ≤ 3 ∧ iv = .int .i64 k ∧ Hid (Own w wr [bv, bo] [(#[.int .i64 v0, .int .i64 v1, .int .i64 v2], 26), (#[.int .i64 16777216, .int .i64 0, .int .i64 0, .int .i64 0], 24)]) ∧ Hid ((1 ≤ k → (-268435456 ≤ v0 ∧ v0 ≤ 268435456) ∧ (-268435456 ≤ by1 ∧ by1 ≤ 268435456)) ∧ (2 ≤ k → (-268435456 ≤ v1 ∧ v1 ≤ 268435456) ∧ (-268435456 ≤ by1 ∧ by1 ≤ 268435456)) ∧ (3 ≤ k → (-268435456 ≤ v2 ∧ v2 ≤ 268435456) ∧ (-268435456 ≤ by1 ∧ by1 ≤ 268435456)))) (fun iv _ => 3 - (intOf iv).toNat)
    case atStart => exact ⟨0, by omega, rfl, st, Lib.hid ⟨fun h => absurd h (by omega), fun h => absurd h (by omega), fun h => absurd h (by omega)⟩⟩
    case round =>
      clear st
      obtain ⟨k, hk, rfl, st, hp⟩ := hrel
      have : k = 0 ∨ k = 1 ∨ k = 2 ∨ k = 3 := by omega
      rcases this with rfl | rfl | rfl | rfl
      · -- round 0
        have kv := st.out.cell 0 rfl rfl 0
        by_cases h1 : 268435456 < v0
        · go_wp2
          go_ret
          exact ⟨rfl, st.out.x⟩
        by_cases h2 : v0 < -268435456
        · go_wp2
          go_ret
          exact ⟨rfl, st.out.x⟩
        by_cases h3 : 268435456 < by1
        · go_wp2
          go_ret
          exact ⟨rfl, st.out.x⟩
        by_cases h4 : by1 < -268435456
        · go_wp2
          go_ret
          exact ⟨rfl, st.out.x⟩
        go_wp2
        go_roundw
        case rel => exact ⟨1, by omega, by go_num, st, Lib.hid ⟨fun h => ⟨⟨by omega, by omega⟩, ⟨by omega, by omega⟩⟩, fun h => absurd h (by omega), fun h => absurd h (by omega)⟩⟩
        case measure => simp [intOf]
      · -- round 1
        have kv := st.out.cell 0 rfl rfl 1
        by_cases h1 : 268435456 < v1
        · go_wp2
          go_ret
          exact ⟨rfl, st.out.x⟩
        by_cases h2 : v1 < -268435456
        · go_wp2
          go_ret
          exact ⟨rfl, st.out.x⟩
        by_cases h3 : 268435456 < by1
        · go_wp2
          go_ret
          exact ⟨rfl, st.out.x⟩
        by_cases h4 : by1 < -268435456
        · go_wp2
          go_ret
          exact ⟨rfl, st.out.x⟩
        go_wp2
        go_roundw
        case rel => exact ⟨2, by omega, by go_num, st, Lib.hid ⟨fun h => hp.out.1 (by omega), fun h => ⟨⟨by omega, by omega⟩, ⟨by omega, by omega⟩⟩, fun h => absurd h (by omega)⟩⟩
        case measure => simp [intOf]
      · -- round 2
        have kv := st.out.cell 0 rfl rfl 2
        by_cases h1 : 268435456 < v2
        · go_wp2
          go_ret
          exact ⟨rfl, st.out.x⟩
        by_cases h2 : v2 < -268435456
        · go_wp2
          go_ret
          exact ⟨rfl, st.out.x⟩
        by_cases h3 : 268435456 < by1
        · go_wp2
          go_ret
          exact ⟨rfl, st.out.x⟩
        by_cases h4 : by1 < -268435456
        · go_wp2
          go_ret
          exact ⟨rfl, st.out.x⟩
        go_wp2
        go_roundw
        case rel => exact ⟨3, by omega, by go_num, st, Lib.hid ⟨fun h => hp.out.1 (by omega), fun h => hp.out.2.1 (by omega), fun h => ⟨⟨by omega, by omega⟩, ⟨by omega, by omega⟩⟩⟩⟩
        case measure => simp [intOf]
      · -- the end
        obtain ⟨HSm, HN, m1, m2⟩ := HF.out (hp.out.1 (by omega)).1 (hp.out.2.1 (by omega)).1 (hp.out.2.2 (by omega)).1 (hp.out.1 (by omega)).2
        replace HSm := Lib.hid HSm
        replace HN := Lib.hid HN
        replace st : Own w wr [bv, bo] [(#[.int .i64 v0, .int .i64 v1, .int .i64 v2], 26), (#[.int .i64 16777216, .int .i64 0, .int .i64 0, .int .i64 0], 24)] := st.out
        have kv := st.cell 0 rfl rfl
        go_wp2_with fail
        clear kv
        refine (HSm.out _).mono ?_
        rintro e w3 ⟨rfl, hx⟩
        replace st := st.ext hx
        clear hx
        go_wp2_with fail
        replace st := st.push #[.int .i64 u0, .int .i64 u1, .int .i64 u2, .int .i64 u3] 24 _ rfl
        refine (HN.out _).mono ?_
        rintro e w4 ⟨rfl, hx⟩
        replace st := st.ext hx
        clear hx
        go_wp2
        go_ret
        exact ⟨rfl, st.x⟩
end Go.Proofs.Ytdjgafcniifmlaa
