/- The head of layer 4's statements, and QuatRounds. -/
import Derived.Test.YtdjgafcniifmlaaA5
import Derived.Test.YtdjgafcniifmlaaQ4
import Derived.Test.YtdjgafcniifmlaaE2
set_option linter.unusedVariables false
namespace Go.Proofs.Ytdjgafcniifmlaa
open Go.RowKit

def qfa (p0 p1 p2 p3 q0 q1 q2 q3 : Int) : Bool := qf3 p0 p1 p2 p3 q0 q1 q2 q3 (qf2 p0 p1 p2 p3 q0 q1 q2 q3 (qf1 p0 p1 p2 p3 q0 q1 q2 q3 (qf0 p0 p1 p2 p3 q0 q1 q2 q3 false)))

theorem turn_calls (q0 q1 q2 q3 v0 v1 v2 x0 x1 x2 x3 y0 y1 y2 y3 : Int) (fx fy : Bool)
    (hx : (qm0 q0 q1 q2 q3 0 v0 v1 v2 = x0 ∧ qm1 q0 q1 q2 q3 0 v0 v1 v2 = x1 ∧ qm2 q0 q1 q2 q3 0 v0 v1 v2 = x2 ∧ qm3 q0 q1 q2 q3 0 v0 v1 v2 = x3 ∧ qfa q0 q1 q2 q3 0 v0 v1 v2 = fx))
    (hy : (qm0 x0 x1 x2 x3 q0 (subI 0 q1) (subI 0 q2) (subI 0 q3) = y0 ∧ qm1 x0 x1 x2 x3 q0 (subI 0 q1) (subI 0 q2) (subI 0 q3) = y1 ∧ qm2 x0 x1 x2 x3 q0 (subI 0 q1) (subI 0 q2) (subI 0 q3) = y2 ∧ qm3 x0 x1 x2 x3 q0 (subI 0 q1) (subI 0 q2) (subI 0 q3) = y3 ∧ qfa x0 x1 x2 x3 q0 (subI 0 q1) (subI 0 q2) (subI 0 q3) = fy))
    (w : World) :
    Calls Try.prog 16 #[.agg #[.int .i64 q0, .int .i64 q1, .int .i64 q2, .int .i64 q3], .agg #[.int .i64 v0, .int .i64 v1, .int .i64 v2]] w fun e w' => e = .returned (.tuple #[.agg #[.int .i64 y1, .int .i64 y2, .int .i64 y3], .bool (fx || fy)]) ∧ Ext w w' := by
  obtain ⟨rfl, rfl, rfl, rfl, rfl⟩ := hx
  obtain ⟨rfl, rfl, rfl, rfl, rfl⟩ := hy
  exact turn_gen q0 q1 q2 q3 v0 v1 v2 _ _ _ _ _ _ _ _ _ _ _ _ _ (Lib.hid fun w => qmul_calls _ _ _ _ _ _ _ _ w) (Lib.hid fun w => conj_calls _ _ _ _ w) (Lib.hid fun w => qmul_calls _ _ _ _ _ _ _ _ w) w

set_option maxHeartbeats 1000000 in
theorem shown4_gen (w : World)
    (HT : Hid (∀ w, Calls Try.prog 16 #[.agg #[.int .i64 0, .int .i64 0, .int .i64 0, .int .i64 16777216], .agg #[.int .i64 16777216, .int .i64 0, .int .i64 0]] w fun e w' => e = .returned (.tuple #[.agg #[.int .i64 (-16777216), .int .i64 0, .int .i64 0], .bool false]) ∧ Ext w w'))
    (HR : Hid (∀ w, Calls Try.prog 29 #[.agg #[.int .i64 70368744177663, .int .i64 0, .int .i64 0, .int .i64 0]] w fun e w' => e = .returned (.bool true) ∧ Ext w w')) :
    Calls Try.prog 13 #[] w fun e w' => e = .returned (.bool true) ∧ Ext w w' := by
  have he3 := eq3_same
  go_enter Try.func13, Try.ntmps13
  go_wp2_with fail
  refine (HT.out _).mono ?_
  rintro e w1 ⟨rfl, x1⟩
  go_wp2_with fail
  have x2 := x1.alloc #[.int .i64 (-16777216), .int .i64 0, .int .i64 0] 26
  refine (HR.out _).mono ?_
  rintro e w2 ⟨rfl, hx⟩
  replace x2 := x2.trans hx
  go_wp2
  go_ret
  exact ⟨rfl, x2⟩

theorem shown4_calls (w : World) : Calls Try.prog 13 #[] w fun e w' => e = .returned (.bool true) ∧ Ext w w' :=
  shown4_gen w (Lib.hid fun w => turn_calls 0 0 0 16777216 16777216 0 0 0 0 16777216 0 0 (-16777216) 0 0 false false (by decide +kernel) (by decide +kernel) w)
    (Lib.hid fun w => by have := quatRight_calls 70368744177663 0 0 0 w; rw [show right4 70368744177663 0 0 0 = true from by decide +kernel] at this; exact this)

set_option maxHeartbeats 2000000 in
theorem rounds_gen (q0 q1 q2 q3 v0 v1 v2 c1 c2 c3 : Int) (r1 r2 : Bool)
    (HS : Hid (∀ w, Calls Try.prog 13 #[] w fun e w' => e = .returned (.bool true) ∧ Ext w w'))
    (HR1 : Hid (∀ w, Calls Try.prog 14 #[.agg #[.int .i64 q0, .int .i64 q1, .int .i64 q2, .int .i64 q3]] w fun e w' => e = .returned (.bool r1) ∧ Ext w w')) (HR2 : Hid (∀ w, Calls Try.prog 14 #[.agg #[.int .i64 0, .int .i64 v0, .int .i64 v1, .int .i64 v2]] w fun e w' => e = .returned (.bool r2) ∧ Ext w w'))
    (HM : Hid (r1 = true → r2 = true → (q1 == (-70368744177664)) = false ∧ (v0 == (-70368744177664)) = false ∧ (q2 == (-70368744177664)) = false ∧ (v1 == (-70368744177664)) = false ∧ (q3 == (-70368744177664)) = false ∧ (v2 == (-70368744177664)) = false →
      (∀ w, Calls Try.prog 15 #[.agg #[.int .i64 q0, .int .i64 q1, .int .i64 q2, .int .i64 q3], .agg #[.int .i64 16777216, .int .i64 0, .int .i64 0, .int .i64 0]] w fun e w' => e = .returned (.tuple #[.agg #[.int .i64 q0, .int .i64 q1, .int .i64 q2, .int .i64 q3], .bool false]) ∧ Ext w w') ∧ (∀ w, Calls Try.prog 15 #[.agg #[.int .i64 16777216, .int .i64 0, .int .i64 0, .int .i64 0], .agg #[.int .i64 q0, .int .i64 q1, .int .i64 q2, .int .i64 q3]] w fun e w' => e = .returned (.tuple #[.agg #[.int .i64 q0, .int .i64 q1, .int .i64 q2, .int .i64 q3], .bool false]) ∧ Ext w w') ∧ (∀ w, Calls Try.prog 16 #[.agg #[.int .i64 16777216, .int .i64 0, .int .i64 0, .int .i64 0], .agg #[.int .i64 v0, .int .i64 v1, .int .i64 v2]] w fun e w' => e = .returned (.tuple #[.agg #[.int .i64 v0, .int .i64 v1, .int .i64 v2], .bool false]) ∧ Ext w w') ∧ (∀ w, Calls Try.prog 17 #[.agg #[.int .i64 q0, .int .i64 q1, .int .i64 q2, .int .i64 q3]] w fun e w' => e = .returned (.agg #[.int .i64 q0, .int .i64 c1, .int .i64 c2, .int .i64 c3]) ∧ Ext w w') ∧ (∀ w, Calls Try.prog 17 #[.agg #[.int .i64 q0, .int .i64 c1, .int .i64 c2, .int .i64 c3]] w fun e w' => e = .returned (.agg #[.int .i64 q0, .int .i64 q1, .int .i64 q2, .int .i64 q3]) ∧ Ext w w')))
    (w : World) :
    Calls Try.prog 3 #[.agg #[.int .i64 q0, .int .i64 q1, .int .i64 q2, .int .i64 q3], .agg #[.int .i64 v0, .int .i64 v1, .int .i64 v2]] w fun e w' => e = .returned (.bool true) ∧ Ext w w' := by
  have he3 := eq3_same
  have he4 := eq4_same
  go_enter Try.func3, Try.ntmps3
  go_wp2_with fail
  have st := ((Own.start w).push #[.int .i64 q0, .int .i64 q1, .int .i64 q2, .int .i64 q3] 24 _ rfl).push #[.int .i64 v0, .int .i64 v1, .int .i64 v2] 26 (w.heap.size + 1) (by simp)
  replace st : Own w _ [w.heap.size, w.heap.size + 1] [(#[.int .i64 q0, .int .i64 q1, .int .i64 q2, .int .i64 q3], 24), (#[.int .i64 v0, .int .i64 v1, .int .i64 v2], 26)] := st
  generalize w.heap.size + 1 = bv at *
  obtain ⟨bq, hbq⟩ : ∃ bq, bq = w.heap.size := ⟨_, rfl⟩
  rw [← hbq] at st ⊢
  clear hbq
  refine (HS.out _).mono ?_
  rintro e w1 ⟨rfl, hx⟩
  replace st := st.ext hx
  clear hx
  have kq := st.cell 0 rfl rfl
  have kv := st.cell 1 rfl rfl
  go_wp2_with fail
  refine (HR1.out _).mono ?_
  rintro e w2 ⟨rfl, hx⟩
  replace st := st.ext hx
  clear hx kq kv
  cases r1
  · go_wp2
    go_ret
    exact ⟨rfl, st.x⟩
  have kq := st.cell 0 rfl rfl
  have kv := st.cell 1 rfl rfl
  go_wp2_with fail
  refine (HR2.out _).mono ?_
  rintro e w3 ⟨rfl, hx⟩
  replace st := st.ext hx
  clear hx kq kv
  cases r2
  · go_wp2
    go_ret
    exact ⟨rfl, st.x⟩
  go_wp2
  replace st := Lib.hid st
  go_loopw [6] (fun iv wr => ∃ k : Nat, 1 ≤ k ∧ k ≤ 4 ∧ iv = .int .i64 k ∧ Hid (Own w wr [bq, bv] [(#[.int .i64 q0, .int .i64 q1, .int .i64 q2, .int .i64 q3], 24), (#[.int .i64 v0, .int .i64 v1, .int .i64 v2], 26)]) ∧ Hid ((2 ≤ k → (q1 == (-70368744177664)) = false ∧ (v0 == (-70368744177664)) = false) ∧ (3 ≤ k → (q2 == (-70368744177664)) = false ∧ (v1 == (-70368744177664)) = false) ∧ (4 ≤ k → (q3 == (-70368744177664)) = false ∧ (v2 == (-70368744177664)) = false))) (fun iv _ => 4 - (intOf iv).toNat)
  case atStart => exact ⟨1, by omega, by omega, rfl, st, Lib.hid ⟨fun h => by omega, fun h => by omega, fun h => by omega⟩⟩
  case round =>
    clear st
    obtain ⟨k, hk1, hk, rfl, st, hp⟩ := hrel
    have : k = 1 ∨ k = 2 ∨ k = 3 ∨ k = 4 := by omega
    rcases this with rfl | rfl | rfl | rfl
    · -- round 1
      replace st : Own w wr [bq, bv] [(#[.int .i64 q0, .int .i64 q1, .int .i64 q2, .int .i64 q3], 24), (#[.int .i64 v0, .int .i64 v1, .int .i64 v2], 26)] := st.out
      have kq := st.cell 0 rfl rfl 1
      have kv := st.cell 1 rfl rfl 0
      replace st := Lib.hid st
      cases h1 : (q1 == ((-70368744177664) : Int))
      · cases h2 : (v0 == ((-70368744177664) : Int))
        · go_wp2
          go_roundw
          case rel => exact ⟨2, by omega, by omega, by go_num, st, Lib.hid ⟨fun h => ⟨by first | exact h1 | trivial, by first | exact h2 | trivial⟩, fun h => absurd h (by simp), fun h => absurd h (by simp)⟩⟩
          case measure => simp [intOf]
        · go_wp2
          go_ret
          exact ⟨rfl, st.out.x⟩
      · go_wp2
        go_ret
        exact ⟨rfl, st.out.x⟩
    · -- round 2
      replace st : Own w wr [bq, bv] [(#[.int .i64 q0, .int .i64 q1, .int .i64 q2, .int .i64 q3], 24), (#[.int .i64 v0, .int .i64 v1, .int .i64 v2], 26)] := st.out
      have kq := st.cell 0 rfl rfl 2
      have kv := st.cell 1 rfl rfl 1
      replace st := Lib.hid st
      cases h1 : (q2 == ((-70368744177664) : Int))
      · cases h2 : (v1 == ((-70368744177664) : Int))
        · go_wp2
          go_roundw
          case rel => exact ⟨3, by omega, by omega, by go_num, st, Lib.hid ⟨fun h => hp.out.1 (by omega), fun h => ⟨by first | exact h1 | trivial, by first | exact h2 | trivial⟩, fun h => absurd h (by simp)⟩⟩
          case measure => simp [intOf]
        · go_wp2
          go_ret
          exact ⟨rfl, st.out.x⟩
      · go_wp2
        go_ret
        exact ⟨rfl, st.out.x⟩
    · -- round 3
      replace st : Own w wr [bq, bv] [(#[.int .i64 q0, .int .i64 q1, .int .i64 q2, .int .i64 q3], 24), (#[.int .i64 v0, .int .i64 v1, .int .i64 v2], 26)] := st.out
      have kq := st.cell 0 rfl rfl 3
      have kv := st.cell 1 rfl rfl 2
      replace st := Lib.hid st
      cases h1 : (q3 == ((-70368744177664) : Int))
      · cases h2 : (v2 == ((-70368744177664) : Int))
        · go_wp2
          go_roundw
          case rel => exact ⟨4, by omega, by omega, by go_num, st, Lib.hid ⟨fun h => hp.out.1 (by omega), fun h => hp.out.2.1 (by omega), fun h => ⟨by first | exact h1 | trivial, by first | exact h2 | trivial⟩⟩⟩
          case measure => simp [intOf]
        · go_wp2
          go_ret
          exact ⟨rfl, st.out.x⟩
      · go_wp2
        go_ret
        exact ⟨rfl, st.out.x⟩
    · -- the end
      obtain ⟨p1, p2, p3⟩ := hp.out
      have M := HM.out (by first | rfl | trivial) (by first | rfl | trivial) ⟨(p1 (by omega)).1, (p1 (by omega)).2, (p2 (by omega)).1, (p2 (by omega)).2, (p3 (by omega)).1, (p3 (by omega)).2⟩
      clear p1 p2 p3 hp
      replace M := Lib.hid M
      replace st : Own w wr [bq, bv] [(#[.int .i64 q0, .int .i64 q1, .int .i64 q2, .int .i64 q3], 24), (#[.int .i64 v0, .int .i64 v1, .int .i64 v2], 26)] := st.out
      have k_bq := st.cell 0 rfl rfl
      have n_bq := st.lt 0 rfl
      have k_bv := st.cell 1 rfl rfl
      have n_bv := st.lt 1 rfl
      go_wp2_with fail
      clear k_bq n_bq k_bv n_bv
      replace st := st.push #[.int .i64 16777216, .int .i64 0, .int .i64 0, .int .i64 0] 24 _ rfl
      replace st : Own w _ [bq, bv, wr.heap.size] [(#[.int .i64 q0, .int .i64 q1, .int .i64 q2, .int .i64 q3], 24), (#[.int .i64 v0, .int .i64 v1, .int .i64 v2], 26), (#[.int .i64 16777216, .int .i64 0, .int .i64 0, .int .i64 0], 24)] := st
      generalize wr.alloc _ = Wbo at *
      generalize wr.heap.size = bo at *
      refine (M.out.1 _).mono ?_
      rintro e w_bo ⟨rfl, hx⟩
      replace st := st.ext hx
      clear hx
      have k_bq := st.cell 0 rfl rfl
      have n_bq := st.lt 0 rfl
      have k_bv := st.cell 1 rfl rfl
      have n_bv := st.lt 1 rfl
      have k_bo := st.cell 2 rfl rfl
      have n_bo := st.lt 2 rfl
      go_wp2_with fail
      clear k_bq n_bq k_bv n_bv k_bo n_bo
      replace st := st.push #[.int .i64 q0, .int .i64 q1, .int .i64 q2, .int .i64 q3] 24 _ rfl
      replace st : Own w _ [bq, bv, bo, w_bo.heap.size] [(#[.int .i64 q0, .int .i64 q1, .int .i64 q2, .int .i64 q3], 24), (#[.int .i64 v0, .int .i64 v1, .int .i64 v2], 26), (#[.int .i64 16777216, .int .i64 0, .int .i64 0, .int .i64 0], 24), (#[.int .i64 q0, .int .i64 q1, .int .i64 q2, .int .i64 q3], 24)] := st
      generalize w_bo.alloc _ = Wba at *
      generalize w_bo.heap.size = ba at *
      refine (M.out.2.1 _).mono ?_
      rintro e w_ba ⟨rfl, hx⟩
      replace st := st.ext hx
      clear hx
      have k_bq := st.cell 0 rfl rfl
      have n_bq := st.lt 0 rfl
      have k_bv := st.cell 1 rfl rfl
      have n_bv := st.lt 1 rfl
      have k_bo := st.cell 2 rfl rfl
      have n_bo := st.lt 2 rfl
      have k_ba := st.cell 3 rfl rfl
      have n_ba := st.lt 3 rfl
      go_wp2_with fail
      clear k_bq n_bq k_bv n_bv k_bo n_bo k_ba n_ba
      replace st := st.push #[.int .i64 q0, .int .i64 q1, .int .i64 q2, .int .i64 q3] 24 _ rfl
      replace st : Own w _ [bq, bv, bo, ba, w_ba.heap.size] [(#[.int .i64 q0, .int .i64 q1, .int .i64 q2, .int .i64 q3], 24), (#[.int .i64 v0, .int .i64 v1, .int .i64 v2], 26), (#[.int .i64 16777216, .int .i64 0, .int .i64 0, .int .i64 0], 24), (#[.int .i64 q0, .int .i64 q1, .int .i64 q2, .int .i64 q3], 24), (#[.int .i64 q0, .int .i64 q1, .int .i64 q2, .int .i64 q3], 24)] := st
      generalize w_ba.alloc _ = Wbb at *
      generalize w_ba.heap.size = bb at *
      refine (M.out.2.2.1 _).mono ?_
      rintro e w_bb ⟨rfl, hx⟩
      replace st := st.ext hx
      clear hx
      go_wp2
      replace st := st.push #[.int .i64 v0, .int .i64 v1, .int .i64 v2] 26 _ rfl
      replace st : Own w _ [bq, bv, bo, ba, bb, w_bb.heap.size] [(#[.int .i64 q0, .int .i64 q1, .int .i64 q2, .int .i64 q3], 24), (#[.int .i64 v0, .int .i64 v1, .int .i64 v2], 26), (#[.int .i64 16777216, .int .i64 0, .int .i64 0, .int .i64 0], 24), (#[.int .i64 q0, .int .i64 q1, .int .i64 q2, .int .i64 q3], 24), (#[.int .i64 q0, .int .i64 q1, .int .i64 q2, .int .i64 q3], 24), (#[.int .i64 v0, .int .i64 v1, .int .i64 v2], 26)] := st
      generalize w_bb.alloc _ = Wbw at *
      generalize w_bb.heap.size = bw at *
      replace st := st.drew
      have k_bq := st.cell 0 rfl rfl
      have k_bv := st.cell 1 rfl rfl
      have k_bo := st.cell 2 rfl rfl
      have k_ba := st.cell 3 rfl rfl
      have k_bb := st.cell 4 rfl rfl
      have k_bw := st.cell 5 rfl rfl
      (first | (go_region_held3 (fun w' => (∀ o, w'.cell? ⟨bq, o, none⟩ = (#[.int .i64 q0, .int .i64 q1, .int .i64 q2, .int .i64 q3] : Array Value)[o]?) ∧ (∀ o, w'.cell? ⟨bv, o, none⟩ = (#[.int .i64 v0, .int .i64 v1, .int .i64 v2] : Array Value)[o]?) ∧ (∀ o, w'.cell? ⟨ba, o, none⟩ = (#[.int .i64 q0, .int .i64 q1, .int .i64 q2, .int .i64 q3] : Array Value)[o]?) ∧ (∀ o, w'.cell? ⟨bb, o, none⟩ = (#[.int .i64 q0, .int .i64 q1, .int .i64 q2, .int .i64 q3] : Array Value)[o]?) ∧ (∀ o, w'.cell? ⟨bw, o, none⟩ = (#[.int .i64 v0, .int .i64 v1, .int .i64 v2] : Array Value)[o]?)) (first | (with_reducible exact ⟨k_bq, k_bv, k_ba, k_bb, k_bw⟩)) (first | (go_at_call 17; (first | (with_reducible refine (M.out.2.2.2.1 _).mono ?_) | (with_reducible refine (M.out.2.2.2.2 _).mono ?_)); rintro e w7 ⟨rfl, hx⟩; replace st := st.ext hx; clear hx; replace k_bq := st.cell 0 rfl rfl; replace k_bv := st.cell 1 rfl rfl; replace k_bo := st.cell 2 rfl rfl; replace k_ba := st.cell 3 rfl rfl; replace k_bb := st.cell 4 rfl rfl; replace k_bw := st.cell 5 rfl rfl))) | fail)
      go_wp2
      go_ret
      exact ⟨rfl, st.x⟩

end Go.Proofs.Ytdjgafcniifmlaa
