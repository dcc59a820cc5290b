/- QuatConjs walked. -/
import Derived.Test.YtdjgafcniifmlaaA9
import Derived.Test.YtdjgafcniifmlaaE4
import Derived.Deep.CutRange
set_option linter.unusedVariables false
namespace Go.Proofs.Ytdjgafcniifmlaa
open Go.RowKit

set_option maxHeartbeats 2000000 in
theorem conjs_gen (a0 a1 a2 a3 b0 b1 b2 b3 p0 p1 p2 p3 q0 q1 q2 q3 y0 y1 y2 y3 z0 z1 z2 z3 c1 c2 c3 d1 d2 d3 n : Int) (f1 f2 f3 f4 : Bool)
    (HS : Hid (∀ w, Calls Try.prog 13 #[] w fun e w' => e = .returned (.bool true) ∧ Ext w w'))
    (HP : Hid (wrap64 (wrap64 (a0.tmod 51) * 16777216) = p0 ∧ wrap64 (wrap64 (a1.tmod 51) * 16777216) = p1 ∧ wrap64 (wrap64 (a2.tmod 51) * 16777216) = p2 ∧ wrap64 (wrap64 (a3.tmod 51) * 16777216) = p3)) (HQ : Hid (wrap64 (wrap64 (b0.tmod 51) * 16777216) = q0 ∧ wrap64 (wrap64 (b1.tmod 51) * 16777216) = q1 ∧ wrap64 (wrap64 (b2.tmod 51) * 16777216) = q2 ∧ wrap64 (wrap64 (b3.tmod 51) * 16777216) = q3))
    (H17P : Hid (∀ w, Calls Try.prog 17 #[.agg #[.int .i64 p0, .int .i64 p1, .int .i64 p2, .int .i64 p3]] w fun e w' => e = .returned (.agg #[.int .i64 p0, .int .i64 c1, .int .i64 c2, .int .i64 c3]) ∧ Ext w w')) (H17Q : Hid (∀ w, Calls Try.prog 17 #[.agg #[.int .i64 q0, .int .i64 q1, .int .i64 q2, .int .i64 q3]] w fun e w' => e = .returned (.agg #[.int .i64 q0, .int .i64 d1, .int .i64 d2, .int .i64 d3]) ∧ Ext w w'))
    (H15PC : Hid (∀ w, Calls Try.prog 15 #[.agg #[.int .i64 p0, .int .i64 p1, .int .i64 p2, .int .i64 p3], .agg #[.int .i64 p0, .int .i64 c1, .int .i64 c2, .int .i64 c3]] w fun e w' => e = .returned (.tuple #[.agg #[.int .i64 n, .int .i64 0, .int .i64 0, .int .i64 0], .bool f1]) ∧ Ext w w')) (H18 : Hid (∀ w, Calls Try.prog 18 #[.agg #[.int .i64 p0, .int .i64 p1, .int .i64 p2, .int .i64 p3]] w fun e w' => e = .returned (.tuple #[.int .i64 n, .bool f2]) ∧ Ext w w'))
    (H15PQ : Hid (∀ w, Calls Try.prog 15 #[.agg #[.int .i64 p0, .int .i64 p1, .int .i64 p2, .int .i64 p3], .agg #[.int .i64 q0, .int .i64 q1, .int .i64 q2, .int .i64 q3]] w fun e w' => e = .returned (.tuple #[.agg #[.int .i64 y0, .int .i64 y1, .int .i64 y2, .int .i64 y3], .bool f3]) ∧ Ext w w')) (H15DC : Hid (∀ w, Calls Try.prog 15 #[.agg #[.int .i64 q0, .int .i64 d1, .int .i64 d2, .int .i64 d3], .agg #[.int .i64 p0, .int .i64 c1, .int .i64 c2, .int .i64 c3]] w fun e w' => e = .returned (.tuple #[.agg #[.int .i64 z0, .int .i64 z1, .int .i64 z2, .int .i64 z3], .bool f4]) ∧ Ext w w')) (H17Y : Hid (∀ w, Calls Try.prog 17 #[.agg #[.int .i64 y0, .int .i64 y1, .int .i64 y2, .int .i64 y3]] w fun e w' => e = .returned (.agg #[.int .i64 z0, .int .i64 z1, .int .i64 z2, .int .i64 z3]) ∧ Ext w w'))
    (w : World) :
    Calls Try.prog 5 #[.agg #[.int .i8 a0, .int .i8 a1, .int .i8 a2, .int .i8 a3], .agg #[.int .i8 b0, .int .i8 b1, .int .i8 b2, .int .i8 b3]] w fun e w' => e = .returned (.bool true) ∧ Ext w w' := by
  have he4 := eq4_same
  go_enter Try.func5, Try.ntmps5
  go_wp2_with fail
  have st := ((Own.start w).push #[.int .i8 a0, .int .i8 a1, .int .i8 a2, .int .i8 a3] 36 _ rfl).push #[.int .i8 b0, .int .i8 b1, .int .i8 b2, .int .i8 b3] 36 (w.heap.size + 1) (by simp)
  replace st : Own w _ [w.heap.size, w.heap.size + 1] [(#[.int .i8 a0, .int .i8 a1, .int .i8 a2, .int .i8 a3], 36), (#[.int .i8 b0, .int .i8 b1, .int .i8 b2, .int .i8 b3], 36)] := st
  generalize w.heap.size + 1 = bb at *
  obtain ⟨ba, hba⟩ : ∃ ba, ba = w.heap.size := ⟨_, rfl⟩
  rw [← hba] at st ⊢
  clear hba
  refine (HS.out _).mono ?_
  rintro e w1 ⟨rfl, hx⟩
  replace st := st.ext hx
  clear hx
  go_wp2
  replace st := (st.push #[.int .i64 0, .int .i64 0, .int .i64 0, .int .i64 0] 24 _ rfl).push #[.int .i64 0, .int .i64 0, .int .i64 0, .int .i64 0] 24 (w1.heap.size + 1) (by simp)
  replace st : Own w _ [ba, bb, w1.heap.size, w1.heap.size + 1] [(#[.int .i8 a0, .int .i8 a1, .int .i8 a2, .int .i8 a3], 36), (#[.int .i8 b0, .int .i8 b1, .int .i8 b2, .int .i8 b3], 36), (#[.int .i64 0, .int .i64 0, .int .i64 0, .int .i64 0], 24), (#[.int .i64 0, .int .i64 0, .int .i64 0, .int .i64 0], 24)] := st
  generalize w1.heap.size + 1 = bq at *
  generalize w1.heap.size = bp at *
  replace st := Lib.hid st
  go_loopw [8] (fun iv wr => ∃ k : Nat, k ≤ 4 ∧ iv = .int .i64 k ∧ Hid (Own w wr [ba, bb, bp, bq] [(#[.int .i8 a0, .int .i8 a1, .int .i8 a2, .int .i8 a3], 36), (#[.int .i8 b0, .int .i8 b1, .int .i8 b2, .int .i8 b3], 36), (fill4 p0 p1 p2 p3 k, 24), (fill4 q0 q1 q2 q3 k, 24)])) (fun iv _ => 4 - (intOf iv).toNat)
  case atStart => exact ⟨0, by omega, rfl, st⟩
  case round =>
    clear st
    obtain ⟨k, hk, rfl, st⟩ := hrel
    have : k = 0 ∨ k = 1 ∨ k = 2 ∨ k = 3 ∨ k = 4 := by omega
    rcases this with rfl | rfl | rfl | rfl | rfl
    · -- round 0
      replace st : Own w wr [ba, bb, bp, bq] [(#[.int .i8 a0, .int .i8 a1, .int .i8 a2, .int .i8 a3], 36), (#[.int .i8 b0, .int .i8 b1, .int .i8 b2, .int .i8 b3], 36), (#[.int .i64 0, .int .i64 0, .int .i64 0, .int .i64 0], 24), (#[.int .i64 0, .int .i64 0, .int .i64 0, .int .i64 0], 24)] := st.out
      have ka := st.cell 0 rfl rfl 0
      have kb := st.cell 1 rfl rfl 0
      have kp := st.cell 2 rfl rfl 0
      have kq := st.cell 3 rfl rfl 0
      have zp := st.frozen 2 rfl rfl 0
      have zq := st.frozen 3 rfl rfl 0
      have n1 := st.ne 1 2 rfl rfl (by decide)
      have n4 := st.ne 3 2 rfl rfl (by decide)
      have e1 := HP.out.1
      have e2 := HQ.out.1
      replace st := (st.set 2 rfl rfl 0 (.int .i64 p0)).set 3 rfl rfl 0 (.int .i64 q0)
      replace st := Lib.hid st
      go_wp2
      go_roundw
      case rel => exact ⟨1, by omega, by go_num, st⟩
      case measure => simp [intOf]
    · -- round 1
      replace st : Own w wr [ba, bb, bp, bq] [(#[.int .i8 a0, .int .i8 a1, .int .i8 a2, .int .i8 a3], 36), (#[.int .i8 b0, .int .i8 b1, .int .i8 b2, .int .i8 b3], 36), (#[.int .i64 p0, .int .i64 0, .int .i64 0, .int .i64 0], 24), (#[.int .i64 q0, .int .i64 0, .int .i64 0, .int .i64 0], 24)] := st.out
      have ka := st.cell 0 rfl rfl 1
      have kb := st.cell 1 rfl rfl 1
      have kp := st.cell 2 rfl rfl 1
      have kq := st.cell 3 rfl rfl 1
      have zp := st.frozen 2 rfl rfl 1
      have zq := st.frozen 3 rfl rfl 1
      have n1 := st.ne 1 2 rfl rfl (by decide)
      have n4 := st.ne 3 2 rfl rfl (by decide)
      have e1 := HP.out.2.1
      have e2 := HQ.out.2.1
      replace st := (st.set 2 rfl rfl 1 (.int .i64 p1)).set 3 rfl rfl 1 (.int .i64 q1)
      replace st := Lib.hid st
      go_wp2
      go_roundw
      case rel => exact ⟨2, by omega, by go_num, st⟩
      case measure => simp [intOf]
    · -- round 2
      replace st : Own w wr [ba, bb, bp, bq] [(#[.int .i8 a0, .int .i8 a1, .int .i8 a2, .int .i8 a3], 36), (#[.int .i8 b0, .int .i8 b1, .int .i8 b2, .int .i8 b3], 36), (#[.int .i64 p0, .int .i64 p1, .int .i64 0, .int .i64 0], 24), (#[.int .i64 q0, .int .i64 q1, .int .i64 0, .int .i64 0], 24)] := st.out
      have ka := st.cell 0 rfl rfl 2
      have kb := st.cell 1 rfl rfl 2
      have kp := st.cell 2 rfl rfl 2
      have kq := st.cell 3 rfl rfl 2
      have zp := st.frozen 2 rfl rfl 2
      have zq := st.frozen 3 rfl rfl 2
      have n1 := st.ne 1 2 rfl rfl (by decide)
      have n4 := st.ne 3 2 rfl rfl (by decide)
      have e1 := HP.out.2.2.1
      have e2 := HQ.out.2.2.1
      replace st := (st.set 2 rfl rfl 2 (.int .i64 p2)).set 3 rfl rfl 2 (.int .i64 q2)
      replace st := Lib.hid st
      go_wp2
      go_roundw
      case rel => exact ⟨3, by omega, by go_num, st⟩
      case measure => simp [intOf]
    · -- round 3
      replace st : Own w wr [ba, bb, bp, bq] [(#[.int .i8 a0, .int .i8 a1, .int .i8 a2, .int .i8 a3], 36), (#[.int .i8 b0, .int .i8 b1, .int .i8 b2, .int .i8 b3], 36), (#[.int .i64 p0, .int .i64 p1, .int .i64 p2, .int .i64 0], 24), (#[.int .i64 q0, .int .i64 q1, .int .i64 q2, .int .i64 0], 24)] := st.out
      have ka := st.cell 0 rfl rfl 3
      have kb := st.cell 1 rfl rfl 3
      have kp := st.cell 2 rfl rfl 3
      have kq := st.cell 3 rfl rfl 3
      have zp := st.frozen 2 rfl rfl 3
      have zq := st.frozen 3 rfl rfl 3
      have n1 := st.ne 1 2 rfl rfl (by decide)
      have n4 := st.ne 3 2 rfl rfl (by decide)
      have e1 := HP.out.2.2.2
      have e2 := HQ.out.2.2.2
      replace st := (st.set 2 rfl rfl 3 (.int .i64 p3)).set 3 rfl rfl 3 (.int .i64 q3)
      replace st := Lib.hid st
      go_wp2
      go_roundw
      case rel => exact ⟨4, by omega, by go_num, st⟩
      case measure => simp [intOf]
    · -- the end
      replace st : Own w wr [ba, bb, bp, bq] [(#[.int .i8 a0, .int .i8 a1, .int .i8 a2, .int .i8 a3], 36), (#[.int .i8 b0, .int .i8 b1, .int .i8 b2, .int .i8 b3], 36), (#[.int .i64 p0, .int .i64 p1, .int .i64 p2, .int .i64 p3], 24), (#[.int .i64 q0, .int .i64 q1, .int .i64 q2, .int .i64 q3], 24)] := st.out
      go_wp2_with fail
      go_cut [9, 10] from 40 to 46 (fun s9 s10 wx => ∃ bx, s9 = .pointer (some ⟨bx, 0, none⟩) ∧ s10 = .bool f1 ∧ Own w wx [ba, bb, bp, bq, bx] [(#[.int .i8 a0, .int .i8 a1, .int .i8 a2, .int .i8 a3], 36), (#[.int .i8 b0, .int .i8 b1, .int .i8 b2, .int .i8 b3], 36), (#[.int .i64 p0, .int .i64 p1, .int .i64 p2, .int .i64 p3], 24), (#[.int .i64 q0, .int .i64 q1, .int .i64 q2, .int .i64 q3], 24), (#[.int .i64 n, .int .i64 0, .int .i64 0, .int .i64 0], 24)])
      case first =>
        replace st := st.drew
        have q_bp : ∀ W, Ext wr.drew W → ∀ o, W.cell? ⟨bp, o, none⟩ = (#[.int .i64 p0, .int .i64 p1, .int .i64 p2, .int .i64 p3] : Array Value)[o]? := fun W h => (st.ext h).cell 2 rfl rfl
        have xx := Ext.refl wr.drew
        have mf := Made.first wr #[.int .i64 0, .int .i64 0, .int .i64 0, .int .i64 0] 24
        go_region_held3 (fun w' => (∀ o, w'.cell? ⟨bp, o, none⟩ = (#[.int .i64 p0, .int .i64 p1, .int .i64 p2, .int .i64 p3] : Array Value)[o]?)) (first | (with_reducible exact q_bp _ xx) | (with_reducible exact q_bp _ (xx.alloc _ _)) | (with_reducible exact q_bp _ mf.x) | (with_reducible exact q_bp _ ((((mk.set 0 (.int .i64 n)).set 1 (.int .i64 0)).set 2 (.int .i64 0)).set 3 (.int .i64 0)).x) | (with_reducible exact q_bp _ (((((Made.new xx #[.int .i64 0, .int .i64 0, .int .i64 0, .int .i64 0] 24).set 0 (.int .i64 n)).set 1 (.int .i64 0)).set 2 (.int .i64 0)).set 3 (.int .i64 0)).x)) (first | (go_at_call 17; (first | (with_reducible refine (H17P.out _).mono ?_)); rintro e w9 ⟨rfl, hx⟩; first | (with_reducible (replace mk := mk.ext hx; replace xx := xx.trans hx; clear k8 z8; have k8 := mk.cells; have z8 := mk.frozens; clear hx)) | (with_reducible (replace xx := xx.trans hx; clear hx)) | (with_reducible (have mk := mf.ext hx; replace xx := mk.x; have k8 := mk.cells; have z8 := mk.frozens; clear hx)) | (with_reducible (have mk := (Made.new xx #[.int .i64 0, .int .i64 0, .int .i64 0, .int .i64 0] 24).ext hx; replace xx := mk.x; have k8 := mk.cells; have z8 := mk.frozens; clear hx))) | (go_at_call 15; (first | (with_reducible refine (H15PC.out _).mono ?_)); rintro e w9 ⟨rfl, hx⟩; first | (with_reducible (replace mk := mk.ext hx; replace xx := xx.trans hx; clear k8 z8; have k8 := mk.cells; have z8 := mk.frozens; clear hx)) | (with_reducible (replace xx := xx.trans hx; clear hx)) | (with_reducible (have mk := mf.ext hx; replace xx := mk.x; have k8 := mk.cells; have z8 := mk.frozens; clear hx)) | (with_reducible (have mk := (Made.new xx #[.int .i64 0, .int .i64 0, .int .i64 0, .int .i64 0] 24).ext hx; replace xx := mk.x; have k8 := mk.cells; have z8 := mk.frozens; clear hx))))
        all_goals
          go_wp2_with fail
          go_meet
          case rel => first | exact ⟨_, rfl, rfl, st.made ((((mk.set 0 (.int .i64 n)).set 1 (.int .i64 0)).set 2 (.int .i64 0)).set 3 (.int .i64 0))⟩ | exact ⟨_, rfl, rfl, st.made (Made.new xx #[.int .i64 n, .int .i64 0, .int .i64 0, .int .i64 0] 24)⟩
      case rest =>
      clear st
      obtain ⟨bx, hs1, hs2, st⟩ := hcut
      subst hs1 hs2
      have k_bp := st.cell 2 rfl rfl
      have n_bp := st.lt 2 rfl
      have k_bq := st.cell 3 rfl rfl
      have n_bq := st.lt 3 rfl
      have k_bx := st.cell 4 rfl rfl
      have n_bx := st.lt 4 rfl
      go_wp2_with fail
      clear k_bp n_bp k_bq n_bq k_bx n_bx
      refine (H18.out _).mono ?_
      rintro e w2 ⟨rfl, hx⟩
      replace st := st.ext hx
      clear hx
      have k_bp := st.cell 2 rfl rfl
      have n_bp := st.lt 2 rfl
      have k_bq := st.cell 3 rfl rfl
      have n_bq := st.lt 3 rfl
      have k_bx := st.cell 4 rfl rfl
      have n_bx := st.lt 4 rfl
      go_wp2_with fail
      clear k_bp n_bp k_bq n_bq k_bx n_bx
      refine (H15PQ.out _).mono ?_
      rintro e w3 ⟨rfl, hx⟩
      replace st := st.ext hx
      clear hx
      go_wp2_with fail
      replace st := st.push #[.int .i64 y0, .int .i64 y1, .int .i64 y2, .int .i64 y3] 24 _ rfl
      replace st : Own w _ [ba, bb, bp, bq, bx, w3.heap.size] [(#[.int .i8 a0, .int .i8 a1, .int .i8 a2, .int .i8 a3], 36), (#[.int .i8 b0, .int .i8 b1, .int .i8 b2, .int .i8 b3], 36), (#[.int .i64 p0, .int .i64 p1, .int .i64 p2, .int .i64 p3], 24), (#[.int .i64 q0, .int .i64 q1, .int .i64 q2, .int .i64 q3], 24), (#[.int .i64 n, .int .i64 0, .int .i64 0, .int .i64 0], 24), (#[.int .i64 y0, .int .i64 y1, .int .i64 y2, .int .i64 y3], 24)] := st
      generalize w3.alloc _ = Wby1 at *
      generalize w3.heap.size = by1 at *
      go_cut [15, 16] from 58 to 65 (fun s15 s16 wx => ∃ bz, s15 = .pointer (some ⟨bz, 0, none⟩) ∧ s16 = .bool f4 ∧ Own w wx [ba, bb, bp, bq, bx, by1, bz] [(#[.int .i8 a0, .int .i8 a1, .int .i8 a2, .int .i8 a3], 36), (#[.int .i8 b0, .int .i8 b1, .int .i8 b2, .int .i8 b3], 36), (#[.int .i64 p0, .int .i64 p1, .int .i64 p2, .int .i64 p3], 24), (#[.int .i64 q0, .int .i64 q1, .int .i64 q2, .int .i64 q3], 24), (#[.int .i64 n, .int .i64 0, .int .i64 0, .int .i64 0], 24), (#[.int .i64 y0, .int .i64 y1, .int .i64 y2, .int .i64 y3], 24), (#[.int .i64 z0, .int .i64 z1, .int .i64 z2, .int .i64 z3], 24)])
      case first =>
        replace st := st.drew
        have q_bp : ∀ W, Ext Wby1.drew W → ∀ o, W.cell? ⟨bp, o, none⟩ = (#[.int .i64 p0, .int .i64 p1, .int .i64 p2, .int .i64 p3] : Array Value)[o]? := fun W h => (st.ext h).cell 2 rfl rfl
        have q_bq : ∀ W, Ext Wby1.drew W → ∀ o, W.cell? ⟨bq, o, none⟩ = (#[.int .i64 q0, .int .i64 q1, .int .i64 q2, .int .i64 q3] : Array Value)[o]? := fun W h => (st.ext h).cell 3 rfl rfl
        have xx := Ext.refl Wby1.drew
        have mf := Made.first Wby1 #[.int .i64 0, .int .i64 0, .int .i64 0, .int .i64 0] 24
        go_region_held3 (fun w' => (∀ o, w'.cell? ⟨bp, o, none⟩ = (#[.int .i64 p0, .int .i64 p1, .int .i64 p2, .int .i64 p3] : Array Value)[o]?) ∧ (∀ o, w'.cell? ⟨bq, o, none⟩ = (#[.int .i64 q0, .int .i64 q1, .int .i64 q2, .int .i64 q3] : Array Value)[o]?)) (first | (with_reducible exact ⟨q_bp _ xx, q_bq _ xx⟩) | (with_reducible exact ⟨q_bp _ (xx.alloc _ _), q_bq _ (xx.alloc _ _)⟩) | (with_reducible exact ⟨q_bp _ mf.x, q_bq _ mf.x⟩) | (with_reducible exact ⟨q_bp _ ((((mk.set 0 (.int .i64 z0)).set 1 (.int .i64 z1)).set 2 (.int .i64 z2)).set 3 (.int .i64 z3)).x, q_bq _ ((((mk.set 0 (.int .i64 z0)).set 1 (.int .i64 z1)).set 2 (.int .i64 z2)).set 3 (.int .i64 z3)).x⟩) | (with_reducible exact ⟨q_bp _ (((((Made.new xx #[.int .i64 0, .int .i64 0, .int .i64 0, .int .i64 0] 24).set 0 (.int .i64 z0)).set 1 (.int .i64 z1)).set 2 (.int .i64 z2)).set 3 (.int .i64 z3)).x, q_bq _ (((((Made.new xx #[.int .i64 0, .int .i64 0, .int .i64 0, .int .i64 0] 24).set 0 (.int .i64 z0)).set 1 (.int .i64 z1)).set 2 (.int .i64 z2)).set 3 (.int .i64 z3)).x⟩)) (first | (go_at_call 17; (first | (with_reducible refine (H17Q.out _).mono ?_) | (with_reducible refine (H17P.out _).mono ?_)); rintro e w9 ⟨rfl, hx⟩; first | (with_reducible (replace mk := mk.ext hx; replace xx := xx.trans hx; clear k8 z8; have k8 := mk.cells; have z8 := mk.frozens; clear hx)) | (with_reducible (replace xx := xx.trans hx; clear hx)) | (with_reducible (have mk := mf.ext hx; replace xx := mk.x; have k8 := mk.cells; have z8 := mk.frozens; clear hx)) | (with_reducible (have mk := (Made.new xx #[.int .i64 0, .int .i64 0, .int .i64 0, .int .i64 0] 24).ext hx; replace xx := mk.x; have k8 := mk.cells; have z8 := mk.frozens; clear hx))) | (go_at_call 15; (first | (with_reducible refine (H15DC.out _).mono ?_)); rintro e w9 ⟨rfl, hx⟩; first | (with_reducible (replace mk := mk.ext hx; replace xx := xx.trans hx; clear k8 z8; have k8 := mk.cells; have z8 := mk.frozens; clear hx)) | (with_reducible (replace xx := xx.trans hx; clear hx)) | (with_reducible (have mk := mf.ext hx; replace xx := mk.x; have k8 := mk.cells; have z8 := mk.frozens; clear hx)) | (with_reducible (have mk := (Made.new xx #[.int .i64 0, .int .i64 0, .int .i64 0, .int .i64 0] 24).ext hx; replace xx := mk.x; have k8 := mk.cells; have z8 := mk.frozens; clear hx))))
        all_goals
          go_wp2_with fail
          go_meet
          case rel => first | exact ⟨_, rfl, rfl, st.made ((((mk.set 0 (.int .i64 z0)).set 1 (.int .i64 z1)).set 2 (.int .i64 z2)).set 3 (.int .i64 z3))⟩ | exact ⟨_, rfl, rfl, st.made (Made.new xx #[.int .i64 z0, .int .i64 z1, .int .i64 z2, .int .i64 z3] 24)⟩
      case rest =>
      clear st
      obtain ⟨bz, hs1, hs2, st⟩ := hcut
      subst hs1 hs2
      go_wp2_with fail
      replace st := st.drew
      have k_bx := st.cell 4 rfl rfl
      have k_by1 := st.cell 5 rfl rfl
      have k_bz := st.cell 6 rfl rfl
      (first | (go_region_held3 (fun w' => (∀ o, w'.cell? ⟨bx, o, none⟩ = (#[.int .i64 n, .int .i64 0, .int .i64 0, .int .i64 0] : Array Value)[o]?) ∧ (∀ o, w'.cell? ⟨by1, o, none⟩ = (#[.int .i64 y0, .int .i64 y1, .int .i64 y2, .int .i64 y3] : Array Value)[o]?) ∧ (∀ o, w'.cell? ⟨bz, o, none⟩ = (#[.int .i64 z0, .int .i64 z1, .int .i64 z2, .int .i64 z3] : Array Value)[o]?)) (with_reducible exact ⟨k_bx, k_by1, k_bz⟩) (first | (go_at_call 17; refine (H17Y.out _).mono ?_; rintro e w9 ⟨rfl, hx⟩; replace st := st.ext hx; clear hx; replace k_bx := st.cell 4 rfl rfl; replace k_by1 := st.cell 5 rfl rfl; replace k_bz := st.cell 6 rfl rfl))) | fail)
      go_wp2
      go_ret
      exact ⟨rfl, st.x⟩

end Go.Proofs.Ytdjgafcniifmlaa
