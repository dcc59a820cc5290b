/- QuatWholes walked. -/
import Derived.Test.YtdjgafcniifmlaaA6
set_option linter.unusedVariables false
namespace Go.Proofs.Ytdjgafcniifmlaa
open Go.RowKit

def fill4 (p0 p1 p2 p3 : Int) : Nat → Array Value
  | 0 => #[.int .i64 0, .int .i64 0, .int .i64 0, .int .i64 0]
  | 1 => #[.int .i64 p0, .int .i64 0, .int .i64 0, .int .i64 0]
  | 2 => #[.int .i64 p0, .int .i64 p1, .int .i64 0, .int .i64 0]
  | 3 => #[.int .i64 p0, .int .i64 p1, .int .i64 p2, .int .i64 0]
  | _ => #[.int .i64 p0, .int .i64 p1, .int .i64 p2, .int .i64 p3]

set_option maxHeartbeats 2000000 in
theorem wholes_gen (a0 a1 a2 a3 b0 b1 b2 b3 c0 c1 c2 c3 p0 p1 p2 p3 q0 q1 q2 q3 r0 r1 r2 r3 x0 x1 x2 x3 y0 y1 y2 y3 z0 z1 z2 z3 m n k : Int) (f1 f2 f3 f5 f6 f7 : Bool)
    (HS : Hid (∀ w, Calls Try.prog 13 #[] w fun e w' => e = .returned (.bool true) ∧ Ext w w'))
    (HP : Hid (wrap64 (wrap64 (a0.tmod 8) * 16777216) = p0 ∧ wrap64 (wrap64 (a1.tmod 8) * 16777216) = p1 ∧ wrap64 (wrap64 (a2.tmod 8) * 16777216) = p2 ∧ wrap64 (wrap64 (a3.tmod 8) * 16777216) = p3)) (HQ : Hid (wrap64 (wrap64 (b0.tmod 8) * 16777216) = q0 ∧ wrap64 (wrap64 (b1.tmod 8) * 16777216) = q1 ∧ wrap64 (wrap64 (b2.tmod 8) * 16777216) = q2 ∧ wrap64 (wrap64 (b3.tmod 8) * 16777216) = q3)) (HR : Hid (wrap64 (wrap64 (c0.tmod 8) * 16777216) = r0 ∧ wrap64 (wrap64 (c1.tmod 8) * 16777216) = r1 ∧ wrap64 (wrap64 (c2.tmod 8) * 16777216) = r2 ∧ wrap64 (wrap64 (c3.tmod 8) * 16777216) = r3))
    (H1 : Hid (∀ w, Calls Try.prog 15 #[.agg #[.int .i64 p0, .int .i64 p1, .int .i64 p2, .int .i64 p3], .agg #[.int .i64 q0, .int .i64 q1, .int .i64 q2, .int .i64 q3]] w fun e w' => e = .returned (.tuple #[.agg #[.int .i64 x0, .int .i64 x1, .int .i64 x2, .int .i64 x3], .bool f1]) ∧ Ext w w')) (H2 : Hid (∀ w, Calls Try.prog 15 #[.agg #[.int .i64 x0, .int .i64 x1, .int .i64 x2, .int .i64 x3], .agg #[.int .i64 r0, .int .i64 r1, .int .i64 r2, .int .i64 r3]] w fun e w' => e = .returned (.tuple #[.agg #[.int .i64 y0, .int .i64 y1, .int .i64 y2, .int .i64 y3], .bool f2]) ∧ Ext w w')) (H3 : Hid (∀ w, Calls Try.prog 15 #[.agg #[.int .i64 q0, .int .i64 q1, .int .i64 q2, .int .i64 q3], .agg #[.int .i64 r0, .int .i64 r1, .int .i64 r2, .int .i64 r3]] w fun e w' => e = .returned (.tuple #[.agg #[.int .i64 z0, .int .i64 z1, .int .i64 z2, .int .i64 z3], .bool f3]) ∧ Ext w w')) (H4 : Hid (∀ w, Calls Try.prog 15 #[.agg #[.int .i64 p0, .int .i64 p1, .int .i64 p2, .int .i64 p3], .agg #[.int .i64 z0, .int .i64 z1, .int .i64 z2, .int .i64 z3]] w fun e w' => e = .returned (.tuple #[.agg #[.int .i64 y0, .int .i64 y1, .int .i64 y2, .int .i64 y3], .bool false]) ∧ Ext w w'))
    (H5 : Hid (∀ w, Calls Try.prog 18 #[.agg #[.int .i64 p0, .int .i64 p1, .int .i64 p2, .int .i64 p3]] w fun e w' => e = .returned (.tuple #[.int .i64 m, .bool f5]) ∧ Ext w w')) (H6 : Hid (∀ w, Calls Try.prog 18 #[.agg #[.int .i64 q0, .int .i64 q1, .int .i64 q2, .int .i64 q3]] w fun e w' => e = .returned (.tuple #[.int .i64 n, .bool f6]) ∧ Ext w w')) (H7 : Hid (∀ w, Calls Try.prog 18 #[.agg #[.int .i64 x0, .int .i64 x1, .int .i64 x2, .int .i64 x3]] w fun e w' => e = .returned (.tuple #[.int .i64 k, .bool f7]) ∧ Ext w w'))
    (HF : Hid ((wrap64 (k.tdiv 16777216) == wrap64 (wrap64 (m.tdiv 16777216) * wrap64 (n.tdiv 16777216))) = true))
    (w : World) :
    Calls Try.prog 4 #[.agg #[.int .i8 a0, .int .i8 a1, .int .i8 a2, .int .i8 a3], .agg #[.int .i8 b0, .int .i8 b1, .int .i8 b2, .int .i8 b3], .agg #[.int .i8 c0, .int .i8 c1, .int .i8 c2, .int .i8 c3]] w fun e w' => e = .returned (.bool true) ∧ Ext w w' := by
  have he4 := eq4_same
  go_enter Try.func4, Try.ntmps4
  go_wp2_with fail
  have st := (((Own.start w).push #[.int .i8 a0, .int .i8 a1, .int .i8 a2, .int .i8 a3] 36 _ rfl).push #[.int .i8 b0, .int .i8 b1, .int .i8 b2, .int .i8 b3] 36 (w.heap.size + 1) (by simp)).push #[.int .i8 c0, .int .i8 c1, .int .i8 c2, .int .i8 c3] 36 (w.heap.size + 1 + 1) (by simp)
  replace st : Own w _ [w.heap.size, w.heap.size + 1, w.heap.size + 1 + 1] [(#[.int .i8 a0, .int .i8 a1, .int .i8 a2, .int .i8 a3], 36), (#[.int .i8 b0, .int .i8 b1, .int .i8 b2, .int .i8 b3], 36), (#[.int .i8 c0, .int .i8 c1, .int .i8 c2, .int .i8 c3], 36)] := st
  generalize w.heap.size + 1 + 1 = bc at *
  generalize w.heap.size + 1 = bb at *
  obtain ⟨ba, hba⟩ : ∃ ba, ba = w.heap.size := ⟨_, rfl⟩
  rw [← hba] at st ⊢
  clear hba
  refine (HS.out _).mono ?_
  rintro e w1 ⟨rfl, hx⟩
  replace st := st.ext hx
  clear hx
  go_wp2
  replace st := ((st.push #[.int .i64 0, .int .i64 0, .int .i64 0, .int .i64 0] 24 _ rfl).push #[.int .i64 0, .int .i64 0, .int .i64 0, .int .i64 0] 24 (w1.heap.size + 1) (by simp)).push #[.int .i64 0, .int .i64 0, .int .i64 0, .int .i64 0] 24 (w1.heap.size + 1 + 1) (by simp)
  replace st : Own w _ [ba, bb, bc, w1.heap.size, w1.heap.size + 1, w1.heap.size + 1 + 1] [(#[.int .i8 a0, .int .i8 a1, .int .i8 a2, .int .i8 a3], 36), (#[.int .i8 b0, .int .i8 b1, .int .i8 b2, .int .i8 b3], 36), (#[.int .i8 c0, .int .i8 c1, .int .i8 c2, .int .i8 c3], 36), (#[.int .i64 0, .int .i64 0, .int .i64 0, .int .i64 0], 24), (#[.int .i64 0, .int .i64 0, .int .i64 0, .int .i64 0], 24), (#[.int .i64 0, .int .i64 0, .int .i64 0, .int .i64 0], 24)] := st
  generalize w1.heap.size + 1 + 1 = br at *
  generalize w1.heap.size + 1 = bq at *
  generalize w1.heap.size = bp at *
  replace st := Lib.hid st
  go_loopw [11] (fun iv wr => ∃ k : Nat, k ≤ 4 ∧ iv = .int .i64 k ∧ Hid (Own w wr [ba, bb, bc, bp, bq, br] [(#[.int .i8 a0, .int .i8 a1, .int .i8 a2, .int .i8 a3], 36), (#[.int .i8 b0, .int .i8 b1, .int .i8 b2, .int .i8 b3], 36), (#[.int .i8 c0, .int .i8 c1, .int .i8 c2, .int .i8 c3], 36), (fill4 p0 p1 p2 p3 k, 24), (fill4 q0 q1 q2 q3 k, 24), (fill4 r0 r1 r2 r3 k, 24)])) (fun iv _ => 4 - (intOf iv).toNat)
  case atStart => exact ⟨0, by omega, rfl, st⟩
  case round =>
    clear st
    obtain ⟨k, hk, rfl, st⟩ := hrel
    have : k = 0 ∨ k = 1 ∨ k = 2 ∨ k = 3 ∨ k = 4 := by omega
    rcases this with rfl | rfl | rfl | rfl | rfl
    · -- round 0
      replace st : Own w wr [ba, bb, bc, bp, bq, br] [(#[.int .i8 a0, .int .i8 a1, .int .i8 a2, .int .i8 a3], 36), (#[.int .i8 b0, .int .i8 b1, .int .i8 b2, .int .i8 b3], 36), (#[.int .i8 c0, .int .i8 c1, .int .i8 c2, .int .i8 c3], 36), (#[.int .i64 0, .int .i64 0, .int .i64 0, .int .i64 0], 24), (#[.int .i64 0, .int .i64 0, .int .i64 0, .int .i64 0], 24), (#[.int .i64 0, .int .i64 0, .int .i64 0, .int .i64 0], 24)] := st.out
      have ka := st.cell 0 rfl rfl 0
      have kb := st.cell 1 rfl rfl 0
      have kc := st.cell 2 rfl rfl 0
      have kp := st.cell 3 rfl rfl 0
      have kq := st.cell 4 rfl rfl 0
      have kr := st.cell 5 rfl rfl 0
      have zp := st.frozen 3 rfl rfl 0
      have zq := st.frozen 4 rfl rfl 0
      have zr := st.frozen 5 rfl rfl 0
      have n1 := st.ne 1 3 rfl rfl (by decide)
      have n2 := st.ne 2 3 rfl rfl (by decide)
      have n3 := st.ne 2 4 rfl rfl (by decide)
      have n4 := st.ne 4 3 rfl rfl (by decide)
      have n5 := st.ne 5 3 rfl rfl (by decide)
      have n6 := st.ne 5 4 rfl rfl (by decide)
      have e1 := HP.out.1
      have e2 := HQ.out.1
      have e3 := HR.out.1
      replace st := ((st.set 3 rfl rfl 0 (.int .i64 p0)).set 4 rfl rfl 0 (.int .i64 q0)).set 5 rfl rfl 0 (.int .i64 r0)
      replace st := Lib.hid st
      go_wp2
      go_roundw
      case rel => exact ⟨1, by omega, by go_num, st⟩
      case measure => simp [intOf]
    · -- round 1
      replace st : Own w wr [ba, bb, bc, bp, bq, br] [(#[.int .i8 a0, .int .i8 a1, .int .i8 a2, .int .i8 a3], 36), (#[.int .i8 b0, .int .i8 b1, .int .i8 b2, .int .i8 b3], 36), (#[.int .i8 c0, .int .i8 c1, .int .i8 c2, .int .i8 c3], 36), (#[.int .i64 p0, .int .i64 0, .int .i64 0, .int .i64 0], 24), (#[.int .i64 q0, .int .i64 0, .int .i64 0, .int .i64 0], 24), (#[.int .i64 r0, .int .i64 0, .int .i64 0, .int .i64 0], 24)] := st.out
      have ka := st.cell 0 rfl rfl 1
      have kb := st.cell 1 rfl rfl 1
      have kc := st.cell 2 rfl rfl 1
      have kp := st.cell 3 rfl rfl 1
      have kq := st.cell 4 rfl rfl 1
      have kr := st.cell 5 rfl rfl 1
      have zp := st.frozen 3 rfl rfl 1
      have zq := st.frozen 4 rfl rfl 1
      have zr := st.frozen 5 rfl rfl 1
      have n1 := st.ne 1 3 rfl rfl (by decide)
      have n2 := st.ne 2 3 rfl rfl (by decide)
      have n3 := st.ne 2 4 rfl rfl (by decide)
      have n4 := st.ne 4 3 rfl rfl (by decide)
      have n5 := st.ne 5 3 rfl rfl (by decide)
      have n6 := st.ne 5 4 rfl rfl (by decide)
      have e1 := HP.out.2.1
      have e2 := HQ.out.2.1
      have e3 := HR.out.2.1
      replace st := ((st.set 3 rfl rfl 1 (.int .i64 p1)).set 4 rfl rfl 1 (.int .i64 q1)).set 5 rfl rfl 1 (.int .i64 r1)
      replace st := Lib.hid st
      go_wp2
      go_roundw
      case rel => exact ⟨2, by omega, by go_num, st⟩
      case measure => simp [intOf]
    · -- round 2
      replace st : Own w wr [ba, bb, bc, bp, bq, br] [(#[.int .i8 a0, .int .i8 a1, .int .i8 a2, .int .i8 a3], 36), (#[.int .i8 b0, .int .i8 b1, .int .i8 b2, .int .i8 b3], 36), (#[.int .i8 c0, .int .i8 c1, .int .i8 c2, .int .i8 c3], 36), (#[.int .i64 p0, .int .i64 p1, .int .i64 0, .int .i64 0], 24), (#[.int .i64 q0, .int .i64 q1, .int .i64 0, .int .i64 0], 24), (#[.int .i64 r0, .int .i64 r1, .int .i64 0, .int .i64 0], 24)] := st.out
      have ka := st.cell 0 rfl rfl 2
      have kb := st.cell 1 rfl rfl 2
      have kc := st.cell 2 rfl rfl 2
      have kp := st.cell 3 rfl rfl 2
      have kq := st.cell 4 rfl rfl 2
      have kr := st.cell 5 rfl rfl 2
      have zp := st.frozen 3 rfl rfl 2
      have zq := st.frozen 4 rfl rfl 2
      have zr := st.frozen 5 rfl rfl 2
      have n1 := st.ne 1 3 rfl rfl (by decide)
      have n2 := st.ne 2 3 rfl rfl (by decide)
      have n3 := st.ne 2 4 rfl rfl (by decide)
      have n4 := st.ne 4 3 rfl rfl (by decide)
      have n5 := st.ne 5 3 rfl rfl (by decide)
      have n6 := st.ne 5 4 rfl rfl (by decide)
      have e1 := HP.out.2.2.1
      have e2 := HQ.out.2.2.1
      have e3 := HR.out.2.2.1
      replace st := ((st.set 3 rfl rfl 2 (.int .i64 p2)).set 4 rfl rfl 2 (.int .i64 q2)).set 5 rfl rfl 2 (.int .i64 r2)
      replace st := Lib.hid st
      go_wp2
      go_roundw
      case rel => exact ⟨3, by omega, by go_num, st⟩
      case measure => simp [intOf]
    · -- round 3
      replace st : Own w wr [ba, bb, bc, bp, bq, br] [(#[.int .i8 a0, .int .i8 a1, .int .i8 a2, .int .i8 a3], 36), (#[.int .i8 b0, .int .i8 b1, .int .i8 b2, .int .i8 b3], 36), (#[.int .i8 c0, .int .i8 c1, .int .i8 c2, .int .i8 c3], 36), (#[.int .i64 p0, .int .i64 p1, .int .i64 p2, .int .i64 0], 24), (#[.int .i64 q0, .int .i64 q1, .int .i64 q2, .int .i64 0], 24), (#[.int .i64 r0, .int .i64 r1, .int .i64 r2, .int .i64 0], 24)] := st.out
      have ka := st.cell 0 rfl rfl 3
      have kb := st.cell 1 rfl rfl 3
      have kc := st.cell 2 rfl rfl 3
      have kp := st.cell 3 rfl rfl 3
      have kq := st.cell 4 rfl rfl 3
      have kr := st.cell 5 rfl rfl 3
      have zp := st.frozen 3 rfl rfl 3
      have zq := st.frozen 4 rfl rfl 3
      have zr := st.frozen 5 rfl rfl 3
      have n1 := st.ne 1 3 rfl rfl (by decide)
      have n2 := st.ne 2 3 rfl rfl (by decide)
      have n3 := st.ne 2 4 rfl rfl (by decide)
      have n4 := st.ne 4 3 rfl rfl (by decide)
      have n5 := st.ne 5 3 rfl rfl (by decide)
      have n6 := st.ne 5 4 rfl rfl (by decide)
      have e1 := HP.out.2.2.2
      have e2 := HQ.out.2.2.2
      have e3 := HR.out.2.2.2
      replace st := ((st.set 3 rfl rfl 3 (.int .i64 p3)).set 4 rfl rfl 3 (.int .i64 q3)).set 5 rfl rfl 3 (.int .i64 r3)
      replace st := Lib.hid st
      go_wp2
      go_roundw
      case rel => exact ⟨4, by omega, by go_num, st⟩
      case measure => simp [intOf]
    · -- the end
      replace st : Own w wr [ba, bb, bc, bp, bq, br] [(#[.int .i8 a0, .int .i8 a1, .int .i8 a2, .int .i8 a3], 36), (#[.int .i8 b0, .int .i8 b1, .int .i8 b2, .int .i8 b3], 36), (#[.int .i8 c0, .int .i8 c1, .int .i8 c2, .int .i8 c3], 36), (#[.int .i64 p0, .int .i64 p1, .int .i64 p2, .int .i64 p3], 24), (#[.int .i64 q0, .int .i64 q1, .int .i64 q2, .int .i64 q3], 24), (#[.int .i64 r0, .int .i64 r1, .int .i64 r2, .int .i64 r3], 24)] := st.out
      have k_bp := st.cell 3 rfl rfl
      have n_bp := st.lt 3 rfl
      have k_bq := st.cell 4 rfl rfl
      have n_bq := st.lt 4 rfl
      have k_br := st.cell 5 rfl rfl
      have n_br := st.lt 5 rfl
      go_wp2_with fail
      clear k_bp n_bp k_bq n_bq k_br n_br
      refine (H1.out _).mono ?_
      rintro e w1 ⟨rfl, hx⟩
      replace st := st.ext hx
      clear hx
      have k_bp := st.cell 3 rfl rfl
      have n_bp := st.lt 3 rfl
      have k_bq := st.cell 4 rfl rfl
      have n_bq := st.lt 4 rfl
      have k_br := st.cell 5 rfl rfl
      have n_br := st.lt 5 rfl
      go_wp2_with fail
      clear k_bp n_bp k_bq n_bq k_br n_br
      replace st := st.push #[.int .i64 x0, .int .i64 x1, .int .i64 x2, .int .i64 x3] 24 _ rfl
      replace st : Own w _ [ba, bb, bc, bp, bq, br, w1.heap.size] [(#[.int .i8 a0, .int .i8 a1, .int .i8 a2, .int .i8 a3], 36), (#[.int .i8 b0, .int .i8 b1, .int .i8 b2, .int .i8 b3], 36), (#[.int .i8 c0, .int .i8 c1, .int .i8 c2, .int .i8 c3], 36), (#[.int .i64 p0, .int .i64 p1, .int .i64 p2, .int .i64 p3], 24), (#[.int .i64 q0, .int .i64 q1, .int .i64 q2, .int .i64 q3], 24), (#[.int .i64 r0, .int .i64 r1, .int .i64 r2, .int .i64 r3], 24), (#[.int .i64 x0, .int .i64 x1, .int .i64 x2, .int .i64 x3], 24)] := st
      generalize w1.alloc _ = Wbx at *
      generalize w1.heap.size = bx at *
      refine (H2.out _).mono ?_
      rintro e w2 ⟨rfl, hx⟩
      replace st := st.ext hx
      clear hx
      have k_bp := st.cell 3 rfl rfl
      have n_bp := st.lt 3 rfl
      have k_bq := st.cell 4 rfl rfl
      have n_bq := st.lt 4 rfl
      have k_br := st.cell 5 rfl rfl
      have n_br := st.lt 5 rfl
      have k_bx := st.cell 6 rfl rfl
      have n_bx := st.lt 6 rfl
      go_wp2_with fail
      clear k_bp n_bp k_bq n_bq k_br n_br k_bx n_bx
      replace st := st.push #[.int .i64 y0, .int .i64 y1, .int .i64 y2, .int .i64 y3] 24 _ rfl
      replace st : Own w _ [ba, bb, bc, bp, bq, br, bx, w2.heap.size] [(#[.int .i8 a0, .int .i8 a1, .int .i8 a2, .int .i8 a3], 36), (#[.int .i8 b0, .int .i8 b1, .int .i8 b2, .int .i8 b3], 36), (#[.int .i8 c0, .int .i8 c1, .int .i8 c2, .int .i8 c3], 36), (#[.int .i64 p0, .int .i64 p1, .int .i64 p2, .int .i64 p3], 24), (#[.int .i64 q0, .int .i64 q1, .int .i64 q2, .int .i64 q3], 24), (#[.int .i64 r0, .int .i64 r1, .int .i64 r2, .int .i64 r3], 24), (#[.int .i64 x0, .int .i64 x1, .int .i64 x2, .int .i64 x3], 24), (#[.int .i64 y0, .int .i64 y1, .int .i64 y2, .int .i64 y3], 24)] := st
      generalize w2.alloc _ = Wby1 at *
      generalize w2.heap.size = by1 at *
      refine (H3.out _).mono ?_
      rintro e w3 ⟨rfl, hx⟩
      replace st := st.ext hx
      clear hx
      have k_bp := st.cell 3 rfl rfl
      have n_bp := st.lt 3 rfl
      have k_bq := st.cell 4 rfl rfl
      have n_bq := st.lt 4 rfl
      have k_br := st.cell 5 rfl rfl
      have n_br := st.lt 5 rfl
      have k_bx := st.cell 6 rfl rfl
      have n_bx := st.lt 6 rfl
      have k_by1 := st.cell 7 rfl rfl
      have n_by1 := st.lt 7 rfl
      go_wp2_with fail
      clear k_bp n_bp k_bq n_bq k_br n_br k_bx n_bx k_by1 n_by1
      replace st := st.push #[.int .i64 z0, .int .i64 z1, .int .i64 z2, .int .i64 z3] 24 _ rfl
      replace st : Own w _ [ba, bb, bc, bp, bq, br, bx, by1, w3.heap.size] [(#[.int .i8 a0, .int .i8 a1, .int .i8 a2, .int .i8 a3], 36), (#[.int .i8 b0, .int .i8 b1, .int .i8 b2, .int .i8 b3], 36), (#[.int .i8 c0, .int .i8 c1, .int .i8 c2, .int .i8 c3], 36), (#[.int .i64 p0, .int .i64 p1, .int .i64 p2, .int .i64 p3], 24), (#[.int .i64 q0, .int .i64 q1, .int .i64 q2, .int .i64 q3], 24), (#[.int .i64 r0, .int .i64 r1, .int .i64 r2, .int .i64 r3], 24), (#[.int .i64 x0, .int .i64 x1, .int .i64 x2, .int .i64 x3], 24), (#[.int .i64 y0, .int .i64 y1, .int .i64 y2, .int .i64 y3], 24), (#[.int .i64 z0, .int .i64 z1, .int .i64 z2, .int .i64 z3], 24)] := st
      generalize w3.alloc _ = Wbz at *
      generalize w3.heap.size = bz at *
      refine (H4.out _).mono ?_
      rintro e w4 ⟨rfl, hx⟩
      replace st := st.ext hx
      clear hx
      have k_bp := st.cell 3 rfl rfl
      have n_bp := st.lt 3 rfl
      have k_bq := st.cell 4 rfl rfl
      have n_bq := st.lt 4 rfl
      have k_br := st.cell 5 rfl rfl
      have n_br := st.lt 5 rfl
      have k_bx := st.cell 6 rfl rfl
      have n_bx := st.lt 6 rfl
      have k_by1 := st.cell 7 rfl rfl
      have n_by1 := st.lt 7 rfl
      have k_bz := st.cell 8 rfl rfl
      have n_bz := st.lt 8 rfl
      go_wp2_with fail
      clear k_bp n_bp k_bq n_bq k_br n_br k_bx n_bx k_by1 n_by1 k_bz n_bz
      replace st := st.push #[.int .i64 y0, .int .i64 y1, .int .i64 y2, .int .i64 y3] 24 _ rfl
      replace st : Own w _ [ba, bb, bc, bp, bq, br, bx, by1, bz, w4.heap.size] [(#[.int .i8 a0, .int .i8 a1, .int .i8 a2, .int .i8 a3], 36), (#[.int .i8 b0, .int .i8 b1, .int .i8 b2, .int .i8 b3], 36), (#[.int .i8 c0, .int .i8 c1, .int .i8 c2, .int .i8 c3], 36), (#[.int .i64 p0, .int .i64 p1, .int .i64 p2, .int .i64 p3], 24), (#[.int .i64 q0, .int .i64 q1, .int .i64 q2, .int .i64 q3], 24), (#[.int .i64 r0, .int .i64 r1, .int .i64 r2, .int .i64 r3], 24), (#[.int .i64 x0, .int .i64 x1, .int .i64 x2, .int .i64 x3], 24), (#[.int .i64 y0, .int .i64 y1, .int .i64 y2, .int .i64 y3], 24), (#[.int .i64 z0, .int .i64 z1, .int .i64 z2, .int .i64 z3], 24), (#[.int .i64 y0, .int .i64 y1, .int .i64 y2, .int .i64 y3], 24)] := st
      generalize w4.alloc _ = Wbw at *
      generalize w4.heap.size = bw at *
      refine (H5.out _).mono ?_
      rintro e w5 ⟨rfl, hx⟩
      replace st := st.ext hx
      clear hx
      have k_bp := st.cell 3 rfl rfl
      have n_bp := st.lt 3 rfl
      have k_bq := st.cell 4 rfl rfl
      have n_bq := st.lt 4 rfl
      have k_br := st.cell 5 rfl rfl
      have n_br := st.lt 5 rfl
      have k_bx := st.cell 6 rfl rfl
      have n_bx := st.lt 6 rfl
      have k_by1 := st.cell 7 rfl rfl
      have n_by1 := st.lt 7 rfl
      have k_bz := st.cell 8 rfl rfl
      have n_bz := st.lt 8 rfl
      have k_bw := st.cell 9 rfl rfl
      have n_bw := st.lt 9 rfl
      go_wp2_with fail
      clear k_bp n_bp k_bq n_bq k_br n_br k_bx n_bx k_by1 n_by1 k_bz n_bz k_bw n_bw
      refine (H6.out _).mono ?_
      rintro e w6 ⟨rfl, hx⟩
      replace st := st.ext hx
      clear hx
      have k_bp := st.cell 3 rfl rfl
      have n_bp := st.lt 3 rfl
      have k_bq := st.cell 4 rfl rfl
      have n_bq := st.lt 4 rfl
      have k_br := st.cell 5 rfl rfl
      have n_br := st.lt 5 rfl
      have k_bx := st.cell 6 rfl rfl
      have n_bx := st.lt 6 rfl
      have k_by1 := st.cell 7 rfl rfl
      have n_by1 := st.lt 7 rfl
      have k_bz := st.cell 8 rfl rfl
      have n_bz := st.lt 8 rfl
      have k_bw := st.cell 9 rfl rfl
      have n_bw := st.lt 9 rfl
      go_wp2_with fail
      clear k_bp n_bp k_bq n_bq k_br n_br k_bx n_bx k_by1 n_by1 k_bz n_bz k_bw n_bw
      refine (H7.out _).mono ?_
      rintro e w7 ⟨rfl, hx⟩
      replace st := st.ext hx
      clear hx
      have k_bp := st.cell 3 rfl rfl
      have n_bp := st.lt 3 rfl
      have k_bq := st.cell 4 rfl rfl
      have n_bq := st.lt 4 rfl
      have k_br := st.cell 5 rfl rfl
      have n_br := st.lt 5 rfl
      have k_bx := st.cell 6 rfl rfl
      have n_bx := st.lt 6 rfl
      have k_by1 := st.cell 7 rfl rfl
      have n_by1 := st.lt 7 rfl
      have k_bz := st.cell 8 rfl rfl
      have n_bz := st.lt 8 rfl
      have k_bw := st.cell 9 rfl rfl
      have n_bw := st.lt 9 rfl
      have hf := HF.out
      go_wp2
      go_ret
      exact ⟨rfl, st.x⟩

end Go.Proofs.Ytdjgafcniifmlaa
