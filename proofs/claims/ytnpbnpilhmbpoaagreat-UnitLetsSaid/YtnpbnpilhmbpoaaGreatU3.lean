/- The reference's test of an estimator. -/
import Derived.Test.YtnpbnpilhmbpoaaGreatU2
set_option linter.unusedVariables false
namespace Go.Proofs.YtnpbnpilhmbpoaaGreat
open Go.RowKit

set_option maxHeartbeats 4000000 in
theorem eright_gen (t0 t1 t2 t3 r0 c0 R0 C0 r1 c1 R1 C1 r2 c2 R2 C2 steps coast o0 o1 o2 o3 : Int) (sat : Bool) (s0 S0 s1 S1 s2 S2 : Value) (w : World)
    (H0 : Hid (∀ W, Ext w W → Calls Tryz.prog 114 #[.agg #[.int .i64 r0, .int .i64 c0, s0, .int .i64 R0, .int .i64 C0, S0]] W (SaysB W fun _ => True))) (H1 : Hid (∀ W, Ext w W → Calls Tryz.prog 114 #[.agg #[.int .i64 r1, .int .i64 c1, s1, .int .i64 R1, .int .i64 C1, S1]] W (SaysB W fun _ => True))) (H2 : Hid (∀ W, Ext w W → Calls Tryz.prog 114 #[.agg #[.int .i64 r2, .int .i64 c2, s2, .int .i64 R2, .int .i64 C2, S2]] W (SaysB W fun _ => True)))
    (HQ : Hid (∀ W, Ext w W → Calls Tryz.prog 115 #[.agg #[.int .i64 t0, .int .i64 t1, .int .i64 t2, .int .i64 t3]] W (SaysB W fun _ => True))) :
    Calls Tryz.prog 54 #[.agg #[.int .i64 t0, .int .i64 t1, .int .i64 t2, .int .i64 t3, .int .i64 r0, .int .i64 c0, s0, .int .i64 R0, .int .i64 C0, S0, .int .i64 r1, .int .i64 c1, s1, .int .i64 R1, .int .i64 C1, S1, .int .i64 r2, .int .i64 c2, s2, .int .i64 R2, .int .i64 C2, S2, .int .i64 steps, .int .i64 coast, .int .i64 o0, .int .i64 o1, .int .i64 o2, .int .i64 o3, .bool sat]] w (SaysB w fun _ => True) := by
  by_cases g1 : steps < 0
  · go_enter Tryz.func54, Tryz.ntmps54
    go_wp2
    go_ret
    exact SaysB.mk trivial ((Ext.refl w).alloc _ _)
  by_cases g2 : 1099511627776 < steps
  · go_enter Tryz.func54, Tryz.ntmps54
    go_wp2
    go_ret
    exact SaysB.mk trivial ((Ext.refl w).alloc _ _)
  by_cases g3 : coast < 0
  · go_enter Tryz.func54, Tryz.ntmps54
    go_wp2
    go_ret
    exact SaysB.mk trivial ((Ext.refl w).alloc _ _)
  by_cases g4 : 1000 < coast
  · go_enter Tryz.func54, Tryz.ntmps54
    go_wp2
    go_ret
    exact SaysB.mk trivial ((Ext.refl w).alloc _ _)
  go_enter Tryz.func54, Tryz.ntmps54
  go_wp2
  have st := (Own.start w).push #[.int .i64 t0, .int .i64 t1, .int .i64 t2, .int .i64 t3, .int .i64 r0, .int .i64 c0, s0, .int .i64 R0, .int .i64 C0, S0, .int .i64 r1, .int .i64 c1, s1, .int .i64 R1, .int .i64 C1, S1, .int .i64 r2, .int .i64 c2, s2, .int .i64 R2, .int .i64 C2, S2, .int .i64 steps, .int .i64 coast, .int .i64 o0, .int .i64 o1, .int .i64 o2, .int .i64 o3, .bool sat] 42 _ rfl
  replace st : Own w _ [w.heap.size] [(#[.int .i64 t0, .int .i64 t1, .int .i64 t2, .int .i64 t3, .int .i64 r0, .int .i64 c0, s0, .int .i64 R0, .int .i64 C0, S0, .int .i64 r1, .int .i64 c1, s1, .int .i64 R1, .int .i64 C1, S1, .int .i64 r2, .int .i64 c2, s2, .int .i64 R2, .int .i64 C2, S2, .int .i64 steps, .int .i64 coast, .int .i64 o0, .int .i64 o1, .int .i64 o2, .int .i64 o3, .bool sat], 42)] := st
  replace st := Lib.hid st
  go_loopw [3] (fun iv wr => ∃ k : Nat, k ≤ 4 ∧ iv = .int .i64 k ∧ Hid (Own w wr [w.heap.size] [(#[.int .i64 t0, .int .i64 t1, .int .i64 t2, .int .i64 t3, .int .i64 r0, .int .i64 c0, s0, .int .i64 R0, .int .i64 C0, S0, .int .i64 r1, .int .i64 c1, s1, .int .i64 R1, .int .i64 C1, S1, .int .i64 r2, .int .i64 c2, s2, .int .i64 R2, .int .i64 C2, S2, .int .i64 steps, .int .i64 coast, .int .i64 o0, .int .i64 o1, .int .i64 o2, .int .i64 o3, .bool sat], 42)])) (fun iv _ => 4 - (intOf iv).toNat)
  case atStart => exact ⟨0, by omega, rfl, st⟩
  case round =>
    clear st
    obtain ⟨k, hk, rfl, st⟩ := hrel
    have : k = 0 ∨ k = 1 ∨ k = 2 ∨ k = 3 ∨ k = 4 := by omega
    rcases this with rfl | rfl | rfl | rfl | rfl
    · -- off 0
      have km := st.out.cell 0 rfl rfl
      by_cases h1 : o0 < 0
      · go_wp2
        go_ret
        exact SaysB.mk trivial st.out.x
      by_cases h2 : 1000 < o0
      · go_wp2
        go_ret
        exact SaysB.mk trivial st.out.x
      go_wp2
      exact ⟨⟨1, by omega, by go_num, st⟩, by simp [intOf]⟩
    · -- off 1
      have km := st.out.cell 0 rfl rfl
      by_cases h1 : o1 < 0
      · go_wp2
        go_ret
        exact SaysB.mk trivial st.out.x
      by_cases h2 : 1000 < o1
      · go_wp2
        go_ret
        exact SaysB.mk trivial st.out.x
      go_wp2
      exact ⟨⟨2, by omega, by go_num, st⟩, by simp [intOf]⟩
    · -- off 2
      have km := st.out.cell 0 rfl rfl
      by_cases h1 : o2 < 0
      · go_wp2
        go_ret
        exact SaysB.mk trivial st.out.x
      by_cases h2 : 1000 < o2
      · go_wp2
        go_ret
        exact SaysB.mk trivial st.out.x
      go_wp2
      exact ⟨⟨3, by omega, by go_num, st⟩, by simp [intOf]⟩
    · -- off 3
      have km := st.out.cell 0 rfl rfl
      by_cases h1 : o3 < 0
      · go_wp2
        go_ret
        exact SaysB.mk trivial st.out.x
      by_cases h2 : 1000 < o3
      · go_wp2
        go_ret
        exact SaysB.mk trivial st.out.x
      go_wp2
      exact ⟨⟨4, by omega, by go_num, st⟩, by simp [intOf]⟩
    · -- behind it
      simp only [Int.cast_ofNat_Int]
      go_wp2
      go_loopw [4] (fun iv wr => ∃ k : Nat, k ≤ 3 ∧ iv = .int .i64 k ∧ Hid (Own w wr [w.heap.size] [(#[.int .i64 t0, .int .i64 t1, .int .i64 t2, .int .i64 t3, .int .i64 r0, .int .i64 c0, s0, .int .i64 R0, .int .i64 C0, S0, .int .i64 r1, .int .i64 c1, s1, .int .i64 R1, .int .i64 C1, S1, .int .i64 r2, .int .i64 c2, s2, .int .i64 R2, .int .i64 C2, S2, .int .i64 steps, .int .i64 coast, .int .i64 o0, .int .i64 o1, .int .i64 o2, .int .i64 o3, .bool sat], 42)])) (fun iv _ => 3 - (intOf iv).toNat)
      case atStart => exact ⟨0, by omega, rfl, st⟩
      case round =>
      clear st
      obtain ⟨k, hk, rfl, st⟩ := hrel
      have : k = 0 ∨ k = 1 ∨ k = 2 ∨ k = 3 := by omega
      rcases this with rfl | rfl | rfl | rfl
      · -- axis 0
        replace st := st.out
        have km := st.cell 0 rfl rfl
        go_wp2_with fail
        clear km
        refine (H0.out _ st.x).mono ?_
        rintro e w1 ⟨x, rfl, hx, hxx⟩
        replace st := st.ext hxx
        clear hxx hx
        have km := st.cell 0 rfl rfl
        cases x
        · go_wp2
          go_ret
          exact SaysB.mk trivial st.x
        cases h3 : (r0 != 3)
        · go_wp2
          go_roundw
          case rel => exact ⟨1, by omega, by go_num, st⟩
          case measure => simp [intOf]
        · go_wp2
          go_ret
          exact SaysB.mk trivial st.x
      · -- axis 1
        replace st := st.out
        have km := st.cell 0 rfl rfl
        go_wp2_with fail
        clear km
        refine (H1.out _ st.x).mono ?_
        rintro e w1 ⟨x, rfl, hx, hxx⟩
        replace st := st.ext hxx
        clear hxx hx
        have km := st.cell 0 rfl rfl
        cases x
        · go_wp2
          go_ret
          exact SaysB.mk trivial st.x
        cases h3 : (r1 != 3)
        · go_wp2
          go_roundw
          case rel => exact ⟨2, by omega, by go_num, st⟩
          case measure => simp [intOf]
        · go_wp2
          go_ret
          exact SaysB.mk trivial st.x
      · -- axis 2
        replace st := st.out
        have km := st.cell 0 rfl rfl
        go_wp2_with fail
        clear km
        refine (H2.out _ st.x).mono ?_
        rintro e w1 ⟨x, rfl, hx, hxx⟩
        replace st := st.ext hxx
        clear hxx hx
        have km := st.cell 0 rfl rfl
        cases x
        · go_wp2
          go_ret
          exact SaysB.mk trivial st.x
        cases h3 : (r2 != 3)
        · go_wp2
          go_roundw
          case rel => exact ⟨3, by omega, by go_num, st⟩
          case measure => simp [intOf]
        · go_wp2
          go_ret
          exact SaysB.mk trivial st.x
      · replace st := st.out
        have km := st.cell 0 rfl rfl
        go_wp2_with fail
        clear km
        refine (HQ.out _ st.x).mono ?_
        rintro e w1 ⟨x, rfl, hx, hxx⟩
        replace st := st.ext hxx
        go_wp2
        go_ret
        exact SaysB.mk trivial st.x
end Go.Proofs.YtnpbnpilhmbpoaaGreat
