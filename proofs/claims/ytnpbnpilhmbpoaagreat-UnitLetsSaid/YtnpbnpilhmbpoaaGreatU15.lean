/- The reference's tests of settings, setups and short rows: they answer. -/
import Derived.Test.YtnpbnpilhmbpoaaGreatU12
set_option linter.unusedVariables false
namespace Go.Proofs.YtnpbnpilhmbpoaaGreat
open Go.RowKit

set_option maxRecDepth 10000 in
set_option maxHeartbeats 4000000 in
theorem cmay_calls (c0 c1 c2 c3 c4 c5 : Int) (w : World) : Calls Tryz.prog 51 #[.agg #[.int .i64 c0, .int .i64 c1, .int .i64 c2, .int .i64 c3, .int .i64 c4, .int .i64 c5]] w (SaysB w fun _ => True) := by
  go_enter Tryz.func51, Tryz.ntmps51
  go_wp2
  have st : Own w ((w.alloc (.cells #[.int .i64 c0, .int .i64 c1, .int .i64 c2, .int .i64 c3, .int .i64 c4, .int .i64 c5] 24)).alloc (.cells #[.int .i64 c0, .int .i64 c1, .int .i64 c2, .int .i64 c3, .int .i64 c4, .int .i64 c5] 22)) [w.heap.size, w.heap.size + 1] [(#[.int .i64 c0, .int .i64 c1, .int .i64 c2, .int .i64 c3, .int .i64 c4, .int .i64 c5], 24), (#[.int .i64 c0, .int .i64 c1, .int .i64 c2, .int .i64 c3, .int .i64 c4, .int .i64 c5], 22)] := ((Own.start w).push #[.int .i64 c0, .int .i64 c1, .int .i64 c2, .int .i64 c3, .int .i64 c4, .int .i64 c5] 24 _ rfl).push #[.int .i64 c0, .int .i64 c1, .int .i64 c2, .int .i64 c3, .int .i64 c4, .int .i64 c5] 22 (w.heap.size + 1) (by simp)
  replace st := Lib.hid st
  go_loopw [4] (fun iv wr => ∃ k : Nat, k ≤ 6 ∧ iv = .int .i64 k ∧ Hid (Own w wr [w.heap.size, w.heap.size + 1] [(#[.int .i64 c0, .int .i64 c1, .int .i64 c2, .int .i64 c3, .int .i64 c4, .int .i64 c5], 24), (#[.int .i64 c0, .int .i64 c1, .int .i64 c2, .int .i64 c3, .int .i64 c4, .int .i64 c5], 22)])) (fun iv _ => 6 - (intOf iv).toNat)
  case atStart => exact ⟨0, by omega, rfl, st⟩
  case round =>
    clear st
    obtain ⟨k, hk, rfl, st⟩ := hrel
    by_cases hkn : k = 6
    · subst hkn
      go_wp2
      go_ret
      exact SaysB.mk trivial st.out.x
    · have hk2 : (k : Int) < 6 := by omega
      have wk0 : wrap64 ((k : Int) + 1) = ((k + 1 : Nat) : Int) := by unfold wrap64; omega
      have wk := Lib.hid wk0
      clear wk0
      obtain ⟨v, hv⟩ : ∃ v, (#[.int .i64 c0, .int .i64 c1, .int .i64 c2, .int .i64 c3, .int .i64 c4, .int .i64 c5] : Array Value)[k]? = some (.int .i64 v) := by
        match k, (by omega : k < 6) with
        | 0, _ => exact ⟨_, rfl⟩ | 1, _ => exact ⟨_, rfl⟩ | 2, _ => exact ⟨_, rfl⟩ | 3, _ => exact ⟨_, rfl⟩ | 4, _ => exact ⟨_, rfl⟩ | 5, _ => exact ⟨_, rfl⟩
      have kx : wr.cell? ⟨w.heap.size + 1, k, none⟩ = some (.int .i64 v) := by rw [st.out.cell 1 rfl rfl]; exact hv
      clear hv
      by_cases v1 : v < 1
      · go_wp2
        go_ret
        exact SaysB.mk trivial st.out.x
      by_cases v2 : 17179869184 < v
      · go_wp2
        go_ret
        exact SaysB.mk trivial st.out.x
      · go_wp2
        exact ⟨⟨k + 1, by omega, by simp, st⟩, by simp only [intOf]; omega⟩

set_option maxRecDepth 10000 in
set_option maxHeartbeats 4000000 in
theorem gmay_calls (c0 c1 c2 c3 c4 c5 g s : Int) (w : World) : Calls Tryz.prog 20 #[.agg #[.int .i64 c0, .int .i64 c1, .int .i64 c2, .int .i64 c3, .int .i64 c4, .int .i64 c5, .int .i64 g, .int .i64 s]] w (SaysB w fun _ => True) := by
  have cm := Lib.hid (cmay_calls c0 c1 c2 c3 c4 c5)
  go_enter Tryz.func20, Tryz.ntmps20
  go_wp2_with fail
  have st := (Own.start w).push #[.int .i64 c0, .int .i64 c1, .int .i64 c2, .int .i64 c3, .int .i64 c4, .int .i64 c5, .int .i64 g, .int .i64 s] 26 _ rfl
  replace st : Own w _ [w.heap.size] [(#[.int .i64 c0, .int .i64 c1, .int .i64 c2, .int .i64 c3, .int .i64 c4, .int .i64 c5, .int .i64 g, .int .i64 s], 26)] := st
  refine (cm.out _).mono ?_
  rintro e w1 ⟨x, rfl, -, hxx⟩
  replace st := st.ext hxx
  clear hxx
  have km := st.cell 0 rfl rfl
  cases x
  · go_wp2
    go_ret
    exact SaysB.mk trivial st.x
  by_cases g0 : 0 ≤ g
  rotate_left
  · go_wp2
    go_ret
    exact SaysB.mk trivial st.x
  by_cases g1 : g ≤ 1000000000
  rotate_left
  · go_wp2
    go_ret
    exact SaysB.mk trivial st.x
  by_cases s0 : 1 ≤ s
  rotate_left
  · go_wp2
    go_ret
    exact SaysB.mk trivial st.x
  · go_wp2
    go_ret
    exact SaysB.mk trivial st.x

set_option maxRecDepth 10000 in
set_option maxHeartbeats 4000000 in
theorem few_gen (u : Array Value) (p47 : Option Addr) (m47 d47 : Nat) (p15 : Option Addr) (m15 d15 : Nat) (p18 : Option Addr) (m18 d18 : Nat) (p21 : Option Addr) (m21 d21 : Nat) (p24 : Option Addr) (m24 d24 : Nat) (p27 : Option Addr) (m27 d27 : Nat) (p30 : Option Addr) (m30 d30 : Nat) (w : World)
    (uc47 : u[47]? = some (.slice p47 m47 d47)) (uc15 : u[15]? = some (.slice p15 m15 d15)) (uc18 : u[18]? = some (.slice p18 m18 d18)) (uc21 : u[21]? = some (.slice p21 m21 d21)) (uc24 : u[24]? = some (.slice p24 m24 d24)) (uc27 : u[27]? = some (.slice p27 m27 d27)) (uc30 : u[30]? = some (.slice p30 m30 d30)) :
    Calls Tryz.prog 21 #[.agg u] w (SaysB w fun _ => True) := by
  go_enter Tryz.func21, Tryz.ntmps21
  go_wp2_with fail
  have st : Own w (w.alloc (.cells u 62)) [w.heap.size] [(u, 62)] := (Own.start w).push u 62 _ rfl
  replace st := Lib.hid st
  go_loopw [3, 4] (fun nv iv wr => ∃ (m : Int) (k : Nat), k ≤ 3 ∧ nv = .int .i64 m ∧ iv = .int .i64 k ∧ Hid (Own w wr [w.heap.size] [(u, 62)])) (fun nv iv _ => 3 - (intOf iv).toNat)
  case atStart => exact ⟨_, 0, by omega, rfl, rfl, st⟩
  case round =>
    clear st
    obtain ⟨m, k, hk, rfl, rfl, st⟩ := hrel
    have km := st.out.cell 0 rfl rfl
    match k, hk with
    | 0, _ =>
      go_wp2
      go_quiet (fail)
      go_wp2
      exact ⟨⟨_, 1, by omega, rfl, rfl, Lib.hid (st.out.ext ((Ext.refl wr).drewN _))⟩, by simp only [intOf]; omega⟩
    | 1, _ =>
      go_wp2
      go_quiet (fail)
      go_wp2
      exact ⟨⟨_, 2, by omega, rfl, rfl, Lib.hid (st.out.ext ((Ext.refl wr).drewN _))⟩, by simp only [intOf]; omega⟩
    | 2, _ =>
      go_wp2
      go_quiet (fail)
      go_wp2
      exact ⟨⟨_, 3, by omega, rfl, rfl, Lib.hid (st.out.ext ((Ext.refl wr).drewN _))⟩, by simp only [intOf]; omega⟩
    | 3, _ =>
      clear km
      go_wp2
      go_ret
      exact SaysB.mk trivial st.out.x
end Go.Proofs.YtnpbnpilhmbpoaaGreat
