/- The reference's test of rings: it answers. -/
import Derived.Test.YtnpbnpilhmbpoaaGreatU9
set_option linter.unusedVariables false
namespace Go.Proofs.YtnpbnpilhmbpoaaGreat
open Go.RowKit

set_option maxRecDepth 4000 in
set_option maxHeartbeats 2000000 in
theorem rright_calls (q : Array Value) (w : World) (hq : Hid (Keyed 53 q.toList)) : Calls Tryz.prog 53 #[.agg q] w (SaysB w fun _ => True) := by
  have hp := Lib.hid (ring_parts hq.out)
  go_enter Tryz.func53, Tryz.ntmps53
  go_wp2
  have st := (Own.start w).push q 53 _ rfl
  replace st : Own w _ [w.heap.size] [(q, 53)] := st
  replace st := Lib.hid st
  go_loopw [3] (fun iv wr => ∃ k : Nat, k ≤ 16 ∧ iv = .int .i64 k ∧ Hid (Own w wr [w.heap.size] [(q, 53)])) (fun iv _ => 16 - (intOf iv).toNat)
  case atStart => exact ⟨0, by omega, rfl, st⟩
  case round =>
    clear st
    obtain ⟨k, hk, rfl, st⟩ := hrel
    by_cases hkn : k = 16
    · subst hkn
      go_wp2
      go_ret
      exact SaysB.mk trivial st.out.x
    · have hk2 : (k : Int) < 16 := by omega
      have hk3 : k < 16 := by omega
      obtain ⟨n, hn⟩ := hp.out.2.1 k hk3
      obtain ⟨r, hr1, hr2, hr3⟩ := hp.out.2.2 k hk3
      have kx : wr.cell? ⟨w.heap.size, k, none⟩ = some (.int .i64 n) := by rw [st.out.cell 0 rfl rfl]; exact hn
      obtain ⟨m, hb, hg, g0, g1, g2, a0, a1, a2, b, n0, n1, n2, rfl⟩ := sample_of hr2
      have kl0 : wr.cell? ⟨w.heap.size, 16 + k * 13, none⟩ = some (.bool m) := by
        have h := st.out.cell 0 rfl rfl (16 + (k * 13 + 0))
        rw [hr3 0 (by omega)] at h
        simpa [Nat.add_assoc] using h
      have kl1 : wr.cell? ⟨w.heap.size, 16 + k * 13 + 1, none⟩ = some (.int .i64 g0) := by
        have h := st.out.cell 0 rfl rfl (16 + (k * 13 + 1))
        rw [hr3 1 (by omega)] at h
        simpa [Nat.add_assoc] using h
      have kl2 : wr.cell? ⟨w.heap.size, 16 + k * 13 + 2, none⟩ = some (.int .i64 g1) := by
        have h := st.out.cell 0 rfl rfl (16 + (k * 13 + 2))
        rw [hr3 2 (by omega)] at h
        simpa [Nat.add_assoc] using h
      have kl3 : wr.cell? ⟨w.heap.size, 16 + k * 13 + 3, none⟩ = some (.int .i64 g2) := by
        have h := st.out.cell 0 rfl rfl (16 + (k * 13 + 3))
        rw [hr3 3 (by omega)] at h
        simpa [Nat.add_assoc] using h
      have kl4 : wr.cell? ⟨w.heap.size, 16 + k * 13 + 4, none⟩ = some (.int .i64 a0) := by
        have h := st.out.cell 0 rfl rfl (16 + (k * 13 + 4))
        rw [hr3 4 (by omega)] at h
        simpa [Nat.add_assoc] using h
      have kl5 : wr.cell? ⟨w.heap.size, 16 + k * 13 + 5, none⟩ = some (.int .i64 a1) := by
        have h := st.out.cell 0 rfl rfl (16 + (k * 13 + 5))
        rw [hr3 5 (by omega)] at h
        simpa [Nat.add_assoc] using h
      have kl6 : wr.cell? ⟨w.heap.size, 16 + k * 13 + 6, none⟩ = some (.int .i64 a2) := by
        have h := st.out.cell 0 rfl rfl (16 + (k * 13 + 6))
        rw [hr3 6 (by omega)] at h
        simpa [Nat.add_assoc] using h
      have kl7 : wr.cell? ⟨w.heap.size, 16 + k * 13 + 7, none⟩ = some (.bool hb) := by
        have h := st.out.cell 0 rfl rfl (16 + (k * 13 + 7))
        rw [hr3 7 (by omega)] at h
        simpa [Nat.add_assoc] using h
      have kl8 : wr.cell? ⟨w.heap.size, 16 + k * 13 + 8, none⟩ = some (.int .i64 b) := by
        have h := st.out.cell 0 rfl rfl (16 + (k * 13 + 8))
        rw [hr3 8 (by omega)] at h
        simpa [Nat.add_assoc] using h
      have kl9 : wr.cell? ⟨w.heap.size, 16 + k * 13 + 9, none⟩ = some (.bool hg) := by
        have h := st.out.cell 0 rfl rfl (16 + (k * 13 + 9))
        rw [hr3 9 (by omega)] at h
        simpa [Nat.add_assoc] using h
      have kl10 : wr.cell? ⟨w.heap.size, 16 + k * 13 + 10, none⟩ = some (.int .i64 n0) := by
        have h := st.out.cell 0 rfl rfl (16 + (k * 13 + 10))
        rw [hr3 10 (by omega)] at h
        simpa [Nat.add_assoc] using h
      have kl11 : wr.cell? ⟨w.heap.size, 16 + k * 13 + 11, none⟩ = some (.int .i64 n1) := by
        have h := st.out.cell 0 rfl rfl (16 + (k * 13 + 11))
        rw [hr3 11 (by omega)] at h
        simpa [Nat.add_assoc] using h
      have kl12 : wr.cell? ⟨w.heap.size, 16 + k * 13 + 12, none⟩ = some (.int .i64 n2) := by
        have h := st.out.cell 0 rfl rfl (16 + (k * 13 + 12))
        rw [hr3 12 (by omega)] at h
        simpa [Nat.add_assoc] using h
      have wk0 : wrap64 ((k : Int) + 1) = ((k + 1 : Nat) : Int) := by unfold wrap64; omega
      have wk := Lib.hid wk0
      clear wk0
      clear hr1 hr2 hr3
      by_cases hn0 : n = 0
      · subst hn0
        have HE0 := fun w => eq48d g0 g1 g2 0 0 0 w
        have HE1 := fun w => eq48d a0 a1 a2 0 0 0 w
        have HE2 := fun w => eq48d n0 n1 n2 0 0 0 w
        obtain ⟨e1, he1⟩ : ∃ e, ((g0 == 0) && ((g1 == 0) && (g2 == 0))) = e := ⟨_, rfl⟩
        obtain ⟨e2, he2⟩ : ∃ e, ((a0 == 0) && ((a1 == 0) && (a2 == 0))) = e := ⟨_, rfl⟩
        obtain ⟨e4, he4⟩ : ∃ e, (b == 0) = e := ⟨_, rfl⟩
        obtain ⟨e6, he6⟩ : ∃ e, ((n0 == 0) && ((n1 == 0) && (n2 == 0))) = e := ⟨_, rfl⟩
        simp only [he1] at HE0
        simp only [he2] at HE1
        simp only [he6] at HE2
        replace he1 := Lib.hid he1
        replace he2 := Lib.hid he2
        replace he6 := Lib.hid he6
        rcases Bool.eq_false_or_eq_true m with rfl | rfl
        · go_wp2
          go_ret
          exact SaysB.mk trivial st.out.x
        cases e1
        · go_wp2
          go_ret
          exact SaysB.mk trivial st.out.x
        cases e2
        · go_wp2
          go_ret
          exact SaysB.mk trivial st.out.x
        rcases Bool.eq_false_or_eq_true hb with rfl | rfl
        · go_wp2
          go_ret
          exact SaysB.mk trivial st.out.x
        cases e4
        · go_wp2
          go_ret
          exact SaysB.mk trivial st.out.x
        rcases Bool.eq_false_or_eq_true hg with rfl | rfl
        · go_wp2
          go_ret
          exact SaysB.mk trivial st.out.x
        cases e6
        · go_wp2
          go_ret
          exact SaysB.mk trivial st.out.x
        go_wp2
        exact ⟨⟨k + 1, by omega, by simp, st⟩, by simp only [intOf]; omega⟩
      · clear kl0 kl1 kl2 kl3 kl4 kl5 kl6 kl7 kl8 kl9 kl10 kl11 kl12
        by_cases h1 : n < 1
        · go_wp2
          go_ret
          exact SaysB.mk trivial st.out.x
        by_cases h2 : 4611686018427387904 < n
        · go_wp2
          go_ret
          exact SaysB.mk trivial st.out.x
        have hm := of_calls n (by omega) (by omega)
        generalize (n - 1) % 16 = m at hm
        replace hm := Lib.hid hm
        cases hmk : (m != (k : Int))
        · go_wp2_with (first | (go_at_call 113; refine (hm.out _).mono ?_; rintro e w2 ⟨rfl, rfl⟩))
          exact ⟨⟨k + 1, by omega, by simp, st⟩, by simp only [intOf]; omega⟩
        · go_wp2_with (first | (go_at_call 113; refine (hm.out _).mono ?_; rintro e w2 ⟨rfl, rfl⟩))
          go_ret
          exact SaysB.mk trivial st.out.x
end Go.Proofs.YtnpbnpilhmbpoaaGreat
