/- The reference's tests of quaternions and of small numbers. -/
import Derived.Test.YtnpbnpilhmbpoaaGreatU0
set_option linter.unusedVariables false
namespace Go.Proofs.YtnpbnpilhmbpoaaGreat
open Go.RowKit

set_option maxHeartbeats 1000000 in
/-- Four numbers, as a row. -/
theorem qright_calls (q : Array Value) (f : Nat → Int) (hq : Hid (∀ k, k < 4 → q[k]? = some (.int .i64 (f k)))) (w : World) :
    Calls Tryz.prog 115 #[.agg q] w (SaysB w fun _ => True) := by
  go_enter Tryz.func115, Tryz.ntmps115
  go_wp2
  have st := (Own.start w).push q 33 _ rfl
  replace st : Own w _ [w.heap.size] [(q, 33)] := st
  replace st := Lib.hid st
  go_loopw [3] (fun iv wr => ∃ k : Nat, k ≤ 4 ∧ iv = .int .i64 k ∧ Hid (Own w wr [w.heap.size] [(q, 33)])) (fun iv _ => 4 - (intOf iv).toNat)
  case atStart => exact ⟨0, by omega, rfl, st⟩
  case round =>
    clear st
    obtain ⟨k, hk, rfl, st⟩ := hrel
    by_cases hkn : k = 4
    · subst hkn
      go_wp2
      go_ret
      exact SaysB.mk trivial st.out.x
    · have hk2 : (k : Int) < 4 := by omega
      have km : wr.cell? ⟨w.heap.size, k, none⟩ = some (.int .i64 (f k)) := by rw [st.out.cell 0 rfl rfl k]; exact hq.out k (by omega)
      have wk : Hid (wrap64 ((k : Int) + 1) = ((k + 1 : Nat) : Int)) := Lib.hid (by unfold wrap64; omega)
      cases hi : inB (f k)
      · go_wp2_with (first | (go_at_call 177; refine (in_calls _ _).mono ?_; rintro e w2 ⟨rfl, rfl⟩))
        go_ret
        exact SaysB.mk trivial st.out.x
      · go_wp2_with (first | (go_at_call 177; refine (in_calls _ _).mono ?_; rintro e w2 ⟨rfl, rfl⟩))
        exact ⟨⟨k + 1, by omega, by go_num, st⟩, by simp only [intOf]; omega⟩
end Go.Proofs.YtnpbnpilhmbpoaaGreat
