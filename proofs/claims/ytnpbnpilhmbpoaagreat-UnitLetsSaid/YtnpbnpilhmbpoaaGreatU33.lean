/- Rows of outputs compared: with none, with themselves. -/
import Derived.Test.YtnpbnpilhmbpoaaGreatU11
set_option linter.unusedVariables false
set_option linter.unusedSimpArgs false
namespace Go.Proofs.YtnpbnpilhmbpoaaGreat
open Go.RowKit

set_option maxRecDepth 10000 in
theorem outs_nil (p : Option Addr) (n cap : Nat) (w : World) : Calls Tryz.prog 117 #[.slice p n cap, .slice none 0 0] w (SaysB w fun x => x = decide (n = 0)) := by
  by_cases hn : n = 0
  · subst hn
    go_enter Tryz.func117, Tryz.ntmps117
    go_wp2
    go_loopw [5] (fun iv wr => iv = .int .i64 0 ∧ wr = w) (fun iv _ => 0)
    case atStart => exact ⟨rfl, rfl⟩
    case round =>
      obtain ⟨rfl, rfl⟩ := hrel
      go_wp2
      go_ret
      exact SaysB.mk rfl (Ext.refl _)
  · have h0 : ((n : Int) != 0) = true := by simp; omega
    go_enter Tryz.func117, Tryz.ntmps117
    go_wp2
    go_ret
    exact SaysB.mk (by simp [hn]) (Ext.refl _)

set_option maxRecDepth 10000 in
set_option maxHeartbeats 2000000 in
theorem outs_self (p : Option Addr) (n cap : Nat) (f : Nat → Int) (w : World) (hn : Hid (n ≤ 9223372036854775807)) (hP : Hid (NumP w p (4 * n) f)) : Calls Tryz.prog 117 #[.slice p n cap, .slice p n cap] w (SaysB w fun x => x = true) := by
  go_enter Tryz.func117, Tryz.ntmps117
  go_wp2
  go_loopw [5] (fun iv wr => ∃ k : Nat, k ≤ n ∧ iv = .int .i64 k ∧ Hid (Ext w wr)) (fun iv _ => n - (intOf iv).toNat)
  case atStart => exact ⟨0, by omega, rfl, Lib.hid (Ext.refl w)⟩
  case round =>
    obtain ⟨k, hk, rfl, st⟩ := hrel
    by_cases hkn : k = n
    · subst hkn
      go_wp2
      go_ret
      exact SaysB.mk rfl st.out
    · have hk2 : (k : Int) < n := by omega
      have wk : wrap64 ((k : Int) + 1) = ((k + 1 : Nat) : Int) := by have := hn.out; unfold wrap64; omega
      replace wk := Lib.hid wk
      rcases hP.out with hz | ⟨b, o, rfl, hb, hl⟩
      · omega
      have k0 : wr.cell? ⟨b, o + k * 4, none⟩ = some (.int .i64 (f (k * 4))) := by rw [st.out.cell b _ hb]; exact hl _ (by omega)
      have k1 : wr.cell? ⟨b, o + k * 4 + 1, none⟩ = some (.int .i64 (f (k * 4 + 1))) := by rw [st.out.cell b _ hb, Nat.add_assoc]; exact hl _ (by omega)
      have k2 : wr.cell? ⟨b, o + k * 4 + 2, none⟩ = some (.int .i64 (f (k * 4 + 2))) := by rw [st.out.cell b _ hb, Nat.add_assoc]; exact hl _ (by omega)
      have k3 : wr.cell? ⟨b, o + k * 4 + 3, none⟩ = some (.int .i64 (f (k * 4 + 3))) := by rw [st.out.cell b _ hb, Nat.add_assoc]; exact hl _ (by omega)
      generalize f (k * 4) = v0 at k0
      generalize f (k * 4 + 1) = v1 at k1
      generalize f (k * 4 + 2) = v2 at k2
      generalize f (k * 4 + 3) = v3 at k3
      replace hb := Lib.hid hb
      replace hl := Lib.hid hl
      have HE : ∀ w, (Op.equalIn 9999 48 (.agg #[.int .i64 v1, .int .i64 v2, .int .i64 v3]) (.agg #[.int .i64 v1, .int .i64 v2, .int .i64 v3])).run Tryz.prog w = .ok true w := fun w => by rw [eq48d]; simp
      go_wp2
      go_quiet (fail)
      go_wp2
      rw [wk.out]
      exact ⟨⟨k + 1, by omega, rfl, Lib.hid (st.out.drewN _)⟩, by simp only [intOf]; omega⟩
end Go.Proofs.YtnpbnpilhmbpoaaGreat
