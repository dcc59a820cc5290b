/- Frames: how long each kind is; a frame's form. -/
import Derived.Test.YtnpbnpilhmbpoaaGreatU12
set_option linter.unusedVariables false
namespace Go.Proofs.YtnpbnpilhmbpoaaGreat
open Go.RowKit

set_option maxRecDepth 10000 in
theorem long_calls (k n : Int) (h : (k, n) ∈ [((1 : Int), (3 : Int)), (2, 8), (3, 8), (4, 5), (5, 18), (6, 4), (7, 1), (8, 15)]) (w : World) :
    Calls Tryz.prog 130 #[.int .i64 k] w fun e w' => e = .returned (.int .i64 n) ∧ w = w' := by
  simp only [List.mem_cons, Prod.mk.injEq, List.not_mem_nil, or_false] at h
  rcases h with ⟨rfl, rfl⟩ | ⟨rfl, rfl⟩ | ⟨rfl, rfl⟩ | ⟨rfl, rfl⟩ | ⟨rfl, rfl⟩ | ⟨rfl, rfl⟩ | ⟨rfl, rfl⟩ | ⟨rfl, rfl⟩
  · have hi : ∀ w, (Instr.index 269 (.agg #[.int .i64 3, .int .i64 8, .int .i64 8, .int .i64 5, .int .i64 18, .int .i64 4, .int .i64 1, .int .i64 15]) (.int .i64 0)).run Tryz.prog w = .ok (.int .i64 3) w := fun w => by kernel_rfl
    go_enter Tryz.func130, Tryz.ntmps130
    go_wp2
    go_ret
    exact ⟨rfl, rfl⟩
  · have hi : ∀ w, (Instr.index 269 (.agg #[.int .i64 3, .int .i64 8, .int .i64 8, .int .i64 5, .int .i64 18, .int .i64 4, .int .i64 1, .int .i64 15]) (.int .i64 1)).run Tryz.prog w = .ok (.int .i64 8) w := fun w => by kernel_rfl
    go_enter Tryz.func130, Tryz.ntmps130
    go_wp2
    go_ret
    exact ⟨rfl, rfl⟩
  · have hi : ∀ w, (Instr.index 269 (.agg #[.int .i64 3, .int .i64 8, .int .i64 8, .int .i64 5, .int .i64 18, .int .i64 4, .int .i64 1, .int .i64 15]) (.int .i64 2)).run Tryz.prog w = .ok (.int .i64 8) w := fun w => by kernel_rfl
    go_enter Tryz.func130, Tryz.ntmps130
    go_wp2
    go_ret
    exact ⟨rfl, rfl⟩
  · have hi : ∀ w, (Instr.index 269 (.agg #[.int .i64 3, .int .i64 8, .int .i64 8, .int .i64 5, .int .i64 18, .int .i64 4, .int .i64 1, .int .i64 15]) (.int .i64 3)).run Tryz.prog w = .ok (.int .i64 5) w := fun w => by kernel_rfl
    go_enter Tryz.func130, Tryz.ntmps130
    go_wp2
    go_ret
    exact ⟨rfl, rfl⟩
  · have hi : ∀ w, (Instr.index 269 (.agg #[.int .i64 3, .int .i64 8, .int .i64 8, .int .i64 5, .int .i64 18, .int .i64 4, .int .i64 1, .int .i64 15]) (.int .i64 4)).run Tryz.prog w = .ok (.int .i64 18) w := fun w => by kernel_rfl
    go_enter Tryz.func130, Tryz.ntmps130
    go_wp2
    go_ret
    exact ⟨rfl, rfl⟩
  · have hi : ∀ w, (Instr.index 269 (.agg #[.int .i64 3, .int .i64 8, .int .i64 8, .int .i64 5, .int .i64 18, .int .i64 4, .int .i64 1, .int .i64 15]) (.int .i64 5)).run Tryz.prog w = .ok (.int .i64 4) w := fun w => by kernel_rfl
    go_enter Tryz.func130, Tryz.ntmps130
    go_wp2
    go_ret
    exact ⟨rfl, rfl⟩
  · have hi : ∀ w, (Instr.index 269 (.agg #[.int .i64 3, .int .i64 8, .int .i64 8, .int .i64 5, .int .i64 18, .int .i64 4, .int .i64 1, .int .i64 15]) (.int .i64 6)).run Tryz.prog w = .ok (.int .i64 1) w := fun w => by kernel_rfl
    go_enter Tryz.func130, Tryz.ntmps130
    go_wp2
    go_ret
    exact ⟨rfl, rfl⟩
  · have hi : ∀ w, (Instr.index 269 (.agg #[.int .i64 3, .int .i64 8, .int .i64 8, .int .i64 5, .int .i64 18, .int .i64 4, .int .i64 1, .int .i64 15]) (.int .i64 7)).run Tryz.prog w = .ok (.int .i64 15) w := fun w => by kernel_rfl
    go_enter Tryz.func130, Tryz.ntmps130
    go_wp2
    go_ret
    exact ⟨rfl, rfl⟩

set_option maxRecDepth 10000 in
theorem fright_calls (k n : Int) (P : Option Addr) (m cap : Nat) (w : World) (hn : 0 < n) (H : Hid (∀ w, Calls Tryz.prog 130 #[.int .i64 k] w fun e w' => e = .returned (.int .i64 n) ∧ w = w')) :
    Calls Tryz.prog 63 #[.agg #[.int .i64 k, .slice P m cap]] w (SaysB w fun x => x = true → (m : Int) = n) := by
  cases hm : ((m : Int) == n)
  · go_enter Tryz.func63, Tryz.ntmps63
    go_wp2_with (first | (go_at_call 130; refine (H.out _).mono ?_; rintro e w2 ⟨rfl, rfl⟩))
    go_ret
    exact SaysB.mk (fun h => by cases h) ((Ext.refl w).alloc _ _)
  · have hm' : Hid ((m : Int) = n) := Lib.hid (by simpa using hm)
    go_enter Tryz.func63, Tryz.ntmps63
    go_wp2_with (first | (go_at_call 130; refine (H.out _).mono ?_; rintro e w2 ⟨rfl, rfl⟩))
    go_ret
    exact SaysB.mk (fun _ => hm'.out) ((Ext.refl w).alloc _ _)
end Go.Proofs.YtnpbnpilhmbpoaaGreat
