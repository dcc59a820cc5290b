/- The statement QuatConjs: for every two rows of four small numbers the law answers true. No condition. -/
import Derived.Test.YtdjgafcniifmlaaRows
import Derived.WalkKit
import Derived.ProofKit
import Derived.OpenShut
import Derived.Test.YtdjgafcniifmlaaE3
import Derived.Test.YtdjgafcniifmlaaB2
namespace Go.Proofs.Ytdjgafcniifmlaa.quatConjs
open Go.ChangeShapes Go.WideShapes Go.ChangeAt Go.RowKit
set_option linter.unusedVariables false

theorem own : ownKnob Try.prog.godebug = none := by kernel_rfl

theorem walk (a0_0 a0_1 a0_2 a0_3 a1_0 a1_1 a1_2 a1_3 : Int) (wa0_0 : (Lit.int .i8 a0_0).wf = true) (wa0_1 : (Lit.int .i8 a0_1).wf = true) (wa0_2 : (Lit.int .i8 a0_2).wf = true) (wa0_3 : (Lit.int .i8 a0_3).wf = true) (wa1_0 : (Lit.int .i8 a1_0).wf = true) (wa1_1 : (Lit.int .i8 a1_1).wf = true) (wa1_2 : (Lit.int .i8 a1_2).wf = true) (wa1_3 : (Lit.int .i8 a1_3).wf = true) (w : World) :
    Calls Try.prog 5 #[.agg #[.int .i8 a0_0, .int .i8 a0_1, .int .i8 a0_2, .int .i8 a0_3], .agg #[.int .i8 a1_0, .int .i8 a1_1, .int .i8 a1_2, .int .i8 a1_3]] w fun e w' => e = .returned (.bool true) ∧ Grown w w' :=
  (conjs_calls a0_0 a0_1 a0_2 a0_3 a1_0 a1_1 a1_2 a1_3 w).mono fun e w' ⟨he, hw⟩ => ⟨he, hw.grown⟩

set_option maxHeartbeats 400000 in
set_option maxRecDepth 100000 in
theorem lifted (os : Os) (started : os.Started) (H : Type) (enc : TypeId × Value → H) :
    ReturnsInHanded {} Try.checked os 5 .any (Rows.quatConjsSpec.pre6 enc Try.prog Try.f5 Rows.quatConjsRow.domain false) (Rows.quatConjsSpec.post enc Try.prog Try.f5 false true false false) := by
  refine returnsInHanded_of_change (C := Try.checked) own started (by kernel_rfl) Try.func5
    (ChangeSpec.witness6 (enc := enc) (C := Try.checked) false ⟨#[], #[.agg #[.int .i8 0, .int .i8 0, .int .i8 0, .int .i8 0], .agg #[.int .i8 0, .int .i8 0, .int .i8 0, .int .i8 0]], []⟩ 8 (by kernel_rfl) (by kernel_rfl) (by kernel_rfl) (by kernel_rfl)) ?_
  intro W base args ds gs before hval0 hW hcnd _
  have hval : ∀ (j : Nat) t v, Try.f5.params[j]? = some t → args[j]? = some v → Value.okWide Try.prog W .any base t v := hval0
  have hW' := hW
  obtain ⟨p, q, hA0, hV, rfl, hfz, hnd⟩ := hW
  have hA : DataW.TrodAll enc Try.prog W 0 (fun _ => true) true Try.f5.params.toList args.toList ds p := hA0
  rw [Try.params5] at hA hval
  obtain ⟨v0, vs0, d0, ds0, p0, q0, hargs, rfl, rfl, h0, r0⟩ := trodAll_cons hA
  obtain ⟨v1, vs1, d1, ds1, p1, q1, rfl, rfl, rfl, h1, r1⟩ := trodAll_cons r0
  obtain ⟨rfl, rfl, rfl⟩ := trodAll_nil r1
  obtain rfl : args = #[v0, v1] := by cases args; simp_all
  obtain ⟨rfl, rfl⟩ := trodVars_none hV
  obtain ⟨a0_0, a0_1, a0_2, a0_3, rfl, rfl, rfl, wa0_0, wa0_1, wa0_2, wa0_3⟩ := open_arr4 Try.underlying36 Try.underlying35 (by kernel_rfl) (by kernel_rfl) (hval 0 36 v0 rfl rfl) h0
  obtain ⟨a1_0, a1_1, a1_2, a1_3, rfl, rfl, rfl, wa1_0, wa1_1, wa1_2, wa1_3⟩ := open_arr4 Try.underlying36 Try.underlying35 (by kernel_rfl) (by kernel_rfl) (hval 1 36 v1 rfl rfl) h1
  clear hA0 hval0
  simp only [List.append_nil] at hW'
  refine (walk a0_0 a0_1 a0_2 a0_3 a1_0 a1_1 a1_2 a1_3 wa0_0 wa0_1 wa0_2 wa0_3 wa1_0 wa1_1 wa1_2 wa1_3 W).mono fun e W' ⟨he, hg⟩ => ?_
  subst he
  exact ⟨_, rfl, post_of_same (pa := []) (pv := []) hW' (fun _ _ _ => (trodAll_cons_mk (shut_bool Try.underlying4 _) trodAll_mk0)) (fun sp _ => (trodAll_cons_mk (shut_arr4 Try.underlying36 Try.underlying35 (by kernel_rfl) (by kernel_rfl) wa0_0 wa0_1 wa0_2 wa0_3) (trodAll_cons_mk (shut_arr4 Try.underlying36 Try.underlying35 (by kernel_rfl) (by kernel_rfl) wa1_0 wa1_1 wa1_2 wa1_3) trodAll_mk0))) (fun _ _ => rfl) rfl
    (hg.frame _) hg.2.1 (ok_one (by kernel_rfl) rfl (okWide_bool_mk Try.underlying4 _))⟩

theorem over : Rows.quatConjsRow.holds Try.pinned (OpenSpec.ofChange Rows.quatConjsSpec) :=
  OpenClaim.holds_of_wide 5 Try.f5 rfl rfl rfl rfl rfl rfl rfl ⟨rfl, rfl, rfl, rfl, rfl⟩ rfl rfl rfl rfl rfl (by kernel_rfl) Try.func5 (by kernel_rfl)
    (of_decide_eq_true (by kernel_rfl)) (by unfold Func.isWrapper; first | (rw [if_pos (by decide +kernel)]; kernel_rfl) | (rw [if_neg (by decide +kernel)]; exact ⟨rfl, rfl⟩))
    (fun os started H enc _ => lifted os started H enc)

/-- The statement. -/
theorem proved : Rows.QuatConjsSaid :=
  over
#print axioms proved
end Go.Proofs.Ytdjgafcniifmlaa.quatConjs
