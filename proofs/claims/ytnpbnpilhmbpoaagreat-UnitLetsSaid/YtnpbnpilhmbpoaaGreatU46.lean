/- The statement UnitLets, lifted: for every setup, unit and frame the law answers true. -/
import Derived.Test.YtnpbnpilhmbpoaaGreatRows
import Derived.WalkKit
import Derived.ProofKit
import Derived.OpenShut
import Derived.Test.YtnpbnpilhmbpoaaGreatU45
namespace Go.Proofs.YtnpbnpilhmbpoaaGreat.unitLets
open Go.ChangeShapes Go.WideShapes Go.ChangeAt Go.RowKit
set_option linter.unusedVariables false

theorem own : ownKnob Tryz.prog.godebug = none := by kernel_rfl
theorem laid : laidOutB Tryz.prog = true := by kernel_rfl

set_option maxHeartbeats 1000000 in
set_option maxRecDepth 100000 in
theorem lifted (os : Os) (started : os.Started) (H : Type) (enc : TypeId × Value → H) :
    ReturnsInHanded {} Tryz.checked os 5 .any (Rows.unitLetsSpec.pre6 enc Tryz.prog Tryz.f5 Rows.unitLetsRow.domain false) (Rows.unitLetsSpec.post enc Tryz.prog Tryz.f5 false true false false) := by
  refine returnsInHanded_of_change (C := Tryz.checked) own started (by kernel_rfl) Tryz.func5
    (ChangeSpec.witness6 (enc := enc) (C := Tryz.checked) false ⟨#[], #[.agg #[.int .i64 0, .int .i64 0, .int .i64 0, .int .i64 0, .int .i64 0, .int .i64 0, .int .i64 0, .int .i64 0], (((Tryz.prog.info? 62).bind (·.zero)).getD undef), .agg #[.int .i64 0, .slice none 0 0]], []⟩ 12 (by kernel_rfl) (by kernel_rfl) (by kernel_rfl) (by kernel_rfl)) ?_
  intro W base args ds gs before hval0 hW hcnd _
  have hval : ∀ (j : Nat) t v, Tryz.f5.params[j]? = some t → args[j]? = some v → Value.okWide Tryz.prog W .any base t v := hval0
  have hW' := hW
  obtain ⟨p, q, hA0, hV, rfl, hfz, hnd⟩ := hW
  have hA : DataW.TrodAll enc Tryz.prog W 0 (fun _ => true) true Tryz.f5.params.toList args.toList ds p := hA0
  rw [Tryz.params5] at hA hval
  obtain ⟨v0, vs0, d0, ds0, p0, q0, hargs, rfl, rfl, h0, r0⟩ := trodAll_cons hA
  obtain ⟨v1, vs1, d1, ds1, p1, q1, rfl, rfl, rfl, h1, r1⟩ := trodAll_cons r0
  obtain ⟨v2, vs2, d2, ds2, p2, q2, rfl, rfl, rfl, h2, r2⟩ := trodAll_cons r1
  obtain ⟨rfl, rfl, rfl⟩ := trodAll_nil r2
  obtain rfl : args = #[v0, v1, v2] := by cases args; simp_all
  obtain ⟨rfl, rfl⟩ := trodVars_none hV
  have hlt : ∀ x ∈ p0 ++ (p1 ++ (p2 ++ [])), x.block < W.heap.size := fun x hx => by simpa using hW'.lt x (by simpa using hx)
  obtain ⟨c0, rfl, s0, _⟩ := seen_arg (by exact Tryz.underlying26) (hval 0 26 v0 rfl rfl) h0
  obtain ⟨u, rfl, s1, hone⟩ := seen_arg (by exact Tryz.underlying62) (hval 1 62 v1 rfl rfl) h1
  obtain ⟨c2, rfl, s2, _⟩ := seen_arg (by exact Tryz.underlying99) (hval 2 99 v2 rfl rfl) h2
  have hu := unit_of s1 hone
  obtain ⟨l0⟩ := c0
  obtain ⟨l2⟩ := c2
  obtain ⟨g0, g1, g2, g3, g4, g5, g6, g7, e0⟩ := setup_of s0
  obtain ⟨k, pp, cap, L, e2, hs, hc⟩ := frame_of s2
  simp only at e0 e2
  subst e0; subst e2
  clear hA0 hval0 hA hval
  refine (lets_calls hu g0 g1 g2 g3 g4 g5 g6 g7 k _ L hs pp cap rfl hc).mono fun e W' ⟨x, he, hx, hg⟩ => ?_
  subst hx
  subst he
  have stay : ∀ (sp : Nat → Bool) {t : TypeId} {v : Value} {d : DataW H} {ps : List MemPlace}, Tryz.prog.readableRec t = true → t < Tryz.prog.types.size → DataW.Trod enc Tryz.prog W 0 (fun _ => true) true t v d ps → (∀ x ∈ ps, x.block < W.heap.size) → (∀ x ∈ ps, sp x.block = true) → DataW.Trod enc Tryz.prog W' 0 sp true t v d ps :=
    fun sp t v d ps hr hrow h hb hsp => WideElems.Trod_stays laid hr hrow h (fun x hx => hg.below.same (hb x hx)) hsp
  exact ⟨_, rfl, post_of_same (pa := p0 ++ (p1 ++ (p2 ++ []))) (pv := []) hW' (fun _ _ _ => (trodAll_cons_mk (shut_bool Tryz.underlying4 _) trodAll_mk0))
    (fun sp hsp => trodAll_cons_mk (stay sp (by kernel_rfl) (of_decide_eq_true (by kernel_rfl)) h0 (fun x hx => hlt x (by simp [hx])) (fun x hx => hsp x (by simp [hx])))
      (trodAll_cons_mk (stay sp (by kernel_rfl) (of_decide_eq_true (by kernel_rfl)) h1 (fun x hx => hlt x (by simp [hx])) (fun x hx => hsp x (by simp [hx])))
        (trodAll_cons_mk (stay sp (by kernel_rfl) (of_decide_eq_true (by kernel_rfl)) h2 (fun x hx => hlt x (by simp [hx])) (fun x hx => hsp x (by simp [hx]))) trodAll_mk0))) (fun _ _ => rfl) rfl
    (hg.grown.frame _) hg.grown.2.1 (ok_one (by kernel_rfl) rfl (okWide_bool_mk Tryz.underlying4 _))⟩

end Go.Proofs.YtnpbnpilhmbpoaaGreat.unitLets
