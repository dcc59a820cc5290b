/- The reference's comparison of estimators. -/
import Derived.Test.YtnpbnpilhmbpoaaGreatU5
import Derived.Test.YtnpbnpilhmbpoaaGreatE2
set_option linter.unusedVariables false
namespace Go.Proofs.YtnpbnpilhmbpoaaGreat
open Go.RowKit

set_option maxHeartbeats 4000000 in
theorem esame_gen (t0 t1 t2 t3 r0 c0 R0 C0 r1 c1 R1 C1 r2 c2 R2 C2 steps coast o0 o1 o2 o3 t0' t1' t2' t3' r0' c0' R0' C0' r1' c1' R1' C1' r2' c2' R2' C2' steps' coast' o0' o1' o2' o3' : Int) (sat sat' : Bool) (s0 S0 s0' S0' s1 S1 s1' S1' s2 S2 s2' S2' : Value) (b0 b1 b2 qe oe se ce sa : Bool) (w : World)
    (hq : Hid (((t0 == t0') && ((t1 == t1') && ((t2 == t2') && (t3 == t3')))) = qe)) (ho : Hid (((o0 == o0') && ((o1 == o1') && ((o2 == o2') && (o3 == o3')))) = oe))
    (hs : Hid ((steps == steps') = se)) (hc : Hid ((coast == coast') = ce)) (hsa : Hid ((sat == sat') = sa))
    (H0 : Hid (∀ W, Ext w W → Calls Tryz.prog 118 #[.agg #[.int .i64 r0, .int .i64 c0, s0, .int .i64 R0, .int .i64 C0, S0], .agg #[.int .i64 r0', .int .i64 c0', s0', .int .i64 R0', .int .i64 C0', S0']] W (SaysB W fun x => x = b0))) (H1 : Hid (∀ W, Ext w W → Calls Tryz.prog 118 #[.agg #[.int .i64 r1, .int .i64 c1, s1, .int .i64 R1, .int .i64 C1, S1], .agg #[.int .i64 r1', .int .i64 c1', s1', .int .i64 R1', .int .i64 C1', S1']] W (SaysB W fun x => x = b1))) (H2 : Hid (∀ W, Ext w W → Calls Tryz.prog 118 #[.agg #[.int .i64 r2, .int .i64 c2, s2, .int .i64 R2, .int .i64 C2, S2], .agg #[.int .i64 r2', .int .i64 c2', s2', .int .i64 R2', .int .i64 C2', S2']] W (SaysB W fun x => x = b2))) :
    Calls Tryz.prog 57 #[.agg #[.int .i64 t0, .int .i64 t1, .int .i64 t2, .int .i64 t3, .int .i64 r0, .int .i64 c0, s0, .int .i64 R0, .int .i64 C0, S0, .int .i64 r1, .int .i64 c1, s1, .int .i64 R1, .int .i64 C1, S1, .int .i64 r2, .int .i64 c2, s2, .int .i64 R2, .int .i64 C2, S2, .int .i64 steps, .int .i64 coast, .int .i64 o0, .int .i64 o1, .int .i64 o2, .int .i64 o3, .bool sat], .agg #[.int .i64 t0', .int .i64 t1', .int .i64 t2', .int .i64 t3', .int .i64 r0', .int .i64 c0', s0', .int .i64 R0', .int .i64 C0', S0', .int .i64 r1', .int .i64 c1', s1', .int .i64 R1', .int .i64 C1', S1', .int .i64 r2', .int .i64 c2', s2', .int .i64 R2', .int .i64 C2', S2', .int .i64 steps', .int .i64 coast', .int .i64 o0', .int .i64 o1', .int .i64 o2', .int .i64 o3', .bool sat']] w (SaysB w fun x => x = (b0 && b1 && b2 && qe && se && ce && oe && sa)) := by
  go_enter Tryz.func57, Tryz.ntmps57
  go_wp2_with fail
  have st := ((Own.start w).push #[.int .i64 t0, .int .i64 t1, .int .i64 t2, .int .i64 t3, .int .i64 r0, .int .i64 c0, s0, .int .i64 R0, .int .i64 C0, S0, .int .i64 r1, .int .i64 c1, s1, .int .i64 R1, .int .i64 C1, S1, .int .i64 r2, .int .i64 c2, s2, .int .i64 R2, .int .i64 C2, S2, .int .i64 steps, .int .i64 coast, .int .i64 o0, .int .i64 o1, .int .i64 o2, .int .i64 o3, .bool sat] 42 _ rfl).push #[.int .i64 t0', .int .i64 t1', .int .i64 t2', .int .i64 t3', .int .i64 r0', .int .i64 c0', s0', .int .i64 R0', .int .i64 C0', S0', .int .i64 r1', .int .i64 c1', s1', .int .i64 R1', .int .i64 C1', S1', .int .i64 r2', .int .i64 c2', s2', .int .i64 R2', .int .i64 C2', S2', .int .i64 steps', .int .i64 coast', .int .i64 o0', .int .i64 o1', .int .i64 o2', .int .i64 o3', .bool sat'] 42 (w.heap.size + 1) (by simp)
  replace st : Own w _ [w.heap.size, w.heap.size + 1] [(#[.int .i64 t0, .int .i64 t1, .int .i64 t2, .int .i64 t3, .int .i64 r0, .int .i64 c0, s0, .int .i64 R0, .int .i64 C0, S0, .int .i64 r1, .int .i64 c1, s1, .int .i64 R1, .int .i64 C1, S1, .int .i64 r2, .int .i64 c2, s2, .int .i64 R2, .int .i64 C2, S2, .int .i64 steps, .int .i64 coast, .int .i64 o0, .int .i64 o1, .int .i64 o2, .int .i64 o3, .bool sat], 42), (#[.int .i64 t0', .int .i64 t1', .int .i64 t2', .int .i64 t3', .int .i64 r0', .int .i64 c0', s0', .int .i64 R0', .int .i64 C0', S0', .int .i64 r1', .int .i64 c1', s1', .int .i64 R1', .int .i64 C1', S1', .int .i64 r2', .int .i64 c2', s2', .int .i64 R2', .int .i64 C2', S2', .int .i64 steps', .int .i64 coast', .int .i64 o0', .int .i64 o1', .int .i64 o2', .int .i64 o3', .bool sat'], 42)] := st
  refine (H0.out _ st.x).mono ?_
  rintro e w1 ⟨x, rfl, hx, hxx⟩
  subst hx
  replace st := st.ext hxx
  clear hxx
  cases x
  · go_wp2
    go_ret
    exact SaysB.mk (by simp) st.x
  have km := st.cell 0 rfl rfl
  have km' := st.cell 1 rfl rfl
  go_wp2_with fail
  clear km km'
  refine (H1.out _ st.x).mono ?_
  rintro e w2 ⟨x, rfl, hx, hxx⟩
  subst hx
  replace st := st.ext hxx
  clear hxx
  cases x
  · go_wp2
    go_ret
    exact SaysB.mk (by simp) st.x
  have km := st.cell 0 rfl rfl
  have km' := st.cell 1 rfl rfl
  go_wp2_with fail
  clear km km'
  refine (H2.out _ st.x).mono ?_
  rintro e w3 ⟨x, rfl, hx, hxx⟩
  subst hx
  replace st := st.ext hxx
  clear hxx
  cases x
  · go_wp2
    go_ret
    exact SaysB.mk (by simp) st.x
  have km := st.cell 0 rfl rfl
  have km' := st.cell 1 rfl rfl
  have HE33 : ∀ w, (Op.equalIn 10000 33 (.agg #[.int .i64 t0, .int .i64 t1, .int .i64 t2, .int .i64 t3]) (.agg #[.int .i64 t0', .int .i64 t1', .int .i64 t2', .int .i64 t3'])).run Tryz.prog w = .ok qe w := fun w => by rw [eq33, hq.out]
  have HE40 : ∀ w, (Op.equalIn 10000 40 (.agg #[.int .i64 o0, .int .i64 o1, .int .i64 o2, .int .i64 o3]) (.agg #[.int .i64 o0', .int .i64 o1', .int .i64 o2', .int .i64 o3'])).run Tryz.prog w = .ok oe w := fun w => by rw [eq40, ho.out]
  have k1 := hs.out
  have k2 := hc.out
  have k3 := hsa.out
  cases qe
  · go_wp2
    go_ret
    exact SaysB.mk (by simp) st.x
  cases se
  · go_wp2
    go_ret
    exact SaysB.mk (by simp) st.x
  cases ce
  · go_wp2
    go_ret
    exact SaysB.mk (by simp) st.x
  cases oe
  · go_wp2
    go_ret
    exact SaysB.mk (by simp) st.x
  cases sa
  · go_wp2
    go_ret
    exact SaysB.mk (by simp) st.x
  go_wp2
  go_ret
  exact SaysB.mk (by simp) st.x
end Go.Proofs.YtnpbnpilhmbpoaaGreat
