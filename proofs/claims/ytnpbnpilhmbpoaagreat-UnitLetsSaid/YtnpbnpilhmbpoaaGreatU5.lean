/- The reference's comparison of tracks. -/
import Derived.Test.YtnpbnpilhmbpoaaGreatU4
set_option linter.unusedVariables false
namespace Go.Proofs.YtnpbnpilhmbpoaaGreat
open Go.RowKit

set_option maxHeartbeats 1000000 in
theorem tsame_gen (r1 c1 r2 c2 r1' c1' r2' c2' : Int) (s1 s2 s1' s2' : Value) (b1 b2 : Bool) (w : World)
    (H1 : Hid (∀ W, Ext w W → Calls Tryz.prog 178 #[.agg #[.int .i64 r1, .int .i64 c1, s1], .agg #[.int .i64 r1', .int .i64 c1', s1']] W (SaysB W fun x => x = b1)))
    (H2 : Hid (∀ W, Ext w W → Calls Tryz.prog 178 #[.agg #[.int .i64 r2, .int .i64 c2, s2], .agg #[.int .i64 r2', .int .i64 c2', s2']] W (SaysB W fun x => x = b2))) :
    Calls Tryz.prog 118 #[.agg #[.int .i64 r1, .int .i64 c1, s1, .int .i64 r2, .int .i64 c2, s2], .agg #[.int .i64 r1', .int .i64 c1', s1', .int .i64 r2', .int .i64 c2', s2']] w (SaysB w fun x => x = (b1 && b2)) := by
  go_enter Tryz.func118, Tryz.ntmps118
  go_wp2_with fail
  have st := ((Own.start w).push #[.int .i64 r1, .int .i64 c1, s1, .int .i64 r2, .int .i64 c2, s2] 38 _ rfl).push #[.int .i64 r1', .int .i64 c1', s1', .int .i64 r2', .int .i64 c2', s2'] 38 (w.heap.size + 1) (by simp)
  replace st : Own w _ [w.heap.size, w.heap.size + 1] [(#[.int .i64 r1, .int .i64 c1, s1, .int .i64 r2, .int .i64 c2, s2], 38), (#[.int .i64 r1', .int .i64 c1', s1', .int .i64 r2', .int .i64 c2', s2'], 38)] := st
  refine (H1.out _ st.x).mono ?_
  rintro e w1 ⟨x, rfl, hx, hxx⟩
  subst hx
  replace st := st.ext hxx
  clear hxx
  cases x
  · go_wp2
    go_ret
    exact SaysB.mk rfl st.x
  · have km := st.cell 0 rfl rfl
    have km' := st.cell 1 rfl rfl
    go_wp2_with fail
    clear km km'
    refine (H2.out _ st.x).mono ?_
    rintro e w2 ⟨y, rfl, hy, hxx⟩
    subst hy
    replace st := st.ext hxx
    clear hxx
    cases y
    all_goals
      go_wp2
      go_ret
      exact SaysB.mk rfl st.x
end Go.Proofs.YtnpbnpilhmbpoaaGreat
