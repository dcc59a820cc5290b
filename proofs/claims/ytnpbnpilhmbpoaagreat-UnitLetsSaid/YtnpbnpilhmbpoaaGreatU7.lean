/- The reference's comparison of desks. -/
import Derived.Test.YtnpbnpilhmbpoaaGreatU6
set_option linter.unusedVariables false
namespace Go.Proofs.YtnpbnpilhmbpoaaGreat
open Go.RowKit

set_option maxHeartbeats 2000000 in
theorem dsame_gen (g k a p s q g' k' a' p' s' q' : Int) (W W' : Value) (bw e0 e1 e2 e3 e4 e5 : Bool) (w : World)
    (h0 : Hid ((g == g') = e0)) (h1 : Hid ((k == k') = e1)) (h2 : Hid ((a == a') = e2)) (h3 : Hid ((p == p') = e3)) (h4 : Hid ((s == s') = e4)) (h5 : Hid ((q == q') = e5))
    (H : Hid (∀ V, Ext w V → Calls Tryz.prog 117 #[W, W'] V (SaysB V fun x => x = bw))) :
    Calls Tryz.prog 56 #[.agg #[.int .i64 g, .int .i64 k, .int .i64 a, .int .i64 p, .int .i64 s, .int .i64 q, W], .agg #[.int .i64 g', .int .i64 k', .int .i64 a', .int .i64 p', .int .i64 s', .int .i64 q', W']] w (SaysB w fun x => x = (bw && e0 && e1 && e2 && e3 && e4 && e5)) := by
  go_enter Tryz.func56, Tryz.ntmps56
  go_wp2_with fail
  have st := ((Own.start w).push #[.int .i64 g, .int .i64 k, .int .i64 a, .int .i64 p, .int .i64 s, .int .i64 q, W] 45 _ rfl).push #[.int .i64 g', .int .i64 k', .int .i64 a', .int .i64 p', .int .i64 s', .int .i64 q', W'] 45 (w.heap.size + 1) (by simp)
  replace st : Own w _ [w.heap.size, w.heap.size + 1] [(#[.int .i64 g, .int .i64 k, .int .i64 a, .int .i64 p, .int .i64 s, .int .i64 q, W], 45), (#[.int .i64 g', .int .i64 k', .int .i64 a', .int .i64 p', .int .i64 s', .int .i64 q', W'], 45)] := st
  refine (H.out _ st.x).mono ?_
  rintro e w1 ⟨x, rfl, hx, hxx⟩
  subst hx
  replace st := st.ext hxx
  clear hxx
  have km := st.cell 0 rfl rfl
  have km' := st.cell 1 rfl rfl
  have k0 := h0.out
  have k1 := h1.out
  have k2 := h2.out
  have k3 := h3.out
  have k4 := h4.out
  have k5 := h5.out
  cases x
  · go_wp2
    go_ret
    exact SaysB.mk (by simp) st.x
  cases e0
  · go_wp2
    go_ret
    exact SaysB.mk (by simp) st.x
  cases e1
  · go_wp2
    go_ret
    exact SaysB.mk (by simp) st.x
  cases e2
  · go_wp2
    go_ret
    exact SaysB.mk (by simp) st.x
  cases e3
  · go_wp2
    go_ret
    exact SaysB.mk (by simp) st.x
  cases e4
  · go_wp2
    go_ret
    exact SaysB.mk (by simp) st.x
  cases e5
  · go_wp2
    go_ret
    exact SaysB.mk (by simp) st.x
  go_wp2
  go_ret
  exact SaysB.mk (by simp) st.x

end Go.Proofs.YtnpbnpilhmbpoaaGreat
