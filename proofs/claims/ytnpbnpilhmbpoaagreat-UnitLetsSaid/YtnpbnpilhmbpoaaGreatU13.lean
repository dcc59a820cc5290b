/- The reference's comparison of units: of one with itself. -/
import Derived.Test.YtnpbnpilhmbpoaaGreatU12
set_option linter.unusedVariables false
namespace Go.Proofs.YtnpbnpilhmbpoaaGreat
open Go.RowKit

set_option maxRecDepth 10000 in
set_option maxHeartbeats 4000000 in
theorem usame_gen (u e d q s : Array Value) (n0 n1 n2 n3 n4 n5 n6 n7 n8 n38 n39 n40 : Int) (w : World)
    (u0 : u[0]? = some (.int .i64 n0)) (u1 : u[1]? = some (.int .i64 n1)) (u2 : u[2]? = some (.int .i64 n2)) (u3 : u[3]? = some (.int .i64 n3)) (u4 : u[4]? = some (.int .i64 n4)) (u5 : u[5]? = some (.int .i64 n5)) (u6 : u[6]? = some (.int .i64 n6)) (u7 : u[7]? = some (.int .i64 n7)) (u8 : u[8]? = some (.int .i64 n8)) (u38 : u[38]? = some (.int .i64 n38)) (u39 : u[39]? = some (.int .i64 n39)) (u40 : u[40]? = some (.int .i64 n40))
    (he : Hid (∀ j, j < 29 → u[9 + j]? = e[j]?)) (ze : Hid (e.size = 29)) (hd : Hid (∀ j, j < 7 → u[41 + j]? = d[j]?)) (zd : Hid (d.size = 7)) (hq : Hid (∀ j, j < 224 → u[48 + j]? = q[j]?)) (zq : Hid (q.size = 224)) (hs : Hid (∀ j, j < 49 → u[272 + j]? = s[j]?)) (zs : Hid (s.size = 49))
    (heq : Hid (∀ w, (Op.equalIn 10000 53 (.agg q) (.agg q)).run Tryz.prog w = .ok true w)) (hes : Hid (∀ w, (Op.equalIn 10000 60 (.agg s) (.agg s)).run Tryz.prog w = .ok true w))
    (H57 : Hid (∀ V, Ext w V → Calls Tryz.prog 57 #[.agg e, .agg e] V (SaysB V fun x => x = true)))
    (H56 : Hid (∀ V, Ext w V → Calls Tryz.prog 56 #[.agg d, .agg d] V (SaysB V fun x => x = true))) :
    Calls Tryz.prog 24 #[.agg u, .agg u] w (SaysB w fun x => x = true) := by
  have st : Own w ((w.alloc (.cells u 62)).alloc (.cells u 62)) [w.heap.size, w.heap.size + 1] [(u, 62), (u, 62)] := ((Own.start w).push u 62 _ rfl).push u 62 (w.heap.size + 1) (by simp)
  have km := Lib.hid (st.cell 0 rfl rfl)
  have km' := Lib.hid (st.cell 1 rfl rfl)
  have x0 := Lib.hid st.x
  replace st := Lib.hid st
  go_enter Tryz.func24, Tryz.ntmps24
  go_wp2_with (first | (refine wpList_load_row 42 29 e rfl rfl rfl ze.out (by kernel_rfl) (by kernel_rfl) (fun j hj => ?_) ?_; (first | (rw [km.out]; exact he.out j hj) | (rw [km'.out]; exact he.out j hj))) | (refine wpList_load_row 45 7 d rfl rfl rfl zd.out (by kernel_rfl) (by kernel_rfl) (fun j hj => ?_) ?_; (first | (rw [km.out]; exact hd.out j hj) | (rw [km'.out]; exact hd.out j hj))) | (refine wpList_load_row 53 224 q rfl rfl rfl zq.out (by kernel_rfl) (by kernel_rfl) (fun j hj => ?_) ?_; (first | (rw [km.out]; exact hq.out j hj) | (rw [km'.out]; exact hq.out j hj))) | (refine wpList_load_row 60 49 s rfl rfl rfl zs.out (by kernel_rfl) (by kernel_rfl) (fun j hj => ?_) ?_; (first | (rw [km.out]; exact hs.out j hj) | (rw [km'.out]; exact hs.out j hj))) | (refine wpList_eql_row 53 (r := true) rfl rfl rfl rfl (by kernel_rfl) (heq.out _) ?_) | (refine wpList_eql_row 60 (r := true) rfl rfl rfl rfl (by kernel_rfl) (hes.out _) ?_))
  refine (H57.out _ x0.out).mono ?_
  rintro e1 w1 ⟨x, rfl, hx, hxx⟩
  subst hx
  replace st := Lib.hid (st.out.ext hxx)
  have km := Lib.hid (st.out.cell 0 rfl rfl)
  have km' := Lib.hid (st.out.cell 1 rfl rfl)
  replace x0 := Lib.hid st.out.x
  clear hxx
  go_wp2_with (first | (refine wpList_load_row 42 29 e rfl rfl rfl ze.out (by kernel_rfl) (by kernel_rfl) (fun j hj => ?_) ?_; (first | (rw [km.out]; exact he.out j hj) | (rw [km'.out]; exact he.out j hj))) | (refine wpList_load_row 45 7 d rfl rfl rfl zd.out (by kernel_rfl) (by kernel_rfl) (fun j hj => ?_) ?_; (first | (rw [km.out]; exact hd.out j hj) | (rw [km'.out]; exact hd.out j hj))) | (refine wpList_load_row 53 224 q rfl rfl rfl zq.out (by kernel_rfl) (by kernel_rfl) (fun j hj => ?_) ?_; (first | (rw [km.out]; exact hq.out j hj) | (rw [km'.out]; exact hq.out j hj))) | (refine wpList_load_row 60 49 s rfl rfl rfl zs.out (by kernel_rfl) (by kernel_rfl) (fun j hj => ?_) ?_; (first | (rw [km.out]; exact hs.out j hj) | (rw [km'.out]; exact hs.out j hj))))
  refine (H56.out _ x0.out).mono ?_
  rintro e1 w2 ⟨x, rfl, hx, hxx⟩
  subst hx
  go_wp2
  go_ret
  exact SaysB.mk rfl (st.out.x.trans hxx)
end Go.Proofs.YtnpbnpilhmbpoaaGreat
