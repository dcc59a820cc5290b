/- UnitLets: the walk. -/
import Derived.Test.YtnpbnpilhmbpoaaGreatU29
set_option linter.unusedVariables false
namespace Go.Proofs.YtnpbnpilhmbpoaaGreat
open Go.RowKit

set_option maxRecDepth 10000 in
set_option maxHeartbeats 4000000 in
theorem lets_134 (u z : Array Value) (g0 g1 g2 g3 g4 g5 g6 g7 k inc y0 y1 : Int) (m cap : Nat) (w : World) (hu : Hid (u.size = 321)) (hz : Hid (zeroOf 62 = some z)) (hzs : Hid (z.size = 321)) (h1 : Hid (u.all (·.oneCell') = true)) (uc1 : u[1]? = some (.int .i64 inc))
    (b o : Nat) (hm1 : 1 < m) (hb : b < w.heap.size) (hy0 : w.cell? ⟨b, o, none⟩ = some (.int .i64 y0)) (hy1 : w.cell? ⟨b, o + 1, none⟩ = some (.int .i64 y1))
    (hk : k = 1 ∨ k = 3 ∨ k = 4)
    (H19 : Hid (∀ W, Calls Tryz.prog 19 #[] W (SaysB W fun x => x = true))) (H20 : Hid (∀ W, Calls Tryz.prog 20 #[.agg #[.int .i64 g0, .int .i64 g1, .int .i64 g2, .int .i64 g3, .int .i64 g4, .int .i64 g5, .int .i64 g6, .int .i64 g7]] W (SaysB W fun _ => True))) (H21 : Hid (∀ W, Ext w W → Calls Tryz.prog 21 #[.agg u] W (SaysB W fun _ => True))) (H22 : Hid (∀ W, Ext w W → Calls Tryz.prog 22 #[.agg u] W (SaysB W fun _ => True)))
    (H24 : Hid (∀ W, Ext w W → Calls Tryz.prog 24 #[.agg u, .agg u] W (SaysB W fun x => x = true)))
    (HE : Hid (∀ W, Ext w W → Unheard k inc m y0 y1 → Calls Tryz.prog 23 #[.agg #[.int .i64 g0, .int .i64 g1, .int .i64 g2, .int .i64 g3, .int .i64 g4, .int .i64 g5, .int .i64 g6, .int .i64 g7], .agg u, .agg #[.int .i64 k, .slice (some ⟨b, o, none⟩) m cap]] W (Gives W (.tuple #[.agg u, .slice none 0 0])))) :
    Calls Tryz.prog 5 #[.agg #[.int .i64 g0, .int .i64 g1, .int .i64 g2, .int .i64 g3, .int .i64 g4, .int .i64 g5, .int .i64 g6, .int .i64 g7], .agg u, .agg #[.int .i64 k, .slice (some ⟨b, o, none⟩) m cap]] w (SaysB w fun x => x = true) := by
  have st : Own w (((w.alloc (.cells #[.int .i64 g0, .int .i64 g1, .int .i64 g2, .int .i64 g3, .int .i64 g4, .int .i64 g5, .int .i64 g6, .int .i64 g7] 26)).alloc (.cells u 62)).alloc (.cells #[.int .i64 k, .slice (some ⟨b, o, none⟩) m cap] 99)) [w.heap.size, w.heap.size + 1, w.heap.size + 1 + 1] [(#[.int .i64 g0, .int .i64 g1, .int .i64 g2, .int .i64 g3, .int .i64 g4, .int .i64 g5, .int .i64 g6, .int .i64 g7], 26), (u, 62), (#[.int .i64 k, .slice (some ⟨b, o, none⟩) m cap], 99)] := (((Own.start w).push #[.int .i64 g0, .int .i64 g1, .int .i64 g2, .int .i64 g3, .int .i64 g4, .int .i64 g5, .int .i64 g6, .int .i64 g7] 26 _ rfl).push u 62 (w.heap.size + 1) (by simp)).push #[.int .i64 k, .slice (some ⟨b, o, none⟩) m cap] 99 (w.heap.size + 1 + 1) (by simp)
  replace st := Lib.hid st
  go_enter Tryz.func5, Tryz.ntmps5
  go_wp2_with fail
  refine (H19.out _).mono ?_
  rintro e1 w1 ⟨x, rfl, hx, hxx⟩
  subst hx
  replace st := Lib.hid (st.out.ext hxx)
  clear hxx
  have kg := st.out.cell 0 rfl rfl
  have kf := st.out.cell 2 rfl rfl
  have k1 : w1.cell? ⟨w.heap.size + 1, 1, none⟩ = some (.int .i64 inc) := by rw [st.out.cell 1 rfl rfl]; exact uc1
  go_wp2_with (first | (refine wpList_load_row 62 321 u rfl rfl rfl hu.out (by kernel_rfl) (by kernel_rfl) (fun j hj => ?_) ?_; (rw [Nat.zero_add]; exact st.out.cell 1 rfl rfl j)))
  refine (H20.out _).mono ?_
  rintro e1 w2 ⟨b1, rfl, -, hxx⟩
  replace st := Lib.hid (st.out.ext hxx)
  clear hxx
  clear kg kf k1
  have kg := st.out.cell 0 rfl rfl
  have kf := st.out.cell 2 rfl rfl
  have k1 : w2.cell? ⟨w.heap.size + 1, 1, none⟩ = some (.int .i64 inc) := by rw [st.out.cell 1 rfl rfl]; exact uc1
  cases b1
  · go_wp2
    go_ret
    exact SaysB.mk rfl st.out.x
  go_wp2_with (first | (refine wpList_load_row 62 321 u rfl rfl rfl hu.out (by kernel_rfl) (by kernel_rfl) (fun j hj => ?_) ?_; (rw [Nat.zero_add]; exact st.out.cell 1 rfl rfl j)))
  refine (H21.out _ st.out.x).mono ?_
  rintro e1 w3 ⟨b2, rfl, -, hxx⟩
  replace st := Lib.hid (st.out.ext hxx)
  clear hxx
  clear kg kf k1
  have kg := st.out.cell 0 rfl rfl
  have kf := st.out.cell 2 rfl rfl
  have k1 : w3.cell? ⟨w.heap.size + 1, 1, none⟩ = some (.int .i64 inc) := by rw [st.out.cell 1 rfl rfl]; exact uc1
  cases b2
  · go_wp2
    go_ret
    exact SaysB.mk rfl st.out.x
  go_wp2_with (first | (refine wpList_load_row 62 321 u rfl rfl rfl hu.out (by kernel_rfl) (by kernel_rfl) (fun j hj => ?_) ?_; (rw [Nat.zero_add]; exact st.out.cell 1 rfl rfl j)))
  refine (H22.out _ st.out.x).mono ?_
  rintro e1 w4 ⟨b3, rfl, -, hxx⟩
  replace st := Lib.hid (st.out.ext hxx)
  clear hxx
  clear kg kf k1
  have kg := st.out.cell 0 rfl rfl
  have kf := st.out.cell 2 rfl rfl
  have k1 : w4.cell? ⟨w.heap.size + 1, 1, none⟩ = some (.int .i64 inc) := by rw [st.out.cell 1 rfl rfl]; exact uc1
  cases b3
  · go_wp2
    go_ret
    exact SaysB.mk rfl st.out.x
  by_cases hm : 100 < (m : Int)
  · go_wp2
    go_ret
    exact SaysB.mk rfl st.out.x
  have hm2 : (1 : Int) < (m : Int) := by omega
  have hm3 : (0 : Int) < (m : Int) := by omega
  replace hb := Lib.hid hb
  replace hy0 := Lib.hid hy0
  replace hy1 := Lib.hid hy1
  have ky0 : w4.cell? ⟨b, o, none⟩ = some (.int .i64 y0) := by rw [st.out.x.cell b o hb.out]; exact hy0.out
  have ky1 : w4.cell? ⟨b, o + 1, none⟩ = some (.int .i64 y1) := by rw [st.out.x.cell b (o + 1) hb.out]; exact hy1.out
  rcases hk with rfl | rfl | rfl
  · go_wp2
    go_quiet (fail)
    replace st := Lib.hid (st.out.ext ((Ext.refl w4).drewN nq))
    clear kg kf k1 ky0 ky1
    generalize w4.drewN nq = w6 at *
    have kg := st.out.cell 0 rfl rfl
    have kf := st.out.cell 2 rfl rfl
    have k1 : w6.cell? ⟨w.heap.size + 1, 1, none⟩ = some (.int .i64 inc) := by rw [st.out.cell 1 rfl rfl]; exact uc1
    go_wp2_with (first | (refine wpList_load_row 62 321 u rfl rfl rfl hu.out (by kernel_rfl) (by kernel_rfl) (fun j hj => ?_) ?_; (rw [Nat.zero_add]; exact st.out.cell 1 rfl rfl j)))
    refine (HE.out _ st.out.x (by unfold Unheard; omega)).mono ?_
    rintro e1 w5 ⟨rfl, hxx⟩
    have s9 := (st.out.ext hxx).push u 62 w5.heap.size rfl
    clear hxx
    replace s9 := Lib.hid s9
    go_wp2_with (first | (refine wpList_alloc_row 62 hz.out rfl rfl ?_) | (refine wpList_store_all 62 62 321 rfl rfl rfl rfl (Row.new _ _ _) (by kernel_rfl) hu.out hzs.out h1.out ?_; rw [World.setRow_alloc_new]) | (refine wpList_load_row 62 321 u rfl rfl rfl hu.out (by kernel_rfl) (by kernel_rfl) (fun j hj => ?_) ?_; (rw [Nat.zero_add]; (first | exact s9.out.cell 1 rfl rfl j | exact s9.out.cell 3 rfl rfl j))))
    refine (H24.out _ s9.out.x).mono ?_
    rintro e1 w7 ⟨x, rfl, hx, hxx⟩
    subst hx
    go_wp2
    go_ret
    exact SaysB.mk rfl (s9.out.x.trans hxx)
  · go_wp2
    go_quiet (fail)
    replace st := Lib.hid (st.out.ext ((Ext.refl w4).drewN nq))
    clear kg kf k1 ky0 ky1
    generalize w4.drewN nq = w6 at *
    have kg := st.out.cell 0 rfl rfl
    have kf := st.out.cell 2 rfl rfl
    have k1 : w6.cell? ⟨w.heap.size + 1, 1, none⟩ = some (.int .i64 inc) := by rw [st.out.cell 1 rfl rfl]; exact uc1
    go_wp2_with (first | (refine wpList_load_row 62 321 u rfl rfl rfl hu.out (by kernel_rfl) (by kernel_rfl) (fun j hj => ?_) ?_; (rw [Nat.zero_add]; exact st.out.cell 1 rfl rfl j)))
    refine (HE.out _ st.out.x (by unfold Unheard; omega)).mono ?_
    rintro e1 w5 ⟨rfl, hxx⟩
    have s9 := (st.out.ext hxx).push u 62 w5.heap.size rfl
    clear hxx
    replace s9 := Lib.hid s9
    go_wp2_with (first | (refine wpList_alloc_row 62 hz.out rfl rfl ?_) | (refine wpList_store_all 62 62 321 rfl rfl rfl rfl (Row.new _ _ _) (by kernel_rfl) hu.out hzs.out h1.out ?_; rw [World.setRow_alloc_new]) | (refine wpList_load_row 62 321 u rfl rfl rfl hu.out (by kernel_rfl) (by kernel_rfl) (fun j hj => ?_) ?_; (rw [Nat.zero_add]; (first | exact s9.out.cell 1 rfl rfl j | exact s9.out.cell 3 rfl rfl j))))
    refine (H24.out _ s9.out.x).mono ?_
    rintro e1 w7 ⟨x, rfl, hx, hxx⟩
    subst hx
    go_wp2
    go_ret
    exact SaysB.mk rfl (s9.out.x.trans hxx)
  · go_wp2
    go_quiet (fail)
    replace st := Lib.hid (st.out.ext ((Ext.refl w4).drewN nq))
    clear kg kf k1 ky0 ky1
    generalize w4.drewN nq = w6 at *
    have kg := st.out.cell 0 rfl rfl
    have kf := st.out.cell 2 rfl rfl
    have k1 : w6.cell? ⟨w.heap.size + 1, 1, none⟩ = some (.int .i64 inc) := by rw [st.out.cell 1 rfl rfl]; exact uc1
    go_wp2_with (first | (refine wpList_load_row 62 321 u rfl rfl rfl hu.out (by kernel_rfl) (by kernel_rfl) (fun j hj => ?_) ?_; (rw [Nat.zero_add]; exact st.out.cell 1 rfl rfl j)))
    refine (HE.out _ st.out.x (by unfold Unheard; omega)).mono ?_
    rintro e1 w5 ⟨rfl, hxx⟩
    have s9 := (st.out.ext hxx).push u 62 w5.heap.size rfl
    clear hxx
    replace s9 := Lib.hid s9
    go_wp2_with (first | (refine wpList_alloc_row 62 hz.out rfl rfl ?_) | (refine wpList_store_all 62 62 321 rfl rfl rfl rfl (Row.new _ _ _) (by kernel_rfl) hu.out hzs.out h1.out ?_; rw [World.setRow_alloc_new]) | (refine wpList_load_row 62 321 u rfl rfl rfl hu.out (by kernel_rfl) (by kernel_rfl) (fun j hj => ?_) ?_; (rw [Nat.zero_add]; (first | exact s9.out.cell 1 rfl rfl j | exact s9.out.cell 3 rfl rfl j))))
    refine (H24.out _ s9.out.x).mono ?_
    rintro e1 w7 ⟨x, rfl, hx, hxx⟩
    subst hx
    go_wp2
    go_ret
    exact SaysB.mk rfl (s9.out.x.trans hxx)

set_option maxRecDepth 10000 in
set_option maxHeartbeats 4000000 in
theorem lets_28 (u z : Array Value) (g0 g1 g2 g3 g4 g5 g6 g7 k inc y0 y1 : Int) (m cap : Nat) (w : World) (hu : Hid (u.size = 321)) (hz : Hid (zeroOf 62 = some z)) (hzs : Hid (z.size = 321)) (h1 : Hid (u.all (·.oneCell') = true)) (uc1 : u[1]? = some (.int .i64 inc))
    (b o : Nat) (hm1 : 1 < m) (hb : b < w.heap.size) (hy0 : w.cell? ⟨b, o, none⟩ = some (.int .i64 y0)) (hy1 : w.cell? ⟨b, o + 1, none⟩ = some (.int .i64 y1))
    (hk : k = 2 ∨ k = 8)
    (H19 : Hid (∀ W, Calls Tryz.prog 19 #[] W (SaysB W fun x => x = true))) (H20 : Hid (∀ W, Calls Tryz.prog 20 #[.agg #[.int .i64 g0, .int .i64 g1, .int .i64 g2, .int .i64 g3, .int .i64 g4, .int .i64 g5, .int .i64 g6, .int .i64 g7]] W (SaysB W fun _ => True))) (H21 : Hid (∀ W, Ext w W → Calls Tryz.prog 21 #[.agg u] W (SaysB W fun _ => True))) (H22 : Hid (∀ W, Ext w W → Calls Tryz.prog 22 #[.agg u] W (SaysB W fun _ => True)))
    (H24 : Hid (∀ W, Ext w W → Calls Tryz.prog 24 #[.agg u, .agg u] W (SaysB W fun x => x = true)))
    (HE : Hid (∀ W, Ext w W → Unheard k inc m y0 y1 → Calls Tryz.prog 23 #[.agg #[.int .i64 g0, .int .i64 g1, .int .i64 g2, .int .i64 g3, .int .i64 g4, .int .i64 g5, .int .i64 g6, .int .i64 g7], .agg u, .agg #[.int .i64 k, .slice (some ⟨b, o, none⟩) m cap]] W (Gives W (.tuple #[.agg u, .slice none 0 0])))) :
    Calls Tryz.prog 5 #[.agg #[.int .i64 g0, .int .i64 g1, .int .i64 g2, .int .i64 g3, .int .i64 g4, .int .i64 g5, .int .i64 g6, .int .i64 g7], .agg u, .agg #[.int .i64 k, .slice (some ⟨b, o, none⟩) m cap]] w (SaysB w fun x => x = true) := by
  have st : Own w (((w.alloc (.cells #[.int .i64 g0, .int .i64 g1, .int .i64 g2, .int .i64 g3, .int .i64 g4, .int .i64 g5, .int .i64 g6, .int .i64 g7] 26)).alloc (.cells u 62)).alloc (.cells #[.int .i64 k, .slice (some ⟨b, o, none⟩) m cap] 99)) [w.heap.size, w.heap.size + 1, w.heap.size + 1 + 1] [(#[.int .i64 g0, .int .i64 g1, .int .i64 g2, .int .i64 g3, .int .i64 g4, .int .i64 g5, .int .i64 g6, .int .i64 g7], 26), (u, 62), (#[.int .i64 k, .slice (some ⟨b, o, none⟩) m cap], 99)] := (((Own.start w).push #[.int .i64 g0, .int .i64 g1, .int .i64 g2, .int .i64 g3, .int .i64 g4, .int .i64 g5, .int .i64 g6, .int .i64 g7] 26 _ rfl).push u 62 (w.heap.size + 1) (by simp)).push #[.int .i64 k, .slice (some ⟨b, o, none⟩) m cap] 99 (w.heap.size + 1 + 1) (by simp)
  replace st := Lib.hid st
  go_enter Tryz.func5, Tryz.ntmps5
  go_wp2_with fail
  refine (H19.out _).mono ?_
  rintro e1 w1 ⟨x, rfl, hx, hxx⟩
  subst hx
  replace st := Lib.hid (st.out.ext hxx)
  clear hxx
  have kg := st.out.cell 0 rfl rfl
  have kf := st.out.cell 2 rfl rfl
  have k1 : w1.cell? ⟨w.heap.size + 1, 1, none⟩ = some (.int .i64 inc) := by rw [st.out.cell 1 rfl rfl]; exact uc1
  go_wp2_with (first | (refine wpList_load_row 62 321 u rfl rfl rfl hu.out (by kernel_rfl) (by kernel_rfl) (fun j hj => ?_) ?_; (rw [Nat.zero_add]; exact st.out.cell 1 rfl rfl j)))
  refine (H20.out _).mono ?_
  rintro e1 w2 ⟨b1, rfl, -, hxx⟩
  replace st := Lib.hid (st.out.ext hxx)
  clear hxx
  clear kg kf k1
  have kg := st.out.cell 0 rfl rfl
  have kf := st.out.cell 2 rfl rfl
  have k1 : w2.cell? ⟨w.heap.size + 1, 1, none⟩ = some (.int .i64 inc) := by rw [st.out.cell 1 rfl rfl]; exact uc1
  cases b1
  · go_wp2
    go_ret
    exact SaysB.mk rfl st.out.x
  go_wp2_with (first | (refine wpList_load_row 62 321 u rfl rfl rfl hu.out (by kernel_rfl) (by kernel_rfl) (fun j hj => ?_) ?_; (rw [Nat.zero_add]; exact st.out.cell 1 rfl rfl j)))
  refine (H21.out _ st.out.x).mono ?_
  rintro e1 w3 ⟨b2, rfl, -, hxx⟩
  replace st := Lib.hid (st.out.ext hxx)
  clear hxx
  clear kg kf k1
  have kg := st.out.cell 0 rfl rfl
  have kf := st.out.cell 2 rfl rfl
  have k1 : w3.cell? ⟨w.heap.size + 1, 1, none⟩ = some (.int .i64 inc) := by rw [st.out.cell 1 rfl rfl]; exact uc1
  cases b2
  · go_wp2
    go_ret
    exact SaysB.mk rfl st.out.x
  go_wp2_with (first | (refine wpList_load_row 62 321 u rfl rfl rfl hu.out (by kernel_rfl) (by kernel_rfl) (fun j hj => ?_) ?_; (rw [Nat.zero_add]; exact st.out.cell 1 rfl rfl j)))
  refine (H22.out _ st.out.x).mono ?_
  rintro e1 w4 ⟨b3, rfl, -, hxx⟩
  replace st := Lib.hid (st.out.ext hxx)
  clear hxx
  clear kg kf k1
  have kg := st.out.cell 0 rfl rfl
  have kf := st.out.cell 2 rfl rfl
  have k1 : w4.cell? ⟨w.heap.size + 1, 1, none⟩ = some (.int .i64 inc) := by rw [st.out.cell 1 rfl rfl]; exact uc1
  cases b3
  · go_wp2
    go_ret
    exact SaysB.mk rfl st.out.x
  by_cases hm : 100 < (m : Int)
  · go_wp2
    go_ret
    exact SaysB.mk rfl st.out.x
  have hm2 : (1 : Int) < (m : Int) := by omega
  have hm3 : (0 : Int) < (m : Int) := by omega
  replace hb := Lib.hid hb
  replace hy0 := Lib.hid hy0
  replace hy1 := Lib.hid hy1
  have ky0 : w4.cell? ⟨b, o, none⟩ = some (.int .i64 y0) := by rw [st.out.x.cell b o hb.out]; exact hy0.out
  have ky1 : w4.cell? ⟨b, o + 1, none⟩ = some (.int .i64 y1) := by rw [st.out.x.cell b (o + 1) hb.out]; exact hy1.out
  rcases hk with rfl | rfl
  · cases hne : (y1 != inc)
    · go_wp2
      go_quiet (fail)
      replace st := Lib.hid (st.out.ext ((Ext.refl w4).drewN nq))
      clear kg kf k1 ky0 ky1
      generalize w4.drewN nq = w6 at *
      have kg := st.out.cell 0 rfl rfl
      have kf := st.out.cell 2 rfl rfl
      have k1 : w6.cell? ⟨w.heap.size + 1, 1, none⟩ = some (.int .i64 inc) := by rw [st.out.cell 1 rfl rfl]; exact uc1
      go_wp2
      go_ret
      exact SaysB.mk rfl st.out.x
    · have hne2 : y1 ≠ inc := by simpa using hne
      go_wp2
      go_quiet (fail)
      replace st := Lib.hid (st.out.ext ((Ext.refl w4).drewN nq))
      clear kg kf k1 ky0 ky1
      generalize w4.drewN nq = w6 at *
      have kg := st.out.cell 0 rfl rfl
      have kf := st.out.cell 2 rfl rfl
      have k1 : w6.cell? ⟨w.heap.size + 1, 1, none⟩ = some (.int .i64 inc) := by rw [st.out.cell 1 rfl rfl]; exact uc1
      go_wp2_with (first | (refine wpList_load_row 62 321 u rfl rfl rfl hu.out (by kernel_rfl) (by kernel_rfl) (fun j hj => ?_) ?_; (rw [Nat.zero_add]; exact st.out.cell 1 rfl rfl j)))
      refine (HE.out _ st.out.x (by unfold Unheard; omega)).mono ?_
      rintro e1 w5 ⟨rfl, hxx⟩
      have s9 := (st.out.ext hxx).push u 62 w5.heap.size rfl
      clear hxx
      replace s9 := Lib.hid s9
      go_wp2_with (first | (refine wpList_alloc_row 62 hz.out rfl rfl ?_) | (refine wpList_store_all 62 62 321 rfl rfl rfl rfl (Row.new _ _ _) (by kernel_rfl) hu.out hzs.out h1.out ?_; rw [World.setRow_alloc_new]) | (refine wpList_load_row 62 321 u rfl rfl rfl hu.out (by kernel_rfl) (by kernel_rfl) (fun j hj => ?_) ?_; (rw [Nat.zero_add]; (first | exact s9.out.cell 1 rfl rfl j | exact s9.out.cell 3 rfl rfl j))))
      refine (H24.out _ s9.out.x).mono ?_
      rintro e1 w7 ⟨x, rfl, hx, hxx⟩
      subst hx
      go_wp2
      go_ret
      exact SaysB.mk rfl (s9.out.x.trans hxx)
  · cases hne : (y0 != inc)
    · go_wp2
      go_quiet (fail)
      replace st := Lib.hid (st.out.ext ((Ext.refl w4).drewN nq))
      clear kg kf k1 ky0 ky1
      generalize w4.drewN nq = w6 at *
      have kg := st.out.cell 0 rfl rfl
      have kf := st.out.cell 2 rfl rfl
      have k1 : w6.cell? ⟨w.heap.size + 1, 1, none⟩ = some (.int .i64 inc) := by rw [st.out.cell 1 rfl rfl]; exact uc1
      go_wp2
      go_ret
      exact SaysB.mk rfl st.out.x
    · have hne2 : y0 ≠ inc := by simpa using hne
      go_wp2
      go_quiet (fail)
      replace st := Lib.hid (st.out.ext ((Ext.refl w4).drewN nq))
      clear kg kf k1 ky0 ky1
      generalize w4.drewN nq = w6 at *
      have kg := st.out.cell 0 rfl rfl
      have kf := st.out.cell 2 rfl rfl
      have k1 : w6.cell? ⟨w.heap.size + 1, 1, none⟩ = some (.int .i64 inc) := by rw [st.out.cell 1 rfl rfl]; exact uc1
      go_wp2_with (first | (refine wpList_load_row 62 321 u rfl rfl rfl hu.out (by kernel_rfl) (by kernel_rfl) (fun j hj => ?_) ?_; (rw [Nat.zero_add]; exact st.out.cell 1 rfl rfl j)))
      refine (HE.out _ st.out.x (by unfold Unheard; omega)).mono ?_
      rintro e1 w5 ⟨rfl, hxx⟩
      have s9 := (st.out.ext hxx).push u 62 w5.heap.size rfl
      clear hxx
      replace s9 := Lib.hid s9
      go_wp2_with (first | (refine wpList_alloc_row 62 hz.out rfl rfl ?_) | (refine wpList_store_all 62 62 321 rfl rfl rfl rfl (Row.new _ _ _) (by kernel_rfl) hu.out hzs.out h1.out ?_; rw [World.setRow_alloc_new]) | (refine wpList_load_row 62 321 u rfl rfl rfl hu.out (by kernel_rfl) (by kernel_rfl) (fun j hj => ?_) ?_; (rw [Nat.zero_add]; (first | exact s9.out.cell 1 rfl rfl j | exact s9.out.cell 3 rfl rfl j))))
      refine (H24.out _ s9.out.x).mono ?_
      rintro e1 w7 ⟨x, rfl, hx, hxx⟩
      subst hx
      go_wp2
      go_ret
      exact SaysB.mk rfl (s9.out.x.trans hxx)

end Go.Proofs.YtnpbnpilhmbpoaaGreat
