/- What a unit hears that it refuses: nothing turns. -/
import Derived.Test.YtnpbnpilhmbpoaaGreatU16
import Derived.Test.YtnpbnpilhmbpoaaGreatU26
import Derived.Test.YtnpbnpilhmbpoaaGreatU24
set_option linter.unusedVariables false
namespace Go.Proofs.YtnpbnpilhmbpoaaGreat
open Go.RowKit

set_option maxRecDepth 10000 in
set_option maxHeartbeats 4000000 in
theorem hear_other (u z wk : Array Value) (g0 g1 g2 g3 g4 g5 g6 g7 k : Int) (P : Option Addr) (m cap : Nat) (w : World) (hu : Hid (u.size = 321)) (hz : Hid (zeroOf 62 = some z)) (hzs : Hid (z.size = 321)) (h1 : Hid (u.all (·.oneCell') = true))
    (hwk : Hid (Tryz.prog.built 148 [(0, .agg u), (1, .agg #[.int .i64 g0, .int .i64 g1, .int .i64 g2, .int .i64 g3, .int .i64 g4, .int .i64 g5, .int .i64 g6, .int .i64 g7])] = some wk)) (hk : Hid (k ≠ 2 ∧ k ≠ 7 ∧ k ≠ 6 ∧ k ≠ 8 ∧ k ≠ 5)) :
    Calls Tryz.prog 23 #[.agg #[.int .i64 g0, .int .i64 g1, .int .i64 g2, .int .i64 g3, .int .i64 g4, .int .i64 g5, .int .i64 g6, .int .i64 g7], .agg u, .agg #[.int .i64 k, .slice P m cap]] w (Gives w (.tuple #[.agg u, .slice none 0 0])) := by
  have st : Own w (((((w.alloc (.cells #[.int .i64 g0, .int .i64 g1, .int .i64 g2, .int .i64 g3, .int .i64 g4, .int .i64 g5, .int .i64 g6, .int .i64 g7] 26)).alloc (.cells u 62)).alloc (.cells #[.int .i64 k, .slice P m cap] 99)).alloc (.cells z 62)).alloc (.cells wk 148)) [w.heap.size, w.heap.size + 1, w.heap.size + 1 + 1, w.heap.size + 1 + 1 + 1, w.heap.size + 1 + 1 + 1 + 1] [(#[.int .i64 g0, .int .i64 g1, .int .i64 g2, .int .i64 g3, .int .i64 g4, .int .i64 g5, .int .i64 g6, .int .i64 g7], 26), (u, 62), (#[.int .i64 k, .slice P m cap], 99), (z, 62), (wk, 148)] := (((((Own.start w).push #[.int .i64 g0, .int .i64 g1, .int .i64 g2, .int .i64 g3, .int .i64 g4, .int .i64 g5, .int .i64 g6, .int .i64 g7] 26 _ rfl).push u 62 (w.heap.size + 1) (by simp)).push #[.int .i64 k, .slice P m cap] 99 (w.heap.size + 1 + 1) (by simp)).push z 62 (w.heap.size + 1 + 1 + 1) (by simp)).push wk 148 (w.heap.size + 1 + 1 + 1 + 1) (by simp)
  have km : Hid (∀ o, ((((w.alloc (.cells #[.int .i64 g0, .int .i64 g1, .int .i64 g2, .int .i64 g3, .int .i64 g4, .int .i64 g5, .int .i64 g6, .int .i64 g7] 26)).alloc (.cells u 62)).alloc (.cells #[.int .i64 k, .slice P m cap] 99)).alloc (.cells z 62)).cell? ⟨w.heap.size + 1, o, none⟩ = u[o]?) := Lib.hid (((((Own.start w).push #[.int .i64 g0, .int .i64 g1, .int .i64 g2, .int .i64 g3, .int .i64 g4, .int .i64 g5, .int .i64 g6, .int .i64 g7] 26 _ rfl).push u 62 (w.heap.size + 1) (by simp)).push #[.int .i64 k, .slice P m cap] 99 (w.heap.size + 1 + 1) (by simp)).push z 62 (w.heap.size + 1 + 1 + 1) (by simp)).cell 1 rfl rfl
  have mp : MapRow ((((((w.alloc (.cells #[.int .i64 g0, .int .i64 g1, .int .i64 g2, .int .i64 g3, .int .i64 g4, .int .i64 g5, .int .i64 g6, .int .i64 g7] 26)).alloc (.cells u 62)).alloc (.cells #[.int .i64 k, .slice P m cap] 99)).alloc (.cells z 62)).alloc (.cells wk 148)).alloc (.map #[] 0)) (w.heap.size + 1 + 1 + 1 + 1 + 1) [] := by
    have := MapRow.new (((((w.alloc (.cells #[.int .i64 g0, .int .i64 g1, .int .i64 g2, .int .i64 g3, .int .i64 g4, .int .i64 g5, .int .i64 g6, .int .i64 g7] 26)).alloc (.cells u 62)).alloc (.cells #[.int .i64 k, .slice P m cap] 99)).alloc (.cells z 62)).alloc (.cells wk 148))
    rw [show (((((w.alloc (.cells #[.int .i64 g0, .int .i64 g1, .int .i64 g2, .int .i64 g3, .int .i64 g4, .int .i64 g5, .int .i64 g6, .int .i64 g7] 26)).alloc (.cells u 62)).alloc (.cells #[.int .i64 k, .slice P m cap] 99)).alloc (.cells z 62)).alloc (.cells wk 148)).heap.size = (w.heap.size + 1 + 1 + 1 + 1 + 1) from by simp] at this
    exact this
  replace st := Lib.hid st.allocMap
  replace mp := Lib.hid mp
  go_enter Tryz.func23, Tryz.ntmps23
  go_wp2_with (first | (refine wpList_alloc_row 62 hz.out rfl rfl ?_) | (refine wpList_load_row 62 321 u rfl rfl rfl hu.out (by kernel_rfl) (by kernel_rfl) (fun j hj => ?_) ?_; (rw [Nat.zero_add]; (first | exact km.out j | exact st.out.cell 1 rfl rfl j))) | (refine wpList_build_row 148 (c := wk) rfl rfl hwk.out ?_) | (refine wpList_makeMap rfl rfl ?_) | (refine wpList_insert 3 149 .i64 mp.out rfl rfl rfl rfl rfl (by kernel_rfl) (by kernel_rfl) (by simp) ?_; intro W' mp2 hx2 hr2; replace st := Lib.hid (st.out.upd hr2 hx2 (by omega)); replace mp := Lib.hid mp2; clear hx2 hr2 mp2; (try clear kf); have kf := st.out.cell 2 rfl rfl) | (refine wpList_find rfl rfl rfl rfl (run_miss 150 3 149 .i64 .nilFunc (by kernel_rfl) (by kernel_rfl) (fun w => by kernel_rfl) mp.out k (by have := hk.out; simp; omega)) ?_) | (refine wpList_store_all 62 62 321 rfl rfl rfl rfl (st.out.row 3 rfl rfl) (by kernel_rfl) hu.out hzs.out h1.out ?_))
  refine bodyPost_ret (results_row_tmp 321 Tryz.results23 _ _ rfl (st.out.row 3 rfl rfl).setRow hu.out (by kernel_rfl) (by kernel_rfl)) rfl ?_
  exact ⟨rfl, st.out.x.setRow (st.out.row 3 rfl rfl) (by omega)⟩

set_option maxRecDepth 10000 in
set_option maxHeartbeats 4000000 in
theorem hear_2 (u z wk : Array Value) (g0 g1 g2 g3 g4 g5 g6 g7 : Int) (P : Option Addr) (m cap : Nat) (w : World) (hu : Hid (u.size = 321)) (hz : Hid (zeroOf 62 = some z)) (hzs : Hid (z.size = 321)) (h1 : Hid (u.all (·.oneCell') = true))
    (hwk : Hid (Tryz.prog.built 148 [(0, .agg u), (1, .agg #[.int .i64 g0, .int .i64 g1, .int .i64 g2, .int .i64 g3, .int .i64 g4, .int .i64 g5, .int .i64 g6, .int .i64 g7])] = some wk))
    (HR : Hid (∀ W, Calls Tryz.prog 63 #[.agg #[.int .i64 2, .slice P m cap]] W (SaysB W fun x => x = true → (m : Int) = 8)))
    (HD : Hid (m = 8 → ∀ W, Ext w W → Row W (w.heap.size + 1 + 1 + 1 + 1) wk 148 → Calls Tryz.prog 58 #[.pointer (some ⟨w.heap.size + 1 + 1 + 1 + 1, 0, none⟩), .slice P 8 cap] W (Gives W (.bool false)))) :
    Calls Tryz.prog 23 #[.agg #[.int .i64 g0, .int .i64 g1, .int .i64 g2, .int .i64 g3, .int .i64 g4, .int .i64 g5, .int .i64 g6, .int .i64 g7], .agg u, .agg #[.int .i64 2, .slice P m cap]] w (Gives w (.tuple #[.agg u, .slice none 0 0])) := by
  have st : Own w (((((w.alloc (.cells #[.int .i64 g0, .int .i64 g1, .int .i64 g2, .int .i64 g3, .int .i64 g4, .int .i64 g5, .int .i64 g6, .int .i64 g7] 26)).alloc (.cells u 62)).alloc (.cells #[.int .i64 2, .slice P m cap] 99)).alloc (.cells z 62)).alloc (.cells wk 148)) [w.heap.size, w.heap.size + 1, w.heap.size + 1 + 1, w.heap.size + 1 + 1 + 1, w.heap.size + 1 + 1 + 1 + 1] [(#[.int .i64 g0, .int .i64 g1, .int .i64 g2, .int .i64 g3, .int .i64 g4, .int .i64 g5, .int .i64 g6, .int .i64 g7], 26), (u, 62), (#[.int .i64 2, .slice P m cap], 99), (z, 62), (wk, 148)] := (((((Own.start w).push #[.int .i64 g0, .int .i64 g1, .int .i64 g2, .int .i64 g3, .int .i64 g4, .int .i64 g5, .int .i64 g6, .int .i64 g7] 26 _ rfl).push u 62 (w.heap.size + 1) (by simp)).push #[.int .i64 2, .slice P m cap] 99 (w.heap.size + 1 + 1) (by simp)).push z 62 (w.heap.size + 1 + 1 + 1) (by simp)).push wk 148 (w.heap.size + 1 + 1 + 1 + 1) (by simp)
  have km : Hid (∀ o, ((((w.alloc (.cells #[.int .i64 g0, .int .i64 g1, .int .i64 g2, .int .i64 g3, .int .i64 g4, .int .i64 g5, .int .i64 g6, .int .i64 g7] 26)).alloc (.cells u 62)).alloc (.cells #[.int .i64 2, .slice P m cap] 99)).alloc (.cells z 62)).cell? ⟨w.heap.size + 1, o, none⟩ = u[o]?) := Lib.hid (((((Own.start w).push #[.int .i64 g0, .int .i64 g1, .int .i64 g2, .int .i64 g3, .int .i64 g4, .int .i64 g5, .int .i64 g6, .int .i64 g7] 26 _ rfl).push u 62 (w.heap.size + 1) (by simp)).push #[.int .i64 2, .slice P m cap] 99 (w.heap.size + 1 + 1) (by simp)).push z 62 (w.heap.size + 1 + 1 + 1) (by simp)).cell 1 rfl rfl
  have mp : MapRow ((((((w.alloc (.cells #[.int .i64 g0, .int .i64 g1, .int .i64 g2, .int .i64 g3, .int .i64 g4, .int .i64 g5, .int .i64 g6, .int .i64 g7] 26)).alloc (.cells u 62)).alloc (.cells #[.int .i64 2, .slice P m cap] 99)).alloc (.cells z 62)).alloc (.cells wk 148)).alloc (.map #[] 0)) (w.heap.size + 1 + 1 + 1 + 1 + 1) [] := by
    have := MapRow.new (((((w.alloc (.cells #[.int .i64 g0, .int .i64 g1, .int .i64 g2, .int .i64 g3, .int .i64 g4, .int .i64 g5, .int .i64 g6, .int .i64 g7] 26)).alloc (.cells u 62)).alloc (.cells #[.int .i64 2, .slice P m cap] 99)).alloc (.cells z 62)).alloc (.cells wk 148))
    rw [show (((((w.alloc (.cells #[.int .i64 g0, .int .i64 g1, .int .i64 g2, .int .i64 g3, .int .i64 g4, .int .i64 g5, .int .i64 g6, .int .i64 g7] 26)).alloc (.cells u 62)).alloc (.cells #[.int .i64 2, .slice P m cap] 99)).alloc (.cells z 62)).alloc (.cells wk 148)).heap.size = (w.heap.size + 1 + 1 + 1 + 1 + 1) from by simp] at this
    exact this
  replace st := Lib.hid st.allocMap
  replace mp := Lib.hid mp
  go_enter Tryz.func23, Tryz.ntmps23
  go_wp2_with (first | (refine wpList_alloc_row 62 hz.out rfl rfl ?_) | (refine wpList_load_row 62 321 u rfl rfl rfl hu.out (by kernel_rfl) (by kernel_rfl) (fun j hj => ?_) ?_; (rw [Nat.zero_add]; (first | exact km.out j | exact st.out.cell 1 rfl rfl j))) | (refine wpList_build_row 148 (c := wk) rfl rfl hwk.out ?_) | (refine wpList_makeMap rfl rfl ?_) | (refine wpList_insert 3 149 .i64 mp.out rfl rfl rfl rfl rfl (by kernel_rfl) (by kernel_rfl) (by simp) ?_; intro W' mp2 hx2 hr2; replace st := Lib.hid (st.out.upd hr2 hx2 (by omega)); replace mp := Lib.hid mp2; clear hx2 hr2 mp2; (try clear kf); have kf := st.out.cell 2 rfl rfl) | (refine wpList_find rfl rfl rfl rfl (run_find 150 3 149 .i64 (by kernel_rfl) (by kernel_rfl) mp.out 2 (.func (.func 58) #[.pointer (some ⟨w.heap.size + 1 + 1 + 1 + 1, 0, none⟩)] #[]) rfl) ?_) | (go_at_call 63; refine (HR.out _).mono ?_; rintro e w9 ⟨x, rfl, hx1, hxx⟩; replace st := Lib.hid (st.out.ext hxx); clear kf hxx; have kf := st.out.cell 2 rfl rfl; replace hx1 := Lib.hid hx1; cases x) | (refine wpList_store_all 62 62 321 rfl rfl rfl rfl (st.out.row 3 rfl rfl) (by kernel_rfl) hu.out hzs.out h1.out ?_))
  · refine bodyPost_ret (results_row_tmp 321 Tryz.results23 _ _ rfl (st.out.row 3 rfl rfl).setRow hu.out (by kernel_rfl) (by kernel_rfl)) rfl ?_
    exact ⟨rfl, st.out.x.setRow (st.out.row 3 rfl rfl) (by omega)⟩
  · have hm8 : m = 8 := by
      have hm9 := hx1.out (by simp)
      omega
    subst hm8
    refine (HD.out rfl _ st.out.x (st.out.row 4 rfl rfl)).mono ?_
    rintro e w10 ⟨rfl, hxx⟩
    replace st := Lib.hid (st.out.ext hxx)
    clear hxx kf
    go_wp2_with (first | (refine wpList_load_row 62 321 u rfl rfl rfl hu.out (by kernel_rfl) (by kernel_rfl) (fun j hj => ?_) ?_; (rw [Nat.zero_add]; (first | exact km.out j | exact st.out.cell 1 rfl rfl j))) | (refine wpList_store_all 62 62 321 rfl rfl rfl rfl (st.out.row 3 rfl rfl) (by kernel_rfl) hu.out hzs.out h1.out ?_))
    refine bodyPost_ret (results_row_tmp 321 Tryz.results23 _ _ rfl (st.out.row 3 rfl rfl).setRow hu.out (by kernel_rfl) (by kernel_rfl)) rfl ?_
    exact ⟨rfl, st.out.x.setRow (st.out.row 3 rfl rfl) (by omega)⟩

set_option maxRecDepth 10000 in
set_option maxHeartbeats 4000000 in
theorem hear_6 (u z wk : Array Value) (g0 g1 g2 g3 g4 g5 g6 g7 : Int) (P : Option Addr) (m cap : Nat) (w : World) (hu : Hid (u.size = 321)) (hz : Hid (zeroOf 62 = some z)) (hzs : Hid (z.size = 321)) (h1 : Hid (u.all (·.oneCell') = true))
    (hwk : Hid (Tryz.prog.built 148 [(0, .agg u), (1, .agg #[.int .i64 g0, .int .i64 g1, .int .i64 g2, .int .i64 g3, .int .i64 g4, .int .i64 g5, .int .i64 g6, .int .i64 g7])] = some wk))
    (HR : Hid (∀ W, Calls Tryz.prog 63 #[.agg #[.int .i64 6, .slice P m cap]] W (SaysB W fun x => x = true → (m : Int) = 4)))
    (HD : Hid (m = 4 → ∀ W, Ext w W → Row W (w.heap.size + 1 + 1 + 1 + 1) wk 148 → Calls Tryz.prog 60 #[.pointer (some ⟨w.heap.size + 1 + 1 + 1 + 1, 0, none⟩), .slice P 4 cap] W (Gives W (.bool false)))) :
    Calls Tryz.prog 23 #[.agg #[.int .i64 g0, .int .i64 g1, .int .i64 g2, .int .i64 g3, .int .i64 g4, .int .i64 g5, .int .i64 g6, .int .i64 g7], .agg u, .agg #[.int .i64 6, .slice P m cap]] w (Gives w (.tuple #[.agg u, .slice none 0 0])) := by
  have st : Own w (((((w.alloc (.cells #[.int .i64 g0, .int .i64 g1, .int .i64 g2, .int .i64 g3, .int .i64 g4, .int .i64 g5, .int .i64 g6, .int .i64 g7] 26)).alloc (.cells u 62)).alloc (.cells #[.int .i64 6, .slice P m cap] 99)).alloc (.cells z 62)).alloc (.cells wk 148)) [w.heap.size, w.heap.size + 1, w.heap.size + 1 + 1, w.heap.size + 1 + 1 + 1, w.heap.size + 1 + 1 + 1 + 1] [(#[.int .i64 g0, .int .i64 g1, .int .i64 g2, .int .i64 g3, .int .i64 g4, .int .i64 g5, .int .i64 g6, .int .i64 g7], 26), (u, 62), (#[.int .i64 6, .slice P m cap], 99), (z, 62), (wk, 148)] := (((((Own.start w).push #[.int .i64 g0, .int .i64 g1, .int .i64 g2, .int .i64 g3, .int .i64 g4, .int .i64 g5, .int .i64 g6, .int .i64 g7] 26 _ rfl).push u 62 (w.heap.size + 1) (by simp)).push #[.int .i64 6, .slice P m cap] 99 (w.heap.size + 1 + 1) (by simp)).push z 62 (w.heap.size + 1 + 1 + 1) (by simp)).push wk 148 (w.heap.size + 1 + 1 + 1 + 1) (by simp)
  have km : Hid (∀ o, ((((w.alloc (.cells #[.int .i64 g0, .int .i64 g1, .int .i64 g2, .int .i64 g3, .int .i64 g4, .int .i64 g5, .int .i64 g6, .int .i64 g7] 26)).alloc (.cells u 62)).alloc (.cells #[.int .i64 6, .slice P m cap] 99)).alloc (.cells z 62)).cell? ⟨w.heap.size + 1, o, none⟩ = u[o]?) := Lib.hid (((((Own.start w).push #[.int .i64 g0, .int .i64 g1, .int .i64 g2, .int .i64 g3, .int .i64 g4, .int .i64 g5, .int .i64 g6, .int .i64 g7] 26 _ rfl).push u 62 (w.heap.size + 1) (by simp)).push #[.int .i64 6, .slice P m cap] 99 (w.heap.size + 1 + 1) (by simp)).push z 62 (w.heap.size + 1 + 1 + 1) (by simp)).cell 1 rfl rfl
  have mp : MapRow ((((((w.alloc (.cells #[.int .i64 g0, .int .i64 g1, .int .i64 g2, .int .i64 g3, .int .i64 g4, .int .i64 g5, .int .i64 g6, .int .i64 g7] 26)).alloc (.cells u 62)).alloc (.cells #[.int .i64 6, .slice P m cap] 99)).alloc (.cells z 62)).alloc (.cells wk 148)).alloc (.map #[] 0)) (w.heap.size + 1 + 1 + 1 + 1 + 1) [] := by
    have := MapRow.new (((((w.alloc (.cells #[.int .i64 g0, .int .i64 g1, .int .i64 g2, .int .i64 g3, .int .i64 g4, .int .i64 g5, .int .i64 g6, .int .i64 g7] 26)).alloc (.cells u 62)).alloc (.cells #[.int .i64 6, .slice P m cap] 99)).alloc (.cells z 62)).alloc (.cells wk 148))
    rw [show (((((w.alloc (.cells #[.int .i64 g0, .int .i64 g1, .int .i64 g2, .int .i64 g3, .int .i64 g4, .int .i64 g5, .int .i64 g6, .int .i64 g7] 26)).alloc (.cells u 62)).alloc (.cells #[.int .i64 6, .slice P m cap] 99)).alloc (.cells z 62)).alloc (.cells wk 148)).heap.size = (w.heap.size + 1 + 1 + 1 + 1 + 1) from by simp] at this
    exact this
  replace st := Lib.hid st.allocMap
  replace mp := Lib.hid mp
  go_enter Tryz.func23, Tryz.ntmps23
  go_wp2_with (first | (refine wpList_alloc_row 62 hz.out rfl rfl ?_) | (refine wpList_load_row 62 321 u rfl rfl rfl hu.out (by kernel_rfl) (by kernel_rfl) (fun j hj => ?_) ?_; (rw [Nat.zero_add]; (first | exact km.out j | exact st.out.cell 1 rfl rfl j))) | (refine wpList_build_row 148 (c := wk) rfl rfl hwk.out ?_) | (refine wpList_makeMap rfl rfl ?_) | (refine wpList_insert 3 149 .i64 mp.out rfl rfl rfl rfl rfl (by kernel_rfl) (by kernel_rfl) (by simp) ?_; intro W' mp2 hx2 hr2; replace st := Lib.hid (st.out.upd hr2 hx2 (by omega)); replace mp := Lib.hid mp2; clear hx2 hr2 mp2; (try clear kf); have kf := st.out.cell 2 rfl rfl) | (refine wpList_find rfl rfl rfl rfl (run_find 150 3 149 .i64 (by kernel_rfl) (by kernel_rfl) mp.out 6 (.func (.func 60) #[.pointer (some ⟨w.heap.size + 1 + 1 + 1 + 1, 0, none⟩)] #[]) rfl) ?_) | (go_at_call 63; refine (HR.out _).mono ?_; rintro e w9 ⟨x, rfl, hx1, hxx⟩; replace st := Lib.hid (st.out.ext hxx); clear kf hxx; have kf := st.out.cell 2 rfl rfl; replace hx1 := Lib.hid hx1; cases x) | (refine wpList_store_all 62 62 321 rfl rfl rfl rfl (st.out.row 3 rfl rfl) (by kernel_rfl) hu.out hzs.out h1.out ?_))
  · refine bodyPost_ret (results_row_tmp 321 Tryz.results23 _ _ rfl (st.out.row 3 rfl rfl).setRow hu.out (by kernel_rfl) (by kernel_rfl)) rfl ?_
    exact ⟨rfl, st.out.x.setRow (st.out.row 3 rfl rfl) (by omega)⟩
  · have hm8 : m = 4 := by
      have hm9 := hx1.out (by simp)
      omega
    subst hm8
    refine (HD.out rfl _ st.out.x (st.out.row 4 rfl rfl)).mono ?_
    rintro e w10 ⟨rfl, hxx⟩
    replace st := Lib.hid (st.out.ext hxx)
    clear hxx kf
    go_wp2_with (first | (refine wpList_load_row 62 321 u rfl rfl rfl hu.out (by kernel_rfl) (by kernel_rfl) (fun j hj => ?_) ?_; (rw [Nat.zero_add]; (first | exact km.out j | exact st.out.cell 1 rfl rfl j))) | (refine wpList_store_all 62 62 321 rfl rfl rfl rfl (st.out.row 3 rfl rfl) (by kernel_rfl) hu.out hzs.out h1.out ?_))
    refine bodyPost_ret (results_row_tmp 321 Tryz.results23 _ _ rfl (st.out.row 3 rfl rfl).setRow hu.out (by kernel_rfl) (by kernel_rfl)) rfl ?_
    exact ⟨rfl, st.out.x.setRow (st.out.row 3 rfl rfl) (by omega)⟩

set_option maxRecDepth 10000 in
set_option maxHeartbeats 4000000 in
theorem hear_8 (u z wk : Array Value) (g0 g1 g2 g3 g4 g5 g6 g7 : Int) (P : Option Addr) (m cap : Nat) (w : World) (hu : Hid (u.size = 321)) (hz : Hid (zeroOf 62 = some z)) (hzs : Hid (z.size = 321)) (h1 : Hid (u.all (·.oneCell') = true))
    (hwk : Hid (Tryz.prog.built 148 [(0, .agg u), (1, .agg #[.int .i64 g0, .int .i64 g1, .int .i64 g2, .int .i64 g3, .int .i64 g4, .int .i64 g5, .int .i64 g6, .int .i64 g7])] = some wk))
    (HR : Hid (∀ W, Calls Tryz.prog 63 #[.agg #[.int .i64 8, .slice P m cap]] W (SaysB W fun x => x = true → (m : Int) = 15)))
    (HD : Hid (m = 15 → ∀ W, Ext w W → Row W (w.heap.size + 1 + 1 + 1 + 1) wk 148 → Calls Tryz.prog 61 #[.pointer (some ⟨w.heap.size + 1 + 1 + 1 + 1, 0, none⟩), .slice P 15 cap] W (Gives W (.bool false)))) :
    Calls Tryz.prog 23 #[.agg #[.int .i64 g0, .int .i64 g1, .int .i64 g2, .int .i64 g3, .int .i64 g4, .int .i64 g5, .int .i64 g6, .int .i64 g7], .agg u, .agg #[.int .i64 8, .slice P m cap]] w (Gives w (.tuple #[.agg u, .slice none 0 0])) := by
  have st : Own w (((((w.alloc (.cells #[.int .i64 g0, .int .i64 g1, .int .i64 g2, .int .i64 g3, .int .i64 g4, .int .i64 g5, .int .i64 g6, .int .i64 g7] 26)).alloc (.cells u 62)).alloc (.cells #[.int .i64 8, .slice P m cap] 99)).alloc (.cells z 62)).alloc (.cells wk 148)) [w.heap.size, w.heap.size + 1, w.heap.size + 1 + 1, w.heap.size + 1 + 1 + 1, w.heap.size + 1 + 1 + 1 + 1] [(#[.int .i64 g0, .int .i64 g1, .int .i64 g2, .int .i64 g3, .int .i64 g4, .int .i64 g5, .int .i64 g6, .int .i64 g7], 26), (u, 62), (#[.int .i64 8, .slice P m cap], 99), (z, 62), (wk, 148)] := (((((Own.start w).push #[.int .i64 g0, .int .i64 g1, .int .i64 g2, .int .i64 g3, .int .i64 g4, .int .i64 g5, .int .i64 g6, .int .i64 g7] 26 _ rfl).push u 62 (w.heap.size + 1) (by simp)).push #[.int .i64 8, .slice P m cap] 99 (w.heap.size + 1 + 1) (by simp)).push z 62 (w.heap.size + 1 + 1 + 1) (by simp)).push wk 148 (w.heap.size + 1 + 1 + 1 + 1) (by simp)
  have km : Hid (∀ o, ((((w.alloc (.cells #[.int .i64 g0, .int .i64 g1, .int .i64 g2, .int .i64 g3, .int .i64 g4, .int .i64 g5, .int .i64 g6, .int .i64 g7] 26)).alloc (.cells u 62)).alloc (.cells #[.int .i64 8, .slice P m cap] 99)).alloc (.cells z 62)).cell? ⟨w.heap.size + 1, o, none⟩ = u[o]?) := Lib.hid (((((Own.start w).push #[.int .i64 g0, .int .i64 g1, .int .i64 g2, .int .i64 g3, .int .i64 g4, .int .i64 g5, .int .i64 g6, .int .i64 g7] 26 _ rfl).push u 62 (w.heap.size + 1) (by simp)).push #[.int .i64 8, .slice P m cap] 99 (w.heap.size + 1 + 1) (by simp)).push z 62 (w.heap.size + 1 + 1 + 1) (by simp)).cell 1 rfl rfl
  have mp : MapRow ((((((w.alloc (.cells #[.int .i64 g0, .int .i64 g1, .int .i64 g2, .int .i64 g3, .int .i64 g4, .int .i64 g5, .int .i64 g6, .int .i64 g7] 26)).alloc (.cells u 62)).alloc (.cells #[.int .i64 8, .slice P m cap] 99)).alloc (.cells z 62)).alloc (.cells wk 148)).alloc (.map #[] 0)) (w.heap.size + 1 + 1 + 1 + 1 + 1) [] := by
    have := MapRow.new (((((w.alloc (.cells #[.int .i64 g0, .int .i64 g1, .int .i64 g2, .int .i64 g3, .int .i64 g4, .int .i64 g5, .int .i64 g6, .int .i64 g7] 26)).alloc (.cells u 62)).alloc (.cells #[.int .i64 8, .slice P m cap] 99)).alloc (.cells z 62)).alloc (.cells wk 148))
    rw [show (((((w.alloc (.cells #[.int .i64 g0, .int .i64 g1, .int .i64 g2, .int .i64 g3, .int .i64 g4, .int .i64 g5, .int .i64 g6, .int .i64 g7] 26)).alloc (.cells u 62)).alloc (.cells #[.int .i64 8, .slice P m cap] 99)).alloc (.cells z 62)).alloc (.cells wk 148)).heap.size = (w.heap.size + 1 + 1 + 1 + 1 + 1) from by simp] at this
    exact this
  replace st := Lib.hid st.allocMap
  replace mp := Lib.hid mp
  go_enter Tryz.func23, Tryz.ntmps23
  go_wp2_with (first | (refine wpList_alloc_row 62 hz.out rfl rfl ?_) | (refine wpList_load_row 62 321 u rfl rfl rfl hu.out (by kernel_rfl) (by kernel_rfl) (fun j hj => ?_) ?_; (rw [Nat.zero_add]; (first | exact km.out j | exact st.out.cell 1 rfl rfl j))) | (refine wpList_build_row 148 (c := wk) rfl rfl hwk.out ?_) | (refine wpList_makeMap rfl rfl ?_) | (refine wpList_insert 3 149 .i64 mp.out rfl rfl rfl rfl rfl (by kernel_rfl) (by kernel_rfl) (by simp) ?_; intro W' mp2 hx2 hr2; replace st := Lib.hid (st.out.upd hr2 hx2 (by omega)); replace mp := Lib.hid mp2; clear hx2 hr2 mp2; (try clear kf); have kf := st.out.cell 2 rfl rfl) | (refine wpList_find rfl rfl rfl rfl (run_find 150 3 149 .i64 (by kernel_rfl) (by kernel_rfl) mp.out 8 (.func (.func 61) #[.pointer (some ⟨w.heap.size + 1 + 1 + 1 + 1, 0, none⟩)] #[]) rfl) ?_) | (go_at_call 63; refine (HR.out _).mono ?_; rintro e w9 ⟨x, rfl, hx1, hxx⟩; replace st := Lib.hid (st.out.ext hxx); clear kf hxx; have kf := st.out.cell 2 rfl rfl; replace hx1 := Lib.hid hx1; cases x) | (refine wpList_store_all 62 62 321 rfl rfl rfl rfl (st.out.row 3 rfl rfl) (by kernel_rfl) hu.out hzs.out h1.out ?_))
  · refine bodyPost_ret (results_row_tmp 321 Tryz.results23 _ _ rfl (st.out.row 3 rfl rfl).setRow hu.out (by kernel_rfl) (by kernel_rfl)) rfl ?_
    exact ⟨rfl, st.out.x.setRow (st.out.row 3 rfl rfl) (by omega)⟩
  · have hm8 : m = 15 := by
      have hm9 := hx1.out (by simp)
      omega
    subst hm8
    refine (HD.out rfl _ st.out.x (st.out.row 4 rfl rfl)).mono ?_
    rintro e w10 ⟨rfl, hxx⟩
    replace st := Lib.hid (st.out.ext hxx)
    clear hxx kf
    go_wp2_with (first | (refine wpList_load_row 62 321 u rfl rfl rfl hu.out (by kernel_rfl) (by kernel_rfl) (fun j hj => ?_) ?_; (rw [Nat.zero_add]; (first | exact km.out j | exact st.out.cell 1 rfl rfl j))) | (refine wpList_store_all 62 62 321 rfl rfl rfl rfl (st.out.row 3 rfl rfl) (by kernel_rfl) hu.out hzs.out h1.out ?_))
    refine bodyPost_ret (results_row_tmp 321 Tryz.results23 _ _ rfl (st.out.row 3 rfl rfl).setRow hu.out (by kernel_rfl) (by kernel_rfl)) rfl ?_
    exact ⟨rfl, st.out.x.setRow (st.out.row 3 rfl rfl) (by omega)⟩

set_option maxRecDepth 10000 in
set_option maxHeartbeats 4000000 in
theorem hear_5 (u z wk : Array Value) (g0 g1 g2 g3 g4 g5 g6 g7 : Int) (P : Option Addr) (m cap : Nat) (w : World) (hu : Hid (u.size = 321)) (hz : Hid (zeroOf 62 = some z)) (hzs : Hid (z.size = 321)) (h1 : Hid (u.all (·.oneCell') = true))
    (hwk : Hid (Tryz.prog.built 148 [(0, .agg u), (1, .agg #[.int .i64 g0, .int .i64 g1, .int .i64 g2, .int .i64 g3, .int .i64 g4, .int .i64 g5, .int .i64 g6, .int .i64 g7])] = some wk))
    (HR : Hid (∀ W, Calls Tryz.prog 63 #[.agg #[.int .i64 5, .slice P m cap]] W (SaysB W fun x => x = true → (m : Int) = 18)))
    (HD : Hid (m = 18 → ∀ W, Ext w W → Row W (w.heap.size + 1 + 1 + 1 + 1) wk 148 → Calls Tryz.prog 62 #[.pointer (some ⟨w.heap.size + 1 + 1 + 1 + 1, 0, none⟩), .slice P 18 cap] W (Gives W (.bool false)))) :
    Calls Tryz.prog 23 #[.agg #[.int .i64 g0, .int .i64 g1, .int .i64 g2, .int .i64 g3, .int .i64 g4, .int .i64 g5, .int .i64 g6, .int .i64 g7], .agg u, .agg #[.int .i64 5, .slice P m cap]] w (Gives w (.tuple #[.agg u, .slice none 0 0])) := by
  have st : Own w (((((w.alloc (.cells #[.int .i64 g0, .int .i64 g1, .int .i64 g2, .int .i64 g3, .int .i64 g4, .int .i64 g5, .int .i64 g6, .int .i64 g7] 26)).alloc (.cells u 62)).alloc (.cells #[.int .i64 5, .slice P m cap] 99)).alloc (.cells z 62)).alloc (.cells wk 148)) [w.heap.size, w.heap.size + 1, w.heap.size + 1 + 1, w.heap.size + 1 + 1 + 1, w.heap.size + 1 + 1 + 1 + 1] [(#[.int .i64 g0, .int .i64 g1, .int .i64 g2, .int .i64 g3, .int .i64 g4, .int .i64 g5, .int .i64 g6, .int .i64 g7], 26), (u, 62), (#[.int .i64 5, .slice P m cap], 99), (z, 62), (wk, 148)] := (((((Own.start w).push #[.int .i64 g0, .int .i64 g1, .int .i64 g2, .int .i64 g3, .int .i64 g4, .int .i64 g5, .int .i64 g6, .int .i64 g7] 26 _ rfl).push u 62 (w.heap.size + 1) (by simp)).push #[.int .i64 5, .slice P m cap] 99 (w.heap.size + 1 + 1) (by simp)).push z 62 (w.heap.size + 1 + 1 + 1) (by simp)).push wk 148 (w.heap.size + 1 + 1 + 1 + 1) (by simp)
  have km : Hid (∀ o, ((((w.alloc (.cells #[.int .i64 g0, .int .i64 g1, .int .i64 g2, .int .i64 g3, .int .i64 g4, .int .i64 g5, .int .i64 g6, .int .i64 g7] 26)).alloc (.cells u 62)).alloc (.cells #[.int .i64 5, .slice P m cap] 99)).alloc (.cells z 62)).cell? ⟨w.heap.size + 1, o, none⟩ = u[o]?) := Lib.hid (((((Own.start w).push #[.int .i64 g0, .int .i64 g1, .int .i64 g2, .int .i64 g3, .int .i64 g4, .int .i64 g5, .int .i64 g6, .int .i64 g7] 26 _ rfl).push u 62 (w.heap.size + 1) (by simp)).push #[.int .i64 5, .slice P m cap] 99 (w.heap.size + 1 + 1) (by simp)).push z 62 (w.heap.size + 1 + 1 + 1) (by simp)).cell 1 rfl rfl
  have mp : MapRow ((((((w.alloc (.cells #[.int .i64 g0, .int .i64 g1, .int .i64 g2, .int .i64 g3, .int .i64 g4, .int .i64 g5, .int .i64 g6, .int .i64 g7] 26)).alloc (.cells u 62)).alloc (.cells #[.int .i64 5, .slice P m cap] 99)).alloc (.cells z 62)).alloc (.cells wk 148)).alloc (.map #[] 0)) (w.heap.size + 1 + 1 + 1 + 1 + 1) [] := by
    have := MapRow.new (((((w.alloc (.cells #[.int .i64 g0, .int .i64 g1, .int .i64 g2, .int .i64 g3, .int .i64 g4, .int .i64 g5, .int .i64 g6, .int .i64 g7] 26)).alloc (.cells u 62)).alloc (.cells #[.int .i64 5, .slice P m cap] 99)).alloc (.cells z 62)).alloc (.cells wk 148))
    rw [show (((((w.alloc (.cells #[.int .i64 g0, .int .i64 g1, .int .i64 g2, .int .i64 g3, .int .i64 g4, .int .i64 g5, .int .i64 g6, .int .i64 g7] 26)).alloc (.cells u 62)).alloc (.cells #[.int .i64 5, .slice P m cap] 99)).alloc (.cells z 62)).alloc (.cells wk 148)).heap.size = (w.heap.size + 1 + 1 + 1 + 1 + 1) from by simp] at this
    exact this
  replace st := Lib.hid st.allocMap
  replace mp := Lib.hid mp
  go_enter Tryz.func23, Tryz.ntmps23
  go_wp2_with (first | (refine wpList_alloc_row 62 hz.out rfl rfl ?_) | (refine wpList_load_row 62 321 u rfl rfl rfl hu.out (by kernel_rfl) (by kernel_rfl) (fun j hj => ?_) ?_; (rw [Nat.zero_add]; (first | exact km.out j | exact st.out.cell 1 rfl rfl j))) | (refine wpList_build_row 148 (c := wk) rfl rfl hwk.out ?_) | (refine wpList_makeMap rfl rfl ?_) | (refine wpList_insert 3 149 .i64 mp.out rfl rfl rfl rfl rfl (by kernel_rfl) (by kernel_rfl) (by simp) ?_; intro W' mp2 hx2 hr2; replace st := Lib.hid (st.out.upd hr2 hx2 (by omega)); replace mp := Lib.hid mp2; clear hx2 hr2 mp2; (try clear kf); have kf := st.out.cell 2 rfl rfl) | (refine wpList_find rfl rfl rfl rfl (run_find 150 3 149 .i64 (by kernel_rfl) (by kernel_rfl) mp.out 5 (.func (.func 62) #[.pointer (some ⟨w.heap.size + 1 + 1 + 1 + 1, 0, none⟩)] #[]) rfl) ?_) | (go_at_call 63; refine (HR.out _).mono ?_; rintro e w9 ⟨x, rfl, hx1, hxx⟩; replace st := Lib.hid (st.out.ext hxx); clear kf hxx; have kf := st.out.cell 2 rfl rfl; replace hx1 := Lib.hid hx1; cases x) | (refine wpList_store_all 62 62 321 rfl rfl rfl rfl (st.out.row 3 rfl rfl) (by kernel_rfl) hu.out hzs.out h1.out ?_))
  · refine bodyPost_ret (results_row_tmp 321 Tryz.results23 _ _ rfl (st.out.row 3 rfl rfl).setRow hu.out (by kernel_rfl) (by kernel_rfl)) rfl ?_
    exact ⟨rfl, st.out.x.setRow (st.out.row 3 rfl rfl) (by omega)⟩
  · have hm8 : m = 18 := by
      have hm9 := hx1.out (by simp)
      omega
    subst hm8
    refine (HD.out rfl _ st.out.x (st.out.row 4 rfl rfl)).mono ?_
    rintro e w10 ⟨rfl, hxx⟩
    replace st := Lib.hid (st.out.ext hxx)
    clear hxx kf
    go_wp2_with (first | (refine wpList_load_row 62 321 u rfl rfl rfl hu.out (by kernel_rfl) (by kernel_rfl) (fun j hj => ?_) ?_; (rw [Nat.zero_add]; (first | exact km.out j | exact st.out.cell 1 rfl rfl j))) | (refine wpList_store_all 62 62 321 rfl rfl rfl rfl (st.out.row 3 rfl rfl) (by kernel_rfl) hu.out hzs.out h1.out ?_))
    refine bodyPost_ret (results_row_tmp 321 Tryz.results23 _ _ rfl (st.out.row 3 rfl rfl).setRow hu.out (by kernel_rfl) (by kernel_rfl)) rfl ?_
    exact ⟨rfl, st.out.x.setRow (st.out.row 3 rfl rfl) (by omega)⟩
end Go.Proofs.YtnpbnpilhmbpoaaGreat
