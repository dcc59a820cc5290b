/- The reference's test of units: it answers. -/
import Derived.Test.YtnpbnpilhmbpoaaGreatU12
set_option linter.unusedVariables false
namespace Go.Proofs.YtnpbnpilhmbpoaaGreat
open Go.RowKit

def inN (n : Int) : Bool := decide (0 ≤ n ∧ n ≤ 2305843009213693952)
theorem num2 (n : Int) (w : World) : Calls Tryz.prog 52 #[.int .i64 n] w fun e w' => e = .returned (.bool (inN n)) ∧ w = w' := num_calls n w
/-- The zero estimator, the desk that is alone. -/
def ezero : Array Value := #[.int .i64 0, .int .i64 0, .int .i64 0, .int .i64 0, .int .i64 0, .int .i64 0, .slice none 0 0, .int .i64 0, .int .i64 0, .slice none 0 0, .int .i64 0, .int .i64 0, .slice none 0 0, .int .i64 0, .int .i64 0, .slice none 0 0, .int .i64 0, .int .i64 0, .slice none 0 0, .int .i64 0, .int .i64 0, .slice none 0 0, .int .i64 0, .int .i64 0, .int .i64 0, .int .i64 0, .int .i64 0, .int .i64 0, .bool false]
def dzero : Array Value := #[.int .i64 0, .int .i64 0, .int .i64 0, .int .i64 (-1), .int .i64 0, .int .i64 0, .slice none 0 0]

set_option maxRecDepth 10000 in
set_option maxHeartbeats 4000000 in
theorem uright_gen (u e d q : Array Value) (n0 n1 n2 n3 n4 n5 n6 n7 n8 n38 n39 n40 n41 n42 n272 n273 n274 : Int) (w : World)
    (uc0 : u[0]? = some (.int .i64 n0)) (uc1 : u[1]? = some (.int .i64 n1)) (uc2 : u[2]? = some (.int .i64 n2)) (uc3 : u[3]? = some (.int .i64 n3)) (uc4 : u[4]? = some (.int .i64 n4)) (uc5 : u[5]? = some (.int .i64 n5)) (uc6 : u[6]? = some (.int .i64 n6)) (uc7 : u[7]? = some (.int .i64 n7)) (uc8 : u[8]? = some (.int .i64 n8)) (uc38 : u[38]? = some (.int .i64 n38)) (uc39 : u[39]? = some (.int .i64 n39)) (uc40 : u[40]? = some (.int .i64 n40)) (uc41 : u[41]? = some (.int .i64 n41)) (uc42 : u[42]? = some (.int .i64 n42)) (uc272 : u[272]? = some (.int .i64 n272)) (uc273 : u[273]? = some (.int .i64 n273)) (uc274 : u[274]? = some (.int .i64 n274))
    (he : Hid (∀ j, j < 29 → u[9 + j]? = e[j]?)) (ze : Hid (e.size = 29)) (hd : Hid (∀ j, j < 7 → u[41 + j]? = d[j]?)) (zd : Hid (d.size = 7)) (hq : Hid (∀ j, j < 224 → u[48 + j]? = q[j]?)) (zq : Hid (q.size = 224))
    (H53 : Hid (∀ V, Ext w V → Calls Tryz.prog 53 #[.agg q] V (SaysB V fun _ => True))) (H54 : Hid (∀ V, Ext w V → Calls Tryz.prog 54 #[.agg e] V (SaysB V fun _ => True))) (H55 : Hid (∀ V, Ext w V → Calls Tryz.prog 55 #[.agg d] V (SaysB V fun _ => True)))
    (H56 : Hid (∀ V, Ext w V → Calls Tryz.prog 56 #[.agg d, .agg dzero] V (SaysB V fun _ => True))) (H57 : Hid (∀ V, Ext w V → Calls Tryz.prog 57 #[.agg e, .agg ezero] V (SaysB V fun _ => True))) :
    Calls Tryz.prog 22 #[.agg u] w (SaysB w fun _ => True) := by
  have nc := Lib.hid num2
  go_enter Tryz.func22, Tryz.ntmps22
  go_wp2_with fail
  have st : Own w ((w.alloc (.cells u 62)).alloc (.cells #[.int .i64 n1, .int .i64 n2, .int .i64 n4, .int .i64 n5, .int .i64 n6, .int .i64 n7, .int .i64 n8, .int .i64 n38, .int .i64 n40, .int .i64 n272, .int .i64 n273, .int .i64 n274] 2)) [w.heap.size, w.heap.size + 1] [(u, 62), (#[.int .i64 n1, .int .i64 n2, .int .i64 n4, .int .i64 n5, .int .i64 n6, .int .i64 n7, .int .i64 n8, .int .i64 n38, .int .i64 n40, .int .i64 n272, .int .i64 n273, .int .i64 n274], 2)] := ((Own.start w).push u 62 _ rfl).push #[.int .i64 n1, .int .i64 n2, .int .i64 n4, .int .i64 n5, .int .i64 n6, .int .i64 n7, .int .i64 n8, .int .i64 n38, .int .i64 n40, .int .i64 n272, .int .i64 n273, .int .i64 n274] 2 (w.heap.size + 1) (by simp)
  replace st := Lib.hid st
  go_loopw [4] (fun iv wr => ∃ k : Nat, k ≤ 12 ∧ iv = .int .i64 k ∧ Hid (Own w wr [w.heap.size, w.heap.size + 1] [(u, 62), (#[.int .i64 n1, .int .i64 n2, .int .i64 n4, .int .i64 n5, .int .i64 n6, .int .i64 n7, .int .i64 n8, .int .i64 n38, .int .i64 n40, .int .i64 n272, .int .i64 n273, .int .i64 n274], 2)])) (fun iv _ => 12 - (intOf iv).toNat)
  case atStart => exact ⟨0, by omega, rfl, st⟩
  case round =>
    clear st
    obtain ⟨k, hk, rfl, st⟩ := hrel
    by_cases hkn : k = 12
    · subst hkn
      have km := Lib.hid (st.out.cell 0 rfl rfl)
      go_wp2_with (first | (refine wpList_load_row 42 29 e rfl rfl rfl ze.out (by kernel_rfl) (by kernel_rfl) (fun j hj => ?_) ?_; (rw [km.out]; exact he.out j hj)) | (refine wpList_load_row 45 7 d rfl rfl rfl zd.out (by kernel_rfl) (by kernel_rfl) (fun j hj => ?_) ?_; (rw [km.out]; exact hd.out j hj)) | (refine wpList_load_row 53 224 q rfl rfl rfl zq.out (by kernel_rfl) (by kernel_rfl) (fun j hj => ?_) ?_; (rw [km.out]; exact hq.out j hj)))
      refine (H53.out _ st.out.x).mono ?_
      rintro e1 w1 ⟨r, rfl, -, hxx⟩
      replace st := Lib.hid (st.out.ext hxx)
      clear hxx
      have km := Lib.hid (st.out.cell 0 rfl rfl)
      have kk0 : w1.cell? ⟨w.heap.size, 0, none⟩ = some (.int .i64 n0) := by rw [km.out]; exact uc0
      have kk39 : w1.cell? ⟨w.heap.size, 39, none⟩ = some (.int .i64 n39) := by rw [km.out]; exact uc39
      by_cases i0 : n0 = 0
      · subst i0
        by_cases l1 : n39 < -1
        · go_wp2
          go_ret
          exact SaysB.mk trivial st.out.x
        by_cases l2 : 2305843009213693952 < n39
        · go_wp2
          go_ret
          exact SaysB.mk trivial st.out.x
        cases r
        · go_wp2
          go_ret
          exact SaysB.mk trivial st.out.x
        go_wp2_with (first | (refine wpList_load_row 42 29 e rfl rfl rfl ze.out (by kernel_rfl) (by kernel_rfl) (fun j hj => ?_) ?_; (rw [km.out]; exact he.out j hj)) | (refine wpList_load_row 45 7 d rfl rfl rfl zd.out (by kernel_rfl) (by kernel_rfl) (fun j hj => ?_) ?_; (rw [km.out]; exact hd.out j hj)) | (refine wpList_load_row 53 224 q rfl rfl rfl zq.out (by kernel_rfl) (by kernel_rfl) (fun j hj => ?_) ?_; (rw [km.out]; exact hq.out j hj)))
        refine (H54.out _ st.out.x).mono ?_
        rintro e1 w2 ⟨be, rfl, -, hxx⟩
        replace st := Lib.hid (st.out.ext hxx)
        clear hxx
        have km := Lib.hid (st.out.cell 0 rfl rfl)
        go_wp2_with (first | (refine wpList_load_row 42 29 e rfl rfl rfl ze.out (by kernel_rfl) (by kernel_rfl) (fun j hj => ?_) ?_; (rw [km.out]; exact he.out j hj)) | (refine wpList_load_row 45 7 d rfl rfl rfl zd.out (by kernel_rfl) (by kernel_rfl) (fun j hj => ?_) ?_; (rw [km.out]; exact hd.out j hj)) | (refine wpList_load_row 53 224 q rfl rfl rfl zq.out (by kernel_rfl) (by kernel_rfl) (fun j hj => ?_) ?_; (rw [km.out]; exact hq.out j hj)))
        refine (H55.out _ st.out.x).mono ?_
        rintro e1 w3 ⟨bd, rfl, -, hxx⟩
        replace st := Lib.hid (st.out.ext hxx)
        clear hxx
        have km := Lib.hid (st.out.cell 0 rfl rfl)
        unfold dzero at H56
        go_wp2_with (first | (refine wpList_load_row 42 29 e rfl rfl rfl ze.out (by kernel_rfl) (by kernel_rfl) (fun j hj => ?_) ?_; (rw [km.out]; exact he.out j hj)) | (refine wpList_load_row 45 7 d rfl rfl rfl zd.out (by kernel_rfl) (by kernel_rfl) (fun j hj => ?_) ?_; (rw [km.out]; exact hd.out j hj)) | (refine wpList_load_row 53 224 q rfl rfl rfl zq.out (by kernel_rfl) (by kernel_rfl) (fun j hj => ?_) ?_; (rw [km.out]; exact hq.out j hj)))
        refine (H56.out _ st.out.x).mono ?_
        rintro e1 w4 ⟨bf, rfl, -, hxx⟩
        replace st := Lib.hid (st.out.ext hxx)
        clear hxx
        have km := Lib.hid (st.out.cell 0 rfl rfl)
        have kk3 : w4.cell? ⟨w.heap.size, 3, none⟩ = some (.int .i64 n3) := by rw [km.out]; exact uc3
        by_cases r0 : n3 = 0
        · subst r0
          cases bf
          · go_wp2
            go_ret
            exact SaysB.mk trivial st.out.x
          unfold ezero at H57
          go_wp2_with (first | (refine wpList_load_row 42 29 e rfl rfl rfl ze.out (by kernel_rfl) (by kernel_rfl) (fun j hj => ?_) ?_; (rw [km.out]; exact he.out j hj)) | (refine wpList_load_row 45 7 d rfl rfl rfl zd.out (by kernel_rfl) (by kernel_rfl) (fun j hj => ?_) ?_; (rw [km.out]; exact hd.out j hj)) | (refine wpList_load_row 53 224 q rfl rfl rfl zq.out (by kernel_rfl) (by kernel_rfl) (fun j hj => ?_) ?_; (rw [km.out]; exact hq.out j hj)))
          refine (H57.out _ st.out.x).mono ?_
          rintro e1 w5 ⟨b7, rfl, -, hxx⟩
          replace st := Lib.hid (st.out.ext hxx)
          go_wp2
          go_ret
          exact SaysB.mk trivial st.out.x
        by_cases r1 : n3 = 1
        · subst r1
          cases bf
          · go_wp2
            go_ret
            exact SaysB.mk trivial st.out.x
          go_wp2
          go_ret
          exact SaysB.mk trivial st.out.x
        by_cases r2 : n3 = 2
        rotate_left
        · go_wp2
          go_ret
          exact SaysB.mk trivial st.out.x
        subst r2
        have kk41 : w4.cell? ⟨w.heap.size, 41, none⟩ = some (.int .i64 n41) := by rw [km.out]; exact uc41
        have kk42 : w4.cell? ⟨w.heap.size, 42, none⟩ = some (.int .i64 n42) := by rw [km.out]; exact uc42
        have kk4 : w4.cell? ⟨w.heap.size, 4, none⟩ = some (.int .i64 n4) := by rw [km.out]; exact uc4
        have kk38 : w4.cell? ⟨w.heap.size, 38, none⟩ = some (.int .i64 n38) := by rw [km.out]; exact uc38
        cases be
        · go_wp2
          go_ret
          exact SaysB.mk trivial st.out.x
        cases bd
        · go_wp2
          go_ret
          exact SaysB.mk trivial st.out.x
        cases hg : (n41 == n4)
        · go_wp2
          go_ret
          exact SaysB.mk trivial st.out.x
        cases hkk : (n42 == n38)
        · go_wp2
          go_ret
          exact SaysB.mk trivial st.out.x
        go_wp2
        go_ret
        exact SaysB.mk trivial st.out.x
      by_cases i1 : n0 = 1
      · subst i1
        by_cases l1 : n39 < -1
        · go_wp2
          go_ret
          exact SaysB.mk trivial st.out.x
        by_cases l2 : 2305843009213693952 < n39
        · go_wp2
          go_ret
          exact SaysB.mk trivial st.out.x
        cases r
        · go_wp2
          go_ret
          exact SaysB.mk trivial st.out.x
        go_wp2_with (first | (refine wpList_load_row 42 29 e rfl rfl rfl ze.out (by kernel_rfl) (by kernel_rfl) (fun j hj => ?_) ?_; (rw [km.out]; exact he.out j hj)) | (refine wpList_load_row 45 7 d rfl rfl rfl zd.out (by kernel_rfl) (by kernel_rfl) (fun j hj => ?_) ?_; (rw [km.out]; exact hd.out j hj)) | (refine wpList_load_row 53 224 q rfl rfl rfl zq.out (by kernel_rfl) (by kernel_rfl) (fun j hj => ?_) ?_; (rw [km.out]; exact hq.out j hj)))
        refine (H54.out _ st.out.x).mono ?_
        rintro e1 w2 ⟨be, rfl, -, hxx⟩
        replace st := Lib.hid (st.out.ext hxx)
        clear hxx
        have km := Lib.hid (st.out.cell 0 rfl rfl)
        go_wp2_with (first | (refine wpList_load_row 42 29 e rfl rfl rfl ze.out (by kernel_rfl) (by kernel_rfl) (fun j hj => ?_) ?_; (rw [km.out]; exact he.out j hj)) | (refine wpList_load_row 45 7 d rfl rfl rfl zd.out (by kernel_rfl) (by kernel_rfl) (fun j hj => ?_) ?_; (rw [km.out]; exact hd.out j hj)) | (refine wpList_load_row 53 224 q rfl rfl rfl zq.out (by kernel_rfl) (by kernel_rfl) (fun j hj => ?_) ?_; (rw [km.out]; exact hq.out j hj)))
        refine (H55.out _ st.out.x).mono ?_
        rintro e1 w3 ⟨bd, rfl, -, hxx⟩
        replace st := Lib.hid (st.out.ext hxx)
        clear hxx
        have km := Lib.hid (st.out.cell 0 rfl rfl)
        unfold dzero at H56
        go_wp2_with (first | (refine wpList_load_row 42 29 e rfl rfl rfl ze.out (by kernel_rfl) (by kernel_rfl) (fun j hj => ?_) ?_; (rw [km.out]; exact he.out j hj)) | (refine wpList_load_row 45 7 d rfl rfl rfl zd.out (by kernel_rfl) (by kernel_rfl) (fun j hj => ?_) ?_; (rw [km.out]; exact hd.out j hj)) | (refine wpList_load_row 53 224 q rfl rfl rfl zq.out (by kernel_rfl) (by kernel_rfl) (fun j hj => ?_) ?_; (rw [km.out]; exact hq.out j hj)))
        refine (H56.out _ st.out.x).mono ?_
        rintro e1 w4 ⟨bf, rfl, -, hxx⟩
        replace st := Lib.hid (st.out.ext hxx)
        clear hxx
        have km := Lib.hid (st.out.cell 0 rfl rfl)
        have kk3 : w4.cell? ⟨w.heap.size, 3, none⟩ = some (.int .i64 n3) := by rw [km.out]; exact uc3
        by_cases r0 : n3 = 0
        · subst r0
          cases bf
          · go_wp2
            go_ret
            exact SaysB.mk trivial st.out.x
          unfold ezero at H57
          go_wp2_with (first | (refine wpList_load_row 42 29 e rfl rfl rfl ze.out (by kernel_rfl) (by kernel_rfl) (fun j hj => ?_) ?_; (rw [km.out]; exact he.out j hj)) | (refine wpList_load_row 45 7 d rfl rfl rfl zd.out (by kernel_rfl) (by kernel_rfl) (fun j hj => ?_) ?_; (rw [km.out]; exact hd.out j hj)) | (refine wpList_load_row 53 224 q rfl rfl rfl zq.out (by kernel_rfl) (by kernel_rfl) (fun j hj => ?_) ?_; (rw [km.out]; exact hq.out j hj)))
          refine (H57.out _ st.out.x).mono ?_
          rintro e1 w5 ⟨b7, rfl, -, hxx⟩
          replace st := Lib.hid (st.out.ext hxx)
          go_wp2
          go_ret
          exact SaysB.mk trivial st.out.x
        by_cases r1 : n3 = 1
        · subst r1
          cases bf
          · go_wp2
            go_ret
            exact SaysB.mk trivial st.out.x
          go_wp2
          go_ret
          exact SaysB.mk trivial st.out.x
        by_cases r2 : n3 = 2
        rotate_left
        · go_wp2
          go_ret
          exact SaysB.mk trivial st.out.x
        subst r2
        have kk41 : w4.cell? ⟨w.heap.size, 41, none⟩ = some (.int .i64 n41) := by rw [km.out]; exact uc41
        have kk42 : w4.cell? ⟨w.heap.size, 42, none⟩ = some (.int .i64 n42) := by rw [km.out]; exact uc42
        have kk4 : w4.cell? ⟨w.heap.size, 4, none⟩ = some (.int .i64 n4) := by rw [km.out]; exact uc4
        have kk38 : w4.cell? ⟨w.heap.size, 38, none⟩ = some (.int .i64 n38) := by rw [km.out]; exact uc38
        cases be
        · go_wp2
          go_ret
          exact SaysB.mk trivial st.out.x
        cases bd
        · go_wp2
          go_ret
          exact SaysB.mk trivial st.out.x
        cases hg : (n41 == n4)
        · go_wp2
          go_ret
          exact SaysB.mk trivial st.out.x
        cases hkk : (n42 == n38)
        · go_wp2
          go_ret
          exact SaysB.mk trivial st.out.x
        go_wp2
        go_ret
        exact SaysB.mk trivial st.out.x
      have j0 : (n0 != 0) = true := by simpa using i0
      have j1 : (n0 != 1) = true := by simpa using i1
      go_wp2
      go_ret
      exact SaysB.mk trivial st.out.x
    · have hk2 : (k : Int) < 12 := by omega
      have wk0 : wrap64 ((k : Int) + 1) = ((k + 1 : Nat) : Int) := by unfold wrap64; omega
      have wk := Lib.hid wk0
      clear wk0
      obtain ⟨v, hv⟩ : ∃ v, (#[.int .i64 n1, .int .i64 n2, .int .i64 n4, .int .i64 n5, .int .i64 n6, .int .i64 n7, .int .i64 n8, .int .i64 n38, .int .i64 n40, .int .i64 n272, .int .i64 n273, .int .i64 n274] : Array Value)[k]? = some (.int .i64 v) := by
        match k, (by omega : k < 12) with
        | 0, _ => exact ⟨_, rfl⟩ | 1, _ => exact ⟨_, rfl⟩ | 2, _ => exact ⟨_, rfl⟩ | 3, _ => exact ⟨_, rfl⟩ | 4, _ => exact ⟨_, rfl⟩ | 5, _ => exact ⟨_, rfl⟩ | 6, _ => exact ⟨_, rfl⟩ | 7, _ => exact ⟨_, rfl⟩ | 8, _ => exact ⟨_, rfl⟩ | 9, _ => exact ⟨_, rfl⟩ | 10, _ => exact ⟨_, rfl⟩ | 11, _ => exact ⟨_, rfl⟩
      have kx : wr.cell? ⟨w.heap.size + 1, k, none⟩ = some (.int .i64 v) := by rw [st.out.cell 1 rfl rfl]; exact hv
      clear hv
      cases hi : inN v
      · go_wp2_with (first | (go_at_call 52; refine (nc.out _ _).mono ?_; rintro e w2 ⟨rfl, rfl⟩))
        go_ret
        exact SaysB.mk trivial st.out.x
      · go_wp2_with (first | (go_at_call 52; refine (nc.out _ _).mono ?_; rintro e w2 ⟨rfl, rfl⟩))
        exact ⟨⟨k + 1, by omega, by simp, st⟩, by simp only [intOf]; omega⟩
end Go.Proofs.YtnpbnpilhmbpoaaGreat
