/- Small of quat, of the contracts of what it calls alone. -/
import Derived.Test.YtdjgafcniifmlaaA4
set_option linter.unusedVariables false
set_option linter.unusedSimpArgs false
namespace Go.Proofs.Ytdjgafcniifmlaa
open Go.RowKit

def smArr (m1 m2 m3 : Int) : Nat → Array Value
  | 0 => #[.int .i64 16777216, .int .i64 0, .int .i64 0, .int .i64 0]
  | 1 => #[.int .i64 16777216, .int .i64 m1, .int .i64 0, .int .i64 0]
  | 2 => #[.int .i64 16777216, .int .i64 m1, .int .i64 m2, .int .i64 0]
  | _ => #[.int .i64 16777216, .int .i64 m1, .int .i64 m2, .int .i64 m3]
def smFl (g1 g2 g3 : Bool) : Nat → Bool
  | 0 => false
  | 1 => (false || g1)
  | 2 => (false || g1 || g2)
  | _ => (false || g1 || g2 || g3)

set_option maxHeartbeats 1000000 in
theorem small_gen (v0 v1 v2 by' hf m1 m2 m3 u0 u1 u2 u3 : Int) (g1 g2 g3 fu g : Bool) (HG : Hid ((false || g1 || g2 || g3) = g))
    (H0 : Hid (∀ w, Calls Try.prog 36 #[.int .i64 by', .int .i64 1] w fun e w' => e = .returned (.int .i64 hf) ∧ w = w'))
    (H1 : Hid (∀ w, Calls Try.prog 20 #[.int .i64 v0, .int .i64 hf] w fun e w' => e = .returned (.tuple #[.int .i64 m1, .bool g1]) ∧ Ext w w'))
    (H2 : Hid (∀ w, Calls Try.prog 20 #[.int .i64 v1, .int .i64 hf] w fun e w' => e = .returned (.tuple #[.int .i64 m2, .bool g2]) ∧ Ext w w'))
    (H3 : Hid (∀ w, Calls Try.prog 20 #[.int .i64 v2, .int .i64 hf] w fun e w' => e = .returned (.tuple #[.int .i64 m3, .bool g3]) ∧ Ext w w'))
    (H4 : Hid (∀ w, Calls Try.prog 27 #[.agg #[.int .i64 16777216, .int .i64 m1, .int .i64 m2, .int .i64 m3]] w fun e w' => e = .returned (.tuple #[.agg #[.int .i64 u0, .int .i64 u1, .int .i64 u2, .int .i64 u3], .bool fu]) ∧ Ext w w'))
    (w : World) :
    Calls Try.prog 28 #[.agg #[.int .i64 v0, .int .i64 v1, .int .i64 v2], .int .i64 by'] w fun e w' => e = .returned (.tuple #[.agg #[.int .i64 u0, .int .i64 u1, .int .i64 u2, .int .i64 u3], .bool (fu || g)]) ∧ Ext w w' := by
  go_enter Try.func28, Try.ntmps28
  go_wp2_with fail
  refine (H0.out _).mono ?_
  rintro e w2 ⟨rfl, rfl⟩
  go_wp2
  have st := ((((Own.start w).push #[.int .i64 v0, .int .i64 v1, .int .i64 v2] 26 _ rfl).push #[.int .i64 0, .int .i64 0, .int .i64 0, .int .i64 0] 24 (w.heap.size + 1) (by simp)).push #[.bool false] 54 (w.heap.size + 1 + 1) (by simp)).push #[.int .i64 16777216, .int .i64 0, .int .i64 0, .int .i64 0] 24 (w.heap.size + 1 + 1 + 1) (by simp)
  replace st : Own w _ [w.heap.size, w.heap.size + 1, w.heap.size + 1 + 1, w.heap.size + 1 + 1 + 1] [(#[.int .i64 v0, .int .i64 v1, .int .i64 v2], 26), (#[.int .i64 0, .int .i64 0, .int .i64 0, .int .i64 0], 24), (#[.bool false], 54), (#[.int .i64 16777216, .int .i64 0, .int .i64 0, .int .i64 0], 24)] := st
  generalize w.heap.size + 1 + 1 + 1 = bo at *
  generalize w.heap.size + 1 + 1 = bf at *
  generalize w.heap.size + 1 = br at *
  obtain ⟨bv, hbv⟩ : ∃ bv, bv = w.heap.size := ⟨_, rfl⟩
  rw [← hbv] at st ⊢
  clear hbv
  go_loopw [17] (fun iv wr => ∃ k : Nat, k ≤ 3 ∧ iv = .int .i64 k ∧ Hid (Own w wr [bv, br, bf, bo] [(#[.int .i64 v0, .int .i64 v1, .int .i64 v2], 26), (#[.int .i64 0, .int .i64 0, .int .i64 0, .int .i64 0], 24), (#[.bool (smFl g1 g2 g3 k)], 54), (smArr m1 m2 m3 k, 24)])) (fun iv _ => 3 - (intOf iv).toNat)
  case atStart => exact ⟨0, by omega, rfl, st⟩
  case round =>
    clear st
    obtain ⟨k, hk, rfl, st⟩ := hrel
    have : k = 0 ∨ k = 1 ∨ k = 2 ∨ k = 3 := by omega
    rcases this with rfl | rfl | rfl | rfl
    · -- round 0
      replace st : Own w wr [bv, br, bf, bo] [(#[.int .i64 v0, .int .i64 v1, .int .i64 v2], 26), (#[.int .i64 0, .int .i64 0, .int .i64 0, .int .i64 0], 24), (#[.bool false], 54), (#[.int .i64 16777216, .int .i64 0, .int .i64 0, .int .i64 0], 24)] := st.out
      have ix : ∀ w, (Instr.index 26 (.agg #[.int .i64 v0, .int .i64 v1, .int .i64 v2]) (.int .i64 0)).run Try.prog w = .ok (.int .i64 v0) w := fun _ => by kernel_rfl
      go_wp2_with fail
      refine (H1.out _).mono ?_
      rintro e w1 ⟨rfl, hx⟩
      replace st := st.ext hx
      clear hx
      go_wp2_with fail
      refine (one_own st 2 rfl rfl _ _).mono ?_
      rintro e w2 ⟨rfl, hst⟩
      replace st : Own w w2 [bv, br, bf, bo] [(#[.int .i64 v0, .int .i64 v1, .int .i64 v2], 26), (#[.int .i64 0, .int .i64 0, .int .i64 0, .int .i64 0], 24), (#[.bool (false || g1)], 54), (#[.int .i64 16777216, .int .i64 0, .int .i64 0, .int .i64 0], 24)] := hst
      clear hst
      have kq := st.cell 3 rfl rfl 1
      have zq := st.frozen 3 rfl rfl 1
      go_wp2
      have st2 := st.set 3 rfl rfl 1 (.int .i64 m1)
      go_roundw
      case rel => exact ⟨1, by omega, by go_num, st2⟩
      case measure => simp [intOf]
    · -- round 1
      replace st : Own w wr [bv, br, bf, bo] [(#[.int .i64 v0, .int .i64 v1, .int .i64 v2], 26), (#[.int .i64 0, .int .i64 0, .int .i64 0, .int .i64 0], 24), (#[.bool (false || g1)], 54), (#[.int .i64 16777216, .int .i64 m1, .int .i64 0, .int .i64 0], 24)] := st.out
      have ix : ∀ w, (Instr.index 26 (.agg #[.int .i64 v0, .int .i64 v1, .int .i64 v2]) (.int .i64 1)).run Try.prog w = .ok (.int .i64 v1) w := fun _ => by kernel_rfl
      go_wp2_with fail
      refine (H2.out _).mono ?_
      rintro e w1 ⟨rfl, hx⟩
      replace st := st.ext hx
      clear hx
      go_wp2_with fail
      refine (one_own st 2 rfl rfl _ _).mono ?_
      rintro e w2 ⟨rfl, hst⟩
      replace st : Own w w2 [bv, br, bf, bo] [(#[.int .i64 v0, .int .i64 v1, .int .i64 v2], 26), (#[.int .i64 0, .int .i64 0, .int .i64 0, .int .i64 0], 24), (#[.bool (false || g1 || g2)], 54), (#[.int .i64 16777216, .int .i64 m1, .int .i64 0, .int .i64 0], 24)] := hst
      clear hst
      have kq := st.cell 3 rfl rfl 2
      have zq := st.frozen 3 rfl rfl 2
      go_wp2
      have st2 := st.set 3 rfl rfl 2 (.int .i64 m2)
      go_roundw
      case rel => exact ⟨2, by omega, by go_num, st2⟩
      case measure => simp [intOf]
    · -- round 2
      replace st : Own w wr [bv, br, bf, bo] [(#[.int .i64 v0, .int .i64 v1, .int .i64 v2], 26), (#[.int .i64 0, .int .i64 0, .int .i64 0, .int .i64 0], 24), (#[.bool (false || g1 || g2)], 54), (#[.int .i64 16777216, .int .i64 m1, .int .i64 m2, .int .i64 0], 24)] := st.out
      have ix : ∀ w, (Instr.index 26 (.agg #[.int .i64 v0, .int .i64 v1, .int .i64 v2]) (.int .i64 2)).run Try.prog w = .ok (.int .i64 v2) w := fun _ => by kernel_rfl
      go_wp2_with fail
      refine (H3.out _).mono ?_
      rintro e w1 ⟨rfl, hx⟩
      replace st := st.ext hx
      clear hx
      go_wp2_with fail
      refine (one_own st 2 rfl rfl _ _).mono ?_
      rintro e w2 ⟨rfl, hst⟩
      replace st : Own w w2 [bv, br, bf, bo] [(#[.int .i64 v0, .int .i64 v1, .int .i64 v2], 26), (#[.int .i64 0, .int .i64 0, .int .i64 0, .int .i64 0], 24), (#[.bool (false || g1 || g2 || g3)], 54), (#[.int .i64 16777216, .int .i64 m1, .int .i64 m2, .int .i64 0], 24)] := hst
      clear hst
      have kq := st.cell 3 rfl rfl 3
      have zq := st.frozen 3 rfl rfl 3
      go_wp2
      have st2 := st.set 3 rfl rfl 3 (.int .i64 m3)
      go_roundw
      case rel => exact ⟨3, by omega, by go_num, st2⟩
      case measure => simp [intOf]
    · -- the end
      replace st : Own w wr [bv, br, bf, bo] [(#[.int .i64 v0, .int .i64 v1, .int .i64 v2], 26), (#[.int .i64 0, .int .i64 0, .int .i64 0, .int .i64 0], 24), (#[.bool (false || g1 || g2 || g3)], 54), (#[.int .i64 16777216, .int .i64 m1, .int .i64 m2, .int .i64 m3], 24)] := st.out
      rw [HG.out] at st
      have kq := st.cell 3 rfl rfl
      go_wp2_with fail
      refine (H4.out _).mono ?_
      rintro e w1 ⟨rfl, hx⟩
      replace st := st.ext hx
      clear hx kq
      go_wp2
      replace st := st.push #[.int .i64 u0, .int .i64 u1, .int .i64 u2, .int .i64 u3] 24 _ rfl
      replace st : Own w _ [bv, br, bf, bo, w1.heap.size] [(#[.int .i64 v0, .int .i64 v1, .int .i64 v2], 26), (#[.int .i64 0, .int .i64 0, .int .i64 0, .int .i64 0], 24), (#[.bool g], 54), (#[.int .i64 16777216, .int .i64 m1, .int .i64 m2, .int .i64 m3], 24), (#[.int .i64 u0, .int .i64 u1, .int .i64 u2, .int .i64 u3], 24)] := st
      generalize w1.alloc _ = W at *
      generalize w1.heap.size = bu at *
      have kr := st.cell 1 rfl rfl
      have zr := st.frozen 1 rfl rfl
      have hu := st.cell 4 rfl rfl
      have hf := st.cell 2 rfl rfl
      have st6 := ((((st.set 1 rfl rfl 0 (.int .i64 u0)).set 1 rfl rfl 1 (.int .i64 u1)).set 1 rfl rfl 2 (.int .i64 u2)).set 1 rfl rfl 3 (.int .i64 u3)).drew
      replace st := st.drew
      replace hu : ∀ o, W.drew.cell? ⟨bu, o, none⟩ = _ := hu
      replace hf : ∀ o, W.drew.cell? ⟨bf, o, none⟩ = _ := hf
      have st5 := (((st.set 1 rfl rfl 0 (.int .i64 u0)).set 1 rfl rfl 1 (.int .i64 u1)).set 1 rfl rfl 2 (.int .i64 u2)).set 1 rfl rfl 3 (.int .i64 u3)
      have hu5 := st5.cell 4 rfl rfl
      have hf5 := st5.cell 2 rfl rfl
      cases fu
      · (first | (go_region_held3 (fun w' => (∀ o, w'.cell? ⟨bu, o, none⟩ = (#[.int .i64 u0, .int .i64 u1, .int .i64 u2, .int .i64 u3] : Array Value)[o]?) ∧ (∀ o, w'.cell? ⟨bf, o, none⟩ = (#[.bool g] : Array Value)[o]?)) (first | (with_reducible exact ⟨hu, hf⟩) | exact ⟨hu5, hf5⟩) (fail)) | fail)
        go_wp2
        exact bodyPost_ret (results_row_tmp Try.results28 _ _ _ _ _ _ rfl (st5.row 1 rfl rfl) Try.underlying24 rfl (by kernel_rfl)) rfl ⟨rfl, st5.x⟩
      · refine wp_region_held_drew (S := (fun w' => (∀ o, w'.cell? ⟨bu, o, none⟩ = (#[.int .i64 u0, .int .i64 u1, .int .i64 u2, .int .i64 u3] : Array Value)[o]?) ∧ (∀ o, w'.cell? ⟨bf, o, none⟩ = (#[.bool g] : Array Value)[o]?))) (by kernel_rfl) ⟨hu, hf⟩ (fun hHeld => ?_)
        refine wpAnyH_take (i := 0) (oi := ⟨some 36, _, _, _, _, _⟩) (v := .agg #[.int .i64 u0, .int .i64 u1, .int .i64 u2, .int .i64 u3]) rfl (by kernel_rfl) (by kernel_rfl) (by kernel_rfl) (fun _ _ _ h => h) (Or.inl ⟨by rfl, fun w hS => ?_⟩) (by assumption) ?_
        · (try dsimp only at hS); go_simp
        simp only [Act.put, List.setIfInBounds_toArray, List.set_cons_zero, List.set_cons_succ]
        refine wpAnyH_take (i := 1) (oi := ⟨some 37, _, _, _, _, _⟩) (v := .bool true) rfl (by kernel_rfl) (by kernel_rfl) (by kernel_rfl) (fun _ _ _ h => h) (Or.inl ⟨by rfl, fun w hS => ?_⟩) (by assumption) ?_
        · (try dsimp only at hS); go_simp
        simp only [Act.put, List.setIfInBounds_toArray, List.set_cons_zero, List.set_cons_succ]
        refine wpAnyH_take (i := 2) (oi := ⟨some 38, _, _, _, _, _⟩) (v := .bool true) rfl (by kernel_rfl) (by kernel_rfl) (by kernel_rfl) (fun _ _ _ h => h) (Or.inl ⟨by rfl, fun w hS => ?_⟩) (by assumption) ?_
        · (try dsimp only at hS); go_simp
        simp only [Act.put, List.setIfInBounds_toArray, List.set_cons_zero, List.set_cons_succ]
        refine wpAnyH_take (i := 3) (oi := ⟨some 39, _, _, _, _, _⟩) (v := undef) rfl (by kernel_rfl) (by kernel_rfl) (by kernel_rfl) (fun _ _ _ h => h) (Or.inr ⟨by rfl, rfl⟩) (by assumption) ?_
        simp only [Act.put, List.setIfInBounds_toArray, List.set_cons_zero, List.set_cons_succ]
        refine wpAnyH_take (i := 4) (oi := ⟨some 40, _, _, _, _, _⟩) (v := .bool true) rfl (by kernel_rfl) (by kernel_rfl) (by kernel_rfl) (fun _ _ _ h => h) (Or.inl ⟨by rfl, fun w hS => ?_⟩) (by assumption) ?_
        · (try dsimp only at hS); go_simp
        simp only [Act.put, List.setIfInBounds_toArray, List.set_cons_zero, List.set_cons_succ]
        refine wpAnyH_ready (rs := [5]) (by kernel_rfl) (by simp) ?_
        refine AllReadyH.cons rfl (fun K hK => ?_) AllReadyH.nil
        go_simp
        refine hK.out _ _ ⟨hu5, hf5⟩ (fun hHeld5 => ?_)
        clear hK K
        refine wpAnyH_take (i := 6) (oi := ⟨some 5, _, _, _, _, _⟩) (v := .bool true) rfl (by kernel_rfl) (by kernel_rfl) (by kernel_rfl) (fun _ _ _ h => h) (Or.inl ⟨by rfl, fun w hS => ?_⟩) (by assumption) ?_
        · (try dsimp only at hS); go_simp
        simp only [Act.put, List.setIfInBounds_toArray, List.set_cons_zero, List.set_cons_succ]
        refine wpAnyH_done (by kernel_rfl) ?_ _
        go_wp2
        exact bodyPost_ret (results_row_tmp Try.results28 _ _ _ _ _ _ rfl (st5.row 1 rfl rfl) Try.underlying24 rfl (by kernel_rfl)) rfl ⟨rfl, st5.x⟩
end Go.Proofs.Ytdjgafcniifmlaa
