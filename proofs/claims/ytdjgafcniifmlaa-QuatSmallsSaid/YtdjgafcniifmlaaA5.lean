/- Turn and Small of quat, of the contracts of what they call alone; the statements' own closed run. -/
import Derived.Test.YtdjgafcniifmlaaA4
set_option linter.unusedVariables false
namespace Go.Proofs.Ytdjgafcniifmlaa
open Go.RowKit

set_option maxHeartbeats 1000000 in
theorem turn_gen (q0 q1 q2 q3 v0 v1 v2 x0 x1 x2 x3 c1 c2 c3 y0 y1 y2 y3 : Int) (fx fy : Bool)
    (H1 : Hid (∀ w, Calls Try.prog 15 #[.agg #[.int .i64 q0, .int .i64 q1, .int .i64 q2, .int .i64 q3], .agg #[.int .i64 0, .int .i64 v0, .int .i64 v1, .int .i64 v2]] w fun e w' => e = .returned (.tuple #[.agg #[.int .i64 x0, .int .i64 x1, .int .i64 x2, .int .i64 x3], .bool fx]) ∧ Ext w w'))
    (H2 : Hid (∀ w, Calls Try.prog 17 #[.agg #[.int .i64 q0, .int .i64 q1, .int .i64 q2, .int .i64 q3]] w fun e w' => e = .returned (.agg #[.int .i64 q0, .int .i64 c1, .int .i64 c2, .int .i64 c3]) ∧ Ext w w'))
    (H3 : Hid (∀ w, Calls Try.prog 15 #[.agg #[.int .i64 x0, .int .i64 x1, .int .i64 x2, .int .i64 x3], .agg #[.int .i64 q0, .int .i64 c1, .int .i64 c2, .int .i64 c3]] w fun e w' => e = .returned (.tuple #[.agg #[.int .i64 y0, .int .i64 y1, .int .i64 y2, .int .i64 y3], .bool fy]) ∧ Ext w w'))
    (w : World) :
    Calls Try.prog 16 #[.agg #[.int .i64 q0, .int .i64 q1, .int .i64 q2, .int .i64 q3], .agg #[.int .i64 v0, .int .i64 v1, .int .i64 v2]] w fun e w' => e = .returned (.tuple #[.agg #[.int .i64 y1, .int .i64 y2, .int .i64 y3], .bool (fx || fy)]) ∧ Ext w w' := by
  go_enter Try.func16, Try.ntmps16
  go_wp2_with fail
  have st := (((Own.start w).push #[.int .i64 q0, .int .i64 q1, .int .i64 q2, .int .i64 q3] 24 _ rfl).push #[.int .i64 v0, .int .i64 v1, .int .i64 v2] 26 (w.heap.size + 1) (by simp)).push #[.int .i64 0, .int .i64 0, .int .i64 0] 26 (w.heap.size + 1 + 1) (by simp)
  replace st : Own w _ [w.heap.size, w.heap.size + 1, w.heap.size + 1 + 1] [(#[.int .i64 q0, .int .i64 q1, .int .i64 q2, .int .i64 q3], 24), (#[.int .i64 v0, .int .i64 v1, .int .i64 v2], 26), (#[.int .i64 0, .int .i64 0, .int .i64 0], 26)] := st
  generalize w.heap.size + 1 + 1 = br at *
  generalize w.heap.size + 1 = bv at *
  obtain ⟨bq, hbq⟩ : ∃ bq, bq = w.heap.size := ⟨_, rfl⟩
  rw [← hbq] at st ⊢
  clear hbq
  refine (H1.out _).mono ?_
  rintro e w1 ⟨rfl, hx⟩
  replace st := st.ext hx
  clear hx
  go_wp2_with fail
  replace st := st.push #[.int .i64 x0, .int .i64 x1, .int .i64 x2, .int .i64 x3] 24 _ rfl
  replace st : Own w _ [bq, bv, br, w1.heap.size] [(#[.int .i64 q0, .int .i64 q1, .int .i64 q2, .int .i64 q3], 24), (#[.int .i64 v0, .int .i64 v1, .int .i64 v2], 26), (#[.int .i64 0, .int .i64 0, .int .i64 0], 26), (#[.int .i64 x0, .int .i64 x1, .int .i64 x2, .int .i64 x3], 24)] := st
  obtain ⟨bx, hbx⟩ : ∃ bx, w1.heap.size = bx := ⟨_, rfl⟩
  rw [hbx] at st ⊢
  have xx := Ext.refl (w1.alloc (Obj.cells #[.int .i64 x0, .int .i64 x1, .int .i64 x2, .int .i64 x3] 24)).drew
  replace st := st.drew
  have kq : ∀ W, Ext (w1.alloc (Obj.cells #[.int .i64 x0, .int .i64 x1, .int .i64 x2, .int .i64 x3] 24)).drew W → ∀ o, W.cell? ⟨bq, o, none⟩ = (#[.int .i64 q0, .int .i64 q1, .int .i64 q2, .int .i64 q3] : Array Value)[o]? := fun W h => (st.ext h).cell 0 rfl rfl
  have kx : ∀ W, Ext (w1.alloc (Obj.cells #[.int .i64 x0, .int .i64 x1, .int .i64 x2, .int .i64 x3] 24)).drew W → ∀ o, W.cell? ⟨bx, o, none⟩ = (#[.int .i64 x0, .int .i64 x1, .int .i64 x2, .int .i64 x3] : Array Value)[o]? := fun W h => (st.ext h).cell 3 rfl rfl
  have h8 : True := trivial
  have xd : Ext (w1.alloc (Obj.cells #[.int .i64 x0, .int .i64 x1, .int .i64 x2, .int .i64 x3] 24)).drew ((w1.alloc (Obj.cells #[.int .i64 x0, .int .i64 x1, .int .i64 x2, .int .i64 x3] 24)).alloc (Obj.cells #[.int .i64 0, .int .i64 0, .int .i64 0, .int .i64 0] 24)).drew := xx.alloc _ _
  have r8d : Row ((w1.alloc (Obj.cells #[.int .i64 x0, .int .i64 x1, .int .i64 x2, .int .i64 x3] 24)).alloc (Obj.cells #[.int .i64 0, .int .i64 0, .int .i64 0, .int .i64 0] 24)).drew (bx + 1) #[.int .i64 0, .int .i64 0, .int .i64 0, .int .i64 0] 24 := Row.new' _ _ _ _ (by simp [hbx])
  have hs1 : (w1.alloc (Obj.cells #[.int .i64 x0, .int .i64 x1, .int .i64 x2, .int .i64 x3] 24)).drew.heap.size = bx + 1 := by simp [hbx]
  have hs2 := Lib.hid hs1
  go_region_held3 (fun w' => (∀ o, w'.cell? ⟨bq, o, none⟩ = (#[.int .i64 q0, .int .i64 q1, .int .i64 q2, .int .i64 q3] : Array Value)[o]?) ∧ (∀ o, w'.cell? ⟨bx, o, none⟩ = (#[.int .i64 x0, .int .i64 x1, .int .i64 x2, .int .i64 x3] : Array Value)[o]?)) (first | (with_reducible exact ⟨kq _ xx, kx _ xx⟩) | (with_reducible exact ⟨kq _ (xx.alloc _ _), kx _ (xx.alloc _ _)⟩) | (with_reducible exact ⟨kq _ xd, kx _ xd⟩) | (with_reducible exact ⟨kq _ (((((xx.alloc _ _).setCell (p := ⟨_, 0, none⟩) xx.size _).setCell (p := ⟨_, 1, none⟩) xx.size _).setCell (p := ⟨_, 2, none⟩) xx.size _).setCell (p := ⟨_, 3, none⟩) xx.size _), kx _ (((((xx.alloc _ _).setCell (p := ⟨_, 0, none⟩) xx.size _).setCell (p := ⟨_, 1, none⟩) xx.size _).setCell (p := ⟨_, 2, none⟩) xx.size _).setCell (p := ⟨_, 3, none⟩) xx.size _)⟩) | (with_reducible exact ⟨kq _ ((((xx.setCell (p := ⟨_, 0, none⟩) h8 _).setCell (p := ⟨_, 1, none⟩) h8 _).setCell (p := ⟨_, 2, none⟩) h8 _).setCell (p := ⟨_, 3, none⟩) h8 _), kx _ ((((xx.setCell (p := ⟨_, 0, none⟩) h8 _).setCell (p := ⟨_, 1, none⟩) h8 _).setCell (p := ⟨_, 2, none⟩) h8 _).setCell (p := ⟨_, 3, none⟩) h8 _)⟩)) (first | (go_at_call 17; refine (H2.out _).mono ?_; rintro e w2 ⟨rfl, hx⟩; first | (with_reducible (replace xx := xx.trans hx; clear hx)) | (have r8 := r8d.ext hx; replace xx := xd.trans hx; have h8 := Nat.le_of_eq hs2.out; have k8 := r8.cell; have z8 := r8.frozen; clear hx)) | (go_at_call 15; refine (H3.out _).mono ?_; rintro e w3 ⟨rfl, hx⟩; first | (with_reducible (replace r8 := r8.ext hx; replace xx := xx.trans hx; replace k8 := r8.cell; replace z8 := r8.frozen; clear hx)) | (with_reducible (replace xx := xx.trans hx; clear hx)) | (have r8 := (Row.new _ #[.int .i64 0, .int .i64 0, .int .i64 0, .int .i64 0] 24).ext hx; have h8 := xx.size; replace xx := (xx.alloc _ _).trans hx; have k8 := r8.cell; have z8 := r8.frozen; clear hx)))
  · have ry := Row.new w3 #[.int .i64 y0, .int .i64 y1, .int .i64 y2, .int .i64 y3] 24
    replace xx := xx.alloc #[.int .i64 y0, .int .i64 y1, .int .i64 y2, .int .i64 y3] 24
    have ky := ry.cell
    have st5 := st.ext xx
    have kr := st5.cell 2 rfl rfl
    have zr := st5.frozen 2 rfl rfl
    clear kq kx
    cases fx
    all_goals
      go_wp2
      have st6 := ((st5.set 2 rfl rfl 0 (.int .i64 y1)).set 2 rfl rfl 1 (.int .i64 y2)).set 2 rfl rfl 2 (.int .i64 y3)
      exact bodyPost_ret (results_row_tmp Try.results16 _ _ _ _ _ _ rfl (st6.row 2 rfl rfl) Try.underlying26 rfl (by kernel_rfl)) rfl ⟨rfl, st6.x⟩
  · have ry := (((r8.set 0 (.int .i64 y0)).set 1 (.int .i64 y1)).set 2 (.int .i64 y2)).set 3 (.int .i64 y3)
    replace xx := (((xx.setCell (p := ⟨_, 0, none⟩) h8 (.int .i64 y0)).setCell (p := ⟨_, 1, none⟩) h8 (.int .i64 y1)).setCell (p := ⟨_, 2, none⟩) h8 (.int .i64 y2)).setCell (p := ⟨_, 3, none⟩) h8 (.int .i64 y3)
    generalize ((((w3.setCell ⟨w2.heap.size, 0, none⟩ (.int .i64 y0)).setCell ⟨w2.heap.size, 1, none⟩ (.int .i64 y1)).setCell ⟨w2.heap.size, 2, none⟩ (.int .i64 y2)).setCell ⟨w2.heap.size, 3, none⟩ (.int .i64 y3)) = W at *
    generalize hb8 : w2.heap.size = b8 at *
    clear r8 k8 z8
    have ky := ry.cell
    have st5 := st.ext xx
    have kr := st5.cell 2 rfl rfl
    have zr := st5.frozen 2 rfl rfl
    clear kq kx
    cases fx
    all_goals
      go_wp2
      have st6 := ((st5.set 2 rfl rfl 0 (.int .i64 y1)).set 2 rfl rfl 1 (.int .i64 y2)).set 2 rfl rfl 2 (.int .i64 y3)
      exact bodyPost_ret (results_row_tmp Try.results16 _ _ _ _ _ _ rfl (st6.row 2 rfl rfl) Try.underlying26 rfl (by kernel_rfl)) rfl ⟨rfl, st6.x⟩
  · have ry := (((r8.set 0 (.int .i64 y0)).set 1 (.int .i64 y1)).set 2 (.int .i64 y2)).set 3 (.int .i64 y3)
    replace xx := (((xx.setCell (p := ⟨_, 0, none⟩) h8 (.int .i64 y0)).setCell (p := ⟨_, 1, none⟩) h8 (.int .i64 y1)).setCell (p := ⟨_, 2, none⟩) h8 (.int .i64 y2)).setCell (p := ⟨_, 3, none⟩) h8 (.int .i64 y3)
    generalize ((((w3.setCell ⟨(bx + 1), 0, none⟩ (.int .i64 y0)).setCell ⟨(bx + 1), 1, none⟩ (.int .i64 y1)).setCell ⟨(bx + 1), 2, none⟩ (.int .i64 y2)).setCell ⟨(bx + 1), 3, none⟩ (.int .i64 y3)) = W at *
    generalize hb8 : (bx + 1) = b8 at *
    clear r8 k8 z8
    have ky := ry.cell
    have st5 := st.ext xx
    have kr := st5.cell 2 rfl rfl
    have zr := st5.frozen 2 rfl rfl
    clear kq kx
    cases fx
    all_goals
      go_wp2
      have st6 := ((st5.set 2 rfl rfl 0 (.int .i64 y1)).set 2 rfl rfl 1 (.int .i64 y2)).set 2 rfl rfl 2 (.int .i64 y3)
      exact bodyPost_ret (results_row_tmp Try.results16 _ _ _ _ _ _ rfl (st6.row 2 rfl rfl) Try.underlying26 rfl (by kernel_rfl)) rfl ⟨rfl, st6.x⟩
end Go.Proofs.Ytdjgafcniifmlaa
