/- A sample out of words. -/
import Derived.Test.YtnpbnpilhmbpoaaGreatU21
import Derived.Test.YtnpbnpilhmbpoaaGreatU12
set_option linter.unusedVariables false
namespace Go.Proofs.YtnpbnpilhmbpoaaGreat
open Go.RowKit

/-- A result that lies in a row of the call's own, beside one that doesn't. -/
theorem results_row_tmp {fn : Func} {p u : Tmp} {ty t : TypeId} (n : Nat) (h : fn.results = #[.cell p ty, .tmp u]) (tmps : Array Value) (w : World) {b : Nat} {c : Array Value} (hp : tmps.getD p undef = .pointer (some ⟨b, 0, none⟩)) (hr : Row w b c t)
    (hs : c.size = n) (hrow : (Tryz.prog.underlying ty).any (·.isRow) = true) (hi : (Tryz.prog.info? ty).map (·.size) = some n) :
    (results fn tmps).run Tryz.prog w = .ok (.tuple #[.agg c, tmps.getD u undef]) w := by
  rw [results_cell_tmp h, hp]
  have ha : (asAddr (.pointer (some ⟨b, 0, none⟩))).run Tryz.prog w = .ok ⟨b, 0, none⟩ w := rfl
  rw [ha]
  cases hu : Tryz.prog.underlying ty with
  | none => simp [hu] at hrow
  | some d =>
    simp only [hu, Option.any_some] at hrow
    have hl := run_loadVar_mid (P := Tryz.prog) w b 0 ty c.toList d (fun j v hv => by rw [Nat.zero_add, hr.cell j]; simpa using hv) hu hrow (by rw [hi]; simp [hs])
    simp only [Result.andThen_ok, hl]

/-- A sample laid into a fresh row. -/
theorem Made.set13 {W0 W : World} {b : Nat} {t : TypeId} (h : Made W0 W b #[.bool false, .int .i64 0, .int .i64 0, .int .i64 0, .int .i64 0, .int .i64 0, .int .i64 0, .bool false, .int .i64 0, .bool false, .int .i64 0, .int .i64 0, .int .i64 0] t) (v0 v1 v2 v3 v4 v5 v6 v7 v8 v9 v10 v11 v12 : Value) : Made W0 (((((((((((((W.setCell ⟨b, 0, none⟩ v0).setCell ⟨b, 1, none⟩ v1).setCell ⟨b, 2, none⟩ v2).setCell ⟨b, 3, none⟩ v3).setCell ⟨b, 4, none⟩ v4).setCell ⟨b, 5, none⟩ v5).setCell ⟨b, 6, none⟩ v6).setCell ⟨b, 7, none⟩ v7).setCell ⟨b, 8, none⟩ v8).setCell ⟨b, 9, none⟩ v9).setCell ⟨b, 10, none⟩ v10).setCell ⟨b, 11, none⟩ v11).setCell ⟨b, 12, none⟩ v12) b #[v0, v1, v2, v3, v4, v5, v6, v7, v8, v9, v10, v11, v12] t := by
  have h2 := ((((((((((((h.set 0 v0).set 1 v1).set 2 v2).set 3 v3).set 4 v4).set 5 v5).set 6 v6).set 7 v7).set 8 v8).set 9 v9).set 10 v10).set 11 v11).set 12 v12
  simp only [List.setIfInBounds_toArray, List.set_cons_zero, List.set_cons_succ] at h2
  exact h2

theorem Row.set13 {W : World} {b : Nat} {t : TypeId} {o0 o1 o2 o3 o4 o5 o6 o7 o8 o9 o10 o11 o12 : Value} (h : Row W b #[o0, o1, o2, o3, o4, o5, o6, o7, o8, o9, o10, o11, o12] t) (v0 v1 v2 v3 v4 v5 v6 v7 v8 v9 v10 v11 v12 : Value) : Row (((((((((((((W.setCell ⟨b, 0, none⟩ v0).setCell ⟨b, 1, none⟩ v1).setCell ⟨b, 2, none⟩ v2).setCell ⟨b, 3, none⟩ v3).setCell ⟨b, 4, none⟩ v4).setCell ⟨b, 5, none⟩ v5).setCell ⟨b, 6, none⟩ v6).setCell ⟨b, 7, none⟩ v7).setCell ⟨b, 8, none⟩ v8).setCell ⟨b, 9, none⟩ v9).setCell ⟨b, 10, none⟩ v10).setCell ⟨b, 11, none⟩ v11).setCell ⟨b, 12, none⟩ v12) b #[v0, v1, v2, v3, v4, v5, v6, v7, v8, v9, v10, v11, v12] t := by
  have h2 := ((((((((((((h.set 0 v0).set 1 v1).set 2 v2).set 3 v3).set 4 v4).set 5 v5).set 6 v6).set 7 v7).set 8 v8).set 9 v9).set 10 v10).set 11 v11).set 12 v12
  simp only [List.setIfInBounds_toArray, List.set_cons_zero, List.set_cons_succ] at h2
  exact h2
theorem Ext.set13 {w W : World} {b : Nat} (h : Ext w W) (hb : w.heap.size ≤ b) (v0 v1 v2 v3 v4 v5 v6 v7 v8 v9 v10 v11 v12 : Value) : Ext w (((((((((((((W.setCell ⟨b, 0, none⟩ v0).setCell ⟨b, 1, none⟩ v1).setCell ⟨b, 2, none⟩ v2).setCell ⟨b, 3, none⟩ v3).setCell ⟨b, 4, none⟩ v4).setCell ⟨b, 5, none⟩ v5).setCell ⟨b, 6, none⟩ v6).setCell ⟨b, 7, none⟩ v7).setCell ⟨b, 8, none⟩ v8).setCell ⟨b, 9, none⟩ v9).setCell ⟨b, 10, none⟩ v10).setCell ⟨b, 11, none⟩ v11).setCell ⟨b, 12, none⟩ v12) :=
  ((((((((((((h.setCell (p := ⟨b, 0, none⟩) hb v0).setCell (p := ⟨b, 1, none⟩) hb v1).setCell (p := ⟨b, 2, none⟩) hb v2).setCell (p := ⟨b, 3, none⟩) hb v3).setCell (p := ⟨b, 4, none⟩) hb v4).setCell (p := ⟨b, 5, none⟩) hb v5).setCell (p := ⟨b, 6, none⟩) hb v6).setCell (p := ⟨b, 7, none⟩) hb v7).setCell (p := ⟨b, 8, none⟩) hb v8).setCell (p := ⟨b, 9, none⟩) hb v9).setCell (p := ⟨b, 10, none⟩) hb v10).setCell (p := ⟨b, 11, none⟩) hb v11).setCell (p := ⟨b, 12, none⟩) hb v12

/-- The call hands back a sample and whether its words were right. -/
def Unpacks (w : World) (L : List Int) (e : Ending) (w' : World) : Prop := ∃ (m hb hg : Bool) (g0 g1 g2 a0 a1 a2 b n0 n1 n2 x : Int),
  e = .returned (.tuple #[.agg #[.bool m, .int .i64 g0, .int .i64 g1, .int .i64 g2, .int .i64 a0, .int .i64 a1, .int .i64 a2, .bool hb, .int .i64 b, .bool hg, .int .i64 n0, .int .i64 n1, .int .i64 n2], .int .i64 x]) ∧
  (x = 0 → L = words m hb hg g0 g1 g2 a0 a1 a2 b n0 n1 n2) ∧ Ext w w'

set_option maxRecDepth 10000 in
set_option maxHeartbeats 4000000 in
theorem unpack_gen (w : World) (b o cap : Nat) (x0 x1 x2 x3 x4 x5 x6 x7 x8 x9 x10 x11 x12 : Int) (m0 m7 m9 : Bool) (hb : Hid (b < w.heap.size)) (hl : Hid (∀ j (hj : j < [x0, x1, x2, x3, x4, x5, x6, x7, x8, x9, x10, x11, x12].length), w.cell? ⟨b, o + j, none⟩ = some (.int .i64 [x0, x1, x2, x3, x4, x5, x6, x7, x8, x9, x10, x11, x12][j])))
    (e0 : (x0 == 1) = m0) (e7 : (x7 == 1) = m7) (e9 : (x9 == 1) = m9) :
    Calls Tryz.prog 101 #[.slice (some ⟨b, o, none⟩) 13 cap] w (Unpacks w [x0, x1, x2, x3, x4, x5, x6, x7, x8, x9, x10, x11, x12]) := by
  have st : Own w ((w.alloc (.cells (#[.slice (some ⟨b, o, none⟩) 13 cap] : Array Value) 64)).alloc (.cells #[.bool false, .int .i64 0, .int .i64 0, .int .i64 0, .int .i64 0, .int .i64 0, .int .i64 0, .bool false, .int .i64 0, .bool false, .int .i64 0, .int .i64 0, .int .i64 0] 50)) [w.heap.size, w.heap.size + 1] [((#[.slice (some ⟨b, o, none⟩) 13 cap] : Array Value), 64), (#[.bool false, .int .i64 0, .int .i64 0, .int .i64 0, .int .i64 0, .int .i64 0, .int .i64 0, .bool false, .int .i64 0, .bool false, .int .i64 0, .int .i64 0, .int .i64 0], 50)] := ((Own.start w).push (#[.slice (some ⟨b, o, none⟩) 13 cap] : Array Value) 64 _ rfl).push #[.bool false, .int .i64 0, .int .i64 0, .int .i64 0, .int .i64 0, .int .i64 0, .int .i64 0, .bool false, .int .i64 0, .bool false, .int .i64 0, .int .i64 0, .int .i64 0] 50 (w.heap.size + 1) (by simp)
  obtain ⟨W0, hW0⟩ : ∃ W0, W0 = ((w.alloc (.cells (#[.slice (some ⟨b, o, none⟩) 13 cap] : Array Value) 64)).alloc (.cells #[.bool false, .int .i64 0, .int .i64 0, .int .i64 0, .int .i64 0, .int .i64 0, .int .i64 0, .bool false, .int .i64 0, .bool false, .int .i64 0, .int .i64 0, .int .i64 0] 50)).drew := ⟨_, rfl⟩
  have K0 : ∀ W, Ext W0 W → W.cell? ⟨w.heap.size, 0, none⟩ = some (.slice (some ⟨b, o, none⟩) 13 cap) := fun W h => by rw [hW0] at h; rw [(st.drew.ext h).cell 0 rfl rfl]; rfl
  have KL : ∀ W, Ext W0 W → ∀ j (hj : j < [x0, x1, x2, x3, x4, x5, x6, x7, x8, x9, x10, x11, x12].length), W.cell? ⟨b, o + j, none⟩ = some (.int .i64 [x0, x1, x2, x3, x4, x5, x6, x7, x8, x9, x10, x11, x12][j]) := fun W h j hj => by rw [hW0] at h; rw [(st.drew.ext h).x.cell _ _ hb.out]; exact hl.out j hj
  have K : Hid (∀ W, Ext W0 W → W.cell? ⟨w.heap.size, 0, none⟩ = some (.slice (some ⟨b, o, none⟩) 13 cap) ∧ W.cell? ⟨b, o, none⟩ = some (.int .i64 x0) ∧ W.cell? ⟨b, o + 7, none⟩ = some (.int .i64 x7) ∧ W.cell? ⟨b, o + 8, none⟩ = some (.int .i64 x8) ∧ W.cell? ⟨b, o + 9, none⟩ = some (.int .i64 x9)) :=
    Lib.hid fun W h => ⟨K0 W h, KL W h 0 (by simp), KL W h 7 (by simp), KL W h 8 (by simp), KL W h 9 (by simp)⟩
  have hlt : w.heap.size + 2 ≤ W0.heap.size := by rw [hW0]; simp [World.drew]
  have V1 : Hid (∀ W, Ext W0 W → Calls Tryz.prog 164 #[.int .i64 1, .pointer (some ⟨w.heap.size, 0, none⟩)] W (Gives W (.agg #[.int .i64 x1, .int .i64 x2, .int .i64 x3]))) := Lib.hid fun W h => vec_gen W w.heap.size b o cap 1 2 3 x1 x2 x3 (by unfold wrap64; omega) (by unfold wrap64; omega) (by omega) (by omega) (by omega) (K0 W h) (KL W h 1 (by simp)) (KL W h 2 (by simp)) (KL W h 3 (by simp)) (by have := h.size; omega) (by have := h.size; have := hb.out; omega)
  have V4 : Hid (∀ W, Ext W0 W → Calls Tryz.prog 164 #[.int .i64 4, .pointer (some ⟨w.heap.size, 0, none⟩)] W (Gives W (.agg #[.int .i64 x4, .int .i64 x5, .int .i64 x6]))) := Lib.hid fun W h => vec_gen W w.heap.size b o cap 4 5 6 x4 x5 x6 (by unfold wrap64; omega) (by unfold wrap64; omega) (by omega) (by omega) (by omega) (K0 W h) (KL W h 4 (by simp)) (KL W h 5 (by simp)) (KL W h 6 (by simp)) (by have := h.size; omega) (by have := h.size; have := hb.out; omega)
  have V10 : Hid (∀ W, Ext W0 W → Calls Tryz.prog 164 #[.int .i64 10, .pointer (some ⟨w.heap.size, 0, none⟩)] W (Gives W (.agg #[.int .i64 x10, .int .i64 x11, .int .i64 x12]))) := Lib.hid fun W h => vec_gen W w.heap.size b o cap 10 11 12 x10 x11 x12 (by unfold wrap64; omega) (by unfold wrap64; omega) (by omega) (by omega) (by omega) (K0 W h) (KL W h 10 (by simp)) (KL W h 11 (by simp)) (KL W h 12 (by simp)) (by have := h.size; omega) (by have := h.size; have := hb.out; omega)
  have kb0 := Lib.hid (st.cell 0 rfl rfl)
  clear hlt
  replace K0 := Lib.hid K0
  replace KL := Lib.hid KL
  have QS : ∀ (bx : Nat) (wx : World), Own w wx [w.heap.size, w.heap.size + 1, bx] [((#[.slice (some ⟨b, o, none⟩) 13 cap] : Array Value), 64), (#[.bool false, .int .i64 0, .int .i64 0, .int .i64 0, .int .i64 0, .int .i64 0, .int .i64 0, .bool false, .int .i64 0, .bool false, .int .i64 0, .int .i64 0, .int .i64 0], 50), (#[.bool m0, .int .i64 x1, .int .i64 x2, .int .i64 x3, .int .i64 x4, .int .i64 x5, .int .i64 x6, .bool m7, .int .i64 x8, .bool m9, .int .i64 x10, .int .i64 x11, .int .i64 x12], 50)] → (∀ W, Ext wx.drew W → W.cell? ⟨w.heap.size, 0, none⟩ = some (.slice (some ⟨b, o, none⟩) 13 cap) ∧ ∀ o, W.cell? ⟨bx, o, none⟩ = (#[.bool m0, .int .i64 x1, .int .i64 x2, .int .i64 x3, .int .i64 x4, .int .i64 x5, .int .i64 x6, .bool m7, .int .i64 x8, .bool m9, .int .i64 x10, .int .i64 x11, .int .i64 x12] : Array Value)[o]?) := fun bx wx st W h => ⟨by rw [(st.drew.ext h).cell 0 rfl rfl]; rfl, (st.drew.ext h).cell 2 rfl rfl⟩
  have KS : ∀ (bx : Nat) (wx : World), Own w wx [w.heap.size, w.heap.size + 1, bx] [((#[.slice (some ⟨b, o, none⟩) 13 cap] : Array Value), 64), (#[.bool false, .int .i64 0, .int .i64 0, .int .i64 0, .int .i64 0, .int .i64 0, .int .i64 0, .bool false, .int .i64 0, .bool false, .int .i64 0, .int .i64 0, .int .i64 0], 50), (#[.bool m0, .int .i64 x1, .int .i64 x2, .int .i64 x3, .int .i64 x4, .int .i64 x5, .int .i64 x6, .bool m7, .int .i64 x8, .bool m9, .int .i64 x10, .int .i64 x11, .int .i64 x12], 50)] → (∀ W, Ext wx.drew W → SlP W (some ⟨b, o, none⟩) [x0, x1, x2, x3, x4, x5, x6, x7, x8, x9, x10, x11, x12]) := fun bx wx st W h => Or.inr ⟨b, o, rfl, by have := (st.drew.ext h).x.size; have := hb.out; omega, fun j hj => by rw [(st.drew.ext h).x.cell _ _ hb.out]; exact hl.out j hj⟩
  have XS : ∀ (bx : Nat) (wx : World), Own w wx [w.heap.size, w.heap.size + 1, bx] [((#[.slice (some ⟨b, o, none⟩) 13 cap] : Array Value), 64), (#[.bool false, .int .i64 0, .int .i64 0, .int .i64 0, .int .i64 0, .int .i64 0, .int .i64 0, .bool false, .int .i64 0, .bool false, .int .i64 0, .int .i64 0, .int .i64 0], 50), (#[.bool m0, .int .i64 x1, .int .i64 x2, .int .i64 x3, .int .i64 x4, .int .i64 x5, .int .i64 x6, .bool m7, .int .i64 x8, .bool m9, .int .i64 x10, .int .i64 x11, .int .i64 x12], 50)] → Ext wx.drew wx.drew := fun bx wx _ => Ext.refl _
  replace QS := Lib.hid QS
  replace KS := Lib.hid KS
  replace XS := Lib.hid XS
  go_enter Tryz.func101, Tryz.ntmps101
  go_wp2_with fail
  go_cut [5] from 11 to 32 (fun s5 wx => ∃ bx, s5 = .pointer (some ⟨bx, 0, none⟩) ∧ Own w wx [w.heap.size, w.heap.size + 1, bx] [((#[.slice (some ⟨b, o, none⟩) 13 cap] : Array Value), 64), (#[.bool false, .int .i64 0, .int .i64 0, .int .i64 0, .int .i64 0, .int .i64 0, .int .i64 0, .bool false, .int .i64 0, .bool false, .int .i64 0, .int .i64 0, .int .i64 0], 50), (#[.bool m0, .int .i64 x1, .int .i64 x2, .int .i64 x3, .int .i64 x4, .int .i64 x5, .int .i64 x6, .bool m7, .int .i64 x8, .bool m9, .int .i64 x10, .int .i64 x11, .int .i64 x12], 50)])
  case first =>
    replace st := st.drew
    have xx := Ext.refl ((w.alloc (.cells (#[.slice (some ⟨b, o, none⟩) 13 cap] : Array Value) 64)).alloc (.cells #[.bool false, .int .i64 0, .int .i64 0, .int .i64 0, .int .i64 0, .int .i64 0, .int .i64 0, .bool false, .int .i64 0, .bool false, .int .i64 0, .int .i64 0, .int .i64 0] 50)).drew
    have mf := Made.first ((w.alloc (.cells (#[.slice (some ⟨b, o, none⟩) 13 cap] : Array Value) 64)).alloc (.cells #[.bool false, .int .i64 0, .int .i64 0, .int .i64 0, .int .i64 0, .int .i64 0, .int .i64 0, .bool false, .int .i64 0, .bool false, .int .i64 0, .int .i64 0, .int .i64 0] 50)) #[.bool false, .int .i64 0, .int .i64 0, .int .i64 0, .int .i64 0, .int .i64 0, .int .i64 0, .bool false, .int .i64 0, .bool false, .int .i64 0, .int .i64 0, .int .i64 0] 50
    rw [show ((w.alloc (.cells (#[.slice (some ⟨b, o, none⟩) 13 cap] : Array Value) 64)).alloc (.cells #[.bool false, .int .i64 0, .int .i64 0, .int .i64 0, .int .i64 0, .int .i64 0, .int .i64 0, .bool false, .int .i64 0, .bool false, .int .i64 0, .int .i64 0, .int .i64 0] 50)).heap.size = w.heap.size + 1 + 1 from by simp] at mf
    subst hW0
    go_region_held3 (fun w' => w'.cell? ⟨w.heap.size, 0, none⟩ = some (.slice (some ⟨b, o, none⟩) 13 cap) ∧ w'.cell? ⟨b, o, none⟩ = some (.int .i64 x0) ∧ w'.cell? ⟨b, o + 7, none⟩ = some (.int .i64 x7) ∧ w'.cell? ⟨b, o + 8, none⟩ = some (.int .i64 x8) ∧ w'.cell? ⟨b, o + 9, none⟩ = some (.int .i64 x9)) (first | (with_reducible exact K.out _ xx) | (with_reducible exact K.out _ (xx.alloc _ _)) | (with_reducible exact K.out _ mf.x) | (with_reducible exact K.out _ (mk.set13 (.bool m0) (.int .i64 x1) (.int .i64 x2) (.int .i64 x3) (.int .i64 x4) (.int .i64 x5) (.int .i64 x6) (.bool m7) (.int .i64 x8) (.bool m9) (.int .i64 x10) (.int .i64 x11) (.int .i64 x12)).x) | (with_reducible exact K.out _ ((Made.new xx #[.bool false, .int .i64 0, .int .i64 0, .int .i64 0, .int .i64 0, .int .i64 0, .int .i64 0, .bool false, .int .i64 0, .bool false, .int .i64 0, .int .i64 0, .int .i64 0] 50).set13 (.bool m0) (.int .i64 x1) (.int .i64 x2) (.int .i64 x3) (.int .i64 x4) (.int .i64 x5) (.int .i64 x6) (.bool m7) (.int .i64 x8) (.bool m9) (.int .i64 x10) (.int .i64 x11) (.int .i64 x12)).x)) (first | (go_at_call 164; (first | (with_reducible refine (V1.out _ (by first | exact xx | exact mf.x | exact xx.alloc _ _)).mono ?_) | (with_reducible refine (V4.out _ (by first | exact xx | exact mf.x | exact xx.alloc _ _)).mono ?_) | (with_reducible refine (V10.out _ (by first | exact xx | exact mf.x | exact xx.alloc _ _)).mono ?_)); rintro e w9 ⟨rfl, hx⟩; first | (with_reducible (replace mk := mk.ext hx; replace xx := xx.trans hx; clear k8 z8; have k8 := mk.cells; have z8 := mk.frozens; clear hx)) | (with_reducible (replace xx := xx.trans hx; clear hx)) | (with_reducible (have mk := mf.ext hx; replace xx := mk.x; have k8 := mk.cells; have z8 := mk.frozens; clear hx)) | (with_reducible (have mk := (Made.new xx #[.bool false, .int .i64 0, .int .i64 0, .int .i64 0, .int .i64 0, .int .i64 0, .int .i64 0, .bool false, .int .i64 0, .bool false, .int .i64 0, .int .i64 0, .int .i64 0] 50).ext hx; replace xx := mk.x; have k8 := mk.cells; have z8 := mk.frozens; clear hx))))
    all_goals
      go_wp2_with fail
      go_meet
      case rel => first | exact ⟨_, rfl, st.made (mk.set13 (.bool m0) (.int .i64 x1) (.int .i64 x2) (.int .i64 x3) (.int .i64 x4) (.int .i64 x5) (.int .i64 x6) (.bool m7) (.int .i64 x8) (.bool m9) (.int .i64 x10) (.int .i64 x11) (.int .i64 x12))⟩ | exact ⟨_, rfl, st.made (Made.new xx #[.bool m0, .int .i64 x1, .int .i64 x2, .int .i64 x3, .int .i64 x4, .int .i64 x5, .int .i64 x6, .bool m7, .int .i64 x8, .bool m9, .int .i64 x10, .int .i64 x11, .int .i64 x12] 50)⟩
  case rest =>
  obtain ⟨bx, hs5, st⟩ := hcut
  subst hs5
  have Q := Lib.hid (fun W h => QS.out _ _ st W h)
  have KW := Lib.hid (fun W h => KS.out _ _ st W h)
  have xx := XS.out _ _ st
  replace st := Lib.hid st.drew
  clear V1 V4 V10 K0 KL K kb0 QS KS XS
  go_wp2_with fail
  go_region_held3 (fun w' => w'.cell? ⟨w.heap.size, 0, none⟩ = some (.slice (some ⟨b, o, none⟩) 13 cap) ∧ ∀ o, w'.cell? ⟨bx, o, none⟩ = (#[.bool m0, .int .i64 x1, .int .i64 x2, .int .i64 x3, .int .i64 x4, .int .i64 x5, .int .i64 x6, .bool m7, .int .i64 x8, .bool m9, .int .i64 x10, .int .i64 x11, .int .i64 x12] : Array Value)[o]?) (exact Q.out _ xx) (first | (go_at_call 137; refine (pack_calls m0 m7 m9 x1 x2 x3 x4 x5 x6 x8 x10 x11 x12 _).mono ?_; rintro e w9 ⟨p, c2, rfl, hsl, hx⟩; replace xx := xx.trans hx; clear hx; replace hsl := Lib.hid hsl) | (go_at_call 147; refine (sleq_calls p (some ⟨b, o, none⟩) c2 cap (words m0 m7 m9 x1 x2 x3 x4 x5 x6 x8 x10 x11 x12) [x0, x1, x2, x3, x4, x5, x6, x7, x8, x9, x10, x11, x12] _ hsl (Lib.hid (KW.out _ xx)) (Lib.hid (by simp [words]))).mono ?_; rintro e w10 ⟨x, rfl, hxe, hx⟩; replace xx := xx.trans hx; clear hx; replace hxe := Lib.hid hxe))
  cases x
  · have kr := ((st.out).ext xx).cell 1 rfl rfl
    have zr := ((st.out).ext xx).frozen 1 rfl rfl
    go_wp2
    have r1 := (((st.out).ext xx).row 1 rfl rfl).set13 (.bool false) (.int .i64 0) (.int .i64 0) (.int .i64 0) (.int .i64 0) (.int .i64 0) (.int .i64 0) (.bool false) (.int .i64 0) (.bool false) (.int .i64 0) (.int .i64 0) (.int .i64 0)
    refine bodyPost_ret (results_row_tmp 13 Tryz.results101 _ _ rfl r1 rfl (by kernel_rfl) (by kernel_rfl)) rfl ?_
    exact ⟨_, _, _, _, _, _, _, _, _, _, _, _, _, _, rfl, (fun h => absurd h (by decide)), ((st.out).ext xx).x.set13 (by omega) ..⟩
  · have kr := ((st.out).ext xx).cell 1 rfl rfl
    have zr := ((st.out).ext xx).frozen 1 rfl rfl
    have ks := ((st.out).ext xx).cell 2 rfl rfl
    go_wp2
    have r1 := (((st.out).ext xx).row 1 rfl rfl).set13 (.bool m0) (.int .i64 x1) (.int .i64 x2) (.int .i64 x3) (.int .i64 x4) (.int .i64 x5) (.int .i64 x6) (.bool m7) (.int .i64 x8) (.bool m9) (.int .i64 x10) (.int .i64 x11) (.int .i64 x12)
    refine bodyPost_ret (results_row_tmp 13 Tryz.results101 _ _ rfl r1 rfl (by kernel_rfl) (by kernel_rfl)) rfl ?_
    exact ⟨_, _, _, _, _, _, _, _, _, _, _, _, _, _, rfl, fun _ => (of_decide_eq_true hxe.out.symm).symm, ((st.out).ext xx).x.set13 (by omega) ..⟩
end Go.Proofs.YtnpbnpilhmbpoaaGreat
