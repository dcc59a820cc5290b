/- A sample out of words: its vectors. -/
import Derived.Test.YtnpbnpilhmbpoaaGreatU19
import Derived.Test.YtnpbnpilhmbpoaaGreatU20
import Derived.Deep.RegionHeld3
import Derived.Deep.CutRange
set_option linter.unusedVariables false
namespace Go.Proofs.YtnpbnpilhmbpoaaGreat
open Go.RowKit

/-- The call hands back v, and makes blocks of its own alone. -/
def Gives (w : World) (v : Value) (e : Ending) (w' : World) : Prop := e = .returned v ∧ Ext w w'
theorem Gives.mk {w w' : World} {v : Value} (hx : Ext w w') : Gives w v (.returned v) w' := ⟨rfl, hx⟩

set_option maxRecDepth 10000 in
set_option maxHeartbeats 2000000 in
theorem vec_gen (w : World) (bl b o cap k j1 j2 : Nat) (x y z : Int) (s1 : wrap64 ((k : Int) + 1) = (j1 : Int)) (s2 : wrap64 ((k : Int) + 2) = (j2 : Int)) (i0 : (k : Int) < 13) (i1 : (j1 : Int) < 13) (i2 : (j2 : Int) < 13)
    (h0 : w.cell? ⟨bl, 0, none⟩ = some (.slice (some ⟨b, o, none⟩) 13 cap)) (h1 : w.cell? ⟨b, o + k, none⟩ = some (.int .i64 x)) (h2 : w.cell? ⟨b, o + j1, none⟩ = some (.int .i64 y)) (h3 : w.cell? ⟨b, o + j2, none⟩ = some (.int .i64 z)) (hbl : bl < w.heap.size) (hb : b < w.heap.size) :
    Calls Tryz.prog 164 #[.int .i64 k, .pointer (some ⟨bl, 0, none⟩)] w (Gives w (.agg #[.int .i64 x, .int .i64 y, .int .i64 z])) := by
  have t1 : IntKind.i64.wrap ((k : Int) + 1) = (j1 : Int) := by rw [IntKind.wrap_i64, ← s1]; unfold wrap64; omega
  have t2 : IntKind.i64.wrap ((k : Int) + 2) = (j2 : Int) := by rw [IntKind.wrap_i64, ← s2]; unfold wrap64; omega
  go_enter Tryz.func164, Tryz.ntmps164
  go_wp2
  have st : Own w (w.alloc (.cells #[.int .i64 0, .int .i64 0, .int .i64 0] 48)) [w.heap.size] [(#[.int .i64 0, .int .i64 0, .int .i64 0], 48)] := (Own.start w).push #[.int .i64 0, .int .i64 0, .int .i64 0] 48 _ rfl
  replace st := st.drew
  have k0 : ∀ W, Ext w W → W.cell? ⟨bl, 0, none⟩ = some (.slice (some ⟨b, o, none⟩) 13 cap) := fun W h => by rw [h.cell _ _ hbl]; exact h0
  have k1 : ∀ W, Ext w W → W.cell? ⟨b, o + k, none⟩ = some (.int .i64 x) := fun W h => by rw [h.cell _ _ hb]; exact h1
  have k2 : ∀ W, Ext w W → W.cell? ⟨b, o + j1, none⟩ = some (.int .i64 y) := fun W h => by rw [h.cell _ _ hb]; exact h2
  have k3 : ∀ W, Ext w W → W.cell? ⟨b, o + j2, none⟩ = some (.int .i64 z) := fun W h => by rw [h.cell _ _ hb]; exact h3
  have K : ∀ W, Ext w W → W.cell? ⟨bl, 0, none⟩ = some (.slice (some ⟨b, o, none⟩) 13 cap) ∧ W.cell? ⟨b, o + k, none⟩ = some (.int .i64 x) ∧ W.cell? ⟨b, o + j1, none⟩ = some (.int .i64 y) ∧ W.cell? ⟨b, o + j2, none⟩ = some (.int .i64 z) := fun W h => ⟨k0 W h, k1 W h, k2 W h, k3 W h⟩
  replace K := Lib.hid K
  clear k0 k1 k2 k3
  have kr := st.cell 0 rfl rfl
  have zr := st.frozen 0 rfl rfl
  have xx := Lib.hid st.x
  clear h0 h1 h2 h3
  replace hbl := Lib.hid hbl
  replace hb := Lib.hid hb
  go_region_held3 (fun w' => w'.cell? ⟨bl, 0, none⟩ = some (.slice (some ⟨b, o, none⟩) 13 cap) ∧ w'.cell? ⟨b, o + k, none⟩ = some (.int .i64 x) ∧ w'.cell? ⟨b, o + j1, none⟩ = some (.int .i64 y) ∧ w'.cell? ⟨b, o + j2, none⟩ = some (.int .i64 z)) (first | (exact K.out _ xx.out) | (exact K.out _ ((Ext.refl w).alloc _ _).drew) | (exact K.out _ ((((st.set 0 rfl rfl 0 (.int .i64 x)).set 0 rfl rfl 1 (.int .i64 y)).set 0 rfl rfl 2 (.int .i64 z)).x))) (fail)
  go_wp2
  have st4 := ((Own.start w).push #[.int .i64 x, .int .i64 y, .int .i64 z] 48 _ rfl).drew
  exact bodyPost_ret (results_cell_row Tryz.results164 _ _ _ _ _ (0, 0) _ rfl (st4.row 0 rfl rfl) Tryz.underlying48 rfl (by kernel_rfl)) rfl ⟨rfl, st4.x⟩
end Go.Proofs.YtnpbnpilhmbpoaaGreat
