/- A sample as words. -/
import Derived.Test.YtnpbnpilhmbpoaaGreatU18
import Derived.Test.YtnpbnpilhmbpoaaGreatU4
set_option linter.unusedVariables false
namespace Go.Proofs.YtnpbnpilhmbpoaaGreat
open Go.RowKit

theorem Acc.startF {w W : World} (x : Ext w W) (F : List (Nat × Array Value × TypeId)) (hF : ∀ f ∈ F, Row W f.1 f.2.1 f.2.2) : Acc w (W.alloc (.cells #[.slice none 0 0] 64)) W.heap.size (.slice none 0 0) (.slice none 0 0) [] F :=
  ⟨x.alloc _ _, x.size, Row.new _ _ _, World.ownsRow_nil _ _ _ _, by simp [Value.ownBlock], fun f hf => ⟨(hF f hf).alloc _, by simp [Value.ownBlock], by have := (hF f hf).lt; omega⟩⟩

/-- The call hands back a slice of its own that reads as L. -/
def SlSays (w : World) (L : List Int) (e : Ending) (w' : World) : Prop := ∃ p cap, e = .returned (.slice p L.length cap) ∧ SlP w' p L ∧ Ext w w'
theorem Acc.says {w W : World} {bo : Nat} {r v : Value} {l : List Int} {F : List (Nat × Array Value × TypeId)} (h : Acc w W bo r v l F) : SlSays w l (.returned v) W := by
  rcases h.own.2 with ⟨rfl, h0⟩ | ⟨g, cap, cur, rfl, hbg, hg, _⟩
  · exact ⟨none, 0, by rw [h0], Or.inl (List.eq_nil_of_length_eq_zero h0), h.x⟩
  · refine ⟨_, _, rfl, Or.inr ⟨g, 0, rfl, Row.lt (c := cur) (t := 2) hg, fun j hj => ?_⟩, h.x⟩
    have := h.own.cells (g := g) rfl j (.int .i64 l[j]) (by simp [hj])
    simpa [Addr.add_lit] using this

/-- A sample's words. -/
def words (m hb hg : Bool) (g0 g1 g2 a0 a1 a2 b n0 n1 n2 : Int) : List Int := [(if m then 1 else 0), g0, g1, g2, a0, a1, a2, (if hb then 1 else 0), b, (if hg then 1 else 0), n0, n1, n2]

set_option maxRecDepth 10000 in
set_option maxHeartbeats 4000000 in
theorem pack_calls (m hb hg : Bool) (g0 g1 g2 a0 a1 a2 b n0 n1 n2 : Int) (w : World) : Calls Tryz.prog 137 #[.agg #[.bool m, .int .i64 g0, .int .i64 g1, .int .i64 g2, .int .i64 a0, .int .i64 a1, .int .i64 a2, .bool hb, .int .i64 b, .bool hg, .int .i64 n0, .int .i64 n1, .int .i64 n2]] w (SlSays w (words m hb hg g0 g1 g2 a0 a1 a2 b n0 n1 n2)) := by
  have st := Acc.startF ((Ext.refl w).alloc #[.bool m, .int .i64 g0, .int .i64 g1, .int .i64 g2, .int .i64 a0, .int .i64 a1, .int .i64 a2, .bool hb, .int .i64 b, .bool hg, .int .i64 n0, .int .i64 n1, .int .i64 n2] 50) [(w.heap.size, #[.bool m, .int .i64 g0, .int .i64 g1, .int .i64 g2, .int .i64 a0, .int .i64 a1, .int .i64 a2, .bool hb, .int .i64 b, .bool hg, .int .i64 n0, .int .i64 n1, .int .i64 n2], 50)] (by simp [Row.new])
  replace st : Acc w ((w.alloc (.cells #[.bool m, .int .i64 g0, .int .i64 g1, .int .i64 g2, .int .i64 a0, .int .i64 a1, .int .i64 a2, .bool hb, .int .i64 b, .bool hg, .int .i64 n0, .int .i64 n1, .int .i64 n2] 50)).alloc (.cells #[.slice none 0 0] 64)) (w.heap.size + 1) (.slice none 0 0) (.slice none 0 0) [] [(w.heap.size, #[.bool m, .int .i64 g0, .int .i64 g1, .int .i64 g2, .int .i64 a0, .int .i64 a1, .int .i64 a2, .bool hb, .int .i64 b, .bool hg, .int .i64 n0, .int .i64 n1, .int .i64 n2], 50)] := by simpa using st
  replace st := Lib.hid st
  go_enter Tryz.func137, Tryz.ntmps137
  go_wp2_with fail
  refine (is_calls st m (Lib.hid (by simp))).mono ?_
  rintro e w1 ⟨rfl, v1, st⟩
  have kb := st.at 0 rfl
  have ko := st.cell
  have kf := st.frozen
  replace st := Lib.hid st
  go_wp2_with fail
  refine (lay_calls st 0 w.heap.size 1 3 3 #[.bool m, .int .i64 g0, .int .i64 g1, .int .i64 g2, .int .i64 a0, .int .i64 a1, .int .i64 a2, .bool hb, .int .i64 b, .bool hg, .int .i64 n0, .int .i64 n1, .int .i64 n2] 50 [g0, g1, g2] (Lib.hid rfl) (Lib.hid rfl) (Lib.hid (fun j hj => by match j, hj with | 0, _ => rfl | 1, _ => rfl | 2, _ => rfl)) (Lib.hid (by simp))).mono ?_
  rintro e w1 ⟨rfl, v1, st⟩
  have kb := st.at 0 rfl
  have ko := st.cell
  have kf := st.frozen
  replace st := Lib.hid st
  go_wp2_with fail
  refine (lay_calls st 0 w.heap.size 4 3 3 #[.bool m, .int .i64 g0, .int .i64 g1, .int .i64 g2, .int .i64 a0, .int .i64 a1, .int .i64 a2, .bool hb, .int .i64 b, .bool hg, .int .i64 n0, .int .i64 n1, .int .i64 n2] 50 [a0, a1, a2] (Lib.hid rfl) (Lib.hid rfl) (Lib.hid (fun j hj => by match j, hj with | 0, _ => rfl | 1, _ => rfl | 2, _ => rfl)) (Lib.hid (by simp))).mono ?_
  rintro e w1 ⟨rfl, v1, st⟩
  have kb := st.at 0 rfl
  have ko := st.cell
  have kf := st.frozen
  replace st := Lib.hid st
  go_wp2_with fail
  refine (is_calls st hb (Lib.hid (by simp))).mono ?_
  rintro e w1 ⟨rfl, v1, st⟩
  have kb := st.at 0 rfl
  have ko := st.cell
  have kf := st.frozen
  replace st := Lib.hid st
  go_wp2_with fail
  refine (lay_calls (Lib.hid (st.out.push #[.int .i64 b] 22)) 0 _ 0 1 1 #[.int .i64 b] 22 [b] (Lib.hid rfl) (Lib.hid rfl) (Lib.hid (fun j hj => by match j, hj with | 0, _ => rfl)) (Lib.hid (by simp))).mono ?_
  rintro e w1 ⟨rfl, v1, st⟩
  replace st := st.pop
  have kb := st.at 0 rfl
  have ko := st.cell
  have kf := st.frozen
  replace st := Lib.hid st
  go_wp2_with fail
  refine (is_calls st hg (Lib.hid (by simp))).mono ?_
  rintro e w1 ⟨rfl, v1, st⟩
  have kb := st.at 0 rfl
  have ko := st.cell
  have kf := st.frozen
  replace st := Lib.hid st
  go_wp2_with fail
  refine (lay_calls st 0 w.heap.size 10 3 3 #[.bool m, .int .i64 g0, .int .i64 g1, .int .i64 g2, .int .i64 a0, .int .i64 a1, .int .i64 a2, .bool hb, .int .i64 b, .bool hg, .int .i64 n0, .int .i64 n1, .int .i64 n2] 50 [n0, n1, n2] (Lib.hid rfl) (Lib.hid rfl) (Lib.hid (fun j hj => by match j, hj with | 0, _ => rfl | 1, _ => rfl | 2, _ => rfl)) (Lib.hid (by simp))).mono ?_
  rintro e w1 ⟨rfl, v1, st⟩
  have kb := st.at 0 rfl
  have ko := st.cell
  have kf := st.frozen
  replace st := Lib.hid st
  go_wp2
  go_ret
  have h := st.out.says
  simpa [words] using h
end Go.Proofs.YtnpbnpilhmbpoaaGreat
