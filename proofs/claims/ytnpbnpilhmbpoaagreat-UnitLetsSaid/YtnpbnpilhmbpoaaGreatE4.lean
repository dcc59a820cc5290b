/- A block that a drawn region has made, joined to the call's own. -/
import Derived.Test.YtnpbnpilhmbpoaaGreatE1
set_option linter.unusedVariables false
namespace Go.Proofs.YtnpbnpilhmbpoaaGreat
open Go.RowKit
theorem Own.add {w W0 W : World} {B : List Nat} {C : List (Array Value × TypeId)} (h : Own w W0 B C) (hx : Ext W0 W) {b : Nat} {c : Array Value} {t : TypeId} (r : Row W b c t) (hb : W0.heap.size ≤ b) :
    Own w W (B ++ [b]) (C ++ [(c, t)]) := by
  have h2 := h.ext hx
  refine ⟨fun i b' c' t' hb' hc => ?_, ?_, ?_, by simp [h.len], h2.x⟩
  · rcases Nat.lt_trichotomy i B.length with h1 | h1 | h1
    · rw [List.getElem?_append_left h1] at hb'
      rw [List.getElem?_append_left (by rw [← h.len]; exact h1)] at hc
      exact h2.row i hb' hc
    · subst h1
      rw [List.getElem?_append_right (Nat.le_refl _)] at hb'
      rw [h.len, List.getElem?_append_right (Nat.le_refl _)] at hc
      simp at hb' hc
      obtain ⟨rfl, rfl⟩ := hc
      subst hb'
      exact r
    · rw [List.getElem?_eq_none (by simp; omega)] at hb'; cases hb'
  · refine List.pairwise_append.2 ⟨h.up, List.pairwise_singleton _ _, fun a ha b' hb' => ?_⟩
    rw [List.mem_singleton] at hb'
    subst hb'
    obtain ⟨i, hi, rfl⟩ := List.mem_iff_getElem.1 ha
    exact Nat.lt_of_lt_of_le (h.lt i (List.getElem?_eq_getElem hi)) hb
  · intro b' hb'
    rcases List.mem_append.1 hb' with hb' | hb'
    · exact h.ge b' hb'
    · rw [List.mem_singleton] at hb'
      subst hb'
      have := h.x.size
      omega
/-- What a drawn region that calls, and makes one block, leaves: however the two lie in order. -/
structure Made (W0 W : World) (b : Nat) (c : Array Value) (t : TypeId) : Prop where
  x : Ext W0 W
  row : Row W b c t
  le : W0.heap.size ≤ b
theorem Made.new {W0 W : World} (h : Ext W0 W) (c : Array Value) (t : TypeId) : Made W0 (W.alloc (.cells c t)) W.heap.size c t := ⟨h.alloc _ _, Row.new _ _ _, h.size⟩
theorem Made.ext {W0 W W2 : World} {b : Nat} {c : Array Value} {t : TypeId} (h : Made W0 W b c t) (hx : Ext W W2) : Made W0 W2 b c t := ⟨h.x.trans hx, h.row.ext hx, h.le⟩
theorem Made.set {W0 W : World} {b : Nat} {c : Array Value} {t : TypeId} (h : Made W0 W b c t) (o : Nat) (v : Value) : Made W0 (W.setCell ⟨b, o, none⟩ v) b (c.setIfInBounds o v) t :=
  ⟨h.x.setCell (p := ⟨b, o, none⟩) h.le v, h.row.set o v, h.le⟩
/-- The block as the very first thing, ahead of the draw. -/
theorem Made.first (V : World) (c : Array Value) (t : TypeId) : Made V.drew (V.alloc (.cells c t)).drew V.heap.size c t := ⟨(Ext.refl V.drew).alloc c t, Row.new V c t, Nat.le_refl _⟩
theorem Made.cells {W0 W : World} {b : Nat} {c : Array Value} {t : TypeId} (h : Made W0 W b c t) (o : Nat) : W.cell? ⟨b, o, none⟩ = c[o]? := h.row.cell o
theorem Made.frozens {W0 W : World} {b : Nat} {c : Array Value} {t : TypeId} (h : Made W0 W b c t) (o : Nat) : W.frozen? ⟨b, o, none⟩ = false := h.row.frozen o
theorem Own.made {w W0 W : World} {B : List Nat} {C : List (Array Value × TypeId)} (h : Own w W0 B C) {b : Nat} {c : Array Value} {t : TypeId} (m : Made W0 W b c t) : Own w W (B ++ [b]) (C ++ [(c, t)]) := h.add m.x m.row m.le
end Go.Proofs.YtnpbnpilhmbpoaaGreat
