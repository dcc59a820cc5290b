/- The blocks of a call's own: a list of rows in the world that grew out of the one in which the call began. -/
import Derived.Test.YtnpbnpilhmbpoaaGreatE0
set_option linter.unusedVariables false
namespace Go.Proofs.YtnpbnpilhmbpoaaGreat
open Go.RowKit

/-- The call began in w; its own blocks B (rising) hold C in wr. -/
structure Own (w wr : World) (B : List Nat) (C : List (Array Value × TypeId)) : Prop where
  rows : ∀ (i b : Nat) (c : Array Value) (t : TypeId), B[i]? = some b → C[i]? = some (c, t) → Row wr b c t
  up : B.Pairwise (· < ·)
  ge : ∀ b ∈ B, w.heap.size ≤ b
  len : B.length = C.length
  x : Ext w wr

section
variable {w wr w2 : World} {B : List Nat} {C : List (Array Value × TypeId)}

theorem Own.start (w : World) : Own w w [] [] := ⟨(fun i b c t h => by simp at h), List.Pairwise.nil, (fun b h => by simp at h), rfl, Ext.refl w⟩
theorem Own.row (h : Own w wr B C) (i : Nat) {b : Nat} {c : Array Value} {t : TypeId} (hb : B[i]? = some b) (hc : C[i]? = some (c, t)) : Row wr b c t := h.rows i b c t hb hc
theorem Own.cell (h : Own w wr B C) (i : Nat) {b : Nat} {c : Array Value} {t : TypeId} (hb : B[i]? = some b) (hc : C[i]? = some (c, t)) (o : Nat) : wr.cell? ⟨b, o, none⟩ = c[o]? := (h.row i hb hc).cell o
theorem Own.frozen (h : Own w wr B C) (i : Nat) {b : Nat} {c : Array Value} {t : TypeId} (hb : B[i]? = some b) (hc : C[i]? = some (c, t)) (o : Nat) : wr.frozen? ⟨b, o, none⟩ = false := (h.row i hb hc).frozen o
theorem Own.atLeast (h : Own w wr B C) (i : Nat) {b : Nat} (hb : B[i]? = some b) : w.heap.size ≤ b := h.ge b (List.mem_of_getElem? hb)
theorem Own.lt (h : Own w wr B C) (i : Nat) {b : Nat} (hb : B[i]? = some b) : b < wr.heap.size := by
  have hi : i < C.length := by
    have : i < B.length := by
      rcases Nat.lt_or_ge i B.length with h1 | h1
      · exact h1
      · rw [List.getElem?_eq_none h1] at hb; cases hb
    rw [← h.len]; exact this
  exact (h.rows i b C[i].1 C[i].2 hb (by rw [List.getElem?_eq_getElem hi])).lt
theorem Own.ne (h : Own w wr B C) (i j : Nat) {b b' : Nat} (hb : B[i]? = some b) (hb' : B[j]? = some b') (hij : i ≠ j) : b ≠ b' := by
  have h1 := List.getElem_of_getElem? hb
  have h2 := List.getElem_of_getElem? hb'
  obtain ⟨i1, e1⟩ := h1
  obtain ⟨j1, e2⟩ := h2
  have := List.pairwise_iff_getElem.1 h.up
  rcases Nat.lt_or_gt_of_ne hij with h3 | h3
  · have := this i j i1 j1 h3; omega
  · have := this j i j1 i1 h3; omega
theorem Own.ext (h : Own w wr B C) (hx : Ext wr w2) : Own w w2 B C :=
  ⟨fun i b c t hb hc => (h.rows i b c t hb hc).ext hx, h.up, h.ge, h.len, h.x.trans hx⟩
theorem Own.drew (h : Own w wr B C) : Own w wr.drew B C := h.ext (Ext.refl wr).drew
theorem Own.set (h : Own w wr B C) (i : Nat) {b : Nat} {c : Array Value} {t : TypeId} (hb : B[i]? = some b) (hc : C[i]? = some (c, t)) (o : Nat) (v : Value) :
    Own w (wr.setCell ⟨b, o, none⟩ v) B (C.set i (c.setIfInBounds o v, t)) := by
  refine ⟨fun j b' c' t' hb' hc' => ?_, h.up, h.ge, by rw [List.length_set]; exact h.len, h.x.setCell (p := ⟨b, o, none⟩) (h.atLeast i hb) v⟩
  by_cases e : j = i
  · subst e
    rw [hb] at hb'
    cases hb'
    have hi : j < C.length := by
      rcases Nat.lt_or_ge j C.length with h1 | h1
      · exact h1
      · rw [List.getElem?_eq_none h1] at hc; cases hc
    rw [List.getElem?_set_self hi] at hc'
    cases hc'
    exact (h.row j hb hc).set o v
  · rw [List.getElem?_set_ne (fun x => e x.symm)] at hc'
    exact (h.row j hb' hc').set_other (h.ne j i hb' hb e) o v
/-- A callee has written one of the call's own cells, and made blocks of its own. -/
theorem Own.flag (h : Own w wr B C) (i : Nat) {b : Nat} {c : Array Value} {t : TypeId} (hb : B[i]? = some b) (hc : C[i]? = some (c, t)) {o : Nat} {v : Value} (hx : Ext (wr.setCell ⟨b, o, none⟩ v) w2) :
    Own w w2 B (C.set i (c.setIfInBounds o v, t)) := (h.set i hb hc o v).ext hx
theorem Own.push (h : Own w wr B C) (c : Array Value) (t : TypeId) (n : Nat) (hn : n = wr.heap.size) : Own w (wr.alloc (.cells c t)) (B ++ [n]) (C ++ [(c, t)]) := by
  subst hn
  refine ⟨fun i b c' t' hb hc => ?_, ?_, ?_, by simp [h.len], h.x.alloc _ _⟩
  · rcases Nat.lt_trichotomy i B.length with h1 | h1 | h1
    · rw [List.getElem?_append_left h1] at hb
      rw [List.getElem?_append_left (by rw [← h.len]; exact h1)] at hc
      exact (h.row i hb hc).alloc _
    · subst h1
      rw [List.getElem?_append_right (Nat.le_refl _)] at hb
      rw [h.len, List.getElem?_append_right (Nat.le_refl _)] at hc
      simp at hb hc
      obtain ⟨rfl, rfl⟩ := hc
      subst hb
      exact Row.new wr c t
    · rw [List.getElem?_eq_none (by simp; omega)] at hb; cases hb
  · refine List.pairwise_append.2 ⟨h.up, List.pairwise_singleton _ _, fun a ha b hb => ?_⟩
    rw [List.mem_singleton] at hb
    subst hb
    obtain ⟨i, hi, rfl⟩ := List.mem_iff_getElem.1 ha
    exact h.lt i (List.getElem?_eq_getElem hi)
  · intro b hb
    rcases List.mem_append.1 hb with hb | hb
    · exact h.ge b hb
    · rw [List.mem_singleton] at hb; subst hb; exact h.x.size
end
end Go.Proofs.YtnpbnpilhmbpoaaGreat
