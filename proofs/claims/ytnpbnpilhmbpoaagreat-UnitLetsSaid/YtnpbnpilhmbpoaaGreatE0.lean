/- Words used by all contracts: a world that another one grows into ('Ext'); no Go function in sight. -/
import Derived.WalkKit
import Derived.ProofKit
import Derived.WalkLawsBesides
import Derived.WalkSpells
import Derived.Lib.Hide
namespace Go.Proofs.YtnpbnpilhmbpoaaGreat
open Go.RowKit

/-- w' is w with new blocks behind it, and draws made: nothing that was there has turned, and nothing is frozen anew. -/
structure Ext (w w' : World) : Prop where
  os : w'.os = w.os
  tape : w'.tape = w.tape
  output : w'.output = w.output
  size : w.heap.size ≤ w'.heap.size
  block : ∀ k, k < w.heap.size → w'.heap[k]? = w.heap[k]?
  frozen : ∀ a, w'.frozen? a = w.frozen? a

theorem Ext.refl (w : World) : Ext w w := ⟨rfl, rfl, rfl, Nat.le_refl _, fun _ _ => rfl, fun _ => rfl⟩
theorem Ext.trans {a b c : World} (h : Ext a b) (k : Ext b c) : Ext a c :=
  ⟨k.os.trans h.os, k.tape.trans h.tape, k.output.trans h.output, Nat.le_trans h.size k.size,
   fun i hi => (k.block i (Nat.lt_of_lt_of_le hi h.size)).trans (h.block i hi), fun x => (k.frozen x).trans (h.frozen x)⟩
theorem Ext.drew {a w : World} (h : Ext a w) : Ext a w.drew := ⟨h.os, h.tape, h.output, h.size, h.block, h.frozen⟩
theorem Ext.drewN {a w : World} (h : Ext a w) (n : Nat) : Ext a (w.drewN n) := ⟨h.os, h.tape, h.output, h.size, h.block, h.frozen⟩
theorem Ext.alloc {a w : World} (h : Ext a w) (c : Array Value) (t : TypeId) : Ext a (w.alloc (.cells c t)) :=
  h.trans ⟨rfl, rfl, rfl, by simp, fun k hk => Below.heap_alloc _ _ _ hk, fun x => frozen?_alloc_cells _ _ _ x⟩
theorem Ext.setCell {a w : World} (h : Ext a w) {p : Addr} (hp : a.heap.size ≤ p.block) (u : Value) : Ext a (w.setCell p u) :=
  ⟨h.os, h.tape, h.output, by simpa [World.setCell] using h.size,
   fun k hk => by rw [Below.heap_setCell _ _ _ _ (by omega)]; exact h.block k hk, fun x => (World.frozen?_setCell ..).trans (h.frozen x)⟩
theorem Ext.below {a w : World} (h : Ext a w) : Below a.heap.size a w := ⟨h.os, h.tape, h.output, h.size, h.block⟩
theorem Ext.grown {a w : World} (h : Ext a w) : Grown a w := ⟨h.below.frame _, h.frozen, h.size⟩
theorem Ext.cell {a w : World} (h : Ext a w) (b o : Nat) (hb : b < a.heap.size) : w.cell? ⟨b, o, none⟩ = a.cell? ⟨b, o, none⟩ := h.below.cell (p := ⟨b, o, none⟩) hb

/-- Block b of the world is a row of cells. -/
def Row (w : World) (b : Nat) (c : Array Value) (t : TypeId) : Prop := w.heap[b]? = some (.cells c t)

theorem Row.lt {w : World} {b : Nat} {c : Array Value} {t : TypeId} (h : Row w b c t) : b < w.heap.size := by
  rcases Nat.lt_or_ge b w.heap.size with h1 | h1
  · exact h1
  · unfold Row at h; rw [Array.getElem?_eq_none h1] at h; cases h
theorem Row.cell {w : World} {b : Nat} {c : Array Value} {t : TypeId} (h : Row w b c t) (o : Nat) : w.cell? ⟨b, o, none⟩ = c[o]? := by
  unfold Row at h; simp [World.cell?, h]
theorem Row.frozen {w : World} {b : Nat} {c : Array Value} {t : TypeId} (h : Row w b c t) (o : Nat) : w.frozen? ⟨b, o, none⟩ = false := by
  unfold Row at h; simp [World.frozen?, h]
theorem Row.set {w : World} {b : Nat} {c : Array Value} {t : TypeId} (h : Row w b c t) (i : Nat) (v : Value) : Row (w.setCell ⟨b, i, none⟩ v) b (c.setIfInBounds i v) t := by
  unfold Row at h ⊢; simp [World.setCell, Array.getElem?_modify, h]
theorem Row.set_other {w : World} {b b' : Nat} {c : Array Value} {t : TypeId} (h : Row w b c t) (hb : b ≠ b') (i : Nat) (v : Value) : Row (w.setCell ⟨b', i, none⟩ v) b c t := by
  unfold Row at h ⊢; rw [Below.heap_setCell _ _ _ _ hb]; exact h
theorem Row.new (w : World) (c : Array Value) (t : TypeId) : Row (w.alloc (.cells c t)) w.heap.size c t := by
  show (w.heap.push _)[w.heap.size]? = _; simp
theorem Row.new' (w : World) (c : Array Value) (t : TypeId) (n : Nat) (h : n = w.heap.size) : Row (w.alloc (.cells c t)) n c t := h ▸ Row.new w c t
theorem Row.alloc {w : World} {b : Nat} {c : Array Value} {t : TypeId} (h : Row w b c t) (o : Obj) : Row (w.alloc o) b c t := by
  have := h.lt
  unfold Row at h ⊢; rw [Below.heap_alloc _ _ _ this]; exact h
theorem Row.drew {w : World} {b : Nat} {c : Array Value} {t : TypeId} (h : Row w b c t) : Row w.drew b c t := h
theorem Row.drewN {w : World} {b : Nat} {c : Array Value} {t : TypeId} (h : Row w b c t) (n : Nat) : Row (w.drewN n) b c t := h
theorem Row.ext {w w' : World} {b : Nat} {c : Array Value} {t : TypeId} (h : Row w b c t) (hx : Ext w w') : Row w' b c t :=
  (hx.block b h.lt).trans h

end Go.Proofs.YtnpbnpilhmbpoaaGreat
