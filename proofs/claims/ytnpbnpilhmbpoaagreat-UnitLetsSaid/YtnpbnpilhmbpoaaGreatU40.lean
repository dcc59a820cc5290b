/- What is read, opened: numbers, bools, rows, structs, slices; a unit's parts. -/
import Derived.Test.YtnpbnpilhmbpoaaGreatU14
import Derived.Test.YtnpbnpilhmbpoaaGreatU13
import Derived.Test.YtnpbnpilhmbpoaaGreatU15
import Derived.Test.YtnpbnpilhmbpoaaGreatU33
import Derived.Test.YtnpbnpilhmbpoaaGreatU5
import Derived.Test.YtnpbnpilhmbpoaaGreatU6
import Derived.Test.YtnpbnpilhmbpoaaGreatU7
import Derived.Test.YtnpbnpilhmbpoaaGreatU10
import Derived.Test.YtnpbnpilhmbpoaaGreatU1
import Derived.Deep.Slices
import Derived.MapViews
set_option linter.unusedVariables false
namespace Go.Proofs.YtnpbnpilhmbpoaaGreat
open Go.RowKit

/-- A slice's place is a place. -/
def Placed (W : World) (v : Value) : Prop := ∀ a len cap, v = .slice (some a) len cap → a.spot = none ∧ a.block < W.heap.size
/-- The cells read as a variable of type t. -/
structure Seen (W : World) (t : TypeId) (cs : List Value) : Prop where
  tr : ∃ (H : Type) (enc : TypeId × Value → H) (n : Nat) (x : DataW H × List MemPlace), DataW.trod enc Tryz.prog W 0 (fun _ => true) true n t cs = some x
  pl : ∀ v ∈ cs, Placed W v
theorem Seen.sub {W : World} {t : TypeId} {cs l : List Value} (h : ∀ v ∈ cs, Placed W v) (o n : Nat) (e : l = (cs.drop o).take n) : ∀ v ∈ l, Placed W v := fun v hv => by
  rw [e] at hv
  exact h v (List.mem_of_mem_drop (List.mem_of_mem_take hv))
theorem Seen.int {W : World} {t : TypeId} {cs : List Value} {k : IntKind} (hu : Tryz.prog.underlying t = some (.int k)) (h : Seen W t cs) : ∃ n, cs = [.int k n] := by
  obtain ⟨H, enc, n, x, h⟩ := h.tr
  cases n with
  | zero => simp [DataW.trod] at h
  | succ n =>
    unfold DataW.trod at h
    rw [hu] at h
    match cs, h with
    | [.int k' m], h =>
      simp only at h
      split at h
      · rename_i hk; obtain ⟨rfl, _⟩ := hk; exact ⟨m, rfl⟩
      · cases h
theorem Seen.bool {W : World} {t : TypeId} {cs : List Value} (hu : Tryz.prog.underlying t = some .bool) (h : Seen W t cs) : ∃ b, cs = [.bool b] := by
  obtain ⟨H, enc, n, x, h⟩ := h.tr
  cases n with
  | zero => simp [DataW.trod] at h
  | succ n =>
    unfold DataW.trod at h
    rw [hu] at h
    match cs, h with
    | [.bool b], h => exact ⟨b, rfl⟩
theorem Seen.struct {W : World} {t : TypeId} {cs : List Value} {fs : Array Field} (hu : Tryz.prog.underlying t = some (.struct fs)) (h : Seen W t cs) : cs.length = Tryz.prog.cellsOf t ∧ ∀ f ∈ fs.toList, Seen W f.type ((cs.drop f.offset).take (Tryz.prog.cellsOf f.type)) := by
  obtain ⟨H, enc, n, x, hx⟩ := h.tr
  cases n with
  | zero => simp [DataW.trod] at hx
  | succ n =>
    unfold DataW.trod at hx
    simp only [hu] at hx
    split at hx
    · rename_i hl
      refine ⟨hl, fun f hf => ?_⟩
      simp only [Option.map_eq_some_iff] at hx
      obtain ⟨r, hr, _⟩ := hx
      obtain ⟨y, hy⟩ := mapM_ex hr f hf
      exact ⟨⟨H, enc, n, y, hy⟩, Seen.sub (t := t) h.pl f.offset _ rfl⟩
    · cases hx
theorem Seen.field (i : Nat) {W : World} {t ty : TypeId} {off c m : Nat} {l : List Value} (hi : fieldAt t i = some (ty, off)) (hc : Tryz.prog.cellsOf ty = c) (ht : Tryz.prog.cellsOf t = m) (h : Seen W t l) :
    l.length = m ∧ Seen W ty ((l.drop off).take c) := by
  unfold fieldAt at hi
  split at hi
  · rename_i fs hu
    simp only [Option.map_eq_some_iff, Prod.mk.injEq] at hi
    obtain ⟨f, hf, rfl, rfl⟩ := hi
    obtain ⟨hl, ha⟩ := Seen.struct hu h
    refine ⟨hl.trans ht, ?_⟩
    rw [← hc]
    exact ha f (Array.mem_toList_iff.2 (Array.mem_of_getElem? hf))
  · cases hi
theorem Seen.array {W : World} {t e : TypeId} {n m c : Nat} {l : List Value} (hu : Tryz.prog.underlying t = some (.array n e)) (hc : Tryz.prog.cellsOf e = c) (ht : Tryz.prog.cellsOf t = m) (h : Seen W t l) :
    l.length = m ∧ ∀ i, i < n → Seen W e ((l.drop (i * c)).take c) := by
  obtain ⟨H, enc, k, x, hx⟩ := h.tr
  cases k with
  | zero => simp [DataW.trod] at hx
  | succ k =>
    unfold DataW.trod at hx
    simp only [hu, hc, ht] at hx
    split at hx
    · rename_i hl
      refine ⟨hl, fun i hi => ?_⟩
      simp only [Option.map_eq_some_iff] at hx
      obtain ⟨r, hr, _⟩ := hx
      obtain ⟨y, hy⟩ := mapM_ex hr i (List.mem_range.2 hi)
      exact ⟨⟨H, enc, k, y, hy⟩, Seen.sub (t := t) h.pl _ _ rfl⟩
    · cases hx
theorem Seen.keyed (m : Nat) {W : World} {t : TypeId} {l : List Value} (hk : Tryz.prog.keyTypeAt m t = true) (h : Seen W t l) : Keyed t l := by
  obtain ⟨H, enc, n, x, hx⟩ := h.tr
  exact ⟨m, _, (keyLits_of_trod m t hk n l x hx).1⟩
theorem choose_int {n : Nat} {p : Nat → Int → Prop} (h : ∀ i, i < n → ∃ v, p i v) : ∃ f : Nat → Int, ∀ i, i < n → p i (f i) := by
  classical
  exact ⟨fun i => if hi : i < n then Classical.choose (h i hi) else 0, fun i hi => by simp only [hi, dif_pos]; exact Classical.choose_spec (h i hi)⟩
/-- A slice of whole numbers. -/
theorem Seen.ints {W : World} {t e : TypeId} {l : List Value} (hu : Tryz.prog.underlying t = some (.slice e)) (he : Tryz.prog.underlying e = some (.int .i64)) (hc : Tryz.prog.cellsOf e = 1) (h : Seen W t l) :
    ∃ p cap L, l = [.slice p L.length cap] ∧ Sl W (.slice p L.length cap) L ∧ L.length ≤ cap ∧ cap ≤ maxLen := by
  obtain ⟨H, enc, n, x, hx⟩ := h.tr
  rcases Go.Deep.open_slice1 hu hc hx with ⟨rfl, -⟩ | ⟨a, len, cap, m, k, V, D, Pl, rfl, -, hl, hm, hmm, -, hcell⟩
  · exact ⟨none, 0, [], rfl, Or.inl ⟨rfl, rfl⟩, Nat.le_refl _, Nat.zero_le _⟩
  · simp only [if_true] at hmm
    subst hmm
    obtain ⟨hs, hb⟩ := h.pl _ (List.mem_singleton_self _) a len m rfl
    obtain ⟨b, o, sp⟩ := a
    simp only at hs hb
    subst hs
    obtain ⟨f, hf⟩ := choose_int (n := len) (p := fun i v => W.cell? ⟨b, o + i, none⟩ = some (.int .i64 v)) (fun i hi => by
      obtain ⟨h1, h2⟩ := hcell i (by omega)
      obtain ⟨v, hv⟩ := Seen.int (W := W) (cs := [V i]) he ⟨⟨H, enc, k, _, h2⟩, fun v hv => by
        rw [List.mem_singleton] at hv
        subst hv
        intro a' len' cap' e'
        rw [e'] at h2
        cases k with
        | zero => simp [DataW.trod] at h2
        | succ k => unfold DataW.trod at h2; simp [he] at h2⟩
      simp only [List.cons.injEq, and_true] at hv
      exact ⟨v, by rw [← hv, ← h1, Addr.add_mid]⟩)
    refine ⟨some ⟨b, o, none⟩, m, (List.range len).map f, by simp, ?_, by simpa using hl, hm⟩
    simp only [List.length_map, List.length_range]
    exact Or.inr ⟨b, o, m, by simp, hb, fun j hj => by
      simp at hj
      rw [hf j hj]
      simp⟩
set_option maxRecDepth 10000 in
/-- A row of outputs: four numbers each. -/
theorem Seen.outs {W : World} {l : List Value} (h : Seen W 43 l) : ∃ p n cap f, l = [.slice p n cap] ∧ NumP W p (4 * n) f ∧ n ≤ 9223372036854775807 ∧ (p = none → n = 0) := by
  obtain ⟨H, enc, n, x, hx⟩ := h.tr
  rcases Go.Deep.open_slice (show Tryz.prog.underlying 43 = some (.slice 192) by kernel_rfl) hx with ⟨rfl, -⟩ | ⟨a, len, cap, m, k, D, Pl, rfl, -, hl, hm, hmm, -, hcell⟩
  · exact ⟨none, 0, 0, fun _ => 0, rfl, Or.inl rfl, by omega, fun _ => rfl⟩
  · simp only [if_true] at hmm
    subst hmm
    obtain ⟨hs, hb⟩ := h.pl _ (List.mem_singleton_self _) a len m rfl
    obtain ⟨b, o, sp⟩ := a
    simp only at hs hb
    subst hs
    have hc : Tryz.prog.cellsOf 192 = 4 := by kernel_rfl
    obtain ⟨f, hf⟩ := choose_int (n := 4 * len) (p := fun i v => W.cell? ⟨b, o + i, none⟩ = some (.int .i64 v)) (fun i hi => by
      obtain ⟨cs', h1, h2⟩ := hcell (i / 4) (by omega)
      rw [hc] at h1
      have hk := (keyLits_of_trod 6 192 (by kernel_rfl) _ _ _ h2).1
      have hK : Keyed 192 cs' := ⟨6, _, hk⟩
      obtain ⟨hlen, h0⟩ := Keyed.field 0 (t := 192) (ty := 2) (off := 0) (c := 1) (m := 4) (by kernel_rfl) (by kernel_rfl) (by kernel_rfl) hK
      obtain ⟨_, hv⟩ := Keyed.field 1 (t := 192) (ty := 48) (off := 1) (c := 3) (m := 4) (by kernel_rfl) (by kernel_rfl) (by kernel_rfl) hK
      obtain ⟨v0, e0⟩ := Keyed.int (t := 2) (k := .i64) (by kernel_rfl) h0
      obtain ⟨v1, v2, v3, e1⟩ := vec_of hv
      match cs', hlen with
      | [w0, w1, w2, w3], _ =>
        simp at e0 e1
        obtain ⟨rfl, rfl, rfl⟩ := e1
        subst e0
        have hcs : ∀ j y, [Value.int .i64 v0, .int .i64 v1, .int .i64 v2, .int .i64 v3][j]? = some y → W.cell? ⟨b, o + (i / 4 * 4 + j), none⟩ = some y := fun j y hy => by
          obtain ⟨_, _, hcc⟩ := World.cells?_some h1
          have hj4 : j < 4 := by
            rcases Nat.lt_or_ge j 4 with h5 | h5
            · exact h5
            · rw [List.getElem?_eq_none (by simpa using h5)] at hy; cases hy
          have := (hcc j hj4).trans hy
          rw [Addr.add_mid, Addr.add_mid, Nat.add_assoc] at this
          exact this
        have hi4 : i / 4 * 4 + i % 4 = i := by omega
        have hm4 : i % 4 < 4 := Nat.mod_lt _ (by omega)
        rcases (show i % 4 = 0 ∨ i % 4 = 1 ∨ i % 4 = 2 ∨ i % 4 = 3 by omega) with e | e | e | e
        · exact ⟨v0, by have := hcs 0 _ rfl; rwa [show i / 4 * 4 + 0 = i by omega] at this⟩
        · exact ⟨v1, by have := hcs 1 _ rfl; rwa [show i / 4 * 4 + 1 = i by omega] at this⟩
        · exact ⟨v2, by have := hcs 2 _ rfl; rwa [show i / 4 * 4 + 2 = i by omega] at this⟩
        · exact ⟨v3, by have := hcs 3 _ rfl; rwa [show i / 4 * 4 + 3 = i by omega] at this⟩)
    exact ⟨some ⟨b, o, none⟩, len, m, f, rfl, Or.inr ⟨b, o, rfl, hb, hf⟩, by simp only [maxLen] at hm; omega, (fun h => by cases h)⟩
end Go.Proofs.YtnpbnpilhmbpoaaGreat
