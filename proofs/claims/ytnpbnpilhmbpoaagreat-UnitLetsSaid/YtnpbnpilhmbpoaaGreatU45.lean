/- UnitLets' arguments, opened: what is read as a struct. -/
import Derived.Test.YtnpbnpilhmbpoaaGreatU44
import Derived.Carry
import Derived.WideKeyArgs
import Derived.RowKit3
set_option linter.unusedVariables false
set_option maxRecDepth 10000
namespace Go.Proofs.YtnpbnpilhmbpoaaGreat
open Go.RowKit

theorem cell_placed {w : World} {r : Reach} {base : Nat} {u : TypeId} {v : Value} (h : Cell.okWide Tryz.prog w r base u v) : Placed w v ∧ v.oneCell' = true := by
  refine ⟨fun a len cap e => ?_, ?_⟩
  · subst e
    have h2 : Cell.ok Tryz.prog w r base u (.slice (some a) len cap) := by
      unfold Cell.okWide at h
      split at h <;> first | (rename_i hh; cases hh; done) | exact h
    unfold Cell.ok at h2
    split at h2 <;> first | (rename_i hh; cases hh; done) | exact h2.elim | skip
    rename_i hh
    simp only [Value.slice.injEq, Option.some.injEq] at hh
    obtain ⟨rfl, rfl, rfl⟩ := hh
    obtain ⟨_, _, _, hs, row, cells, hsh, _⟩ := h2
    refine ⟨hs, ?_⟩
    unfold World.shape? at hsh
    rcases Nat.lt_or_ge a.block w.heap.size with h3 | h3
    · exact h3
    · rw [Array.getElem?_eq_none h3] at hsh; cases hsh
  · cases v <;> try rfl
    all_goals
      exfalso
      unfold Cell.okWide at h
      split at h <;> first | (rename_i hh; cases hh; done) | (unfold Cell.ok at h; split at h <;> first | (rename_i hh; cases hh; done) | exact h)
/-- A struct that is an argument. -/
theorem seen_arg {H : Type} {enc : TypeId × Value → H} {W : World} {base : Nat} {t : TypeId} {v : Value} {d : DataW H} {p : List MemPlace} {fs : Array Field} (hu : Tryz.prog.underlying t = some (.struct fs))
    (hv : Value.okWide Tryz.prog W .any base t v) (h : DataW.Trod enc Tryz.prog W 0 (fun _ => true) true t v d p) : ∃ cs : Array Value, v = .agg cs ∧ Seen W t cs.toList ∧ cs.all (·.oneCell') = true := by
  obtain ⟨cs, rfl, hsz, ts, hts, hn, hcell⟩ : ∃ cs, v = .agg cs ∧ cs.size = Tryz.prog.cellsOf t ∧ Row.okWide Tryz.prog W .any base t cs := by
    simpa [Value.okWide, hu] using hv
  obtain ⟨n, hn⟩ := h
  have hall : ∀ x ∈ cs.toList, Placed W x ∧ x.oneCell' = true := fun x hx => by
    obtain ⟨i, hi, rfl⟩ := List.mem_iff_getElem.1 hx
    obtain ⟨u, _, hc⟩ := hcell i _ (by rw [← Array.getElem?_toList]; exact List.getElem?_eq_getElem hi)
    exact cell_placed hc
  refine ⟨cs, rfl, ⟨⟨H, enc, n, _, hn⟩, fun x hx => (hall x hx).1⟩, ?_⟩
  rw [Array.all_eq_true_iff_forall_mem]
  exact fun x hx => (hall x (Array.mem_toList_iff.2 hx)).2
theorem setup_of {W : World} {l : List Value} (h : Seen W 26 l) : ∃ (g0 g1 g2 g3 g4 g5 g6 g7 : Int), l = [.int .i64 g0, .int .i64 g1, .int .i64 g2, .int .i64 g3, .int .i64 g4, .int .i64 g5, .int .i64 g6, .int .i64 g7] := by
  obtain ⟨hl, hc⟩ := Seen.field 0 (t := 26) (ty := 24) (off := 0) (c := 6) (m := 8) (by kernel_rfl) (by kernel_rfl) (by kernel_rfl) h
  obtain ⟨_, h6⟩ := Seen.field 1 (t := 26) (ty := 2) (off := 6) (c := 1) (m := 8) (by kernel_rfl) (by kernel_rfl) (by kernel_rfl) h
  obtain ⟨_, h7⟩ := Seen.field 2 (t := 26) (ty := 2) (off := 7) (c := 1) (m := 8) (by kernel_rfl) (by kernel_rfl) (by kernel_rfl) h
  obtain ⟨_, h0⟩ := Seen.field 0 (t := 24) (ty := 22) (off := 0) (c := 1) (m := 6) (by kernel_rfl) (by kernel_rfl) (by kernel_rfl) hc
  obtain ⟨_, h1⟩ := Seen.field 1 (t := 24) (ty := 22) (off := 1) (c := 1) (m := 6) (by kernel_rfl) (by kernel_rfl) (by kernel_rfl) hc
  obtain ⟨_, h2⟩ := Seen.field 2 (t := 24) (ty := 22) (off := 2) (c := 1) (m := 6) (by kernel_rfl) (by kernel_rfl) (by kernel_rfl) hc
  obtain ⟨_, h3⟩ := Seen.field 3 (t := 24) (ty := 22) (off := 3) (c := 1) (m := 6) (by kernel_rfl) (by kernel_rfl) (by kernel_rfl) hc
  obtain ⟨_, h4⟩ := Seen.field 4 (t := 24) (ty := 22) (off := 4) (c := 1) (m := 6) (by kernel_rfl) (by kernel_rfl) (by kernel_rfl) hc
  obtain ⟨_, h5⟩ := Seen.field 5 (t := 24) (ty := 22) (off := 5) (c := 1) (m := 6) (by kernel_rfl) (by kernel_rfl) (by kernel_rfl) hc
  obtain ⟨g0, e0⟩ := Seen.int (k := .i64) (by kernel_rfl) h0
  obtain ⟨g1, e1⟩ := Seen.int (k := .i64) (by kernel_rfl) h1
  obtain ⟨g2, e2⟩ := Seen.int (k := .i64) (by kernel_rfl) h2
  obtain ⟨g3, e3⟩ := Seen.int (k := .i64) (by kernel_rfl) h3
  obtain ⟨g4, e4⟩ := Seen.int (k := .i64) (by kernel_rfl) h4
  obtain ⟨g5, e5⟩ := Seen.int (k := .i64) (by kernel_rfl) h5
  obtain ⟨g6, e6⟩ := Seen.int (k := .i64) (by kernel_rfl) h6
  obtain ⟨g7, e7⟩ := Seen.int (k := .i64) (by kernel_rfl) h7
  match l, hl with
  | [x0, x1, x2, x3, x4, x5, x6, x7], _ =>
    simp at e0 e1 e2 e3 e4 e5 e6 e7
    subst e0 e1 e2 e3 e4 e5 e6 e7
    exact ⟨g0, g1, g2, g3, g4, g5, g6, g7, rfl⟩
theorem frame_of {W : World} {l : List Value} (h : Seen W 99 l) : ∃ (k : Int) (p : Option Addr) (cap : Nat) (L : List Int), l = [.int .i64 k, .slice p L.length cap] ∧ Sl W (.slice p L.length cap) L ∧ L.length ≤ cap := by
  obtain ⟨hl, h0⟩ := Seen.field 0 (t := 99) (ty := 3) (off := 0) (c := 1) (m := 2) (by kernel_rfl) (by kernel_rfl) (by kernel_rfl) h
  obtain ⟨_, h1⟩ := Seen.field 1 (t := 99) (ty := 64) (off := 1) (c := 1) (m := 2) (by kernel_rfl) (by kernel_rfl) (by kernel_rfl) h
  obtain ⟨k, e0⟩ := Seen.int (k := .i64) (by kernel_rfl) h0
  obtain ⟨p, cap, L, e1, hs, hc, _⟩ := Seen.ints (e := 2) (by kernel_rfl) (by kernel_rfl) (by kernel_rfl) h1
  match l, hl with
  | [x, y], _ =>
    simp at e0 e1
    subst e0 e1
    exact ⟨k, p, cap, L, rfl, hs, hc⟩
end Go.Proofs.YtnpbnpilhmbpoaaGreat
