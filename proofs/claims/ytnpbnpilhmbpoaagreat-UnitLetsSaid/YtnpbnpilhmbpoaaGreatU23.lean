/- Wide rows made, built and stored, as one operation each. -/
import Derived.Test.YtnpbnpilhmbpoaaGreatU12
import Derived.Test.YtnpbnpilhmbpoaaGreatU17
set_option linter.unusedVariables false
namespace Go.Proofs.YtnpbnpilhmbpoaaGreat
open Go.RowKit

theorem fold_set (off : Nat) : ∀ (l : List Value) (n0 : Nat) (cells : Array Value) (k : Nat), off + n0 + l.length ≤ cells.size →
    ((l.zipIdx n0).foldl (fun cs (cj : Value × Nat) => cs.setIfInBounds (off + cj.2) cj.1) cells).size = cells.size ∧
    ((l.zipIdx n0).foldl (fun cs (cj : Value × Nat) => cs.setIfInBounds (off + cj.2) cj.1) cells)[k]? = if off + n0 ≤ k ∧ k < off + n0 + l.length then l[k - off - n0]? else cells[k]?
  | [], n0, cells, k, h => by
    simp
    intro h1 h2; omega
  | x :: l, n0, cells, k, h => by
    simp only [List.zipIdx_cons, List.foldl_cons, List.length_cons] at h ⊢
    obtain ⟨h1, h2⟩ := fold_set off l (n0 + 1) (cells.setIfInBounds (off + n0) x) k (by simp; omega)
    refine ⟨by rw [h1]; simp, ?_⟩
    rw [h2, Array.getElem?_setIfInBounds]
    by_cases e : k = off + n0
    · subst e
      rw [if_neg (by omega), if_pos rfl, if_pos (by omega), if_pos (by omega), show off + n0 - off - n0 = 0 by omega]
      rfl
    · by_cases e2 : off + (n0 + 1) ≤ k ∧ k < off + (n0 + 1) + l.length
      · rw [if_pos e2, if_pos (by omega), show k - off - n0 = (k - off - (n0 + 1)) + 1 by omega]
        rfl
      · rw [if_neg e2, if_neg (fun h => e h.symm), if_neg (by omega)]
theorem fold_row (off : Nat) (v cells : Array Value) (h : off + v.size ≤ cells.size) (k : Nat) :
    (v.zipIdx.foldl (fun cs (cj : Value × Nat) => cs.setIfInBounds (off + cj.2) cj.1) cells).size = cells.size ∧
    (v.zipIdx.foldl (fun cs (cj : Value × Nat) => cs.setIfInBounds (off + cj.2) cj.1) cells)[k]? = if off ≤ k ∧ k < off + v.size then v[k - off]? else cells[k]? := by
  have := fold_set off v.toList 0 cells k (by simpa using h)
  rw [← Array.foldl_toList]
  simpa using this

noncomputable def placesOf (t : TypeId) : Option (List (Nat × Nat)) := match Tryz.prog.underlying t with
  | some (.struct fs) => fs.toList.mapM (fun f => (Tryz.prog.info? f.type).map fun i => (f.offset, i.size))
  | _ => none
noncomputable def zeroOf (t : TypeId) : Option (Array Value) := (Tryz.prog.info? t).bind fun i => i.zero.map (·.cells)

theorem built_of {t : TypeId} {pl : List (Nat × Nat)} {z : Array Value} (hp : placesOf t = some pl) (hz : zeroOf t = some z) (parts : List (Nat × Value)) : Tryz.prog.built t parts = Instr.fill (pl.toArray[·]?) z parts := by
  unfold placesOf at hp
  unfold zeroOf at hz
  unfold Program.built
  cases hi : Tryz.prog.info? t with
  | none => simp [hi] at hz
  | some i =>
    split at hp
    · rename_i fs hu
      cases h0 : i.zero with
      | none => simp [hi, h0] at hz
      | some z0 =>
        simp [hi, h0] at hz
        simp [hu, h0, hp, hz]
    · cases hp

/-- A unit at work: the unit, its setup, no mail. -/
theorem built_work (u g : Array Value) (hu : u.size = 321) (hg : g.size = 8) : ∃ c, Tryz.prog.built 148 [(0, .agg u), (1, .agg g)] = some c ∧ c.size = 330 ∧ (∀ k, k < 321 → c[k]? = u[k]?) ∧ (∀ k, k < 8 → c[321 + k]? = g[k]?) ∧ c[329]? = some (.slice none 0 0) := by
  obtain ⟨z, hz⟩ : ∃ z, zeroOf 148 = some z := Option.isSome_iff_exists.1 (by kernel_rfl)
  have hs : (zeroOf 148).map (·.size) = some 330 := by kernel_rfl
  have hl : (zeroOf 148).bind (·[329]?) = some (.slice none 0 0) := by kernel_rfl
  have hp : placesOf 148 = some [(0, 321), (321, 8), (329, 1)] := by kernel_rfl
  rw [hz] at hs hl
  simp only [Option.map_some, Option.some.injEq, Option.bind_some] at hs hl
  rw [built_of hp hz]
  have f1 := fun k => fold_row 0 u z (by omega) k
  obtain ⟨c1, hc1⟩ : ∃ c1, c1 = u.zipIdx.foldl (fun cs (cj : Value × Nat) => cs.setIfInBounds (0 + cj.2) cj.1) z := ⟨_, rfl⟩
  have f2 := fun k => fold_row 321 g c1 (by rw [hc1, (f1 0).1]; omega) k
  refine ⟨g.zipIdx.foldl (fun cs (cj : Value × Nat) => cs.setIfInBounds (321 + cj.2) cj.1) c1, ?_, ?_, fun k hk => ?_, fun k hk => ?_, ?_⟩
  · have e1 : (Value.agg u).cells = u := rfl
    have e2 : (Value.agg g).cells = g := rfl
    have hc1s : c1.size = 330 := by rw [hc1, (f1 0).1]; exact hs
    simp only [Instr.fill, List.getElem?_toArray, List.getElem?_cons_zero, List.getElem?_cons_succ, e1, e2, hu, hg, hs]
    rw [if_neg (by simp)]
    rw [← hc1]
    rw [if_neg (by simp [hc1s])]
  · rw [(f2 0).1, hc1, (f1 0).1]; exact hs
  · rw [(f2 k).2, if_neg (by omega), hc1, (f1 k).2, if_pos (by omega)]; simp
  · rw [(f2 (321 + k)).2, if_pos (by omega)]; simp
  · rw [(f2 329).2, if_neg (by omega), hc1, (f1 329).2, if_neg (by omega)]; exact hl

theorem wpList_alloc_row {ops : Array Oper} {rest : List Oper} {op : Oper} {a : Act} {w : World} {Q : Exit → Act → World → Prop} (ty : TypeId) {z : Array Value} (hz : zeroOf ty = some z)
    (ho : op.op = .alloc ty) (hw : Region.wanted op (yielded ops a.tmps) = true)
    (h : wpList Tryz.prog ops Q rest (a.put op.dst (.pointer (some ⟨w.heap.size, 0, none⟩))) (w.alloc (.cells z ty))) : wpList Tryz.prog ops Q (op :: rest) a w := by
  unfold zeroOf at hz
  unfold wpList
  rw [if_pos hw]
  left
  have hr : (Instr.alloc ty true (.tuple #[])).run Tryz.prog w = .ok (.pointer (some ⟨w.heap.size, 0, none⟩)) (w.alloc (.cells z ty)) := by
    cases hi : Tryz.prog.info? ty with
    | none => simp [hi] at hz
    | some i =>
      cases h0 : i.zero with
      | none => simp [hi, h0] at hz
      | some z0 =>
        simp [hi, h0] at hz
        simp [Instr.alloc, zeroValue, typeInfo, hi, h0, newVar, newRow, hz]
  unfold Oper.wp execOp
  simp only [ho, Sem.run_bind, Sem.run_pure, Result.andThen_ok, hr]
  exact h

theorem wpList_build_row {ops : Array Oper} {rest : List Oper} {op : Oper} {a : Act} {w : World} {Q : Exit → Act → World → Prop} (t : TypeId) {parts : Array (Nat × Operand)} {c : Array Value}
    (ho : op.op = .build t parts) (hw : Region.wanted op (yielded ops a.tmps) = true) (hb : Tryz.prog.built t (parts.toList.map fun ix => (ix.1, a.eval ix.2)) = some c)
    (h : wpList Tryz.prog ops Q rest (a.put op.dst (.agg c)) w) : wpList Tryz.prog ops Q (op :: rest) a w := by
  unfold wpList
  rw [if_pos hw]
  left
  have hb2 : Tryz.prog.built t (parts.map fun (i, x) => (i, a.eval x)).toList = some c := by rw [Array.toList_map]; exact hb
  refine wp_build t parts ho (by rw [hb2]; rfl) ?_
  rw [hb2]
  exact h

theorem wpList_store_all {ops : Array Oper} {rest : List Oper} {op : Oper} {a : Act} {w : World} {Q : Exit → Act → World → Prop} (ty t : TypeId) (n : Nat) {x y : Operand} {b : Nat} {old c : Array Value}
    (ho : op.op = .store ty x y) (hx : a.eval x = .pointer (some ⟨b, 0, none⟩)) (hy : a.eval y = .agg c) (hw : Region.wanted op (yielded ops a.tmps) = true)
    (hr : Row w b old t) (hi : (Tryz.prog.info? ty).map (·.size) = some n) (hc : c.size = n) (hold : old.size = n) (h1 : c.all (·.oneCell') = true)
    (h : wpList Tryz.prog ops Q rest (a.put op.dst undef) (w.setRow b c)) : wpList Tryz.prog ops Q (op :: rest) a w := by
  unfold wpList
  rw [if_pos hw]
  left
  exact wp_store_row ty x y ho b c hx hy t old hr (by rw [hi, hc]) (by rw [hold, hc]) h1 h
theorem Row.setRow {W : World} {b : Nat} {c c' : Array Value} {t : TypeId} (h : Row W b c t) : Row (W.setRow b c') b c' t := setRow_heap W b c c' t (0, 0) h
theorem Row.setRow_other {W : World} {b b' : Nat} {c c' : Array Value} {t : TypeId} (h : Row W b c t) (hb : b ≠ b') : Row (W.setRow b' c') b c t := (Go.setRow_other W b' b c' hb).trans h
end Go.Proofs.YtnpbnpilhmbpoaaGreat
