/- A small map of one's own, by whole numbers: made, filled, looked up. -/
import Derived.Test.YtnpbnpilhmbpoaaGreatU23
import Derived.WideLaws
import Derived.MapKept
set_option linter.unusedVariables false
namespace Go.Proofs.YtnpbnpilhmbpoaaGreat
open Go.RowKit

/-- Block r is a map that reads as l. -/
def MapRow (W : World) (r : Nat) (l : List (Int × Value)) : Prop := ∃ es clock, W.heap[r]? = some (.map es clock) ∧ es.toList.map (fun e => (e.key, e.val)) = l.map (fun kv => (Value.int .i64 kv.1, kv.2))
theorem MapRow.lt {W : World} {r : Nat} {l : List (Int × Value)} (h : MapRow W r l) : r < W.heap.size := by
  obtain ⟨es, c, h, _⟩ := h
  rcases Nat.lt_or_ge r W.heap.size with h1 | h1
  · exact h1
  · rw [Array.getElem?_eq_none h1] at h; cases h
theorem MapRow.ext {W W' : World} {r : Nat} {l : List (Int × Value)} (h : MapRow W r l) (hx : Ext W W') : MapRow W' r l := by
  have hl := h.lt
  obtain ⟨es, c, h1, h2⟩ := h
  exact ⟨es, c, (hx.block r hl).trans h1, h2⟩
theorem Ext.allocMap {w W : World} (h : Ext w W) (es : Array MapEntry) (c : Nat) : Ext w (W.alloc (.map es c)) :=
  h.trans ⟨rfl, rfl, rfl, by simp, fun k hk => Below.heap_alloc _ _ _ hk, fun a => by
    unfold World.frozen? World.alloc
    rw [Array.getElem?_push]
    by_cases e : a.block = W.heap.size
    · rw [if_pos e, e, Array.getElem?_eq_none (Nat.le_refl _)]
    · rw [if_neg e]⟩
/-- Another object in the map's place. -/
def World.putMap (W : World) (r : Nat) (o : Obj) : World := { W with heap := W.heap.setIfInBounds r o }
theorem Ext.putMap {w W : World} (h : Ext w W) {r : Nat} {es es' : Array MapEntry} {c c' : Nat} (hr : W.heap[r]? = some (.map es c)) (hb : w.heap.size ≤ r) : Ext w (World.putMap W r (.map es' c')) :=
  ⟨h.os, h.tape, h.output, by simpa [World.putMap] using h.size, fun k hk => by
    show (W.heap.setIfInBounds r _)[k]? = _
    rw [Array.getElem?_setIfInBounds, if_neg (by omega)]; exact h.block k hk, fun a => by
    rw [← h.frozen a]
    unfold World.frozen? World.putMap
    simp only []
    rw [Array.getElem?_setIfInBounds]
    by_cases e : r = a.block
    · rw [if_pos e, ← e, hr]
      split <;> rename_i h1 <;> simp_all
    · rw [if_neg e]⟩
theorem Row.putMap {W : World} {b : Nat} {c : Array Value} {t : TypeId} (h : Row W b c t) {r : Nat} {es : Array MapEntry} {cl : Nat} (hr : W.heap[r]? = some (.map es cl)) (o : Obj) : Row (World.putMap W r o) b c t := by
  have hne : r ≠ b := fun e => by unfold Row at h; rw [← e, hr] at h; cases h
  show (W.heap.setIfInBounds r o)[b]? = _
  rw [Array.getElem?_setIfInBounds, if_neg hne]
  exact h

theorem find_none (q : IntKind) (k : Int) : ∀ (es : List MapEntry) (l : List (Int × Value)) (i : Nat), es.map (fun e => (e.key, e.val)) = l.map (fun kv => (Value.int .i64 kv.1, kv.2)) → (∀ kv ∈ l, kv.1 ≠ k) → Instr.findNow (.int q) (.int .i64 k) es i = some none
  | [], _, _, _, _ => rfl
  | e :: es, [], _, h, _ => by simp at h
  | e :: es, kv :: l, i, h, hk => by
    simp only [List.map_cons, List.cons.injEq, Prod.mk.injEq] at h
    have h1 : kv.1 ≠ k := hk kv (List.mem_cons_self ..)
    have h2 : (k == kv.1) = false := by simpa using fun e => h1 e.symm
    simp only [Instr.findNow, h.1.1, Instr.sameNow, if_true, h2]
    exact find_none q k es l (i + 1) h.2 (fun x hx => hk x (List.mem_cons_of_mem _ hx))
theorem find_some (q : IntKind) (k : Int) (v : Value) : ∀ (es : List MapEntry) (l : List (Int × Value)) (i : Nat), es.map (fun e => (e.key, e.val)) = l.map (fun kv => (Value.int .i64 kv.1, kv.2)) → l.lookup k = some v → ∃ j, Instr.findNow (.int q) (.int .i64 k) es i = some (some (j, v))
  | [], [], _, _, h => by simp at h
  | [], _ :: _, _, h, _ => by simp at h
  | e :: es, [], _, h, _ => by simp at h
  | e :: es, (k0, v0) :: l, i, h, hk => by
    simp only [List.map_cons, List.cons.injEq, Prod.mk.injEq] at h
    simp only [Instr.findNow, h.1.1, Instr.sameNow, if_true]
    cases hkk : (k == k0)
    · simp only [List.lookup_cons, hkk] at hk
      exact find_some q k v es l (i + 1) h.2 hk
    · simp only [List.lookup_cons, hkk, Option.some.injEq] at hk
      exact ⟨i, by simp [h.1.2, hk]⟩

theorem checkKey_int (e : Bool) (n : Nat) (t : TypeId) (q : IntKind) (hu : Tryz.prog.underlying t = some (.int q)) (k : Int) (w : World) : (Instr.checkKey e (n + 1) t (.int .i64 k)).run Tryz.prog w = .ok () w := by
  unfold Instr.checkKey
  simp [Sem.run_bind, run_underlying hu]

theorem run_update {W : World} {r : Nat} {l : List (Int × Value)} {w : World} (t kt et : TypeId) (q : IntKind) (ht : Tryz.prog.underlying t = some (.map kt et)) (hu : Tryz.prog.underlying kt = some (.int q)) (h : MapRow W r l) (k : Int) (v : Value) (hk : ∀ kv ∈ l, kv.1 ≠ k) :
    ∃ W', (Instr.mapUpdate t (.map (some r)) (.int .i64 k) v).run Tryz.prog W = .ok () W' ∧ MapRow W' r (l ++ [(k, v)]) ∧ (∀ w, Ext w W → w.heap.size ≤ r → Ext w W') ∧ (∀ b c t, Row W b c t → Row W' b c t) := by
  have hl := h.lt
  obtain ⟨es, c, h1, h2⟩ := h
  refine ⟨World.putMap W r (.map (es.push { key := .int .i64 k, val := v, born := c }) (c + 1)), ?_, ⟨es.push { key := .int .i64 k, val := v, born := c }, c + 1, ?_, ?_⟩, fun w hx hb => hx.putMap h1 hb, fun b c' t' hb => hb.putMap h1 _⟩
  · have hf := find_none q k es.toList l 0 h2 hk
    unfold Instr.mapUpdate
    simp only [Sem.run_bind, run_underlying ht, Result.andThen_ok, MapKept.run_getObj_map h1, checkKey_int false 9999 kt q hu, Instr.findKey, run_underlying hu, hf, Sem.run_pure, MapKept.run_setObj_map _ h1]
    rfl
  · show (W.heap.setIfInBounds r _)[r]? = _
    rw [Array.getElem?_setIfInBounds, if_pos rfl, if_pos hl]
  · simp [h2]
theorem run_find {W : World} {r : Nat} {l : List (Int × Value)} (t kt et : TypeId) (q : IntKind) (ht : Tryz.prog.underlying t = some (.map kt et)) (hu : Tryz.prog.underlying kt = some (.int q)) (h : MapRow W r l) (k : Int) (v : Value) (hk : l.lookup k = some v) :
    (Instr.lookup t (.map (some r)) (.int .i64 k) true).run Tryz.prog W = .ok (.tuple #[v, .bool true]) W := by
  obtain ⟨es, c, h1, h2⟩ := h
  obtain ⟨j, hf⟩ := find_some q k v es.toList l 0 h2 hk
  unfold Instr.lookup
  simp [Sem.run_bind, run_underlying ht, MapKept.run_getObj_map h1, checkKey_int es.isEmpty 9999 kt q hu, Instr.findKey, run_underlying hu, hf]
theorem run_miss {W : World} {r : Nat} {l : List (Int × Value)} (t kt et : TypeId) (q : IntKind) (z : Value) (ht : Tryz.prog.underlying t = some (.map kt et)) (hu : Tryz.prog.underlying kt = some (.int q)) (hz : ∀ w, (zeroValue et).run Tryz.prog w = .ok z w) (h : MapRow W r l) (k : Int) (hk : ∀ kv ∈ l, kv.1 ≠ k) :
    (Instr.lookup t (.map (some r)) (.int .i64 k) true).run Tryz.prog W = .ok (.tuple #[z, .bool false]) W := by
  obtain ⟨es, c, h1, h2⟩ := h
  have hf := find_none q k es.toList l 0 h2 hk
  unfold Instr.lookup
  simp [Sem.run_bind, run_underlying ht, MapKept.run_getObj_map h1, checkKey_int es.isEmpty 9999 kt q hu, Instr.findKey, run_underlying hu, hf, hz]

theorem Own.upd {w W W' : World} {b : Nat} {B : List Nat} {C : List (Array Value × TypeId)} (h : Own w W B C) (hr : ∀ b c t, Row W b c t → Row W' b c t) (hx : ∀ w, Ext w W → w.heap.size ≤ b → Ext w W') (hb : w.heap.size ≤ b) : Own w W' B C :=
  ⟨fun i b c t h1 h2 => hr _ _ _ (h.rows i b c t h1 h2), h.up, h.ge, h.len, hx w h.x hb⟩
theorem Own.allocMap {w W : World} {B : List Nat} {C : List (Array Value × TypeId)} (h : Own w W B C) : Own w (W.alloc (.map #[] 0)) B C := h.ext ((Ext.refl W).allocMap _ _)
theorem MapRow.new (W : World) : MapRow (W.alloc (.map #[] 0)) W.heap.size [] := ⟨#[], 0, by show (W.heap.push _)[W.heap.size]? = _; simp, rfl⟩

theorem wpList_makeMap {ops : Array Oper} {rest : List Oper} {op : Oper} {a : Act} {w : World} {Q : Exit → Act → World → Prop} {t : TypeId}
    (ho : op.op = .makeMap t none) (hw : Region.wanted op (yielded ops a.tmps) = true)
    (h : wpList Tryz.prog ops Q rest (a.put op.dst (.map (some w.heap.size))) (w.alloc (.map #[] 0))) : wpList Tryz.prog ops Q (op :: rest) a w := by
  have hr : (Instr.makeMap t none).run Tryz.prog w = .ok (.map (some w.heap.size)) (w.alloc (.map #[] 0)) := rfl
  unfold wpList
  rw [if_pos hw]
  left
  unfold Oper.wp execOp
  simp only [ho, Option.map_none, Sem.run_bind, Sem.run_pure, Result.andThen_ok, hr]
  exact h
theorem wpList_insert {ops : Array Oper} {rest : List Oper} {op : Oper} {a : Act} {W : World} {Q : Exit → Act → World → Prop} {t : TypeId} {r : Nat} {l : List (Int × Value)} {m kx x : Operand} {k : Int} {v : Value} (kt et : TypeId) (q : IntKind)
    (h : MapRow W r l) (ho : op.op = .insert t m kx x) (hw : Region.wanted op (yielded ops a.tmps) = true) (hm : a.eval m = .map (some r)) (hk : a.eval kx = .int .i64 k) (hx : a.eval x = v)
    (ht : Tryz.prog.underlying t = some (.map kt et)) (hu : Tryz.prog.underlying kt = some (.int q)) (hn : ∀ kv ∈ l, kv.1 ≠ k)
    (c : ∀ W', MapRow W' r (l ++ [(k, v)]) → (∀ w, Ext w W → w.heap.size ≤ r → Ext w W') → (∀ b c t, Row W b c t → Row W' b c t) → wpList Tryz.prog ops Q rest (a.put op.dst undef) W') : wpList Tryz.prog ops Q (op :: rest) a W := by
  obtain ⟨W', h1, h2, h3, h4⟩ := run_update (w := W) t kt et q ht hu h k v hn
  unfold wpList
  rw [if_pos hw]
  left
  unfold Oper.wp execOp
  simp only [ho, hm, hk, hx, Sem.run_bind, Sem.run_pure, Result.andThen_ok, h1]
  exact c W' h2 h3 h4
theorem wpList_find {ops : Array Oper} {rest : List Oper} {op : Oper} {a : Act} {W : World} {Q : Exit → Act → World → Prop} {t : TypeId} {m kx : Operand} {k : Int} {r : Value} {M : Nat}
    (ho : op.op = .lookup t m kx true) (hw : Region.wanted op (yielded ops a.tmps) = true) (hm : a.eval m = .map (some M)) (hk : a.eval kx = .int .i64 k)
    (hr : (Instr.lookup t (.map (some M)) (.int .i64 k) true).run Tryz.prog W = .ok r W)
    (c : wpList Tryz.prog ops Q rest (a.put op.dst r) W) : wpList Tryz.prog ops Q (op :: rest) a W := by
  unfold wpList
  rw [if_pos hw]
  left
  unfold Oper.wp execOp
  simp only [ho, hm, hk, Sem.run_bind, Sem.run_pure, Result.andThen_ok, hr]
  exact c
end Go.Proofs.YtnpbnpilhmbpoaaGreat
