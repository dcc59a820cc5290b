/- Rows of bools and numbers, of key types: they are compared; their parts. -/
import Derived.Test.YtnpbnpilhmbpoaaGreatU8
import Derived.DeepKeys
set_option linter.unusedVariables false
set_option linter.unusedSimpArgs false
namespace Go.Proofs.YtnpbnpilhmbpoaaGreat
open Go.RowKit

/-- The cells read as literals, of type t. -/
def Keyed (t : TypeId) (l : List Value) : Prop := ∃ D L, Tryz.prog.keyLits D t l = some L

theorem mapM_ex {α β : Type} {f : α → Option β} : ∀ {l : List α} {r : List β}, l.mapM f = some r → ∀ x ∈ l, ∃ y, f x = some y
  | [], _, _, x, hx => by cases hx
  | a :: l, r, h, x, hx => by
    rw [List.mapM_cons] at h
    cases ha : f a with
    | none => simp [ha] at h
    | some y =>
      cases hl : l.mapM f with
      | none => simp [ha, hl] at h
      | some ys =>
        rcases List.mem_cons.1 hx with rfl | hx
        · exact ⟨y, ha⟩
        · exact mapM_ex hl x hx

theorem Keyed.int {t : TypeId} {l : List Value} {k : IntKind} (hu : Tryz.prog.underlying t = some (.int k)) (h : Keyed t l) : ∃ n, l = [.int k n] := by
  obtain ⟨D, L, h⟩ := h
  obtain ⟨n, h1, _⟩ := keyLits_int' hu h
  exact ⟨n, h1⟩
theorem Keyed.array {t e : TypeId} {n m c : Nat} {l : List Value} (hu : Tryz.prog.underlying t = some (.array n e)) (hc : Tryz.prog.cellsOf e = c) (ht : Tryz.prog.cellsOf t = m) (h : Keyed t l) :
    l.length = m ∧ ∀ i, i < n → Keyed e ((l.drop (i * c)).take c) := by
  obtain ⟨D, L, h⟩ := h
  cases D with
  | zero => simp [Program.keyLits] at h
  | succ D =>
    unfold Program.keyLits at h
    simp only [hu, hc, ht] at h
    split at h
    · rename_i hl
      refine ⟨hl, fun i hi => ?_⟩
      simp only [Option.map_eq_some_iff] at h
      obtain ⟨r, hr, _⟩ := h
      obtain ⟨y, hy⟩ := mapM_ex hr i (List.mem_range.2 hi)
      exact ⟨D, y, hy⟩
    · cases h
theorem Keyed.struct {t : TypeId} {fs : Array Field} {m : Nat} {l : List Value} (hu : Tryz.prog.underlying t = some (.struct fs)) (ht : Tryz.prog.cellsOf t = m) (h : Keyed t l) :
    l.length = m ∧ ∀ f ∈ fs.toList, Keyed f.type ((l.drop f.offset).take (Tryz.prog.cellsOf f.type)) := by
  obtain ⟨D, L, h⟩ := h
  cases D with
  | zero => simp [Program.keyLits] at h
  | succ D =>
    unfold Program.keyLits at h
    simp only [hu, ht] at h
    split at h
    · rename_i hl
      refine ⟨hl.1, fun f hf => ?_⟩
      simp only [Option.map_eq_some_iff] at h
      obtain ⟨r, hr, _⟩ := h
      obtain ⟨y, hy⟩ := mapM_ex hr f hf
      exact ⟨D, y, hy⟩
    · cases h

/-- A struct's field: its type, and where it stands. -/
noncomputable def fieldAt (t : TypeId) (i : Nat) : Option (TypeId × Nat) := match Tryz.prog.underlying t with
  | some (.struct fs) => (fs[i]?).map fun f => (f.type, f.offset)
  | _ => none
theorem Keyed.field (i : Nat) {t ty : TypeId} {off c m : Nat} {l : List Value} (hi : fieldAt t i = some (ty, off)) (hc : Tryz.prog.cellsOf ty = c) (ht : Tryz.prog.cellsOf t = m) (h : Keyed t l) :
    l.length = m ∧ Keyed ty ((l.drop off).take c) := by
  unfold fieldAt at hi
  split at hi
  · rename_i fs hu
    simp only [Option.map_eq_some_iff, Prod.mk.injEq] at hi
    obtain ⟨f, hf, rfl, rfl⟩ := hi
    obtain ⟨hl, ha⟩ := Keyed.struct hu ht h
    refine ⟨hl, ?_⟩
    rw [← hc]
    exact ha f (Array.mem_toList_iff.2 (Array.mem_of_getElem? hf))
  · cases hi

theorem formed_of {t : TypeId} {q : Array Value} {m : Nat} (hu : (match Tryz.prog.underlying t with | some (.struct _) | some (.array _ _) => true | _ => false) = true) (ht : Tryz.prog.cellsOf t = m) (hq : q.size = m) : (Value.agg q).formed Tryz.prog t = true := by
  simp only [Value.formed]
  split at hu <;> simp_all

theorem eql_keyed (m : Nat) {t : TypeId} {n : Nat} (hm : m ≤ 10000) (hk : Tryz.prog.keyTypeAt m t = true) (hu : (match Tryz.prog.underlying t with | some (.struct _) | some (.array _ _) => true | _ => false) = true) (ht : Tryz.prog.cellsOf t = n)
    {a b : Array Value} (ha : a.size = n) (hb : b.size = n) (ka : Keyed t a.toList) (kb : Keyed t b.toList) (w : World) :
    ∃ x, (Op.equalIn 10000 t (.agg a) (.agg b)).run Tryz.prog w = .ok x w := by
  obtain ⟨D, L, h⟩ := ka
  obtain ⟨D', L', h'⟩ := kb
  obtain ⟨x, hx, hi⟩ := run_equalIn_deep (P := Tryz.prog) (10000 - m) m t hk w D D' _ _ L L' (formed_of hu ht ha) (formed_of hu ht hb) h h'
  exact ⟨x, by rw [show 10000 - m + m = 10000 by omega] at hx; exact hx⟩
theorem eql_self (m : Nat) {t : TypeId} {n : Nat} (hm : m ≤ 10000) (hk : Tryz.prog.keyTypeAt m t = true) (hu : (match Tryz.prog.underlying t with | some (.struct _) | some (.array _ _) => true | _ => false) = true) (ht : Tryz.prog.cellsOf t = n)
    {a : Array Value} (ha : a.size = n) (ka : Keyed t a.toList) (w : World) :
    (Op.equalIn 10000 t (.agg a) (.agg a)).run Tryz.prog w = .ok true w := by
  obtain ⟨D, L, h⟩ := ka
  obtain ⟨x, hx, hi⟩ := run_equalIn_deep (P := Tryz.prog) (10000 - m) m t hk w D D _ _ L L (formed_of hu ht ha) (formed_of hu ht ha) h h
  rw [hi.2 rfl, show 10000 - m + m = 10000 by omega] at hx
  exact hx

/-- A ring's parts. -/
theorem ring_parts {q : Array Value} (h : Keyed 53 q.toList) :
    q.size = 224 ∧ (∀ k, k < 16 → ∃ n, q[k]? = some (.int .i64 n)) ∧ ∀ k, k < 16 → ∃ r : Array Value, r.size = 13 ∧ Keyed 50 r.toList ∧ ∀ j, j < 13 → q[16 + (k * 13 + j)]? = r[j]? := by
  obtain ⟨hl, h0⟩ := Keyed.field 0 (t := 53) (ty := 46) (off := 0) (c := 16) (m := 224) (by kernel_rfl) (by kernel_rfl) (by kernel_rfl) h
  obtain ⟨_, h1⟩ := Keyed.field 1 (t := 53) (ty := 51) (off := 16) (c := 208) (m := 224) (by kernel_rfl) (by kernel_rfl) (by kernel_rfl) h
  obtain ⟨l0, p0⟩ := Keyed.array (t := 46) (e := 2) (n := 16) (m := 16) (c := 1) (by kernel_rfl) (by kernel_rfl) (by kernel_rfl) h0
  obtain ⟨l1, p1⟩ := Keyed.array (t := 51) (e := 50) (n := 16) (m := 208) (c := 13) (by kernel_rfl) (by kernel_rfl) (by kernel_rfl) h1
  refine ⟨by simpa using hl, fun k hk => ?_, fun k hk => ?_⟩
  · obtain ⟨n, hn⟩ := Keyed.int (t := 2) (by kernel_rfl) (p0 k hk)
    refine ⟨n, ?_⟩
    have := congrArg (·[0]?) hn
    simp only [Nat.mul_one, List.drop_zero, List.getElem?_take, List.getElem?_drop, Nat.add_zero] at this
    simpa [hk] using this
  · refine ⟨((q.toList.drop 16).drop (k * 13)).take 13 |>.toArray, ?_, ?_, fun j hj => ?_⟩
    · simp at hl ⊢; omega
    · have := p1 k hk
      rw [show List.take 208 (List.drop 16 q.toList) = List.drop 16 q.toList from List.take_of_length_le (by simp at hl ⊢; omega)] at this
      simpa using this
    · simp [hj, Nat.add_assoc]

/-- The zero sample. -/
def szero : Array Value := #[.bool false, .int .i64 0, .int .i64 0, .int .i64 0, .int .i64 0, .int .i64 0, .int .i64 0, .bool false, .int .i64 0, .bool false, .int .i64 0, .int .i64 0, .int .i64 0]
theorem szero_keyed : Keyed 50 szero.toList := ⟨5, [.bool false, .int .i64 0, .int .i64 0, .int .i64 0, .int .i64 0, .int .i64 0, .int .i64 0, .bool false, .int .i64 0, .bool false, .int .i64 0, .int .i64 0, .int .i64 0], by kernel_rfl⟩
theorem eq50_zero {r : Array Value} (hr : r.size = 13) (h : Keyed 50 r.toList) (w : World) : ∃ x, (Op.equalIn 10000 50 (.agg r) (.agg szero)).run Tryz.prog w = .ok x w :=
  eql_keyed 10 (by omega) (by kernel_rfl) (by kernel_rfl) (by kernel_rfl) hr rfl h szero_keyed w

/-- A vector's, a sample's cells. -/
theorem vec_of {l : List Value} (h : Keyed 48 l) : ∃ a b c, l = [.int .i64 a, .int .i64 b, .int .i64 c] := by
  obtain ⟨hl, hp⟩ := Keyed.array (t := 48) (e := 22) (n := 3) (m := 3) (c := 1) (by kernel_rfl) (by kernel_rfl) (by kernel_rfl) h
  match l, hl with
  | [x, y, z], _ =>
    obtain ⟨a, ha⟩ := Keyed.int (t := 22) (k := .i64) (by kernel_rfl) (hp 0 (by omega))
    obtain ⟨b, hb⟩ := Keyed.int (t := 22) (k := .i64) (by kernel_rfl) (hp 1 (by omega))
    obtain ⟨c, hc⟩ := Keyed.int (t := 22) (k := .i64) (by kernel_rfl) (hp 2 (by omega))
    simp at ha hb hc
    subst ha hb hc
    exact ⟨a, b, c, rfl⟩
theorem Keyed.bool {t : TypeId} {l : List Value} (hu : Tryz.prog.underlying t = some .bool) (h : Keyed t l) : ∃ n, l = [.bool n] := by
  obtain ⟨D, L, h⟩ := h
  obtain ⟨n, h1, _⟩ := keyLits_bool' hu h
  exact ⟨n, h1⟩
def SampleRow (r : Array Value) : Prop := ∃ (m hb hg : Bool) (g0 g1 g2 a0 a1 a2 b n0 n1 n2 : Int), r = #[.bool m, .int .i64 g0, .int .i64 g1, .int .i64 g2, .int .i64 a0, .int .i64 a1, .int .i64 a2, .bool hb, .int .i64 b, .bool hg, .int .i64 n0, .int .i64 n1, .int .i64 n2]
theorem sample_of {r : Array Value} (h : Keyed 50 r.toList) : SampleRow r := by
  obtain ⟨hl, h0⟩ := Keyed.field 0 (t := 50) (ty := 4) (off := 0) (c := 1) (m := 13) (by kernel_rfl) (by kernel_rfl) (by kernel_rfl) h
  obtain ⟨_, h1⟩ := Keyed.field 1 (t := 50) (ty := 48) (off := 1) (c := 3) (m := 13) (by kernel_rfl) (by kernel_rfl) (by kernel_rfl) h
  obtain ⟨_, h2⟩ := Keyed.field 2 (t := 50) (ty := 48) (off := 4) (c := 3) (m := 13) (by kernel_rfl) (by kernel_rfl) (by kernel_rfl) h
  obtain ⟨_, h3⟩ := Keyed.field 3 (t := 50) (ty := 4) (off := 7) (c := 1) (m := 13) (by kernel_rfl) (by kernel_rfl) (by kernel_rfl) h
  obtain ⟨_, h4⟩ := Keyed.field 4 (t := 50) (ty := 22) (off := 8) (c := 1) (m := 13) (by kernel_rfl) (by kernel_rfl) (by kernel_rfl) h
  obtain ⟨_, h5⟩ := Keyed.field 5 (t := 50) (ty := 4) (off := 9) (c := 1) (m := 13) (by kernel_rfl) (by kernel_rfl) (by kernel_rfl) h
  obtain ⟨_, h6⟩ := Keyed.field 6 (t := 50) (ty := 48) (off := 10) (c := 3) (m := 13) (by kernel_rfl) (by kernel_rfl) (by kernel_rfl) h
  obtain ⟨l⟩ := r
  match l, hl with
  | [v0, v1, v2, v3, v4, v5, v6, v7, v8, v9, v10, v11, v12], _ =>
    obtain ⟨m, e0⟩ := Keyed.bool (by kernel_rfl) h0
    obtain ⟨g0, g1, g2, e1⟩ := vec_of h1
    obtain ⟨a0, a1, a2, e2⟩ := vec_of h2
    obtain ⟨hb, e3⟩ := Keyed.bool (by kernel_rfl) h3
    obtain ⟨b, e4⟩ := Keyed.int (k := .i64) (by kernel_rfl) h4
    obtain ⟨hg, e5⟩ := Keyed.bool (by kernel_rfl) h5
    obtain ⟨n0, n1, n2, e6⟩ := vec_of h6
    simp at e0 e1 e2 e3 e4 e5 e6
    obtain ⟨rfl, rfl, rfl⟩ := e1
    obtain ⟨rfl, rfl, rfl⟩ := e2
    obtain ⟨rfl, rfl, rfl⟩ := e6
    subst e0 e3 e4 e5
    exact ⟨m, hb, hg, g0, g1, g2, a0, a1, a2, b, n0, n1, n2, rfl⟩
theorem eq48d (a b c a' b' c' : Int) (w : World) :
    (Op.equalIn 9999 48 (.agg #[.int .i64 a, .int .i64 b, .int .i64 c]) (.agg #[.int .i64 a', .int .i64 b', .int .i64 c'])).run Tryz.prog w = .ok ((a == a') && ((b == b') && (c == c'))) w := by
  obtain ⟨ti, hti⟩ : ∃ i, Tryz.prog.info? 22 = some i := Option.isSome_iff_exists.1 (by kernel_rfl)
  rw [Go.run_equalIn_array _ 9998 _ _ (t := 48) (e := 22) (n := 3) (by kernel_rfl) hti]
  have hc : Tryz.prog.cellsOf 22 = 1 := by kernel_rfl
  have h0 : ∀ (x y z : Value) w, (part 22 #[x, y, z] 0).run Tryz.prog w = .ok x w := fun _ _ _ _ => by kernel_rfl
  have h1 : ∀ (x y z : Value) w, (part 22 #[x, y, z] 1).run Tryz.prog w = .ok y w := fun _ _ _ _ => by kernel_rfl
  have h2 : ∀ (x y z : Value) w, (part 22 #[x, y, z] 2).run Tryz.prog w = .ok z w := fun _ _ _ _ => by kernel_rfl
  have he : ∀ (x y : Int) w, (Op.equalIn 9998 22 (.int .i64 x) (.int .i64 y)).run Tryz.prog w = .ok (x == y) w := fun x y w => run_equalIn_int w 9997 22 .i64 .i64 x y (by kernel_rfl)
  rw [show List.range 3 = [0,1,2] from rfl]
  simp only [Op.eqItems, Sem.run_bind, hc, Nat.mul_one, h0, h1, h2, he, Result.andThen_ok]
  cases ka : a == a' <;> cases kb : b == b' <;> cases kc : c == c' <;> simp only [ka, kb, kc, h1, h2, he, Sem.run_bind, Result.andThen_ok, Bool.not_true, Bool.not_false, if_true, if_false, Bool.false_eq_true, Sem.run_pure, Bool.and_true, Bool.and_false, Bool.true_and, Bool.false_and]
end Go.Proofs.YtnpbnpilhmbpoaaGreat
