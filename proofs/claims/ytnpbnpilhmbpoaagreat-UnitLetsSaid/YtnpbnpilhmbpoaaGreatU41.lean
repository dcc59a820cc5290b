/- A unit's parts, out of its reading; the reference's tests of it answer. -/
import Derived.Test.YtnpbnpilhmbpoaaGreatU40
set_option linter.unusedVariables false
set_option maxRecDepth 10000
namespace Go.Proofs.YtnpbnpilhmbpoaaGreat
open Go.RowKit

theorem chunk_get {l : List Value} {o n j : Nat} (h : o + n ≤ l.length) (hj : j < n) : ((l.drop o).take n)[j]? = l[o + j]? := by
  rw [List.getElem?_take, if_pos hj, List.getElem?_drop]
/-- A matrix: its numbers of rows and columns, a slice of numbers. -/
theorem mat_of {W : World} {l : List Value} (h : Seen W 36 l) : ∃ (r c : Int) (s : Value) (L : List Int), l = [.int .i64 r, .int .i64 c, s] ∧ Sl W s L ∧ L.length ≤ 9223372036854775807 := by
  obtain ⟨hl, h0⟩ := Seen.field 0 (t := 36) (ty := 3) (off := 0) (c := 1) (m := 3) (by kernel_rfl) (by kernel_rfl) (by kernel_rfl) h
  obtain ⟨_, h1⟩ := Seen.field 1 (t := 36) (ty := 3) (off := 1) (c := 1) (m := 3) (by kernel_rfl) (by kernel_rfl) (by kernel_rfl) h
  obtain ⟨_, h2⟩ := Seen.field 2 (t := 36) (ty := 34) (off := 2) (c := 1) (m := 3) (by kernel_rfl) (by kernel_rfl) (by kernel_rfl) h
  obtain ⟨r, e0⟩ := Seen.int (k := .i64) (by kernel_rfl) h0
  obtain ⟨c, e1⟩ := Seen.int (k := .i64) (by kernel_rfl) h1
  obtain ⟨p, cap, L, e2, hs, hc, hm⟩ := Seen.ints (e := 22) (by kernel_rfl) (by kernel_rfl) (by kernel_rfl) h2
  match l, hl with
  | [x, y, z], _ =>
    simp at e0 e1 e2
    subst e0 e1 e2
    exact ⟨r, c, _, L, rfl, hs, by simp only [maxLen] at hm; omega⟩
/-- A track: two matrices. -/
theorem track_of {W : World} {l : List Value} (h : Seen W 38 l) : ∃ (r c R C : Int) (s S : Value) (L M : List Int), l = [.int .i64 r, .int .i64 c, s, .int .i64 R, .int .i64 C, S] ∧ Sl W s L ∧ Sl W S M ∧ L.length ≤ 9223372036854775807 ∧ M.length ≤ 9223372036854775807 := by
  obtain ⟨hl, h0⟩ := Seen.field 0 (t := 38) (ty := 36) (off := 0) (c := 3) (m := 6) (by kernel_rfl) (by kernel_rfl) (by kernel_rfl) h
  obtain ⟨_, h1⟩ := Seen.field 1 (t := 38) (ty := 36) (off := 3) (c := 3) (m := 6) (by kernel_rfl) (by kernel_rfl) (by kernel_rfl) h
  obtain ⟨r, c, s, L, e0, a1, a2⟩ := mat_of h0
  obtain ⟨R, C, S, M, e1, b1, b2⟩ := mat_of h1
  match l, hl with
  | [x0, x1, x2, x3, x4, x5], _ =>
    simp at e0 e1
    obtain ⟨rfl, rfl, rfl⟩ := e0
    obtain ⟨rfl, rfl, rfl⟩ := e1
    exact ⟨r, c, R, C, _, _, L, M, rfl, a1, b1, a2, b2⟩
/-- An estimator. -/
def EstRow (W : World) (e : Array Value) : Prop := ∃ (t0 t1 t2 t3 r0 c0 R0 C0 r1 c1 R1 C1 r2 c2 R2 C2 steps coast o0 o1 o2 o3 : Int) (sat : Bool) (s0 S0 s1 S1 s2 S2 : Value) (l0 L0 l1 L1 l2 L2 : List Int), e = #[.int .i64 t0, .int .i64 t1, .int .i64 t2, .int .i64 t3, .int .i64 r0, .int .i64 c0, s0, .int .i64 R0, .int .i64 C0, S0, .int .i64 r1, .int .i64 c1, s1, .int .i64 R1, .int .i64 C1, S1, .int .i64 r2, .int .i64 c2, s2, .int .i64 R2, .int .i64 C2, S2, .int .i64 steps, .int .i64 coast, .int .i64 o0, .int .i64 o1, .int .i64 o2, .int .i64 o3, .bool sat] ∧
  Sl W s0 l0 ∧ Sl W S0 L0 ∧ Sl W s1 l1 ∧ Sl W S1 L1 ∧ Sl W s2 l2 ∧ Sl W S2 L2 ∧ l0.length ≤ 9223372036854775807 ∧ L0.length ≤ 9223372036854775807 ∧ l1.length ≤ 9223372036854775807 ∧ L1.length ≤ 9223372036854775807 ∧ l2.length ≤ 9223372036854775807 ∧ L2.length ≤ 9223372036854775807
theorem list29 {α : Type} (l : List α) (h : l.length = 29) : ∃ x0 x1 x2 x3 x4 x5 x6 x7 x8 x9 x10 x11 x12 x13 x14 x15 x16 x17 x18 x19 x20 x21 x22 x23 x24 x25 x26 x27 x28, l = [x0, x1, x2, x3, x4, x5, x6, x7, x8, x9, x10, x11, x12, x13, x14, x15, x16, x17, x18, x19, x20, x21, x22, x23, x24, x25, x26, x27, x28] := by
  match l, h with
  | [x0, x1, x2, x3, x4, x5, x6, x7, x8, x9, x10, x11, x12, x13, x14, x15, x16, x17, x18, x19, x20, x21, x22, x23, x24, x25, x26, x27, x28], _ => exact ⟨x0, x1, x2, x3, x4, x5, x6, x7, x8, x9, x10, x11, x12, x13, x14, x15, x16, x17, x18, x19, x20, x21, x22, x23, x24, x25, x26, x27, x28, rfl⟩
theorem est_of {W : World} {l : List Value} (h : Seen W 42 l) : EstRow W ⟨l⟩ := by
  obtain ⟨hl, hq⟩ := Seen.field 0 (t := 42) (ty := 33) (off := 0) (c := 4) (m := 29) (by kernel_rfl) (by kernel_rfl) (by kernel_rfl) h
  obtain ⟨_, ha⟩ := Seen.field 1 (t := 42) (ty := 39) (off := 4) (c := 18) (m := 29) (by kernel_rfl) (by kernel_rfl) (by kernel_rfl) h
  obtain ⟨_, h2⟩ := Seen.field 2 (t := 42) (ty := 3) (off := 22) (c := 1) (m := 29) (by kernel_rfl) (by kernel_rfl) (by kernel_rfl) h
  obtain ⟨_, h3⟩ := Seen.field 3 (t := 42) (ty := 3) (off := 23) (c := 1) (m := 29) (by kernel_rfl) (by kernel_rfl) (by kernel_rfl) h
  obtain ⟨_, h4⟩ := Seen.field 4 (t := 42) (ty := 40) (off := 24) (c := 4) (m := 29) (by kernel_rfl) (by kernel_rfl) (by kernel_rfl) h
  obtain ⟨_, h5⟩ := Seen.field 5 (t := 42) (ty := 4) (off := 28) (c := 1) (m := 29) (by kernel_rfl) (by kernel_rfl) (by kernel_rfl) h
  obtain ⟨_, qi⟩ := Seen.array (t := 33) (e := 22) (n := 4) (m := 4) (c := 1) (by kernel_rfl) (by kernel_rfl) (by kernel_rfl) hq
  obtain ⟨_, ai⟩ := Seen.array (t := 39) (e := 38) (n := 3) (m := 18) (c := 6) (by kernel_rfl) (by kernel_rfl) (by kernel_rfl) ha
  obtain ⟨_, oi⟩ := Seen.array (t := 40) (e := 3) (n := 4) (m := 4) (c := 1) (by kernel_rfl) (by kernel_rfl) (by kernel_rfl) h4
  obtain ⟨x0, x1, x2, x3, x4, x5, x6, x7, x8, x9, x10, x11, x12, x13, x14, x15, x16, x17, x18, x19, x20, x21, x22, x23, x24, x25, x26, x27, x28, rfl⟩ := list29 l hl
  obtain ⟨t0, e0⟩ := Seen.int (k := .i64) (by kernel_rfl) (qi 0 (by omega))
  obtain ⟨t1, e1⟩ := Seen.int (k := .i64) (by kernel_rfl) (qi 1 (by omega))
  obtain ⟨t2, e2⟩ := Seen.int (k := .i64) (by kernel_rfl) (qi 2 (by omega))
  obtain ⟨t3, e3⟩ := Seen.int (k := .i64) (by kernel_rfl) (qi 3 (by omega))
  obtain ⟨r0, c0, R0, C0, s0, S0, l0, L0, f0, a0, b0, p0, q0⟩ := track_of (ai 0 (by omega))
  obtain ⟨r1, c1, R1, C1, s1, S1, l1, L1, f1, a1, b1, p1, q1⟩ := track_of (ai 1 (by omega))
  obtain ⟨r2, c2, R2, C2, s2, S2, l2, L2, f2, a2, b2, p2, q2⟩ := track_of (ai 2 (by omega))
  obtain ⟨steps, g2⟩ := Seen.int (k := .i64) (by kernel_rfl) h2
  obtain ⟨coast, g3⟩ := Seen.int (k := .i64) (by kernel_rfl) h3
  obtain ⟨o0, j0⟩ := Seen.int (k := .i64) (by kernel_rfl) (oi 0 (by omega))
  obtain ⟨o1, j1⟩ := Seen.int (k := .i64) (by kernel_rfl) (oi 1 (by omega))
  obtain ⟨o2, j2⟩ := Seen.int (k := .i64) (by kernel_rfl) (oi 2 (by omega))
  obtain ⟨o3, j3⟩ := Seen.int (k := .i64) (by kernel_rfl) (oi 3 (by omega))
  obtain ⟨sat, g5⟩ := Seen.bool (by kernel_rfl) h5
  simp at e0 e1 e2 e3 f0 f1 f2 g2 g3 j0 j1 j2 j3 g5
  obtain ⟨rfl, rfl, rfl, rfl, rfl, rfl⟩ := f0
  obtain ⟨rfl, rfl, rfl, rfl, rfl, rfl⟩ := f1
  obtain ⟨rfl, rfl, rfl, rfl, rfl, rfl⟩ := f2
  subst e0 e1 e2 e3 g2 g3 j0 j1 j2 j3 g5
  exact ⟨t0, t1, t2, t3, r0, c0, R0, C0, r1, c1, R1, C1, r2, c2, R2, C2, steps, coast, o0, o1, o2, o3, sat, _, _, _, _, _, _, l0, L0, l1, L1, l2, L2, rfl, a0, b0, a1, b1, a2, b2, p0, q0, p1, q1, p2, q2⟩
/-- A desk. -/
def DeskRow (W : World) (d : Array Value) : Prop := ∃ (g k a p s q : Int) (P : Option Addr) (n cap : Nat) (f : Nat → Int), d = #[.int .i64 g, .int .i64 k, .int .i64 a, .int .i64 p, .int .i64 s, .int .i64 q, .slice P n cap] ∧ NumP W P (4 * n) f ∧ n ≤ 9223372036854775807
theorem desk_of {W : World} {l : List Value} (h : Seen W 45 l) : DeskRow W ⟨l⟩ := by
  obtain ⟨hl, h0⟩ := Seen.field 0 (t := 45) (ty := 2) (off := 0) (c := 1) (m := 7) (by kernel_rfl) (by kernel_rfl) (by kernel_rfl) h
  obtain ⟨_, h1⟩ := Seen.field 1 (t := 45) (ty := 2) (off := 1) (c := 1) (m := 7) (by kernel_rfl) (by kernel_rfl) (by kernel_rfl) h
  obtain ⟨_, h2⟩ := Seen.field 2 (t := 45) (ty := 2) (off := 2) (c := 1) (m := 7) (by kernel_rfl) (by kernel_rfl) (by kernel_rfl) h
  obtain ⟨_, h3⟩ := Seen.field 3 (t := 45) (ty := 2) (off := 3) (c := 1) (m := 7) (by kernel_rfl) (by kernel_rfl) (by kernel_rfl) h
  obtain ⟨_, h4⟩ := Seen.field 4 (t := 45) (ty := 3) (off := 4) (c := 1) (m := 7) (by kernel_rfl) (by kernel_rfl) (by kernel_rfl) h
  obtain ⟨_, h5⟩ := Seen.field 5 (t := 45) (ty := 2) (off := 5) (c := 1) (m := 7) (by kernel_rfl) (by kernel_rfl) (by kernel_rfl) h
  obtain ⟨_, h6⟩ := Seen.field 6 (t := 45) (ty := 43) (off := 6) (c := 1) (m := 7) (by kernel_rfl) (by kernel_rfl) (by kernel_rfl) h
  obtain ⟨g, e0⟩ := Seen.int (k := .i64) (by kernel_rfl) h0
  obtain ⟨k, e1⟩ := Seen.int (k := .i64) (by kernel_rfl) h1
  obtain ⟨a, e2⟩ := Seen.int (k := .i64) (by kernel_rfl) h2
  obtain ⟨p, e3⟩ := Seen.int (k := .i64) (by kernel_rfl) h3
  obtain ⟨s, e4⟩ := Seen.int (k := .i64) (by kernel_rfl) h4
  obtain ⟨q, e5⟩ := Seen.int (k := .i64) (by kernel_rfl) h5
  obtain ⟨P, n, cap, f, e6, hP, hn, _⟩ := Seen.outs h6
  match l, hl with
  | [x0, x1, x2, x3, x4, x5, x6], _ =>
    simp at e0 e1 e2 e3 e4 e5 e6
    subst e0 e1 e2 e3 e4 e5 e6
    exact ⟨g, k, a, p, s, q, P, n, cap, f, rfl, hP, hn⟩
/-- A unit. -/
structure UnitRow (W : World) (u : Array Value) : Prop where
  size : u.size = 321
  c0 : ∃ n, u[0]? = some (.int .i64 n)
  c1 : ∃ n, u[1]? = some (.int .i64 n)
  c2 : ∃ n, u[2]? = some (.int .i64 n)
  c3 : ∃ n, u[3]? = some (.int .i64 n)
  c4 : ∃ n, u[4]? = some (.int .i64 n)
  c5 : ∃ n, u[5]? = some (.int .i64 n)
  c6 : ∃ n, u[6]? = some (.int .i64 n)
  c7 : ∃ n, u[7]? = some (.int .i64 n)
  c8 : ∃ n, u[8]? = some (.int .i64 n)
  c38 : ∃ n, u[38]? = some (.int .i64 n)
  c39 : ∃ n, u[39]? = some (.int .i64 n)
  c40 : ∃ n, u[40]? = some (.int .i64 n)
  est : ∃ e : Array Value, e.size = 29 ∧ (∀ j, j < 29 → u[9 + j]? = e[j]?) ∧ EstRow W e
  desk : ∃ d : Array Value, d.size = 7 ∧ (∀ j, j < 7 → u[41 + j]? = d[j]?) ∧ DeskRow W d
  ring : ∃ q : Array Value, q.size = 224 ∧ (∀ j, j < 224 → u[48 + j]? = q[j]?) ∧ Keyed 53 q.toList
  snap : ∃ s : Array Value, s.size = 49 ∧ (∀ j, j < 49 → u[272 + j]? = s[j]?) ∧ Keyed 60 s.toList
  one : u.all (·.oneCell') = true
theorem chunk_of {W : World} {u : Array Value} {ty : TypeId} (i off c : Nat) (hi : fieldAt 62 i = some (ty, off)) (hc : Tryz.prog.cellsOf ty = c) (hle : off + c ≤ 321) (h : Seen W 62 u.toList) :
    ∃ q : Array Value, q.size = c ∧ (∀ j, j < c → u[off + j]? = q[j]?) ∧ Seen W ty q.toList := by
  obtain ⟨hl, hf⟩ := Seen.field i (m := 321) hi hc (by kernel_rfl) h
  refine ⟨⟨(u.toList.drop off).take c⟩, ?_, fun j hj => ?_, hf⟩
  · show ((u.toList.drop off).take c).length = c
    rw [List.length_take, List.length_drop, hl]
    omega
  · rw [show (⟨(u.toList.drop off).take c⟩ : Array Value)[j]? = ((u.toList.drop off).take c)[j]? by simp, chunk_get (by omega) hj, Array.getElem?_toList]
theorem int_at {W : World} {u : Array Value} {ty : TypeId} (i off : Nat) (hi : fieldAt 62 i = some (ty, off)) (hu : Tryz.prog.underlying ty = some (.int .i64)) (hc : Tryz.prog.cellsOf ty = 1) (hle : off + 1 ≤ 321) (h : Seen W 62 u.toList) : ∃ n, u[off]? = some (.int .i64 n) := by
  obtain ⟨q, h1, h2, h3⟩ := chunk_of i off 1 hi hc hle h
  obtain ⟨n, hn⟩ := Seen.int (k := .i64) hu h3
  refine ⟨n, ?_⟩
  have := h2 0 (by omega)
  rw [Nat.add_zero] at this
  rw [this, ← Array.getElem?_toList, hn]
  rfl
theorem unit_of {W : World} {u : Array Value} (h : Seen W 62 u.toList) (h1 : u.all (·.oneCell') = true) : UnitRow W u := by
  obtain ⟨hl, _⟩ := Seen.field 0 (t := 62) (ty := 2) (off := 0) (c := 1) (m := 321) (by kernel_rfl) (by kernel_rfl) (by kernel_rfl) h
  obtain ⟨e, e1, e2, e3⟩ := chunk_of 9 9 29 (ty := 42) (by kernel_rfl) (by kernel_rfl) (by omega) h
  obtain ⟨d, d1, d2, d3⟩ := chunk_of 13 41 7 (ty := 45) (by kernel_rfl) (by kernel_rfl) (by omega) h
  obtain ⟨q, q1, q2, q3⟩ := chunk_of 14 48 224 (ty := 53) (by kernel_rfl) (by kernel_rfl) (by omega) h
  obtain ⟨s, s1, s2, s3⟩ := chunk_of 15 272 49 (ty := 60) (by kernel_rfl) (by kernel_rfl) (by omega) h
  exact ⟨by simpa using hl,
    int_at 0 0 (ty := 2) (by kernel_rfl) (by kernel_rfl) (by kernel_rfl) (by omega) h,
    int_at 1 1 (ty := 2) (by kernel_rfl) (by kernel_rfl) (by kernel_rfl) (by omega) h,
    int_at 2 2 (ty := 2) (by kernel_rfl) (by kernel_rfl) (by kernel_rfl) (by omega) h,
    int_at 3 3 (ty := 3) (by kernel_rfl) (by kernel_rfl) (by kernel_rfl) (by omega) h,
    int_at 4 4 (ty := 2) (by kernel_rfl) (by kernel_rfl) (by kernel_rfl) (by omega) h,
    int_at 5 5 (ty := 2) (by kernel_rfl) (by kernel_rfl) (by kernel_rfl) (by omega) h,
    int_at 6 6 (ty := 2) (by kernel_rfl) (by kernel_rfl) (by kernel_rfl) (by omega) h,
    int_at 7 7 (ty := 2) (by kernel_rfl) (by kernel_rfl) (by kernel_rfl) (by omega) h,
    int_at 8 8 (ty := 2) (by kernel_rfl) (by kernel_rfl) (by kernel_rfl) (by omega) h,
    int_at 10 38 (ty := 2) (by kernel_rfl) (by kernel_rfl) (by kernel_rfl) (by omega) h,
    int_at 11 39 (ty := 2) (by kernel_rfl) (by kernel_rfl) (by kernel_rfl) (by omega) h,
    int_at 12 40 (ty := 2) (by kernel_rfl) (by kernel_rfl) (by kernel_rfl) (by omega) h,
    ⟨e, e1, e2, est_of e3⟩, ⟨d, d1, d2, desk_of d3⟩, ⟨q, q1, q2, Seen.keyed 12 (by kernel_rfl) q3⟩, ⟨s, s1, s2, Seen.keyed 12 (by kernel_rfl) s3⟩, h1⟩
end Go.Proofs.YtnpbnpilhmbpoaaGreat
