/- The reference's tests of a unit that is read: they answer; a unit is the same as itself. -/
import Derived.Test.YtnpbnpilhmbpoaaGreatU41
set_option linter.unusedVariables false
set_option maxRecDepth 10000
namespace Go.Proofs.YtnpbnpilhmbpoaaGreat
open Go.RowKit

theorem SlP.ext {W W' : World} {p : Option Addr} {l : List Int} (h : SlP W p l) (hx : Ext W W') : SlP W' p l := by
  rcases h with h | ⟨b, o, h1, h2, h3⟩
  · exact Or.inl h
  · exact Or.inr ⟨b, o, h1, Nat.lt_of_lt_of_le h2 hx.size, fun j hj => by rw [hx.cell b _ h2]; exact h3 j hj⟩
/-- Matrices, compared. -/
theorem msame_sl {W0 : World} {s s' : Value} {l l' : List Int} (r c r' c' : Int) (h : Sl W0 s l) (h' : Sl W0 s' l') (hlen : l.length ≤ 9223372036854775807) : ∀ W, Ext W0 W → Calls Tryz.prog 178 #[.agg #[.int .i64 r, .int .i64 c, s], .agg #[.int .i64 r', .int .i64 c', s']] W (SaysB W fun x => x = decide (r = r' ∧ c = c' ∧ l = l')) := fun W hW => by
  obtain ⟨p, cap, rfl, hp⟩ := h.parts
  obtain ⟨p', cap', rfl, hp'⟩ := h'.parts
  exact msame_gen r c r' c' p p' cap cap' l l' W (Lib.hid (hp.ext hW)) (Lib.hid (hp'.ext hW)) (Lib.hid hlen)
theorem tsame_sl {W0 : World} {s S s' S' : Value} {l L l' L' : List Int} (r c R C r' c' R' C' : Int) (h : Sl W0 s l) (H : Sl W0 S L) (h' : Sl W0 s' l') (H' : Sl W0 S' L') (hl : l.length ≤ 9223372036854775807) (hL : L.length ≤ 9223372036854775807) :
    ∀ W, Ext W0 W → Calls Tryz.prog 118 #[.agg #[.int .i64 r, .int .i64 c, s, .int .i64 R, .int .i64 C, S], .agg #[.int .i64 r', .int .i64 c', s', .int .i64 R', .int .i64 C', S']] W (SaysB W fun x => x = (decide (r = r' ∧ c = c' ∧ l = l') && decide (R = R' ∧ C = C' ∧ L = L'))) := fun W hW =>
  tsame_gen r c R C r' c' R' C' s S s' S' _ _ W (Lib.hid fun V hV => msame_sl r c r' c' h h' hl V (hW.trans hV)) (Lib.hid fun V hV => msame_sl R C R' C' H H' hL V (hW.trans hV))
theorem Sl.none (W : World) : Sl W (.slice none 0 0) [] := Or.inl ⟨rfl, rfl⟩

/-- An estimator is the same as itself. -/
theorem esame_self {W0 : World} {e : Array Value} (h : EstRow W0 e) : ∀ W, Ext W0 W → Calls Tryz.prog 57 #[.agg e, .agg e] W (SaysB W fun x => x = true) := fun W hW => by
  obtain ⟨t0, t1, t2, t3, r0, c0, R0, C0, r1, c1, R1, C1, r2, c2, R2, C2, steps, coast, o0, o1, o2, o3, sat, s0, S0, s1, S1, s2, S2, l0, L0, l1, L1, l2, L2, rfl, a0, b0, a1, b1, a2, b2, p0, q0, p1, q1, p2, q2⟩ := h
  have := esame_gen t0 t1 t2 t3 r0 c0 R0 C0 r1 c1 R1 C1 r2 c2 R2 C2 steps coast o0 o1 o2 o3 t0 t1 t2 t3 r0 c0 R0 C0 r1 c1 R1 C1 r2 c2 R2 C2 steps coast o0 o1 o2 o3 sat sat s0 S0 s0 S0 s1 S1 s1 S1 s2 S2 s2 S2 true true true true true true true true W
    (Lib.hid (by simp)) (Lib.hid (by simp)) (Lib.hid (by simp)) (Lib.hid (by simp)) (Lib.hid (by simp))
    (Lib.hid fun V hV => by have := tsame_sl r0 c0 R0 C0 r0 c0 R0 C0 a0 b0 a0 b0 p0 q0 V (hW.trans hV); simpa using this) (Lib.hid fun V hV => by have := tsame_sl r1 c1 R1 C1 r1 c1 R1 C1 a1 b1 a1 b1 p1 q1 V (hW.trans hV); simpa using this) (Lib.hid fun V hV => by have := tsame_sl r2 c2 R2 C2 r2 c2 R2 C2 a2 b2 a2 b2 p2 q2 V (hW.trans hV); simpa using this)
  simpa using this
theorem esame_zero {W0 : World} {e : Array Value} (h : EstRow W0 e) : ∀ W, Ext W0 W → Calls Tryz.prog 57 #[.agg e, .agg ezero] W (SaysB W fun _ => True) := fun W hW => by
  obtain ⟨t0, t1, t2, t3, r0, c0, R0, C0, r1, c1, R1, C1, r2, c2, R2, C2, steps, coast, o0, o1, o2, o3, sat, s0, S0, s1, S1, s2, S2, l0, L0, l1, L1, l2, L2, rfl, a0, b0, a1, b1, a2, b2, p0, q0, p1, q1, p2, q2⟩ := h
  have := esame_gen t0 t1 t2 t3 r0 c0 R0 C0 r1 c1 R1 C1 r2 c2 R2 C2 steps coast o0 o1 o2 o3 0 0 0 0 0 0 0 0 0 0 0 0 0 0 0 0 0 0 0 0 0 0 sat false s0 S0 (.slice none 0 0) (.slice none 0 0) s1 S1 (.slice none 0 0) (.slice none 0 0) s2 S2 (.slice none 0 0) (.slice none 0 0) _ _ _ _ _ _ _ _ W
    (Lib.hid rfl) (Lib.hid rfl) (Lib.hid rfl) (Lib.hid rfl) (Lib.hid rfl)
    (Lib.hid fun V hV => tsame_sl r0 c0 R0 C0 0 0 0 0 a0 b0 (Sl.none _) (Sl.none _) p0 q0 V (hW.trans hV)) (Lib.hid fun V hV => tsame_sl r1 c1 R1 C1 0 0 0 0 a1 b1 (Sl.none _) (Sl.none _) p1 q1 V (hW.trans hV)) (Lib.hid fun V hV => tsame_sl r2 c2 R2 C2 0 0 0 0 a2 b2 (Sl.none _) (Sl.none _) p2 q2 V (hW.trans hV))
  exact this.mono fun e w' ⟨x, h1, h2, h3⟩ => ⟨x, h1, trivial, h3⟩
theorem eright_row {W0 : World} {e : Array Value} (h : EstRow W0 e) : ∀ W, Ext W0 W → Calls Tryz.prog 54 #[.agg e] W (SaysB W fun _ => True) := fun W hW => by
  obtain ⟨t0, t1, t2, t3, r0, c0, R0, C0, r1, c1, R1, C1, r2, c2, R2, C2, steps, coast, o0, o1, o2, o3, sat, s0, S0, s1, S1, s2, S2, l0, L0, l1, L1, l2, L2, rfl, a0, b0, a1, b1, a2, b2, p0, q0, p1, q1, p2, q2⟩ := h
  exact eright_gen t0 t1 t2 t3 r0 c0 R0 C0 r1 c1 R1 C1 r2 c2 R2 C2 steps coast o0 o1 o2 o3 sat s0 S0 s1 S1 s2 S2 W
    (Lib.hid fun V hV => tright_calls r0 c0 R0 C0 s0 S0 l0 L0 V (a0.ext (hW.trans hV)) (b0.ext (hW.trans hV))) (Lib.hid fun V hV => tright_calls r1 c1 R1 C1 s1 S1 l1 L1 V (a1.ext (hW.trans hV)) (b1.ext (hW.trans hV))) (Lib.hid fun V hV => tright_calls r2 c2 R2 C2 s2 S2 l2 L2 V (a2.ext (hW.trans hV)) (b2.ext (hW.trans hV)))
    (Lib.hid fun V hV => qright_calls _ (fun k => match k with | 0 => t0 | 1 => t1 | 2 => t2 | _ => t3) (Lib.hid fun k hk => by
      match k, hk with
      | 0, _ => rfl
      | 1, _ => rfl
      | 2, _ => rfl
      | 3, _ => rfl) V)
theorem dsame_self {W0 : World} {d : Array Value} (h : DeskRow W0 d) : ∀ W, Ext W0 W → Calls Tryz.prog 56 #[.agg d, .agg d] W (SaysB W fun x => x = true) := fun W hW => by
  obtain ⟨g, k, a, p, s, q, P, n, cap, f, rfl, hP, hn⟩ := h
  have := dsame_gen g k a p s q g k a p s q (.slice P n cap) (.slice P n cap) true true true true true true true W (Lib.hid (by simp)) (Lib.hid (by simp)) (Lib.hid (by simp)) (Lib.hid (by simp)) (Lib.hid (by simp)) (Lib.hid (by simp))
    (Lib.hid fun V hV => outs_self P n cap f V (Lib.hid hn) (Lib.hid (hP.ext (hW.trans hV))))
  simpa using this
theorem dsame_zero {W0 : World} {d : Array Value} (h : DeskRow W0 d) : ∀ W, Ext W0 W → Calls Tryz.prog 56 #[.agg d, .agg dzero] W (SaysB W fun _ => True) := fun W hW => by
  obtain ⟨g, k, a, p, s, q, P, n, cap, f, rfl, hP, hn⟩ := h
  have := dsame_gen g k a p s q 0 0 0 (-1) 0 0 (.slice P n cap) (.slice none 0 0) _ _ _ _ _ _ _ W (Lib.hid rfl) (Lib.hid rfl) (Lib.hid rfl) (Lib.hid rfl) (Lib.hid rfl) (Lib.hid rfl)
    (Lib.hid fun V hV => outs_nil P n cap V)
  exact this.mono fun e w' ⟨x, h1, h2, h3⟩ => ⟨x, h1, trivial, h3⟩
theorem dright_row {W0 : World} {d : Array Value} (h : DeskRow W0 d) : ∀ W, Ext W0 W → Calls Tryz.prog 55 #[.agg d] W (SaysB W fun _ => True) := fun W hW => by
  obtain ⟨g, k, a, p, s, q, P, n, cap, f, rfl, hP, hn⟩ := h
  exact dright_calls g k a p s q P n cap f W (Lib.hid hn) (Lib.hid (hP.ext hW))

/-- A unit is the same as itself. -/
theorem unit_same {W0 : World} {u : Array Value} (h : UnitRow W0 u) : ∀ W, Ext W0 W → Calls Tryz.prog 24 #[.agg u, .agg u] W (SaysB W fun x => x = true) := fun W hW => by
  obtain ⟨hs, ⟨n0, u0⟩, ⟨n1, u1⟩, ⟨n2, u2⟩, ⟨n3, u3⟩, ⟨n4, u4⟩, ⟨n5, u5⟩, ⟨n6, u6⟩, ⟨n7, u7⟩, ⟨n8, u8⟩, ⟨n38, u38⟩, ⟨n39, u39⟩, ⟨n40, u40⟩, ⟨e, e1, e2, e3⟩, ⟨d, d1, d2, d3⟩, ⟨q, q1, q2, q3⟩, ⟨s, s1, s2, s3⟩, h1⟩ := h
  exact usame_gen u e d q s n0 n1 n2 n3 n4 n5 n6 n7 n8 n38 n39 n40 W u0 u1 u2 u3 u4 u5 u6 u7 u8 u38 u39 u40 (Lib.hid e2) (Lib.hid e1) (Lib.hid d2) (Lib.hid d1) (Lib.hid q2) (Lib.hid q1) (Lib.hid s2) (Lib.hid s1)
    (Lib.hid fun w => eql_self (t := 53) (n := 224) 12 (by omega) (by kernel_rfl) (by kernel_rfl) (by kernel_rfl) q1 q3 w) (Lib.hid fun w => eql_self (t := 60) (n := 49) 12 (by omega) (by kernel_rfl) (by kernel_rfl) (by kernel_rfl) s1 s3 w)
    (Lib.hid fun V hV => esame_self e3 V (hW.trans hV)) (Lib.hid fun V hV => dsame_self d3 V (hW.trans hV))
theorem snap_nums {s : Array Value} (h : Keyed 60 s.toList) : ∃ a b c, s[0]? = some (.int .i64 a) ∧ s[1]? = some (.int .i64 b) ∧ s[2]? = some (.int .i64 c) := by
  obtain ⟨hl, h0⟩ := Keyed.field 0 (t := 60) (ty := 55) (off := 0) (c := 4) (m := 49) (by kernel_rfl) (by kernel_rfl) (by kernel_rfl) h
  obtain ⟨hm, f0⟩ := Keyed.field 0 (t := 55) (ty := 2) (off := 0) (c := 1) (m := 4) (by kernel_rfl) (by kernel_rfl) (by kernel_rfl) h0
  obtain ⟨_, f1⟩ := Keyed.field 1 (t := 55) (ty := 2) (off := 1) (c := 1) (m := 4) (by kernel_rfl) (by kernel_rfl) (by kernel_rfl) h0
  obtain ⟨_, f2⟩ := Keyed.field 2 (t := 55) (ty := 2) (off := 2) (c := 1) (m := 4) (by kernel_rfl) (by kernel_rfl) (by kernel_rfl) h0
  obtain ⟨a, e0⟩ := Keyed.int (t := 2) (k := .i64) (by kernel_rfl) f0
  obtain ⟨b, e1⟩ := Keyed.int (t := 2) (k := .i64) (by kernel_rfl) f1
  obtain ⟨c, e2⟩ := Keyed.int (t := 2) (k := .i64) (by kernel_rfl) f2
  have g0 := congrArg (·[0]?) e0
  have g1 := congrArg (·[0]?) e1
  have g2 := congrArg (·[0]?) e2
  simp [List.getElem?_take, List.getElem?_drop] at g0 g1 g2
  exact ⟨a, b, c, by simpa using g0, by simpa using g1, by simpa using g2⟩
/-- Is a unit right? The test answers. -/
theorem unit_right {W0 : World} {u : Array Value} (h : UnitRow W0 u) : ∀ W, Ext W0 W → Calls Tryz.prog 22 #[.agg u] W (SaysB W fun _ => True) := fun W hW => by
  obtain ⟨hs, ⟨n0, u0⟩, ⟨n1, u1⟩, ⟨n2, u2⟩, ⟨n3, u3⟩, ⟨n4, u4⟩, ⟨n5, u5⟩, ⟨n6, u6⟩, ⟨n7, u7⟩, ⟨n8, u8⟩, ⟨n38, u38⟩, ⟨n39, u39⟩, ⟨n40, u40⟩, ⟨e, e1, e2, e3⟩, ⟨d, d1, d2, d3⟩, ⟨q, q1, q2, q3⟩, ⟨s, s1, s2, s3⟩, h1⟩ := h
  obtain ⟨n272, n273, n274, k0, k1, k2⟩ := snap_nums s3
  obtain ⟨n41, n42, e41, e42⟩ : ∃ a b, u[41]? = some (.int .i64 a) ∧ u[42]? = some (.int .i64 b) := by
    obtain ⟨g, k, a, p, t, r, P, n, cap, f, rfl, hP, hn⟩ := d3
    exact ⟨g, k, d2 0 (by omega), d2 1 (by omega)⟩
  exact uright_gen u e d q n0 n1 n2 n3 n4 n5 n6 n7 n8 n38 n39 n40 n41 n42 n272 n273 n274 W u0 u1 u2 u3 u4 u5 u6 u7 u8 u38 u39 u40 e41 e42 ((s2 0 (by omega)).trans k0) ((s2 1 (by omega)).trans k1) ((s2 2 (by omega)).trans k2) (Lib.hid e2) (Lib.hid e1) (Lib.hid d2) (Lib.hid d1) (Lib.hid q2) (Lib.hid q1)
    (Lib.hid fun V hV => rright_calls q V (Lib.hid q3)) (Lib.hid fun V hV => eright_row e3 V (hW.trans hV)) (Lib.hid fun V hV => dright_row d3 V (hW.trans hV)) (Lib.hid fun V hV => dsame_zero d3 V (hW.trans hV)) (Lib.hid fun V hV => esame_zero e3 V (hW.trans hV))
/-- Are a unit's rows short? The test answers. -/
theorem unit_few {W0 : World} {u : Array Value} (h : UnitRow W0 u) : ∀ W, Ext W0 W → Calls Tryz.prog 21 #[.agg u] W (SaysB W fun _ => True) := fun W hW => by
  obtain ⟨hs, ⟨n0, u0⟩, ⟨n1, u1⟩, ⟨n2, u2⟩, ⟨n3, u3⟩, ⟨n4, u4⟩, ⟨n5, u5⟩, ⟨n6, u6⟩, ⟨n7, u7⟩, ⟨n8, u8⟩, ⟨n38, u38⟩, ⟨n39, u39⟩, ⟨n40, u40⟩, ⟨e, e1, e2, e3⟩, ⟨d, d1, d2, d3⟩, ⟨q, q1, q2, q3⟩, ⟨s, s1, s2, s3⟩, h1⟩ := h
  obtain ⟨P, n, cap, hd⟩ : ∃ P n cap, u[47]? = some (.slice P n cap) := by
    obtain ⟨g, k, a, p, t, r, P, n, cap, f, rfl, hP, hn⟩ := d3
    exact ⟨P, n, cap, d2 6 (by omega)⟩
  obtain ⟨t0, t1, t2, t3, r0, c0, R0, C0, r1, c1, R1, C1, r2, c2, R2, C2, steps, coast, o0, o1, o2, o3, sat, s0, S0, s1, S1, s2, S2, l0, L0, l1, L1, l2, L2, rfl, a0, b0, a1, b1, a2, b2, p0, q0, p1, q1, p2, q2⟩ := e3
  obtain ⟨pa0, ca0, rfl, _⟩ := a0.parts
  obtain ⟨pb0, cb0, rfl, _⟩ := b0.parts
  obtain ⟨pa1, ca1, rfl, _⟩ := a1.parts
  obtain ⟨pb1, cb1, rfl, _⟩ := b1.parts
  obtain ⟨pa2, ca2, rfl, _⟩ := a2.parts
  obtain ⟨pb2, cb2, rfl, _⟩ := b2.parts
  exact few_gen u P n cap _ _ _ _ _ _ _ _ _ _ _ _ _ _ _ _ _ _ W hd (e2 6 (by omega)) (e2 9 (by omega)) (e2 12 (by omega)) (e2 15 (by omega)) (e2 18 (by omega)) (e2 21 (by omega))
end Go.Proofs.YtnpbnpilhmbpoaaGreat
