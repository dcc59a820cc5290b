/- QuatRounds: the plain law. -/
import Derived.Test.YtdjgafcniifmlaaA6
set_option linter.unusedVariables false
set_option linter.unusedSimpArgs false
namespace Go.Proofs.Ytdjgafcniifmlaa
open Go.RowKit

/-- In bounds. -/
def Inb (a : Int) : Prop := -70368744177664 ≤ a ∧ a ≤ 70368744177663
theorem inb0 : Inb 0 := by unfold Inb; omega
theorem mulI_0r (a : Int) : mulI a 0 = 0 := by unfold mulI; rw [show clampI 0 = 0 from rfl, Int.mul_zero]; rfl
theorem mulI_0l (a : Int) : mulI 0 a = 0 := by rw [mulI_comm]; exact mulI_0r a
theorem mulB_0r {a : Int} (h : Inb a) : mulB a 0 = false := by unfold mulB; rw [clampB_in h.1 h.2, show clampI 0 = 0 from rfl, Int.mul_zero]; rfl
theorem mulB_0l {a : Int} (h : Inb a) : mulB 0 a = false := by rw [mulB_comm]; exact mulB_0r h
theorem mulI_1r {a : Int} (h : Inb a) : mulI a 16777216 = a := mulI_one h.1 h.2
theorem mulI_1l {a : Int} (h : Inb a) : mulI 16777216 a = a := by rw [mulI_comm]; exact mulI_1r h
theorem mulB_1r {a : Int} (h : Inb a) : mulB a 16777216 = false := mulB_one h.1 h.2
theorem mulB_1l {a : Int} (h : Inb a) : mulB 16777216 a = false := by rw [mulB_comm]; exact mulB_1r h
theorem addI_0r {a : Int} (h : Inb a) : addI a 0 = a := by unfold addI; rw [clamp_in h.1 h.2, show clampI 0 = 0 from rfl, Int.add_zero, clamp_in h.1 h.2]
theorem addI_0l {a : Int} (h : Inb a) : addI 0 a = a := by rw [addI_comm]; exact addI_0r h
theorem addB_0r {a : Int} (h : Inb a) : addB a 0 = false := by unfold addB; rw [clamp_in h.1 h.2, show clampI 0 = 0 from rfl, Int.add_zero, clampB_in h.1 h.2]; rfl
theorem addB_0l {a : Int} (h : Inb a) : addB 0 a = false := by rw [addB_comm]; exact addB_0r h
theorem sub00 : subI 0 0 = 0 := rfl
theorem subB00 : subB 0 0 = false := rfl
theorem g40 (a b c d : Int) : get4 a b c d 0 = a := rfl
theorem g41 (a b c d : Int) : get4 a b c d 1 = b := rfl
theorem g42 (a b c d : Int) : get4 a b c d 2 = c := rfl
theorem g43 (a b c d : Int) : get4 a b c d 3 = d := rfl
theorem term_p (a b : Int) : termI 1 a b = mulI a b := by unfold termI; simp
theorem term_n (a b : Int) : termI (-1) a b = subI 0 (mulI a b) := by unfold termI; simp
theorem termB_p (a b : Int) : termB 1 a b = mulB a b := by unfold termB; simp
theorem termB_n (a b : Int) : termB (-1) a b = (mulB a b || subB 0 (mulI a b)) := by unfold termB; simp

theorem mul_one_right {a b c d : Int} (ha : Inb a) (hb : Inb b) (hc : Inb c) (hd : Inb d) :
    qm0 a b c d 16777216 0 0 0 = a ∧ qm1 a b c d 16777216 0 0 0 = b ∧ qm2 a b c d 16777216 0 0 0 = c ∧ qm3 a b c d 16777216 0 0 0 = d ∧ qfa a b c d 16777216 0 0 0 = false := by
  refine ⟨?_, ?_, ?_, ?_, ?_⟩
  · simp only [qm0, sumI, List.foldl, g40, g41, g42, g43, term_p, term_n, mulI_0r, mulI_0l, mulI_1r, sub00, addI_0r, addI_0l, ha, hb, hc, hd, inb0]
  · simp only [qm1, sumI, List.foldl, g40, g41, g42, g43, term_p, term_n, mulI_0r, mulI_0l, mulI_1r, sub00, addI_0r, addI_0l, ha, hb, hc, hd, inb0]
  · simp only [qm2, sumI, List.foldl, g40, g41, g42, g43, term_p, term_n, mulI_0r, mulI_0l, mulI_1r, sub00, addI_0r, addI_0l, ha, hb, hc, hd, inb0]
  · simp only [qm3, sumI, List.foldl, g40, g41, g42, g43, term_p, term_n, mulI_0r, mulI_0l, mulI_1r, sub00, addI_0r, addI_0l, ha, hb, hc, hd, inb0]
  · simp only [qfa, qf0, qf1, qf2, qf3, sumB, g40, g41, g42, g43, term_p, term_n, termB_p, termB_n, mulI_0r, mulI_0l, mulI_1r, mulB_0r, mulB_0l, mulB_1r, sub00, subB00, addI_0r, addI_0l, addB_0r, addB_0l, ha, hb, hc, hd, inb0, Bool.or_false]
theorem mul_one_left {a b c d : Int} (ha : Inb a) (hb : Inb b) (hc : Inb c) (hd : Inb d) :
    qm0 16777216 0 0 0 a b c d = a ∧ qm1 16777216 0 0 0 a b c d = b ∧ qm2 16777216 0 0 0 a b c d = c ∧ qm3 16777216 0 0 0 a b c d = d ∧ qfa 16777216 0 0 0 a b c d = false := by
  refine ⟨?_, ?_, ?_, ?_, ?_⟩
  · simp only [qm0, sumI, List.foldl, g40, g41, g42, g43, term_p, term_n, mulI_0r, mulI_0l, mulI_1l, sub00, addI_0r, addI_0l, ha, hb, hc, hd, inb0]
  · simp only [qm1, sumI, List.foldl, g40, g41, g42, g43, term_p, term_n, mulI_0r, mulI_0l, mulI_1l, sub00, addI_0r, addI_0l, ha, hb, hc, hd, inb0]
  · simp only [qm2, sumI, List.foldl, g40, g41, g42, g43, term_p, term_n, mulI_0r, mulI_0l, mulI_1l, sub00, addI_0r, addI_0l, ha, hb, hc, hd, inb0]
  · simp only [qm3, sumI, List.foldl, g40, g41, g42, g43, term_p, term_n, mulI_0r, mulI_0l, mulI_1l, sub00, addI_0r, addI_0l, ha, hb, hc, hd, inb0]
  · simp only [qfa, qf0, qf1, qf2, qf3, sumB, g40, g41, g42, g43, term_p, term_n, termB_p, termB_n, mulI_0r, mulI_0l, mulI_1l, mulB_0r, mulB_0l, mulB_1l, sub00, subB00, addI_0r, addI_0l, addB_0r, addB_0l, ha, hb, hc, hd, inb0, Bool.or_false]

theorem right4_in {a b c d : Int} (h : right4 a b c d = true) : Inb a ∧ Inb b ∧ Inb c ∧ Inb d := by
  simp only [right4, allIn, nth4, Bool.true_and, Bool.and_eq_true, inB, decide_eq_true_eq] at h
  exact ⟨h.1.1.1, h.1.1.2, h.1.2, h.2⟩
theorem sub0_in {a : Int} (h : Inb a) (hl : a ≠ -70368744177664) : subI 0 a = -a ∧ Inb (-a) := by
  unfold Inb at *
  refine ⟨?_, by omega⟩
  unfold subI
  rw [show clampI 0 = 0 from rfl, clamp_in h.1 h.2, Int.zero_sub, clamp_in (by omega) (by omega)]

theorem rounds_calls (q0 q1 q2 q3 v0 v1 v2 : Int) (w : World) :
    Calls Try.prog 3 #[.agg #[.int .i64 q0, .int .i64 q1, .int .i64 q2, .int .i64 q3], .agg #[.int .i64 v0, .int .i64 v1, .int .i64 v2]] w fun e w' => e = .returned (.bool true) ∧ Ext w w' := by
  refine rounds_gen q0 q1 q2 q3 v0 v1 v2 (-q1) (-q2) (-q3) (right4 q0 q1 q2 q3) (right4 0 v0 v1 v2) (Lib.hid shown4_calls) (Lib.hid fun w => refRight_calls _ _ _ _ w) (Lib.hid fun w => refRight_calls _ _ _ _ w) (Lib.hid ?_) w
  rintro h1 h2 ⟨l1, m1, l2, m2, l3, m3⟩
  rw [beq_eq_false_iff_ne] at l1 l2 l3 m1 m2 m3
  obtain ⟨a0, a1, a2, a3⟩ := right4_in h1
  obtain ⟨_, b0, b1, b2⟩ := right4_in h2
  obtain ⟨e0, e1, e2, e3, e4⟩ := mul_one_right a0 a1 a2 a3
  obtain ⟨f0, f1, f2, f3, f4⟩ := mul_one_left a0 a1 a2 a3
  obtain ⟨k1, n1⟩ := sub0_in a1 l1
  obtain ⟨k2, n2⟩ := sub0_in a2 l2
  obtain ⟨k3, n3⟩ := sub0_in a3 l3
  refine ⟨fun w => ?_, fun w => ?_, fun w => ?_, fun w => ?_, fun w => ?_⟩
  · have := qmul_calls q0 q1 q2 q3 16777216 0 0 0 w
    rw [e0, e1, e2, e3, show qf3 _ _ _ _ _ _ _ _ _ = _ from e4] at this
    exact this
  · have := qmul_calls 16777216 0 0 0 q0 q1 q2 q3 w
    rw [f0, f1, f2, f3, show qf3 _ _ _ _ _ _ _ _ _ = _ from f4] at this
    exact this
  · exact turn_calls 16777216 0 0 0 v0 v1 v2 0 v0 v1 v2 0 v0 v1 v2 false false (mul_one_left inb0 b0 b1 b2) (mul_one_right inb0 b0 b1 b2) w
  · have := conj_calls q0 q1 q2 q3 w
    rw [k1, k2, k3] at this
    exact this
  · have := conj_calls q0 (-q1) (-q2) (-q3) w
    rw [(sub0_in n1 (by unfold Inb at *; omega)).1, (sub0_in n2 (by unfold Inb at *; omega)).1, (sub0_in n3 (by unfold Inb at *; omega)).1, Int.neg_neg, Int.neg_neg, Int.neg_neg] at this
    exact this
end Go.Proofs.Ytdjgafcniifmlaa
