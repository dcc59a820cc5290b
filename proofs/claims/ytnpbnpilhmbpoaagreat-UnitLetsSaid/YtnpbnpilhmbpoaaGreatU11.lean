/- The reference's test of desks: it answers. -/
import Derived.Test.YtnpbnpilhmbpoaaGreatU10
set_option linter.unusedVariables false
set_option linter.unusedSimpArgs false
namespace Go.Proofs.YtnpbnpilhmbpoaaGreat
open Go.RowKit

/-- Where m numbers stand: nowhere, if there are none. -/
def NumP (W : World) (p : Option Addr) (m : Nat) (f : Nat → Int) : Prop :=
  m = 0 ∨ ∃ b o, p = some ⟨b, o, none⟩ ∧ b < W.heap.size ∧ ∀ j, j < m → W.cell? ⟨b, o + j, none⟩ = some (.int .i64 (f j))
theorem NumP.ext {W W' : World} {p : Option Addr} {m : Nat} {f : Nat → Int} (h : NumP W p m f) (hx : Ext W W') : NumP W' p m f := by
  rcases h with h | ⟨b, o, h1, h2, h3⟩
  · exact Or.inl h
  · exact Or.inr ⟨b, o, h1, Nat.lt_of_lt_of_le h2 hx.size, fun j hj => by rw [hx.cell b (o + j) h2]; exact h3 j hj⟩

def inD (n : Int) : Bool := decide (0 ≤ n ∧ n ≤ 4611686018427387904)
theorem din2 (n : Int) (w : World) : Calls Tryz.prog 116 #[.int .i64 n] w fun e w' => e = .returned (.bool (inD n)) ∧ w = w' := din_calls n w

set_option maxRecDepth 10000 in
set_option maxHeartbeats 2000000 in
theorem dright_calls (g K a p s q : Int) (P : Option Addr) (n cap : Nat) (f : Nat → Int) (w : World) (hn : Hid (n ≤ 9223372036854775807)) (hP : Hid (NumP w P (4 * n) f)) :
    Calls Tryz.prog 55 #[.agg #[.int .i64 g, .int .i64 K, .int .i64 a, .int .i64 p, .int .i64 s, .int .i64 q, .slice P n cap]] w (SaysB w fun _ => True) := by
  have dc := Lib.hid din2
  cases h0 : inD g
  · go_enter Tryz.func55, Tryz.ntmps55
    go_wp2_with (first | (go_at_call 116; refine (dc.out _ _).mono ?_; rintro e w2 ⟨rfl, rfl⟩))
    go_ret
    exact SaysB.mk trivial ((Ext.refl w).alloc _ _)
  cases h1 : inD K
  · go_enter Tryz.func55, Tryz.ntmps55
    go_wp2_with (first | (go_at_call 116; refine (dc.out _ _).mono ?_; rintro e w2 ⟨rfl, rfl⟩))
    go_ret
    exact SaysB.mk trivial ((Ext.refl w).alloc _ _)
  cases h2 : inD a
  · go_enter Tryz.func55, Tryz.ntmps55
    go_wp2_with (first | (go_at_call 116; refine (dc.out _ _).mono ?_; rintro e w2 ⟨rfl, rfl⟩))
    go_ret
    exact SaysB.mk trivial ((Ext.refl w).alloc _ _)
  cases h3 : inD q
  · go_enter Tryz.func55, Tryz.ntmps55
    go_wp2_with (first | (go_at_call 116; refine (dc.out _ _).mono ?_; rintro e w2 ⟨rfl, rfl⟩))
    go_ret
    exact SaysB.mk trivial ((Ext.refl w).alloc _ _)
  by_cases h4 : K < a
  · go_enter Tryz.func55, Tryz.ntmps55
    go_wp2_with (first | (go_at_call 116; refine (dc.out _ _).mono ?_; rintro e w2 ⟨rfl, rfl⟩))
    go_ret
    exact SaysB.mk trivial ((Ext.refl w).alloc _ _)
  by_cases h5 : s < 0
  · go_enter Tryz.func55, Tryz.ntmps55
    go_wp2_with (first | (go_at_call 116; refine (dc.out _ _).mono ?_; rintro e w2 ⟨rfl, rfl⟩))
    go_ret
    exact SaysB.mk trivial ((Ext.refl w).alloc _ _)
  by_cases h6 : 3 < s
  · go_enter Tryz.func55, Tryz.ntmps55
    go_wp2_with (first | (go_at_call 116; refine (dc.out _ _).mono ?_; rintro e w2 ⟨rfl, rfl⟩))
    go_ret
    exact SaysB.mk trivial ((Ext.refl w).alloc _ _)
  by_cases h7 : 64 < (n : Int)
  · go_enter Tryz.func55, Tryz.ntmps55
    go_wp2_with (first | (go_at_call 116; refine (dc.out _ _).mono ?_; rintro e w2 ⟨rfl, rfl⟩))
    go_ret
    exact SaysB.mk trivial ((Ext.refl w).alloc _ _)
  by_cases s0 : s = 0
  · subst s0
    cases hp : (p != (-1))
    rotate_left
    · go_enter Tryz.func55, Tryz.ntmps55
      go_wp2_with (first | (go_at_call 116; refine (dc.out _ _).mono ?_; rintro e w2 ⟨rfl, rfl⟩))
      go_ret
      exact SaysB.mk trivial ((Ext.refl w).alloc _ _)
    go_enter Tryz.func55, Tryz.ntmps55
    go_wp2_with (first | (go_at_call 116; refine (dc.out _ _).mono ?_; rintro e w2 ⟨rfl, rfl⟩))
    have st := (Own.start w).push #[.int .i64 g, .int .i64 K, .int .i64 a, .int .i64 p, .int .i64 0, .int .i64 q, .slice P n cap] 45 _ rfl
    replace st : Own w _ [w.heap.size] [(#[.int .i64 g, .int .i64 K, .int .i64 a, .int .i64 p, .int .i64 0, .int .i64 q, .slice P n cap], 45)] := st
    replace st := Lib.hid st
    go_loopw [3] (fun iv wr => ∃ k : Nat, k ≤ n ∧ iv = .int .i64 k ∧ Hid (Own w wr [w.heap.size] [(#[.int .i64 g, .int .i64 K, .int .i64 a, .int .i64 p, .int .i64 0, .int .i64 q, .slice P n cap], 45)])) (fun iv _ => n - (intOf iv).toNat)
    case atStart => exact ⟨0, by omega, rfl, st⟩
    case round =>
      clear st
      obtain ⟨k, hk, rfl, st⟩ := hrel
      have km := st.out.cell 0 rfl rfl
      by_cases hkn : k = n
      · subst hkn
        go_wp2
        go_ret
        exact SaysB.mk trivial st.out.x
      · have hk2 : (k : Int) < n := by omega
        have wk0 : wrap64 ((k : Int) + 1) = ((k + 1 : Nat) : Int) := by have := hn.out; unfold wrap64; omega
        have wk := Lib.hid wk0
        clear wk0
        rcases hP.out with hz | ⟨b, o, rfl, hb, hl⟩
        · omega
        have kx : wr.cell? ⟨b, o + k * 4, none⟩ = some (.int .i64 (f (k * 4))) := by rw [st.out.x.cell b (o + k * 4) hb]; exact hl _ (by omega)
        generalize f (k * 4) = v at kx
        replace hb := Lib.hid hb
        replace hl := Lib.hid hl
        by_cases c1 : v < 1
        · go_wp2
          go_ret
          exact SaysB.mk trivial st.out.x
        by_cases c2 : K < v
        · go_wp2
          go_ret
          exact SaysB.mk trivial st.out.x
        cases k with
        | zero =>
          simp only [Nat.zero_mul, Nat.add_zero] at kx
          go_wp2
          exact ⟨⟨1, by omega, by simp, st⟩, by simp only [intOf]; omega⟩
        | succ i =>
          have wi : wrap64 (((i + 1 : Nat) : Int) - 1) = (i : Int) := by have := hn.out; unfold wrap64; omega
          have ky : wr.cell? ⟨b, o + i * 4, none⟩ = some (.int .i64 (f (i * 4))) := by rw [st.out.x.cell b (o + i * 4) hb.out]; exact hl.out _ (by omega)
          generalize f (i * 4) = u at ky
          have h0i : (0 : Int) < ((i + 1 : Nat) : Int) := by omega
          have hin : (i : Int) < n := by omega
          by_cases c3 : v ≤ u
          · go_wp2
            go_ret
            exact SaysB.mk trivial st.out.x
          · go_wp2
            exact ⟨⟨i + 1 + 1, by omega, by simp, st⟩, by simp only [intOf]; omega⟩
  by_cases s3 : s = 3
  · subst s3
    cases hp : (p != (-1))
    rotate_left
    · go_enter Tryz.func55, Tryz.ntmps55
      go_wp2_with (first | (go_at_call 116; refine (dc.out _ _).mono ?_; rintro e w2 ⟨rfl, rfl⟩))
      go_ret
      exact SaysB.mk trivial ((Ext.refl w).alloc _ _)
    go_enter Tryz.func55, Tryz.ntmps55
    go_wp2_with (first | (go_at_call 116; refine (dc.out _ _).mono ?_; rintro e w2 ⟨rfl, rfl⟩))
    have st := (Own.start w).push #[.int .i64 g, .int .i64 K, .int .i64 a, .int .i64 p, .int .i64 3, .int .i64 q, .slice P n cap] 45 _ rfl
    replace st : Own w _ [w.heap.size] [(#[.int .i64 g, .int .i64 K, .int .i64 a, .int .i64 p, .int .i64 3, .int .i64 q, .slice P n cap], 45)] := st
    replace st := Lib.hid st
    go_loopw [3] (fun iv wr => ∃ k : Nat, k ≤ n ∧ iv = .int .i64 k ∧ Hid (Own w wr [w.heap.size] [(#[.int .i64 g, .int .i64 K, .int .i64 a, .int .i64 p, .int .i64 3, .int .i64 q, .slice P n cap], 45)])) (fun iv _ => n - (intOf iv).toNat)
    case atStart => exact ⟨0, by omega, rfl, st⟩
    case round =>
      clear st
      obtain ⟨k, hk, rfl, st⟩ := hrel
      have km := st.out.cell 0 rfl rfl
      by_cases hkn : k = n
      · subst hkn
        go_wp2
        go_ret
        exact SaysB.mk trivial st.out.x
      · have hk2 : (k : Int) < n := by omega
        have wk0 : wrap64 ((k : Int) + 1) = ((k + 1 : Nat) : Int) := by have := hn.out; unfold wrap64; omega
        have wk := Lib.hid wk0
        clear wk0
        rcases hP.out with hz | ⟨b, o, rfl, hb, hl⟩
        · omega
        have kx : wr.cell? ⟨b, o + k * 4, none⟩ = some (.int .i64 (f (k * 4))) := by rw [st.out.x.cell b (o + k * 4) hb]; exact hl _ (by omega)
        generalize f (k * 4) = v at kx
        replace hb := Lib.hid hb
        replace hl := Lib.hid hl
        by_cases c1 : v < 1
        · go_wp2
          go_ret
          exact SaysB.mk trivial st.out.x
        by_cases c2 : K < v
        · go_wp2
          go_ret
          exact SaysB.mk trivial st.out.x
        cases k with
        | zero =>
          simp only [Nat.zero_mul, Nat.add_zero] at kx
          go_wp2
          exact ⟨⟨1, by omega, by simp, st⟩, by simp only [intOf]; omega⟩
        | succ i =>
          have wi : wrap64 (((i + 1 : Nat) : Int) - 1) = (i : Int) := by have := hn.out; unfold wrap64; omega
          have ky : wr.cell? ⟨b, o + i * 4, none⟩ = some (.int .i64 (f (i * 4))) := by rw [st.out.x.cell b (o + i * 4) hb.out]; exact hl.out _ (by omega)
          generalize f (i * 4) = u at ky
          have h0i : (0 : Int) < ((i + 1 : Nat) : Int) := by omega
          have hin : (i : Int) < n := by omega
          by_cases c3 : v ≤ u
          · go_wp2
            go_ret
            exact SaysB.mk trivial st.out.x
          · go_wp2
            exact ⟨⟨i + 1 + 1, by omega, by simp, st⟩, by simp only [intOf]; omega⟩
  have t0 : (s == 0) = false := by simpa using s0
  have t3 : (s == 3) = false := by simpa using s3
  cases hp : inD p
  · go_enter Tryz.func55, Tryz.ntmps55
    go_wp2_with (first | (go_at_call 116; refine (dc.out _ _).mono ?_; rintro e w2 ⟨rfl, rfl⟩))
    go_ret
    exact SaysB.mk trivial ((Ext.refl w).alloc _ _)
  go_enter Tryz.func55, Tryz.ntmps55
  go_wp2_with (first | (go_at_call 116; refine (dc.out _ _).mono ?_; rintro e w2 ⟨rfl, rfl⟩))
  have st := (Own.start w).push #[.int .i64 g, .int .i64 K, .int .i64 a, .int .i64 p, .int .i64 s, .int .i64 q, .slice P n cap] 45 _ rfl
  replace st : Own w _ [w.heap.size] [(#[.int .i64 g, .int .i64 K, .int .i64 a, .int .i64 p, .int .i64 s, .int .i64 q, .slice P n cap], 45)] := st
  replace st := Lib.hid st
  go_loopw [3] (fun iv wr => ∃ k : Nat, k ≤ n ∧ iv = .int .i64 k ∧ Hid (Own w wr [w.heap.size] [(#[.int .i64 g, .int .i64 K, .int .i64 a, .int .i64 p, .int .i64 s, .int .i64 q, .slice P n cap], 45)])) (fun iv _ => n - (intOf iv).toNat)
  case atStart => exact ⟨0, by omega, rfl, st⟩
  case round =>
    clear st
    obtain ⟨k, hk, rfl, st⟩ := hrel
    have km := st.out.cell 0 rfl rfl
    by_cases hkn : k = n
    · subst hkn
      go_wp2
      go_ret
      exact SaysB.mk trivial st.out.x
    · have hk2 : (k : Int) < n := by omega
      have wk0 : wrap64 ((k : Int) + 1) = ((k + 1 : Nat) : Int) := by have := hn.out; unfold wrap64; omega
      have wk := Lib.hid wk0
      clear wk0
      rcases hP.out with hz | ⟨b, o, rfl, hb, hl⟩
      · omega
      have kx : wr.cell? ⟨b, o + k * 4, none⟩ = some (.int .i64 (f (k * 4))) := by rw [st.out.x.cell b (o + k * 4) hb]; exact hl _ (by omega)
      generalize f (k * 4) = v at kx
      replace hb := Lib.hid hb
      replace hl := Lib.hid hl
      by_cases c1 : v < 1
      · go_wp2
        go_ret
        exact SaysB.mk trivial st.out.x
      by_cases c2 : K < v
      · go_wp2
        go_ret
        exact SaysB.mk trivial st.out.x
      cases k with
      | zero =>
        simp only [Nat.zero_mul, Nat.add_zero] at kx
        go_wp2
        exact ⟨⟨1, by omega, by simp, st⟩, by simp only [intOf]; omega⟩
      | succ i =>
        have wi : wrap64 (((i + 1 : Nat) : Int) - 1) = (i : Int) := by have := hn.out; unfold wrap64; omega
        have ky : wr.cell? ⟨b, o + i * 4, none⟩ = some (.int .i64 (f (i * 4))) := by rw [st.out.x.cell b (o + i * 4) hb.out]; exact hl.out _ (by omega)
        generalize f (i * 4) = u at ky
        have h0i : (0 : Int) < ((i + 1 : Nat) : Int) := by omega
        have hin : (i : Int) < n := by omega
        by_cases c3 : v ≤ u
        · go_wp2
          go_ret
          exact SaysB.mk trivial st.out.x
        · go_wp2
          exact ⟨⟨i + 1 + 1, by omega, by simp, st⟩, by simp only [intOf]; omega⟩
end Go.Proofs.YtnpbnpilhmbpoaaGreat
