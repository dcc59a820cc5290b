/- The reference's tests of numbers, rows and matrices: they answer. -/
import Derived.Test.YtnpbnpilhmbpoaaGreatProg
import Derived.Test.YtnpbnpilhmbpoaaGreatE4
set_option linter.unusedVariables false
namespace Go.Proofs.YtnpbnpilhmbpoaaGreat
open Go.RowKit

theorem num_calls (n : Int) (w : World) : Calls Tryz.prog 52 #[.int .i64 n] w fun e w' => e = .returned (.bool (decide (0 ≤ n ∧ n ≤ 2305843009213693952))) ∧ w = w' := by
  by_cases h0 : 0 ≤ n <;> by_cases h1 : n ≤ 2305843009213693952
  all_goals
    go_enter Tryz.func52, Tryz.ntmps52
    go_wp2
    go_ret
    simp [*]

def inB (x : Int) : Bool := decide (-70368744177664 ≤ x ∧ x ≤ 70368744177663)
theorem in_calls (n : Int) (w : World) : Calls Tryz.prog 177 #[.int .i64 n] w fun e w' => e = .returned (.bool (inB n)) ∧ w = w' := by
  unfold inB
  by_cases h0 : -70368744177664 ≤ n <;> by_cases h1 : n ≤ 70368744177663
  all_goals
    go_enter Tryz.func177, Tryz.ntmps177
    go_wp2
    go_ret
    simp [*]

/-- A slice of numbers that reads as l. -/
def Sl (W : World) (s : Value) (l : List Int) : Prop :=
  (s = .slice none 0 0 ∧ l = []) ∨ ∃ b o cap, s = .slice (some ⟨b, o, none⟩) l.length cap ∧ b < W.heap.size ∧ ∀ j (hj : j < l.length), W.cell? ⟨b, o + j, none⟩ = some (.int .i64 l[j])
theorem Sl.ext {W W' : World} {s : Value} {l : List Int} (h : Sl W s l) (hx : Ext W W') : Sl W' s l := by
  rcases h with h | ⟨b, o, cap, h1, h2, h3⟩
  · exact Or.inl h
  · exact Or.inr ⟨b, o, cap, h1, Nat.lt_of_lt_of_le h2 hx.size, fun j hj => by rw [hx.cell b (o + j) h2]; exact h3 j hj⟩

/-- A call that answers a bool of which R holds, and makes blocks of its own alone. (A name: the walk's simp does not open it.) -/
def SaysB (w : World) (R : Bool → Prop) (e : Ending) (w' : World) : Prop := ∃ x, e = .returned (.bool x) ∧ R x ∧ Ext w w'
theorem SaysB.mk {w w' : World} {R : Bool → Prop} {x : Bool} (h : R x) (hx : Ext w w') : SaysB w R (.returned (.bool x)) w' := ⟨x, rfl, h, hx⟩

def MatFit (r c : Int) (n : Nat) : Prop := 1 ≤ r ∧ r ≤ 8 ∧ 1 ≤ c ∧ c ≤ 8 ∧ (n : Int) = r * c
theorem mul_in {r c : Int} (h1 : 1 ≤ r) (h2 : r ≤ 8) (h3 : 1 ≤ c) (h4 : c ≤ 8) : 1 ≤ r * c ∧ r * c ≤ 64 := by
  have a := Int.mul_le_mul h1 h3 (by omega) (by omega)
  have b := Int.mul_le_mul h2 h4 (by omega) (by omega)
  omega

def mcells (r c : Int) (p : Option Addr) (n cap : Nat) : Array Value := #[.int .i64 r, .int .i64 c, .slice p n cap]

set_option maxHeartbeats 1000000 in
theorem mright_some (r c : Int) (b o cap : Nat) (l : List Int) (w : World) (hb : Hid (b < w.heap.size)) (hl : Hid (∀ j (hj : j < l.length), w.cell? ⟨b, o + j, none⟩ = some (.int .i64 l[j]))) :
    Calls Tryz.prog 176 #[.agg #[.int .i64 r, .int .i64 c, .slice (some ⟨b, o, none⟩) l.length cap]] w (SaysB w fun x => x = true → MatFit r c l.length) := by
  have no : (false = true → MatFit r c l.length) := fun h => by cases h
  by_cases h1 : r < 1
  · go_enter Tryz.func176, Tryz.ntmps176
    go_wp2
    go_ret
    exact SaysB.mk (fun h => by cases h) ((Ext.refl w).alloc _ _)
  by_cases h2 : 8 < r
  · go_enter Tryz.func176, Tryz.ntmps176
    go_wp2
    go_ret
    exact SaysB.mk (fun h => by cases h) ((Ext.refl w).alloc _ _)
  by_cases h3 : c < 1
  · go_enter Tryz.func176, Tryz.ntmps176
    go_wp2
    go_ret
    exact SaysB.mk (fun h => by cases h) ((Ext.refl w).alloc _ _)
  by_cases h4 : 8 < c
  · go_enter Tryz.func176, Tryz.ntmps176
    go_wp2
    go_ret
    exact SaysB.mk (fun h => by cases h) ((Ext.refl w).alloc _ _)
  have hm := mul_in (r := r) (c := c) (by omega) (by omega) (by omega) (by omega)
  obtain ⟨m, hrc⟩ : ∃ m, m = r * c := ⟨_, rfl⟩
  have hw : wrap64 (r * c) = m := by rw [hrc]; unfold wrap64; omega
  rw [← hrc] at hm
  replace hrc := Lib.hid hrc
  obtain ⟨n, hn⟩ : ∃ n, n = l.length := ⟨_, rfl⟩
  rw [← hn]
  cases h5 : ((n : Int) != m)
  rotate_left
  · go_enter Tryz.func176, Tryz.ntmps176
    go_wp2
    go_ret
    exact SaysB.mk (fun h => by cases h) ((Ext.refl w).alloc _ _)
  have h5e : (n : Int) = m := by simpa using h5
  have fit : Hid (MatFit r c n) := Lib.hid ⟨by omega, by omega, by omega, by omega, by rw [h5e]; exact hrc.out⟩
  have hn64 : Hid ((n : Int) ≤ 64) := Lib.hid (by omega)
  have hne := Lib.hid h5e
  clear h5e hm
  replace hn := Lib.hid hn
  go_enter Tryz.func176, Tryz.ntmps176
  go_wp2
  have st := (Own.start w).push #[.int .i64 r, .int .i64 c, .slice (some ⟨b, o, none⟩) n cap] 36 _ rfl
  replace st : Own w _ [w.heap.size] [(#[.int .i64 r, .int .i64 c, .slice (some ⟨b, o, none⟩) n cap], 36)] := st
  replace st := Lib.hid st
  go_loopw [3] (fun iv wr => ∃ k : Nat, k ≤ n ∧ iv = .int .i64 k ∧ Hid (Own w wr [w.heap.size] [(#[.int .i64 r, .int .i64 c, .slice (some ⟨b, o, none⟩) n cap], 36)])) (fun iv _ => n - (intOf iv).toNat)
  case atStart => exact ⟨0, by omega, rfl, st⟩
  case round =>
    clear st
    obtain ⟨k, hk, rfl, st⟩ := hrel
    have km := st.out.cell 0 rfl rfl
    by_cases hkn : k = n
    · subst hkn
      go_wp2
      go_ret
      exact SaysB.mk (fun _ => fit.out) st.out.x
    · have hk2 : (k : Int) < n := by omega
      have kx : wr.cell? ⟨b, o + k, none⟩ = some (.int .i64 (l[k]'(by have := hn.out; omega))) := by
        rw [st.out.x.cell b (o + k) hb.out]
        exact hl.out k _
      generalize l[k]'(by have := hn.out; omega) = xk at kx
      have wk0 : wrap64 ((k : Int) + 1) = ((k + 1 : Nat) : Int) := by have := hn64.out; unfold wrap64; omega
      have wk := Lib.hid wk0
      clear wk0
      cases hi : inB xk
      · go_wp2_with (first | (go_at_call 177; refine (in_calls _ _).mono ?_; rintro e w2 ⟨rfl, rfl⟩))
        go_ret
        exact SaysB.mk (fun h => by cases h) st.out.x
      · go_wp2_with (first | (go_at_call 177; refine (in_calls _ _).mono ?_; rintro e w2 ⟨rfl, rfl⟩))
        rw [wk.out]
        exact ⟨⟨k + 1, by omega, rfl, st⟩, by simp only [intOf]; omega⟩

set_option maxHeartbeats 1000000 in
theorem mright_none (r c : Int) (w : World) :
    Calls Tryz.prog 176 #[.agg #[.int .i64 r, .int .i64 c, .slice none 0 0]] w (SaysB w fun x => x = true → MatFit r c 0) := by
  by_cases h1 : r < 1
  · go_enter Tryz.func176, Tryz.ntmps176
    go_wp2
    go_ret
    exact SaysB.mk (fun h => by cases h) ((Ext.refl w).alloc _ _)
  by_cases h2 : 8 < r
  · go_enter Tryz.func176, Tryz.ntmps176
    go_wp2
    go_ret
    exact SaysB.mk (fun h => by cases h) ((Ext.refl w).alloc _ _)
  by_cases h3 : c < 1
  · go_enter Tryz.func176, Tryz.ntmps176
    go_wp2
    go_ret
    exact SaysB.mk (fun h => by cases h) ((Ext.refl w).alloc _ _)
  by_cases h4 : 8 < c
  · go_enter Tryz.func176, Tryz.ntmps176
    go_wp2
    go_ret
    exact SaysB.mk (fun h => by cases h) ((Ext.refl w).alloc _ _)
  have hm := mul_in (r := r) (c := c) (by omega) (by omega) (by omega) (by omega)
  obtain ⟨m, hrc⟩ : ∃ m, m = r * c := ⟨_, rfl⟩
  have hw : wrap64 (r * c) = m := by rw [hrc]; unfold wrap64; omega
  rw [← hrc] at hm
  have h5 : ((0 : Int) != m) = true := by simp; omega
  clear hrc
  go_enter Tryz.func176, Tryz.ntmps176
  go_wp2
  go_ret
  exact SaysB.mk (fun h => by cases h) ((Ext.refl w).alloc _ _)

theorem mright_calls (r c : Int) (s : Value) (l : List Int) (w : World) (hs : Sl w s l) :
    Calls Tryz.prog 176 #[.agg #[.int .i64 r, .int .i64 c, s]] w (SaysB w fun x => x = true → MatFit r c l.length) := by
  rcases hs with ⟨rfl, rfl⟩ | ⟨b, o, cap, rfl, h1, h2⟩
  · exact mright_none r c w
  · exact mright_some r c b o cap l w (Lib.hid h1) (Lib.hid h2)
end Go.Proofs.YtnpbnpilhmbpoaaGreat
