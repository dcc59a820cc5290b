/- A sample's words: the two helpers that lay them. -/
import Derived.Test.YtnpbnpilhmbpoaaGreatU17
set_option linter.unusedVariables false
namespace Go.Proofs.YtnpbnpilhmbpoaaGreat
open Go.RowKit

/-- A call that hands nothing back; behind it the row reads as l. -/
def Lays (w : World) (bo : Nat) (l : List Int) (F : List (Nat × Array Value × TypeId)) (e : Ending) (w' : World) : Prop := e = .returned (.tuple #[]) ∧ ∃ v, Acc w w' bo v v l F

set_option maxRecDepth 10000 in
set_option maxHeartbeats 2000000 in
theorem is_calls {w W : World} {bo : Nat} {v : Value} {l : List Int} {F : List (Nat × Array Value × TypeId)} (h : Hid (Acc w W bo v v l F)) (y : Bool) (hl : Hid (l.length < 1000)) :
    Calls Tryz.prog 206 #[.bool y, .pointer (some ⟨bo, 0, none⟩)] W (Lays w bo (l ++ [if y then 1 else 0]) F) := by
  obtain ⟨n, hn⟩ : ∃ n : Int, (if y then 1 else 0) = n := ⟨_, rfl⟩
  rw [hn]
  have k := h.out.cell
  cases y
  all_goals
    simp at hn
    subst hn
    go_enter Tryz.func206, Tryz.ntmps206
    go_wp2_with (first | (refine wpList_acc (h.out.push _ _) rfl rfl rfl rfl rfl ((h.out.push _ _).at 0 rfl 0) (by have := hl.out; omega) ?_; intro l' p cap W' hl' h2; have f2 := h2.frozen; have k2 := h2.cell; replace h2 := Lib.hid h2))
    go_end0
    have e := hl'.out
    subst e
    exact ⟨rfl, _, h2.out.store.pop⟩

set_option maxRecDepth 10000 in
set_option maxHeartbeats 2000000 in
theorem lay_calls {w W : World} {bo : Nat} {v : Value} {l : List Int} {F : List (Nat × Array Value × TypeId)} (h : Hid (Acc w W bo v v l F)) (i b o n cap : Nat) (c : Array Value) (t : TypeId) (L : List Int)
    (hf : Hid (F[i]? = some (b, c, t))) (hn : Hid (L.length = n)) (hc : Hid (∀ j (hj : j < L.length), c[o + j]? = some (.int .i64 L[j]))) (hl : Hid (l.length + n < 1000)) :
    Calls Tryz.prog 207 #[.slice (some ⟨b, o, none⟩) n cap, .pointer (some ⟨bo, 0, none⟩)] W (Lays w bo (l ++ L) F) := by
  go_enter Tryz.func207, Tryz.ntmps207
  go_wp2
  go_loopw [7] (fun iv wr => ∃ k : Nat, k ≤ n ∧ iv = .int .i64 k ∧ Hid (∃ v, Acc w wr bo v v (l ++ L.take k) F)) (fun iv _ => n - (intOf iv).toNat)
  case atStart => exact ⟨0, by omega, rfl, Lib.hid ⟨v, by simpa using h.out⟩⟩
  case round =>
    obtain ⟨k, hk, rfl, st⟩ := hrel
    obtain ⟨v2, st⟩ := st.out
    by_cases hkn : k = n
    · subst hkn
      replace st := Lib.hid st
      go_wp2
      go_end0
      exact ⟨rfl, v2, by have h2 := st.out; rw [List.take_of_length_le (by have := hn.out; omega)] at h2; exact h2⟩
    · have hk2 : (k : Int) < n := by omega
      have hk3 : k < L.length := by have := hn.out; omega
      have wk0 : wrap64 ((k : Int) + 1) = ((k + 1 : Nat) : Int) := by have := hl.out; unfold wrap64; omega
      have wk := Lib.hid wk0
      clear wk0
      have kx : wr.cell? ⟨b, o + k, none⟩ = some (.int .i64 L[k]) := by rw [st.at i hf.out (o + k)]; exact hc.out k hk3
      have g : Hid (l ++ L.take k ++ [L[k]] = l ++ L.take (k + 1)) := Lib.hid (by rw [List.append_assoc, List.take_append_getElem])
      have gl : Hid ((l ++ L.take k).length < 1000000) := Lib.hid (by have := hl.out; simp; omega)
      generalize L[k] = x at kx g
      replace hk3 := Lib.hid hk3
      have kv := st.cell
      replace st := Lib.hid st
      go_wp2_with (first | (refine wpList_acc (st.out.push _ _) rfl rfl rfl rfl rfl ((st.out.push _ _).at 0 rfl 0) gl.out ?_; intro l' p cap W' hl' h2; have f2 := h2.frozen; have k2 := h2.cell; replace h2 := Lib.hid h2))
      rw [wk.out]
      have e := hl'.out
      rw [g.out] at e
      subst e
      exact ⟨⟨k + 1, by omega, rfl, Lib.hid ⟨_, h2.out.store.pop⟩⟩, by simp only [intOf]; omega⟩
end Go.Proofs.YtnpbnpilhmbpoaaGreat
