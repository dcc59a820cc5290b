/- The reference's test of a track. -/
import Derived.Test.YtnpbnpilhmbpoaaGreatU1
import Derived.Deep.QuietTactic
import Derived.BigQuiet
set_option linter.unusedVariables false
namespace Go.Proofs.YtnpbnpilhmbpoaaGreat
open Go.RowKit

def trow (r1 c1 : Int) (s1 : Value) (r2 c2 : Int) (s2 : Value) : Array Value := #[.int .i64 r1, .int .i64 c1, s1, .int .i64 r2, .int .i64 c2, s2]

/-- Row i of n, column j: where it stands. -/
theorem at_in {i j n : Nat} (hi : i < n) (hj : j < n) (hn : n ≤ 8) : i * n + j < n * n ∧ n * n ≤ 64 := by
  have a : (i + 1) * n ≤ n * n := Nat.mul_le_mul_right n hi
  have b : n * n ≤ 8 * 8 := Nat.mul_le_mul hn hn
  rw [Nat.add_mul] at a
  omega

set_option maxHeartbeats 2000000 in
theorem tright_some (r1 c1 r2 c2 : Int) (s1 : Value) (b o cap : Nat) (l : List Int) (w : World) (hb : Hid (b < w.heap.size)) (hl : Hid (∀ j (hj : j < l.length), w.cell? ⟨b, o + j, none⟩ = some (.int .i64 l[j])))
    (R1 : Bool → Prop) (H1 : Hid (∀ W, Ext w W → Calls Tryz.prog 176 #[.agg #[.int .i64 r1, .int .i64 c1, s1]] W (SaysB W R1)))
    (H2 : Hid (∀ W, Ext w W → Calls Tryz.prog 176 #[.agg #[.int .i64 r2, .int .i64 c2, .slice (some ⟨b, o, none⟩) l.length cap]] W (SaysB W fun x => x = true → MatFit r2 c2 l.length))) :
    Calls Tryz.prog 114 #[.agg #[.int .i64 r1, .int .i64 c1, s1, .int .i64 r2, .int .i64 c2, .slice (some ⟨b, o, none⟩) l.length cap]] w (SaysB w fun _ => True) := by
  go_enter Tryz.func114, Tryz.ntmps114
  go_wp2_with fail
  have st := (Own.start w).push #[.int .i64 r1, .int .i64 c1, s1, .int .i64 r2, .int .i64 c2, .slice (some ⟨b, o, none⟩) l.length cap] 38 _ rfl
  replace st : Own w _ [w.heap.size] [(#[.int .i64 r1, .int .i64 c1, s1, .int .i64 r2, .int .i64 c2, .slice (some ⟨b, o, none⟩) l.length cap], 38)] := st
  refine (H1.out _ st.x).mono ?_
  rintro e w1 ⟨x, rfl, hx, hxx⟩
  replace st := st.ext hxx
  clear hx hxx
  have km := st.cell 0 rfl rfl
  go_wp2_with fail
  clear km
  refine (H2.out _ st.x).mono ?_
  rintro e w2 ⟨y, rfl, hy, hxx⟩
  replace st := st.ext hxx
  clear hxx
  have km := st.cell 0 rfl rfl
  replace hy := Lib.hid hy
  cases x
  · go_wp2
    go_ret
    exact SaysB.mk trivial st.x
  cases y
  · go_wp2
    go_ret
    exact SaysB.mk trivial st.x
  cases h1 : (c1 != 1)
  rotate_left
  · go_wp2
    go_ret
    exact SaysB.mk trivial st.x
  cases h2 : (r2 != r1)
  rotate_left
  · go_wp2
    go_ret
    exact SaysB.mk trivial st.x
  cases h3 : (c2 != r1)
  rotate_left
  · go_wp2
    go_ret
    exact SaysB.mk trivial st.x
  have e2 : r2 = r1 := by simpa using h2
  have e3 : c2 = r1 := by simpa using h3
  obtain ⟨f1, f2, f3, f4, f5⟩ := hy.out (by first | rfl | trivial)
  obtain ⟨n, rfl⟩ : ∃ n : Nat, r1 = n := ⟨r1.toNat, by omega⟩
  have e1 : c1 = 1 := by simpa using h1
  subst e1 e2 e3
  have hn : Hid (l.length = n * n) := Lib.hid (by exact_mod_cast f5)
  have hn8 : Hid (n ≤ 8) := Lib.hid (by omega)
  obtain ⟨m, hm⟩ : ∃ m, m = l.length := ⟨_, rfl⟩
  rw [← hm] at st km hn ⊢
  replace hm := Lib.hid hm
  clear f1 f2 f3 f4 f5 hy H1 H2
  have CELL : Hid (∀ W, Ext w W → ∀ i, i < m → ∃ v, W.cell? ⟨b, o + i, none⟩ = some (.int .i64 v)) := Lib.hid fun W hW i hi => ⟨l[i]'(by have := hm.out; omega), by rw [hW.cell b (o + i) hb.out]; exact hl.out i _⟩
  have AT : Hid (∀ i j : Nat, i < n → j < n → ∃ x y : Nat, wrap64 ((i : Int) * (n : Int)) = (x : Int) ∧ wrap64 ((x : Int) + (j : Int)) = (y : Int) ∧ y < m) := Lib.hid fun i j hi hj => by
    obtain ⟨a1, a2⟩ := at_in hi hj hn8.out
    have a3 := hn.out
    refine ⟨i * n, i * n + j, ?_, ?_, by omega⟩
    · rw [← Int.natCast_mul]; unfold wrap64; omega
    · unfold wrap64; omega
  replace st := Lib.hid st
  have km := st.out.cell 0 rfl rfl
  go_wp2
  clear km
  go_loopw [6] (fun iv wr => ∃ k : Nat, k ≤ n ∧ iv = .int .i64 k ∧ Hid (Own w wr [w.heap.size] [(#[.int .i64 n, .int .i64 1, s1, .int .i64 n, .int .i64 n, .slice (some ⟨b, o, none⟩) m cap], 38)])) (fun iv _ => n - (intOf iv).toNat)
  case atStart => exact ⟨0, by omega, rfl, st⟩
  case round =>
    clear st
    obtain ⟨k, hk, rfl, st⟩ := hrel
    have km := st.out.cell 0 rfl rfl
    by_cases hkn : k = n
    · subst hkn
      go_wp2
      go_ret
      exact SaysB.mk trivial st.out.x
    · have hk2 : (k : Int) < n := by omega
      obtain ⟨x, y, e1, e2, hy⟩ := AT.out k k (by omega) (by omega)
      obtain ⟨v, ky⟩ := CELL.out wr st.out.x y hy
      have hy2 : (y : Int) < m := by omega
      by_cases hv : v < 0
      · go_wp2
        go_ret
        exact SaysB.mk trivial st.out.x
      · go_wp2
        clear e1 e2 ky hy2 hv km
        have wk : wrap64 ((k : Int) + 1) = ((k + 1 : Nat) : Int) := by have := hn8.out; unfold wrap64; omega
        replace wk := Lib.hid wk
        go_loopw [7] (fun jv wr => ∃ j : Nat, j ≤ k ∧ jv = .int .i64 j ∧ Hid (Own w wr [w.heap.size] [(#[.int .i64 n, .int .i64 1, s1, .int .i64 n, .int .i64 n, .slice (some ⟨b, o, none⟩) m cap], 38)])) (fun jv _ => k - (intOf jv).toNat)
        case atStart => exact ⟨0, by omega, rfl, st⟩
        case round =>
          clear st
          obtain ⟨j, hj, rfl, st⟩ := hrel
          by_cases hjk : j = k
          · subst hjk
            go_wp2
            first
              | exact ⟨⟨j + 1, by omega, by go_num, st⟩, by simp only [intOf]; omega⟩
              | (rw [wk.out]; exact ⟨⟨j + 1, by omega, by go_num, st⟩, by simp only [intOf]; omega⟩)
          · have hj2 : (j : Int) < k := by omega
            obtain ⟨x, y, e1, e2, hy⟩ := AT.out k j (by omega) (by omega)
            obtain ⟨x', y', e1', e2', hy'⟩ := AT.out j k (by omega) (by omega)
            have km := st.out.cell 0 rfl rfl
            obtain ⟨v, ky⟩ := CELL.out wr st.out.x y hy
            obtain ⟨v', ky'⟩ := CELL.out wr st.out.x y' hy'
            have hy2 : (y : Int) < m := by omega
            have hy3 : (y' : Int) < m := by omega
            have wj : wrap64 ((j : Int) + 1) = ((j + 1 : Nat) : Int) := by have := hn8.out; unfold wrap64; omega
            replace wj := Lib.hid wj
            cases hv : (v != v')
            · go_wp2
              go_quiet (fail)
              go_wp2
              rw [wj.out]
              exact ⟨⟨j + 1, by omega, rfl, Lib.hid (st.out.ext ((Ext.refl wr).drewN _))⟩, by simp only [intOf]; omega⟩
            · go_wp2
              go_quiet (fail)
              go_wp2
              go_ret
              exact SaysB.mk trivial (st.out.x.drewN _)

set_option maxHeartbeats 1000000 in
theorem tright_none (r1 c1 r2 c2 : Int) (s1 : Value) (w : World)
    (R1 : Bool → Prop) (H1 : Hid (∀ W, Ext w W → Calls Tryz.prog 176 #[.agg #[.int .i64 r1, .int .i64 c1, s1]] W (SaysB W R1)))
    (H2 : Hid (∀ W, Ext w W → Calls Tryz.prog 176 #[.agg #[.int .i64 r2, .int .i64 c2, .slice none 0 0]] W (SaysB W fun x => x = false))) :
    Calls Tryz.prog 114 #[.agg #[.int .i64 r1, .int .i64 c1, s1, .int .i64 r2, .int .i64 c2, .slice none 0 0]] w (SaysB w fun _ => True) := by
  go_enter Tryz.func114, Tryz.ntmps114
  go_wp2_with fail
  have st := (Own.start w).push #[.int .i64 r1, .int .i64 c1, s1, .int .i64 r2, .int .i64 c2, .slice none 0 0] 38 _ rfl
  replace st : Own w _ [w.heap.size] [(#[.int .i64 r1, .int .i64 c1, s1, .int .i64 r2, .int .i64 c2, .slice none 0 0], 38)] := st
  refine (H1.out _ st.x).mono ?_
  rintro e w1 ⟨x, rfl, hx, hxx⟩
  replace st := st.ext hxx
  clear hx hxx
  have km := st.cell 0 rfl rfl
  go_wp2_with fail
  clear km
  refine (H2.out _ st.x).mono ?_
  rintro e w2 ⟨y, rfl, hy, hxx⟩
  replace st := st.ext hxx
  clear hxx
  have km := st.cell 0 rfl rfl
  subst hy
  cases x
  all_goals
    go_wp2
    go_ret
    exact SaysB.mk trivial st.x

theorem matFit0 {r c : Int} (h : MatFit r c 0) : False := by
  obtain ⟨h1, h2, h3, h4, h5⟩ := h
  have := mul_in h1 h2 h3 h4
  omega

theorem tright_calls (r1 c1 r2 c2 : Int) (s1 s2 : Value) (l1 l2 : List Int) (w : World) (h1 : Sl w s1 l1) (h2 : Sl w s2 l2) :
    Calls Tryz.prog 114 #[.agg (trow r1 c1 s1 r2 c2 s2)] w (SaysB w fun _ => True) := by
  have H1 : ∀ W, Ext w W → Calls Tryz.prog 176 #[.agg #[.int .i64 r1, .int .i64 c1, s1]] W (SaysB W fun x => x = true → MatFit r1 c1 l1.length) := fun W hW => mright_calls r1 c1 s1 l1 W (h1.ext hW)
  have H2 : ∀ W, Ext w W → Calls Tryz.prog 176 #[.agg #[.int .i64 r2, .int .i64 c2, s2]] W (SaysB W fun x => x = true → MatFit r2 c2 l2.length) := fun W hW => mright_calls r2 c2 s2 l2 W (h2.ext hW)
  rcases h2 with ⟨rfl, rfl⟩ | ⟨b, o, cap, rfl, hb, hl⟩
  · refine tright_none r1 c1 r2 c2 s1 w _ (Lib.hid H1) (Lib.hid fun W hW => (H2 W hW).mono ?_)
    rintro e w' ⟨x, he, hx, hxx⟩
    refine ⟨x, he, ?_, hxx⟩
    cases x
    · rfl
    · exact (matFit0 (hx rfl)).elim
  · exact tright_some r1 c1 r2 c2 s1 b o cap l2 w (Lib.hid hb) (Lib.hid hl) _ (Lib.hid H1) (Lib.hid H2)
end Go.Proofs.YtnpbnpilhmbpoaaGreat
