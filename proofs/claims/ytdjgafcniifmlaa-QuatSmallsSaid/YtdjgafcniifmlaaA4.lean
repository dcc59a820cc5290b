/- Unit, Turn, Small; the head of the statements of layer 4. -/
import Derived.Test.YtdjgafcniifmlaaA3
set_option linter.unusedVariables false
namespace Go.Proofs.Ytdjgafcniifmlaa
open Go.RowKit

theorem norm_own {w wr : World} {B : List Nat} {C : List (Array Value × TypeId)} (st : Own w wr B C) (a b c d : Int) :
    Calls Try.prog 18 #[.agg #[.int .i64 a, .int .i64 b, .int .i64 c, .int .i64 d]] wr fun e w' => e = .returned (.tuple #[.int .i64 (normI a b c d), .bool (normB a b c d)]) ∧ Own w w' B C :=
  (norm_calls a b c d wr).mono fun e w' ⟨he, hw⟩ => ⟨he, st.ext hw⟩

def uarr (a b c d s : Int) : Nat → Array Value
  | 0 => #[.int .i64 a, .int .i64 b, .int .i64 c, .int .i64 d]
  | 1 => #[.int .i64 (divI a s), .int .i64 b, .int .i64 c, .int .i64 d]
  | 2 => #[.int .i64 (divI a s), .int .i64 (divI b s), .int .i64 c, .int .i64 d]
  | 3 => #[.int .i64 (divI a s), .int .i64 (divI b s), .int .i64 (divI c s), .int .i64 d]
  | _ => #[.int .i64 (divI a s), .int .i64 (divI b s), .int .i64 (divI c s), .int .i64 (divI d s)]
def uflag (f : Bool) (a b c d s : Int) : Nat → Bool
  | 0 => (f)
  | 1 => (f || divB a s)
  | 2 => (f || divB a s || divB b s)
  | 3 => (f || divB a s || divB b s || divB c s)
  | _ => (f || divB a s || divB b s || divB c s || divB d s)

/-- What 'Unit' answers: the root of the norm is s. -/
def unitQ (a b c d s : Int) : Array Value := if s = 0 then #[.int .i64 16777216, .int .i64 0, .int .i64 0, .int .i64 0] else #[.int .i64 (divI a s), .int .i64 (divI b s), .int .i64 (divI c s), .int .i64 (divI d s)]
def unitF (f : Bool) (a b c d s : Int) : Bool := if s = 0 then true else (f || divB a s || divB b s || divB c s || divB d s)

set_option maxHeartbeats 1000000 in
theorem unit_zero (a b c d : Int) (f : Bool) (HF : Hid ((normB a b c d || sqrtB (normI a b c d)) = f)) (w : World)
    (SQ : Hid (∀ w, Calls Try.prog 25 #[.int .i64 (normI a b c d)] w fun e w' => e = .returned (.tuple #[.int .i64 0, .bool (sqrtB (normI a b c d))]) ∧ w = w')) :
    Calls Try.prog 27 #[.agg #[.int .i64 a, .int .i64 b, .int .i64 c, .int .i64 d]] w fun e w' => e = .returned (.tuple #[.agg #[.int .i64 16777216, .int .i64 0, .int .i64 0, .int .i64 0], .bool true]) ∧ Ext w w' := by
  go_enter Try.func27, Try.ntmps27
  go_wp2_with fail
  have st := (((Own.start w).push #[.int .i64 a, .int .i64 b, .int .i64 c, .int .i64 d] 24 _ rfl).push #[.int .i64 0, .int .i64 0, .int .i64 0, .int .i64 0] 24 (w.heap.size + 1) (by simp)).push #[.bool false] 54 (w.heap.size + 1 + 1) (by simp)
  replace st : Own w _ [w.heap.size, w.heap.size + 1, w.heap.size + 1 + 1] [(#[.int .i64 a, .int .i64 b, .int .i64 c, .int .i64 d], 24), (#[.int .i64 0, .int .i64 0, .int .i64 0, .int .i64 0], 24), (#[.bool false], 54)] := st
  generalize w.heap.size + 1 + 1 = bf at *
  generalize w.heap.size + 1 = br at *
  obtain ⟨bq, hbq⟩ : ∃ bq, bq = w.heap.size := ⟨_, rfl⟩
  rw [← hbq] at st ⊢
  clear hbq
  refine (norm_own st _ _ _ _).mono ?_
  rintro e w1 ⟨rfl, hst⟩
  replace st := hst
  clear hst
  go_wp2_with fail
  refine (one_own st 2 rfl rfl _ _).mono ?_
  rintro e w2 ⟨rfl, hst⟩
  replace st : Own w w2 [bq, br, bf] [(#[.int .i64 a, .int .i64 b, .int .i64 c, .int .i64 d], 24), (#[.int .i64 0, .int .i64 0, .int .i64 0, .int .i64 0], 24), (#[.bool (normB a b c d)], 54)] := hst
  clear hst
  go_wp2_with fail
  refine (SQ.out _).mono ?_
  rintro e w3 ⟨rfl, rfl⟩
  go_wp2_with fail
  refine (one_own st 2 rfl rfl _ _).mono ?_
  rintro e w3 ⟨rfl, hst⟩
  replace st : Own w w3 [bq, br, bf] [(#[.int .i64 a, .int .i64 b, .int .i64 c, .int .i64 d], 24), (#[.int .i64 0, .int .i64 0, .int .i64 0, .int .i64 0], 24), (#[.bool f], 54)] := by rw [← HF.out]; exact hst
  clear hst HF SQ
  have kr := st.cell 1 rfl rfl
  have zr := st.frozen 1 rfl rfl
  go_wp2
  have st4 := (((st.set 1 rfl rfl 0 (.int .i64 16777216)).set 1 rfl rfl 1 (.int .i64 0)).set 1 rfl rfl 2 (.int .i64 0)).set 1 rfl rfl 3 (.int .i64 0)
  exact bodyPost_ret (results_row_tmp Try.results27 _ _ _ _ _ _ rfl (st4.row 1 rfl rfl) Try.underlying24 rfl (by kernel_rfl)) rfl ⟨rfl, st4.x⟩

set_option maxHeartbeats 1000000 in
theorem unit_non (a b c d s x0 x1 x2 x3 : Int) (f g : Bool) (HX : Hid (divI a s = x0 ∧ divI b s = x1 ∧ divI c s = x2 ∧ divI d s = x3 ∧ (f || divB a s || divB b s || divB c s || divB d s) = g)) (HF : Hid ((normB a b c d || sqrtB (normI a b c d)) = f)) (w : World) (hs' : (s == 0) = false)
    (SQ : Hid (∀ w, Calls Try.prog 25 #[.int .i64 (normI a b c d)] w fun e w' => e = .returned (.tuple #[.int .i64 s, .bool (sqrtB (normI a b c d))]) ∧ w = w')) :
    Calls Try.prog 27 #[.agg #[.int .i64 a, .int .i64 b, .int .i64 c, .int .i64 d]] w fun e w' => e = .returned (.tuple #[.agg #[.int .i64 x0, .int .i64 x1, .int .i64 x2, .int .i64 x3], .bool g]) ∧ Ext w w' := by
  go_enter Try.func27, Try.ntmps27
  go_wp2_with fail
  have st := (((Own.start w).push #[.int .i64 a, .int .i64 b, .int .i64 c, .int .i64 d] 24 _ rfl).push #[.int .i64 0, .int .i64 0, .int .i64 0, .int .i64 0] 24 (w.heap.size + 1) (by simp)).push #[.bool false] 54 (w.heap.size + 1 + 1) (by simp)
  replace st : Own w _ [w.heap.size, w.heap.size + 1, w.heap.size + 1 + 1] [(#[.int .i64 a, .int .i64 b, .int .i64 c, .int .i64 d], 24), (#[.int .i64 0, .int .i64 0, .int .i64 0, .int .i64 0], 24), (#[.bool false], 54)] := st
  generalize w.heap.size + 1 + 1 = bf at *
  generalize w.heap.size + 1 = br at *
  obtain ⟨bq, hbq⟩ : ∃ bq, bq = w.heap.size := ⟨_, rfl⟩
  rw [← hbq] at st ⊢
  clear hbq
  refine (norm_own st _ _ _ _).mono ?_
  rintro e w1 ⟨rfl, hst⟩
  replace st := hst
  clear hst
  go_wp2_with fail
  refine (one_own st 2 rfl rfl _ _).mono ?_
  rintro e w2 ⟨rfl, hst⟩
  replace st : Own w w2 [bq, br, bf] [(#[.int .i64 a, .int .i64 b, .int .i64 c, .int .i64 d], 24), (#[.int .i64 0, .int .i64 0, .int .i64 0, .int .i64 0], 24), (#[.bool (normB a b c d)], 54)] := hst
  clear hst
  go_wp2_with fail
  refine (SQ.out _).mono ?_
  rintro e w3 ⟨rfl, rfl⟩
  go_wp2_with fail
  refine (one_own st 2 rfl rfl _ _).mono ?_
  rintro e w3 ⟨rfl, hst⟩
  replace st : Own w w3 [bq, br, bf] [(#[.int .i64 a, .int .i64 b, .int .i64 c, .int .i64 d], 24), (#[.int .i64 0, .int .i64 0, .int .i64 0, .int .i64 0], 24), (#[.bool f], 54)] := by rw [← HF.out]; exact hst
  clear hst HF SQ
  have kq := st.cell 0 rfl rfl
  go_wp2
  go_loopw [22] (fun iv wr => ∃ k : Nat, k ≤ 4 ∧ iv = .int .i64 k ∧ Hid (Own w wr [bq, br, bf] [(uarr a b c d s k, 24), (#[.int .i64 0, .int .i64 0, .int .i64 0, .int .i64 0], 24), (#[.bool (uflag f a b c d s k)], 54)])) (fun iv _ => 4 - (intOf iv).toNat)
  case atStart => exact ⟨0, by omega, rfl, st⟩
  case round =>
    clear st kq
    obtain ⟨k, hk, rfl, st⟩ := hrel
    have : k = 0 ∨ k = 1 ∨ k = 2 ∨ k = 3 ∨ k = 4 := by omega
    rcases this with rfl | rfl | rfl | rfl | rfl
    · -- round 0
      replace st : Own w wr [bq, br, bf] [(#[.int .i64 a, .int .i64 b, .int .i64 c, .int .i64 d], 24), (#[.int .i64 0, .int .i64 0, .int .i64 0, .int .i64 0], 24), (#[.bool (f)], 54)] := st.out
      have ix : ∀ w, (Instr.index 24 (.agg #[.int .i64 a, .int .i64 b, .int .i64 c, .int .i64 d]) (.int .i64 0)).run Try.prog w = .ok (.int .i64 a) w := fun _ => by kernel_rfl
      go_wp2_with fail
      refine (div_calls _ _ _).mono ?_
      rintro e w1 ⟨rfl, hx⟩
      replace st := st.ext hx
      clear hx
      go_wp2_with fail
      refine (one_own st 2 rfl rfl _ _).mono ?_
      rintro e w2 ⟨rfl, hst⟩
      replace st : Own w w2 [bq, br, bf] [(#[.int .i64 a, .int .i64 b, .int .i64 c, .int .i64 d], 24), (#[.int .i64 0, .int .i64 0, .int .i64 0, .int .i64 0], 24), (#[.bool (f || divB a s)], 54)] := hst
      clear hst
      have kq := st.cell 0 rfl rfl 0
      have zq := st.frozen 0 rfl rfl 0
      go_wp2
      have st2 := st.set 0 rfl rfl 0 (.int .i64 (divI a s))
      go_roundw
      case rel => exact ⟨1, by omega, by go_num, st2⟩
      case measure => simp [intOf]
    · -- round 1
      replace st : Own w wr [bq, br, bf] [(#[.int .i64 (divI a s), .int .i64 b, .int .i64 c, .int .i64 d], 24), (#[.int .i64 0, .int .i64 0, .int .i64 0, .int .i64 0], 24), (#[.bool (f || divB a s)], 54)] := st.out
      have ix : ∀ w, (Instr.index 24 (.agg #[.int .i64 a, .int .i64 b, .int .i64 c, .int .i64 d]) (.int .i64 1)).run Try.prog w = .ok (.int .i64 b) w := fun _ => by kernel_rfl
      go_wp2_with fail
      refine (div_calls _ _ _).mono ?_
      rintro e w1 ⟨rfl, hx⟩
      replace st := st.ext hx
      clear hx
      go_wp2_with fail
      refine (one_own st 2 rfl rfl _ _).mono ?_
      rintro e w2 ⟨rfl, hst⟩
      replace st : Own w w2 [bq, br, bf] [(#[.int .i64 (divI a s), .int .i64 b, .int .i64 c, .int .i64 d], 24), (#[.int .i64 0, .int .i64 0, .int .i64 0, .int .i64 0], 24), (#[.bool (f || divB a s || divB b s)], 54)] := hst
      clear hst
      have kq := st.cell 0 rfl rfl 1
      have zq := st.frozen 0 rfl rfl 1
      go_wp2
      have st2 := st.set 0 rfl rfl 1 (.int .i64 (divI b s))
      go_roundw
      case rel => exact ⟨2, by omega, by go_num, st2⟩
      case measure => simp [intOf]
    · -- round 2
      replace st : Own w wr [bq, br, bf] [(#[.int .i64 (divI a s), .int .i64 (divI b s), .int .i64 c, .int .i64 d], 24), (#[.int .i64 0, .int .i64 0, .int .i64 0, .int .i64 0], 24), (#[.bool (f || divB a s || divB b s)], 54)] := st.out
      have ix : ∀ w, (Instr.index 24 (.agg #[.int .i64 a, .int .i64 b, .int .i64 c, .int .i64 d]) (.int .i64 2)).run Try.prog w = .ok (.int .i64 c) w := fun _ => by kernel_rfl
      go_wp2_with fail
      refine (div_calls _ _ _).mono ?_
      rintro e w1 ⟨rfl, hx⟩
      replace st := st.ext hx
      clear hx
      go_wp2_with fail
      refine (one_own st 2 rfl rfl _ _).mono ?_
      rintro e w2 ⟨rfl, hst⟩
      replace st : Own w w2 [bq, br, bf] [(#[.int .i64 (divI a s), .int .i64 (divI b s), .int .i64 c, .int .i64 d], 24), (#[.int .i64 0, .int .i64 0, .int .i64 0, .int .i64 0], 24), (#[.bool (f || divB a s || divB b s || divB c s)], 54)] := hst
      clear hst
      have kq := st.cell 0 rfl rfl 2
      have zq := st.frozen 0 rfl rfl 2
      go_wp2
      have st2 := st.set 0 rfl rfl 2 (.int .i64 (divI c s))
      go_roundw
      case rel => exact ⟨3, by omega, by go_num, st2⟩
      case measure => simp [intOf]
    · -- round 3
      replace st : Own w wr [bq, br, bf] [(#[.int .i64 (divI a s), .int .i64 (divI b s), .int .i64 (divI c s), .int .i64 d], 24), (#[.int .i64 0, .int .i64 0, .int .i64 0, .int .i64 0], 24), (#[.bool (f || divB a s || divB b s || divB c s)], 54)] := st.out
      have ix : ∀ w, (Instr.index 24 (.agg #[.int .i64 a, .int .i64 b, .int .i64 c, .int .i64 d]) (.int .i64 3)).run Try.prog w = .ok (.int .i64 d) w := fun _ => by kernel_rfl
      go_wp2_with fail
      refine (div_calls _ _ _).mono ?_
      rintro e w1 ⟨rfl, hx⟩
      replace st := st.ext hx
      clear hx
      go_wp2_with fail
      refine (one_own st 2 rfl rfl _ _).mono ?_
      rintro e w2 ⟨rfl, hst⟩
      replace st : Own w w2 [bq, br, bf] [(#[.int .i64 (divI a s), .int .i64 (divI b s), .int .i64 (divI c s), .int .i64 d], 24), (#[.int .i64 0, .int .i64 0, .int .i64 0, .int .i64 0], 24), (#[.bool (f || divB a s || divB b s || divB c s || divB d s)], 54)] := hst
      clear hst
      have kq := st.cell 0 rfl rfl 3
      have zq := st.frozen 0 rfl rfl 3
      go_wp2
      have st2 := st.set 0 rfl rfl 3 (.int .i64 (divI d s))
      go_roundw
      case rel => exact ⟨4, by omega, by go_num, st2⟩
      case measure => simp [intOf]
    · -- the end
      replace st : Own w wr [bq, br, bf] [(#[.int .i64 (divI a s), .int .i64 (divI b s), .int .i64 (divI c s), .int .i64 (divI d s)], 24), (#[.int .i64 0, .int .i64 0, .int .i64 0, .int .i64 0], 24), (#[.bool (f || divB a s || divB b s || divB c s || divB d s)], 54)] := st.out
      obtain ⟨h0, h1, h2, h3, h4⟩ := HX.out
      rw [h4, h0, h1, h2, h3] at st
      clear h0 h1 h2 h3 h4
      have kr := st.cell 1 rfl rfl
      have zr := st.frozen 1 rfl rfl
      have hq := st.cell 0 rfl rfl
      have hf := st.cell 2 rfl rfl
      go_wp2
      replace st := st.drew
      replace hq : ∀ o, wr.drew.cell? ⟨bq, o, none⟩ = _ := hq
      replace hf : ∀ o, wr.drew.cell? ⟨bf, o, none⟩ = _ := hf
      go_region_held3 (fun w' => (∀ o, w'.cell? ⟨bq, o, none⟩ = (#[.int .i64 x0, .int .i64 x1, .int .i64 x2, .int .i64 x3] : Array Value)[o]?) ∧ (∀ o, w'.cell? ⟨bf, o, none⟩ = (#[.bool g] : Array Value)[o]?)) (first | (with_reducible exact ⟨hq, hf⟩) | exact ⟨((((st.set 1 rfl rfl 0 _).set 1 rfl rfl 1 _).set 1 rfl rfl 2 _).set 1 rfl rfl 3 _).cell 0 rfl rfl, ((((st.set 1 rfl rfl 0 _).set 1 rfl rfl 1 _).set 1 rfl rfl 2 _).set 1 rfl rfl 3 _).cell 2 rfl rfl⟩) (fail)
      go_wp2
      have st4 := (((st.set 1 rfl rfl 0 (.int .i64 x0)).set 1 rfl rfl 1 (.int .i64 x1)).set 1 rfl rfl 2 (.int .i64 x2)).set 1 rfl rfl 3 (.int .i64 x3)
      exact bodyPost_ret (results_row_tmp Try.results27 _ _ _ _ _ _ rfl (st4.row 1 rfl rfl) Try.underlying24 rfl (by kernel_rfl)) rfl ⟨rfl, st4.x⟩

theorem unit_calls (a b c d : Int) (w : World) :
    Calls Try.prog 27 #[.agg #[.int .i64 a, .int .i64 b, .int .i64 c, .int .i64 d]] w fun e w' =>
      e = .returned (.tuple #[.agg (unitQ a b c d (sqrtI (normI a b c d))), .bool (unitF (normB a b c d || sqrtB (normI a b c d)) a b c d (sqrtI (normI a b c d)))]) ∧ Ext w w' := by
  by_cases hs : sqrtI (normI a b c d) = 0
  · rw [show unitQ a b c d (sqrtI (normI a b c d)) = #[.int .i64 16777216, .int .i64 0, .int .i64 0, .int .i64 0] from if_pos hs, show unitF (normB a b c d || sqrtB (normI a b c d)) a b c d (sqrtI (normI a b c d)) = true from if_pos hs]
    exact unit_zero a b c d _ (Lib.hid rfl) w (Lib.hid fun w => by have := sqrt_calls (normI a b c d) w; rw [hs] at this; exact this)
  · obtain ⟨s, hs2⟩ : ∃ s, s = sqrtI (normI a b c d) := ⟨_, rfl⟩
    rw [← hs2] at hs ⊢
    rw [show unitQ a b c d s = #[.int .i64 (divI a s), .int .i64 (divI b s), .int .i64 (divI c s), .int .i64 (divI d s)] from if_neg hs, show unitF (normB a b c d || sqrtB (normI a b c d)) a b c d s = _ from if_neg hs]
    exact unit_non a b c d s _ _ _ _ _ _ (Lib.hid ⟨rfl, rfl, rfl, rfl, rfl⟩) (Lib.hid rfl) w (by rw [beq_eq_false_iff_ne]; exact hs) (Lib.hid fun w => by have := sqrt_calls (normI a b c d) w; rw [← hs2] at this; exact this)
end Go.Proofs.Ytdjgafcniifmlaa
