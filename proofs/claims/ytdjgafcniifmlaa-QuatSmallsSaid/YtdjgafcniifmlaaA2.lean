/- quat.Conj, Norm, Unit, Turn, Small, Right walked. -/
import Derived.Test.YtdjgafcniifmlaaA1
import Derived.Test.YtdjgafcniifmlaaE1
import Derived.Deep.QuietTactic
import Derived.BigQuiet
set_option linter.unusedVariables false
namespace Go.Proofs.Ytdjgafcniifmlaa
open Go.RowKit

def q4 (a b c d : Int) : Array Value := #[.int .i64 a, .int .i64 b, .int .i64 c, .int .i64 d]

theorem less_own {w wr : World} {B : List Nat} {C : List (Array Value × TypeId)} (st : Own w wr B C) (i : Nat) {b : Nat} {f : Bool} {t : TypeId} (hb : B[i]? = some b) (hc : C[i]? = some (#[.bool f], t)) (a : Int) :
    Calls Try.prog 32 #[.pointer (some ⟨b, 0, none⟩), .int .i64 a] wr fun e w' => e = .returned (.int .i64 (subI 0 a)) ∧ Own w w' B (C.set i (#[.bool (f || subB 0 a)], t)) :=
  (less_calls b f a wr (st.cell i hb hc 0) (st.frozen i hb hc 0)).mono fun e w' ⟨he, hw⟩ => ⟨he, hw ▸ st.set i hb hc 0 _⟩
theorem one_own {w wr : World} {B : List Nat} {C : List (Array Value × TypeId)} (st : Own w wr B C) (i : Nat) {b : Nat} {f : Bool} {t : TypeId} (hb : B[i]? = some b) (hc : C[i]? = some (#[.bool f], t)) (a : Int) (odd : Bool) :
    Calls Try.prog 31 #[.pointer (some ⟨b, 0, none⟩), .int .i64 a, .bool odd] wr fun e w' => e = .returned (.int .i64 a) ∧ Own w w' B (C.set i (#[.bool (f || odd)], t)) :=
  (one_calls b f odd a wr (st.cell i hb hc 0) (st.frozen i hb hc 0)).mono fun e w' ⟨he, hw⟩ => ⟨he, hw ▸ st.set i hb hc 0 _⟩

set_option maxHeartbeats 1000000 in
theorem conj_calls (a b c d : Int) (w : World) :
    Calls Try.prog 17 #[.agg (q4 a b c d)] w fun e w' => e = .returned (.agg (q4 a (subI 0 b) (subI 0 c) (subI 0 d))) ∧ Ext w w' := by
  unfold q4
  go_enter Try.func17, Try.ntmps17
  go_wp2
  have st := (((Own.start w).push #[.int .i64 a, .int .i64 b, .int .i64 c, .int .i64 d] 24 _ rfl).push #[.int .i64 0, .int .i64 0, .int .i64 0, .int .i64 0] 24 (w.heap.size + 1) (by simp)).push #[.bool false] 54 (w.heap.size + 1 + 1) (by simp)
  replace st : Own w _ [w.heap.size, w.heap.size + 1, w.heap.size + 1 + 1] [(#[.int .i64 a, .int .i64 b, .int .i64 c, .int .i64 d], 24), (#[.int .i64 0, .int .i64 0, .int .i64 0, .int .i64 0], 24), (#[.bool false], 54)] := st.drew
  generalize w.heap.size + 1 + 1 = bf at *
  generalize w.heap.size + 1 = br at *
  obtain ⟨bq, hbq⟩ : ∃ bq, bq = w.heap.size := ⟨_, rfl⟩
  rw [← hbq] at st ⊢
  clear hbq
  have kq := st.cell 0 rfl rfl
  have kr : True := trivial
  have zr : True := trivial
  go_region_held3 (fun w' => (∀ o, w'.cell? ⟨bq, o, none⟩ = (#[.int .i64 a, .int .i64 b, .int .i64 c, .int .i64 d] : Array Value)[o]?)) (first | (with_reducible exact kq) | exact ((((st.set 1 rfl rfl 0 _).set 1 rfl rfl 1 _).set 1 rfl rfl 2 _).set 1 rfl rfl 3 _).cell 0 rfl rfl) (first | (go_at_call 32; refine (less_own st 2 rfl rfl _).mono ?_; rintro e w3 ⟨rfl, hst⟩; replace st := hst; clear hst; clear kq kr zr; have kq := st.cell 0 rfl rfl; have kr := st.cell 1 rfl rfl; have zr := st.frozen 1 rfl rfl))
  go_wp2
  have st4 := (((st.set 1 rfl rfl 0 (.int .i64 a)).set 1 rfl rfl 1 (.int .i64 (subI 0 b))).set 1 rfl rfl 2 (.int .i64 (subI 0 c))).set 1 rfl rfl 3 (.int .i64 (subI 0 d))
  exact bodyPost_ret (results_cell_row Try.results17 _ _ _ _ _ (0, 0) _ rfl (st4.row 1 rfl rfl) Try.underlying24 rfl (by kernel_rfl)) rfl ⟨rfl, st4.x⟩

theorem sq_calls (bf bq i : Nat) (x : Int) (f : Bool) (hi : i < 4) (w : World) (hf : w.cell? ⟨bf, 0, none⟩ = some (.bool f)) (hz : w.frozen? ⟨bf, 0, none⟩ = false)
    (hq : w.cell? ⟨bq, i, none⟩ = some (.int .i64 x)) (hqf : bq ≠ bf) :
    Calls Try.prog 35 #[.int .i64 i, .pointer (some ⟨bf, 0, none⟩), .pointer (some ⟨bq, 0, none⟩)] w fun e w' =>
      e = .returned (.int .i64 (mulI x x)) ∧ Ext (w.setCell ⟨bf, 0, none⟩ (.bool (f || mulB x x))) w' := by
  have i0 : (0 : Int) ≤ i := by omega
  have i1 : (i : Int) < 4 := by omega
  go_enter Try.func35, Try.ntmps35
  go_wp2
  have kq : w.drew.cell? ⟨bq, i, none⟩ = some (.int .i64 x) := hq
  have kf : w.drew.cell? ⟨bf, 0, none⟩ = some (.bool f) := hf
  have kz : w.drew.frozen? ⟨bf, 0, none⟩ = false := hz
  have x0 := (Ext.refl w).drew
  clear hf hz hq
  go_region_held3 (fun w' => w'.cell? ⟨bq, i, none⟩ = some (.int .i64 x))
   (first | exact kq | exact cell_far kq bf 0 _ hqf)
   (first | (go_at_call 20; refine (mul_calls _ _ _).mono ?_; rintro e w2 ⟨rfl, hx1⟩; replace kq := cell_ext kq hx1; replace kf := cell_ext kf hx1; replace kz := frozen_ext kz hx1; replace x0 := x0.trans hx1) | (go_at_call 31; refine (one_calls bf f _ _ _ kf kz).mono ?_; rintro e w2 ⟨rfl, rfl⟩))
  go_wp2
  go_ret
  exact ⟨rfl, ext_set x0 _ _ _⟩

theorem sq_own {w wr : World} {B : List Nat} {C : List (Array Value × TypeId)} (st : Own w wr B C) (iq jf : Nat) {bq bf : Nat} {f : Bool} {a b c d : Int} (hb : B[iq]? = some bq) (hc : C[iq]? = some (#[.int .i64 a, .int .i64 b, .int .i64 c, .int .i64 d], 24))
    (hb' : B[jf]? = some bf) (hc' : C[jf]? = some (#[.bool f], 54)) (hne : iq ≠ jf) (i : Int) (i0 : 0 ≤ i) (i1 : i < 4) :
    Calls Try.prog 35 #[.int .i64 i, .pointer (some ⟨bf, 0, none⟩), .pointer (some ⟨bq, 0, none⟩)] wr fun e w' =>
      e = .returned (.int .i64 (mulI (get4 a b c d i) (get4 a b c d i))) ∧ Own w w' B (C.set jf (#[.bool (f || mulB (get4 a b c d i) (get4 a b c d i))], 54)) := by
  have := sq_calls bf bq i.toNat (get4 a b c d i) f (by omega) wr (st.cell jf hb' hc' 0) (st.frozen jf hb' hc' 0) (get4_cell (st.row iq hb hc) i i0 i1) (st.ne iq jf hb hb' hne)
  rw [Int.toNat_of_nonneg i0] at this
  exact this.mono fun e w' ⟨he, hw⟩ => ⟨he, st.flag jf hb' hc' hw⟩

def normI (a b c d : Int) : Int := sumI (mulI a a) [mulI b b, mulI c c, mulI d d]
def normB (a b c d : Int) : Bool := sumB (mulB a a || mulB b b || mulB c c || mulB d d) (mulI a a) [mulI b b, mulI c c, mulI d d]

set_option maxHeartbeats 1000000 in
theorem norm_calls (a b c d : Int) (w : World) :
    Calls Try.prog 18 #[.agg #[.int .i64 a, .int .i64 b, .int .i64 c, .int .i64 d]] w fun e w' => e = .returned (.tuple #[.int .i64 (normI a b c d), .bool (normB a b c d)]) ∧ Ext w w' := by
  have hmf : ∀ (fn : Fn) (first cap : Array Value) (w : World), (Instr.makeFunc fn first cap).run Try.prog w = .ok (.func fn first cap) w := fun _ _ _ _ => rfl
  go_enter Try.func18, Try.ntmps18
  go_wp2_with (first | (go_at_call 35; fail))
  have st := ((Own.start w).push #[.int .i64 a, .int .i64 b, .int .i64 c, .int .i64 d] 24 _ rfl).push #[.bool false] 54 (w.heap.size + 1) (by simp)
  replace st : Own w _ [w.heap.size, w.heap.size + 1] [(#[.int .i64 a, .int .i64 b, .int .i64 c, .int .i64 d], 24), (#[.bool false], 54)] := st
  generalize w.heap.size + 1 = bf at *
  obtain ⟨bq, hbq⟩ : ∃ bq, bq = w.heap.size := ⟨_, rfl⟩
  rw [← hbq] at st ⊢
  clear hbq
  refine (sq_own st 0 1 rfl rfl rfl rfl (by decide) _ (by omega) (by omega)).mono ?_
  rintro e w3 ⟨rfl, hst⟩
  replace st : Own w w3 [bq, bf] [(#[.int .i64 a, .int .i64 b, .int .i64 c, .int .i64 d], 24), (#[.bool (mulB a a)], 54)] := by simpa [get4] using hst
  clear hst
  go_wp2_with (first | (go_at_call 35; fail))
  refine (sq_own st 0 1 rfl rfl rfl rfl (by decide) _ (by omega) (by omega)).mono ?_
  rintro e w4 ⟨rfl, hst⟩
  replace st : Own w w4 [bq, bf] [(#[.int .i64 a, .int .i64 b, .int .i64 c, .int .i64 d], 24), (#[.bool (mulB a a || mulB b b)], 54)] := by simpa [get4] using hst
  clear hst
  go_wp2_with (first | (go_at_call 35; fail))
  refine (sq_own st 0 1 rfl rfl rfl rfl (by decide) _ (by omega) (by omega)).mono ?_
  rintro e w5 ⟨rfl, hst⟩
  replace st : Own w w5 [bq, bf] [(#[.int .i64 a, .int .i64 b, .int .i64 c, .int .i64 d], 24), (#[.bool (mulB a a || mulB b b || mulB c c)], 54)] := by simpa [get4] using hst
  clear hst
  go_wp2_with (first | (go_at_call 35; fail))
  refine (sq_own st 0 1 rfl rfl rfl rfl (by decide) _ (by omega) (by omega)).mono ?_
  rintro e w6 ⟨rfl, hst⟩
  replace st : Own w w6 [bq, bf] [(#[.int .i64 a, .int .i64 b, .int .i64 c, .int .i64 d], 24), (#[.bool (mulB a a || mulB b b || mulB c c || mulB d d)], 54)] := by simpa [get4] using hst
  clear hst
  go_wp2_with (first | (go_at_call 34; fail))
  refine (sum3 (st.row 1 rfl rfl)).mono ?_
  rintro e w7 ⟨rfl, hx⟩
  replace st : Own w w7 [bq, bf] [(#[.int .i64 a, .int .i64 b, .int .i64 c, .int .i64 d], 24), (#[.bool (normB a b c d)], 54)] := st.flag 1 rfl rfl hx
  clear hx
  have kf := st.cell 1 rfl rfl
  go_wp2
  go_quiet (fail)
  go_wp2
  go_ret2
  exact ⟨rfl, st.x.drewN _⟩
end Go.Proofs.Ytdjgafcniifmlaa
