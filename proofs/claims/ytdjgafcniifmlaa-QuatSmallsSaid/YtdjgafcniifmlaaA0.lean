/- Contracts of quat's small functions: the flag, and what a product's term is. -/
import Derived.Test.YtdjgafcniifmlaaQ3
import Derived.Deep.RegionHeld3
set_option linter.unusedVariables false
namespace Go.Proofs.Ytdjgafcniifmlaa
open Go.RowKit

/-- A cell that is there is there in a world that grew. -/
theorem cell_ext {w w' : World} {b o : Nat} {v : Value} (h : w.cell? ⟨b, o, none⟩ = some v) (hx : Ext w w') : w'.cell? ⟨b, o, none⟩ = some v :=
  (hx.cell b o (World.block_lt_of_cell? w _ h)).trans h
theorem cell_alloc {w : World} {b o : Nat} {v : Value} (h : w.cell? ⟨b, o, none⟩ = some v) (x : Obj) : (w.alloc x).cell? ⟨b, o, none⟩ = some v :=
  (World.cell?_alloc_lt _ _ _ (World.block_lt_of_cell? w _ h)).trans h
theorem cell_far {w : World} {b o : Nat} {v : Value} (h : w.cell? ⟨b, o, none⟩ = some v) (b' o' : Nat) (u : Value) (hb : b ≠ b') : (w.setCell ⟨b', o', none⟩ u).cell? ⟨b, o, none⟩ = some v :=
  (World.cell?_setCell_far _ _ _ _ (fun e => hb e.symm)).trans h
theorem frozen_ext {w w' : World} {a : Addr} (h : w.frozen? a = false) (hx : Ext w w') : w'.frozen? a = false := (hx.frozen a).trans h

theorem one_calls (b : Nat) (f odd : Bool) (a : Int) (w : World) (hc : w.cell? ⟨b, 0, none⟩ = some (.bool f)) (hz : w.frozen? ⟨b, 0, none⟩ = false) :
    Calls Try.prog 31 #[.pointer (some ⟨b, 0, none⟩), .int .i64 a, .bool odd] w fun e w' => e = .returned (.int .i64 a) ∧ w.setCell ⟨b, 0, none⟩ (.bool (f || odd)) = w' := by
  cases f
  all_goals
    go_enter Try.func31, Try.ntmps31
    go_wp2
    go_ret
    exact ⟨rfl, rfl⟩

theorem less_calls (b : Nat) (f : Bool) (a : Int) (w : World) (hc : w.cell? ⟨b, 0, none⟩ = some (.bool f)) (hz : w.frozen? ⟨b, 0, none⟩ = false) :
    Calls Try.prog 32 #[.pointer (some ⟨b, 0, none⟩), .int .i64 a] w fun e w' => e = .returned (.int .i64 (subI 0 a)) ∧ w.setCell ⟨b, 0, none⟩ (.bool (f || subB 0 a)) = w' := by
  go_enter Try.func32, Try.ntmps32
  go_wp2_with (first | (go_at_call 24; refine (sub_calls _ _ _).mono ?_; rintro e w2 ⟨rfl, rfl⟩) | (go_at_call 31; refine (one_calls _ f _ _ _ hc hz).mono ?_; rintro e w2 ⟨rfl, rfl⟩))
  go_ret
  exact ⟨rfl, rfl⟩

def termI (s a b : Int) : Int := if s < 0 then subI 0 (mulI a b) else mulI a b
def termB (s a b : Int) : Bool := mulB a b || (decide (s < 0) && subB 0 (mulI a b))

theorem ext_set {w w' : World} (h : Ext w w') (b o : Nat) (v : Value) : Ext (w.setCell ⟨b, o, none⟩ v) (w'.setCell ⟨b, o, none⟩ v) :=
  ⟨h.os, h.tape, h.output, by simpa [World.setCell] using h.size, fun k hk => by
    have hk' : k < w.heap.size := by simpa [World.setCell] using hk
    have e := h.block k hk'
    simp only [World.setCell, Array.getElem?_modify]
    rw [e], fun a => by rw [World.frozen?_setCell, World.frozen?_setCell]; exact h.frozen a⟩

theorem set_set (w : World) (a : Addr) (u v : Value) : (w.setCell a u).setCell a v = w.setCell a v := by
  unfold World.setCell
  congr 1
  apply Array.ext_getElem?
  intro i
  simp only [Array.getElem?_modify]
  split
  · cases w.heap[i]? with
    | none => rfl
    | some x => cases x <;> simp; split <;> simp
  · rfl

theorem term_calls0 (bf bp bq i j : Nat) (s a b : Int) (f : Bool) (hi : i < 4) (hj : j < 4) (w : World) (hf : w.cell? ⟨bf, 0, none⟩ = some (.bool f)) (hz : w.frozen? ⟨bf, 0, none⟩ = false)
    (hp : w.cell? ⟨bp, i, none⟩ = some (.int .i64 a)) (hq : w.cell? ⟨bq, j, none⟩ = some (.int .i64 b)) (s0 : ¬ s < 0) (hpf : bp ≠ bf) (hqf : bq ≠ bf) :
    Calls Try.prog 30 #[.agg #[.int .i64 i, .int .i64 j, .int .i64 s], .pointer (some ⟨bf, 0, none⟩), .pointer (some ⟨bp, 0, none⟩), .pointer (some ⟨bq, 0, none⟩)] w fun e w' =>
      e = .returned (.int .i64 (mulI a b)) ∧ Ext (w.setCell ⟨bf, 0, none⟩ (.bool (f || mulB a b))) w' := by
  have i0 : (0 : Int) ≤ i := by omega
  have i1 : (i : Int) < 4 := by omega
  have j0 : (0 : Int) ≤ j := by omega
  have j1 : (j : Int) < 4 := by omega
  have l1 := World.block_lt_of_cell? w _ hf
  have hne : w.heap.size ≠ bf := World.new_ne w _ hf
  go_enter Try.func30, Try.ntmps30
  go_wp2
  have r1 := Row.new w #[.int .i64 i, .int .i64 j, .int .i64 s] 55
  have kp := cell_alloc hp (.cells #[.int .i64 i, .int .i64 j, .int .i64 s] 55)
  have kq := cell_alloc hq (.cells #[.int .i64 i, .int .i64 j, .int .i64 s] 55)
  have kf := cell_alloc hf (.cells #[.int .i64 i, .int .i64 j, .int .i64 s] 55)
  have x0 : Ext w (w.alloc (.cells #[.int .i64 i, .int .i64 j, .int .i64 s] 55)) := (Ext.refl w).alloc _ _
  have kz := frozen_ext hz x0
  clear hp hq hf hz
  generalize w.alloc (.cells #[.int .i64 i, .int .i64 j, .int .i64 s] 55) = W at *
  replace r1 := r1.drew
  replace x0 := x0.drew
  replace kp : W.drew.cell? _ = _ := kp
  replace kq : W.drew.cell? _ = _ := kq
  replace kf : W.drew.cell? _ = _ := kf
  replace kz : W.drew.frozen? _ = _ := kz
  go_region_held3 (fun w' => (∀ o, w'.cell? ⟨w.heap.size, o, none⟩ = (#[.int .i64 i, .int .i64 j, .int .i64 s] : Array Value)[o]?) ∧ w'.cell? ⟨bp, i, none⟩ = some (.int .i64 a) ∧ w'.cell? ⟨bq, j, none⟩ = some (.int .i64 b))
   (first | exact ⟨r1.cell, kp, kq⟩ | exact ⟨(r1.set_other hne 0 _).cell, cell_far kp bf 0 _ hpf, cell_far kq bf 0 _ hqf⟩)
   (first | (go_at_call 20; refine (mul_calls _ _ _).mono ?_; rintro e w2 ⟨rfl, hx1⟩; replace r1 := r1.ext hx1; replace kp := cell_ext kp hx1; replace kq := cell_ext kq hx1; replace kf := cell_ext kf hx1; replace kz := frozen_ext kz hx1; replace x0 := x0.trans hx1) | (go_at_call 31; refine (one_calls bf f _ _ _ kf kz).mono ?_; rintro e w2 ⟨rfl, rfl⟩))
  have kx := cell_far (r1.cell 2) bf 0 (.bool (f || mulB a b)) hne
  go_wp2
  go_ret
  exact ⟨rfl, ext_set x0 _ _ _⟩
theorem term_calls1 (bf bp bq i j : Nat) (s a b : Int) (f : Bool) (hi : i < 4) (hj : j < 4) (w : World) (hf : w.cell? ⟨bf, 0, none⟩ = some (.bool f)) (hz : w.frozen? ⟨bf, 0, none⟩ = false)
    (hp : w.cell? ⟨bp, i, none⟩ = some (.int .i64 a)) (hq : w.cell? ⟨bq, j, none⟩ = some (.int .i64 b)) (s0 : s < 0) (hpf : bp ≠ bf) (hqf : bq ≠ bf) :
    Calls Try.prog 30 #[.agg #[.int .i64 i, .int .i64 j, .int .i64 s], .pointer (some ⟨bf, 0, none⟩), .pointer (some ⟨bp, 0, none⟩), .pointer (some ⟨bq, 0, none⟩)] w fun e w' =>
      e = .returned (.int .i64 (subI 0 (mulI a b))) ∧ Ext (w.setCell ⟨bf, 0, none⟩ (.bool (f || mulB a b || subB 0 (mulI a b)))) w' := by
  have i0 : (0 : Int) ≤ i := by omega
  have i1 : (i : Int) < 4 := by omega
  have j0 : (0 : Int) ≤ j := by omega
  have j1 : (j : Int) < 4 := by omega
  have l1 := World.block_lt_of_cell? w _ hf
  have hne : w.heap.size ≠ bf := World.new_ne w _ hf
  go_enter Try.func30, Try.ntmps30
  go_wp2
  have r1 := Row.new w #[.int .i64 i, .int .i64 j, .int .i64 s] 55
  have kp := cell_alloc hp (.cells #[.int .i64 i, .int .i64 j, .int .i64 s] 55)
  have kq := cell_alloc hq (.cells #[.int .i64 i, .int .i64 j, .int .i64 s] 55)
  have kf := cell_alloc hf (.cells #[.int .i64 i, .int .i64 j, .int .i64 s] 55)
  have x0 : Ext w (w.alloc (.cells #[.int .i64 i, .int .i64 j, .int .i64 s] 55)) := (Ext.refl w).alloc _ _
  have kz := frozen_ext hz x0
  clear hp hq hf hz
  generalize w.alloc (.cells #[.int .i64 i, .int .i64 j, .int .i64 s] 55) = W at *
  replace r1 := r1.drew
  replace x0 := x0.drew
  replace kp : W.drew.cell? _ = _ := kp
  replace kq : W.drew.cell? _ = _ := kq
  replace kf : W.drew.cell? _ = _ := kf
  replace kz : W.drew.frozen? _ = _ := kz
  go_region_held3 (fun w' => (∀ o, w'.cell? ⟨w.heap.size, o, none⟩ = (#[.int .i64 i, .int .i64 j, .int .i64 s] : Array Value)[o]?) ∧ w'.cell? ⟨bp, i, none⟩ = some (.int .i64 a) ∧ w'.cell? ⟨bq, j, none⟩ = some (.int .i64 b))
   (first | exact ⟨r1.cell, kp, kq⟩ | exact ⟨(r1.set_other hne 0 _).cell, cell_far kp bf 0 _ hpf, cell_far kq bf 0 _ hqf⟩)
   (first | (go_at_call 20; refine (mul_calls _ _ _).mono ?_; rintro e w2 ⟨rfl, hx1⟩; replace r1 := r1.ext hx1; replace kp := cell_ext kp hx1; replace kq := cell_ext kq hx1; replace kf := cell_ext kf hx1; replace kz := frozen_ext kz hx1; replace x0 := x0.trans hx1) | (go_at_call 31; refine (one_calls bf f _ _ _ kf kz).mono ?_; rintro e w2 ⟨rfl, rfl⟩))
  have kx := cell_far (r1.cell 2) bf 0 (.bool (f || mulB a b)) hne
  have kf2 := World.cell?_setCell_same _ ⟨bf, 0, none⟩ (.bool (f || mulB a b)) kf
  have kz2 := (World.frozen?_setCell _ ⟨bf, 0, none⟩ ⟨bf, 0, none⟩ (.bool (f || mulB a b))).trans kz
  go_wp2_with (first | (go_at_call 32; refine (less_calls bf _ _ _ kf2 kz2).mono ?_; rintro e w3 ⟨rfl, rfl⟩))
  go_ret
  exact ⟨rfl, by rw [set_set]; exact ext_set x0 _ _ _⟩
theorem set_self {w : World} {a : Addr} {v : Value} (h : w.cell? a = some v) : w.setCell a v = w := by
  have e : w.heap = (w.setCell a v).heap := by
    apply Array.ext_getElem?
    intro i
    simp only [World.setCell, Array.getElem?_modify]
    split
    · rename_i hi
      subst hi
      unfold World.cell? at h
      cases hb : w.heap[a.block]? with
      | none => rfl
      | some x =>
        cases x with
        | cells c t f =>
          rw [hb] at h
          simp only [Option.map_some, Option.some.injEq, Obj.cells.injEq, and_self, and_true] at h ⊢
          split at h
          · cases h
          · rename_i hs
            rw [if_neg hs]
            apply Array.ext_getElem?
            intro k
            rw [Array.getElem?_setIfInBounds]
            split
            · rename_i hk
              subst hk
              split
              · exact h
              · rename_i hl
                rw [Array.getElem?_eq_none (by omega)] at h; cases h
            · rfl
        | _ => rfl
    · rfl
  unfold World.setCell at e ⊢
  simp only at e
  rw [← e]

def sumI (a : Int) (l : List Int) : Int := l.foldl addI a
def sumB (f : Bool) (a : Int) : List Int → Bool
  | [] => f
  | b :: l => sumB (f || addB a b) (addI a b) l

theorem sumI_snoc (a b : Int) (l : List Int) : sumI a (l ++ [b]) = addI (sumI a l) b := by simp [sumI]
theorem sumB_snoc : ∀ (l : List Int) (f : Bool) (a b : Int), sumB f a (l ++ [b]) = (sumB f a l || addB (sumI a l) b)
  | [], f, a, b => rfl
  | c :: l, f, a, b => by
    show sumB (f || addB a c) (addI a c) (l ++ [b]) = _
    rw [sumB_snoc l]
    rfl

def ints (l : List Int) : Array Value := (l.map (Value.int .i64)).toArray
theorem ints_get {l : List Int} {k : Nat} (h : k < l.length) : (ints l)[k]? = some (.int .i64 l[k]) := by simp [ints, h]

theorem sum_calls (bf bs : Nat) (f : Bool) (a : Int) (l : List Int) (t : TypeId) (hn : bs ≠ bf) (hl : l.length ≤ 8) (w : World) (hf : w.cell? ⟨bf, 0, none⟩ = some (.bool f)) (hz : w.frozen? ⟨bf, 0, none⟩ = false) (hs : Row w bs (ints l) t) :
    Calls Try.prog 34 #[.pointer (some ⟨bf, 0, none⟩), .int .i64 a, .slice (some ⟨bs, 0, none⟩) l.length l.length] w fun e w' =>
      e = .returned (.int .i64 (sumI a l)) ∧ w.setCell ⟨bf, 0, none⟩ (.bool (sumB f a l)) = w' := by
  have HL := Lib.hid hl
  have HS := Lib.hid hs
  clear hs
  go_enter Try.func34, Try.ntmps34
  go_wp2
  go_loopw [1, 11] (fun av iv wr => ∃ k : Nat, k ≤ l.length ∧ iv = .int .i64 k ∧ av = .int .i64 (sumI a (l.take k)) ∧ Hid (w.setCell ⟨bf, 0, none⟩ (.bool (sumB f a (l.take k))) = wr)) (fun _ iv _ => l.length - (intOf iv).toNat)
  case atStart => exact ⟨0, by omega, rfl, rfl, set_self hf⟩
  case round =>
    obtain ⟨k, hk, rfl, rfl, hw⟩ := hrel
    have kf : wr.cell? ⟨bf, 0, none⟩ = some (.bool (sumB f a (l.take k))) := by rw [← hw.out]; exact World.cell?_setCell_same _ _ _ hf
    have kz : wr.frozen? ⟨bf, 0, none⟩ = false := by rw [← hw.out]; exact (World.frozen?_setCell ..).trans hz
    clear hf hz
    by_cases hlt : k < l.length
    · have kc : wr.cell? ⟨bs, k, none⟩ = some (.int .i64 l[k]) := by rw [← hw.out]; exact cell_far ((HS.out.cell k).trans (ints_get hlt)) _ _ _ hn
      have e1 : l.take (k + 1) = l.take k ++ [l[k]] := List.take_succ_eq_append_getElem hlt
      have e2 := Lib.hid (show sumI a (l.take (k + 1)) = addI (sumI a (l.take k)) l[k] by rw [e1, sumI_snoc])
      have e3 := Lib.hid (show sumB f a (l.take (k + 1)) = (sumB f a (l.take k) || addB (sumI a (l.take k)) l[k]) by rw [e1, sumB_snoc])
      clear e1
      go_wp2_with (first | (go_at_call 23; refine (add_calls _ _ _).mono ?_; rintro e w2 ⟨rfl, rfl⟩) | (go_at_call 31; refine (one_calls _ _ _ _ _ kf kz).mono ?_; rintro e w2 ⟨rfl, rfl⟩))
      go_roundw
      case rel => exact ⟨k + 1, by omega, by go_num, by rw [e2.out], by show _ = _; rw [e3.out, ← hw.out, set_set]⟩
      case measure => simp [intOf]; omega
    · obtain rfl : k = l.length := by omega
      go_wp2
      go_ret
      have hw' := hw.out
      rw [List.take_length] at hw' ⊢
      exact ⟨rfl, hw'⟩
end Go.Proofs.Ytdjgafcniifmlaa
