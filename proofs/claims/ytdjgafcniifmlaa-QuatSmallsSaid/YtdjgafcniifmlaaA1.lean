/- quat.Mul walked. -/
import Derived.Test.YtdjgafcniifmlaaA0
import Derived.Deep.WholeRow
set_option linter.unusedVariables false
namespace Go.Proofs.Ytdjgafcniifmlaa
open Go.RowKit

theorem term_calls (bf bp bq i j : Nat) (s a b : Int) (f : Bool) (hi : i < 4) (hj : j < 4) (w : World) (hf : w.cell? ⟨bf, 0, none⟩ = some (.bool f)) (hz : w.frozen? ⟨bf, 0, none⟩ = false)
    (hp : w.cell? ⟨bp, i, none⟩ = some (.int .i64 a)) (hq : w.cell? ⟨bq, j, none⟩ = some (.int .i64 b)) (hpf : bp ≠ bf) (hqf : bq ≠ bf) :
    Calls Try.prog 30 #[.agg #[.int .i64 i, .int .i64 j, .int .i64 s], .pointer (some ⟨bf, 0, none⟩), .pointer (some ⟨bp, 0, none⟩), .pointer (some ⟨bq, 0, none⟩)] w fun e w' =>
      e = .returned (.int .i64 (termI s a b)) ∧ Ext (w.setCell ⟨bf, 0, none⟩ (.bool (f || termB s a b))) w' := by
  by_cases h : s < 0
  · have e1 : termI s a b = subI 0 (mulI a b) := if_pos h
    have e2 : (f || termB s a b) = (f || mulB a b || subB 0 (mulI a b)) := by simp [termB, h, Bool.or_assoc]
    rw [e1, e2]
    exact term_calls1 bf bp bq i j s a b f hi hj w hf hz hp hq h hpf hqf
  · have e1 : termI s a b = mulI a b := if_neg h
    have e2 : (f || termB s a b) = (f || mulB a b) := by simp [termB, h]
    rw [e1, e2]
    exact term_calls0 bf bp bq i j s a b f hi hj w hf hz hp hq h hpf hqf

/-- The blocks of a product at work: both factors, the result, the flag, what comes out; in the world wr that grew out of w. -/
structure MulSt (w wr : World) (bp bq br bf bo : Nat) (p q r : Array Value) (f : Bool) (out : Array Value) : Prop where
  rp : Row wr bp p 24
  rq : Row wr bq q 24
  rr : Row wr br r 24
  rf : Row wr bf #[.bool f] 54
  ro : Row wr bo out 24
  x : Ext w wr
  l0 : w.heap.size ≤ bp
  l1 : bp < bq
  l2 : bq < br
  l3 : br < bf
  l4 : bf < bo

section
variable {w wr w2 : World} {bp bq br bf bo : Nat} {p q r : Array Value} {f f' : Bool} {out : Array Value}
theorem MulSt.flag (h : MulSt w wr bp bq br bf bo p q r f out) (hx : Ext (wr.setCell ⟨bf, 0, none⟩ (.bool f')) w2) : MulSt w w2 bp bq br bf bo p q r f' out := by
  obtain ⟨rp, rq, rr, rf, ro, x, l0, l1, l2, l3, l4⟩ := h
  exact ⟨(rp.set_other (by omega) 0 _).ext hx, (rq.set_other (by omega) 0 _).ext hx, (rr.set_other (by omega) 0 _).ext hx, (rf.set 0 _).ext hx, (ro.set_other (by omega) 0 _).ext hx, (x.setCell (p := ⟨bf, 0, none⟩) (by show w.heap.size ≤ bf; omega) _).trans hx, l0, l1, l2, l3, l4⟩
theorem MulSt.ext (h : MulSt w wr bp bq br bf bo p q r f out) (hx : Ext wr w2) : MulSt w w2 bp bq br bf bo p q r f out := by
  obtain ⟨rp, rq, rr, rf, ro, x, l0, l1, l2, l3, l4⟩ := h
  exact ⟨rp.ext hx, rq.ext hx, rr.ext hx, rf.ext hx, ro.ext hx, x.trans hx, l0, l1, l2, l3, l4⟩
theorem MulSt.put (h : MulSt w wr bp bq br bf bo p q r f out) (k : Nat) (v : Value) : MulSt w (wr.setCell ⟨bo, k, none⟩ v) bp bq br bf bo p q r f (out.setIfInBounds k v) := by
  obtain ⟨rp, rq, rr, rf, ro, x, l0, l1, l2, l3, l4⟩ := h
  exact ⟨rp.set_other (by omega) k _, rq.set_other (by omega) k _, rr.set_other (by omega) k _, rf.set_other (by omega) k _, ro.set k _, x.setCell (p := ⟨bo, k, none⟩) (by show w.heap.size ≤ bo; omega) _, l0, l1, l2, l3, l4⟩
end

theorem wpList_value {P : Program} {ops : Array Oper} {Q : Exit → Act → World → Prop} {o : Oper} {rest : List Oper} {a : Act} {w : World} (hg : o.guard = none) (v : Value)
    (h : ∀ w, (execOp a.eval o).run P w = .ok (.value v) w) (k : wpList P ops Q rest (a.put o.dst v) w) : wpList P ops Q (o :: rest) a w :=
  wpList_plain hg fun K hK => by
    unfold Oper.wp
    rw [h w]
    exact hK _ _ k

theorem wpList_unit {P : Program} {ops : Array Oper} {Q : Exit → Act → World → Prop} {o : Oper} {rest : List Oper} {a : Act} {w : World} (hg : o.guard = none) (w' : World)
    (h : (execOp a.eval o).run P w = .ok .skip w') (k : wpList P ops Q rest (a.put o.dst undef) w') : wpList P ops Q (o :: rest) a w :=
  wpList_plain hg fun K hK => by
    unfold Oper.wp
    rw [h]
    exact hK _ _ k

theorem run_op_store {P : Program} {a : Act} {o : Oper} {w w' : World} (ty : TypeId) (x y : Operand) (ho : o.op = .store ty x y) (h : (Instr.storeAt ty (a.eval x) (a.eval y)).run P w = .ok () w') : (execOp a.eval o).run P w = .ok .skip w' := by
  unfold execOp
  simp only [ho, Sem.run_bind, h, Result.andThen_ok, Sem.run_pure]

def termRows : Array Value := #[.int .i64 0, .int .i64 0, .int .i64 1, .int .i64 1, .int .i64 1, .int .i64 (-1), .int .i64 2, .int .i64 2, .int .i64 (-1), .int .i64 3, .int .i64 3, .int .i64 (-1), .int .i64 0, .int .i64 1, .int .i64 1, .int .i64 1, .int .i64 0, .int .i64 1, .int .i64 2, .int .i64 3, .int .i64 1, .int .i64 3, .int .i64 2, .int .i64 (-1), .int .i64 0, .int .i64 2, .int .i64 1, .int .i64 1, .int .i64 3, .int .i64 (-1), .int .i64 2, .int .i64 0, .int .i64 1, .int .i64 3, .int .i64 1, .int .i64 1, .int .i64 0, .int .i64 3, .int .i64 1, .int .i64 1, .int .i64 2, .int .i64 1, .int .i64 2, .int .i64 1, .int .i64 (-1), .int .i64 3, .int .i64 0, .int .i64 1]

theorem terms_calls (w : World) : Calls Try.prog 33 #[] w fun e w' => e = .returned (.agg termRows) ∧ Ext w w' := by
  go_enter Try.func33, Try.ntmps33
  go_step
  go_step
  go_step
  go_step
  go_step
  go_step
  go_step
  go_step
  go_step
  go_step
  go_step
  refine wpList_value rfl (.agg #[.int .i64 0, .int .i64 0, .int .i64 1]) (fun _ => by kernel_rfl) ?_
  simp only [Act.put, List.setIfInBounds_toArray, List.set_cons_zero, List.set_cons_succ]
  refine wpList_value rfl (.agg #[.int .i64 1, .int .i64 1, .int .i64 (-1)]) (fun _ => by kernel_rfl) ?_
  simp only [Act.put, List.setIfInBounds_toArray, List.set_cons_zero, List.set_cons_succ]
  refine wpList_value rfl (.agg #[.int .i64 2, .int .i64 2, .int .i64 (-1)]) (fun _ => by kernel_rfl) ?_
  simp only [Act.put, List.setIfInBounds_toArray, List.set_cons_zero, List.set_cons_succ]
  refine wpList_value rfl (.agg #[.int .i64 3, .int .i64 3, .int .i64 (-1)]) (fun _ => by kernel_rfl) ?_
  simp only [Act.put, List.setIfInBounds_toArray, List.set_cons_zero, List.set_cons_succ]
  refine wpList_value rfl (.agg #[.int .i64 0, .int .i64 0, .int .i64 1, .int .i64 1, .int .i64 1, .int .i64 (-1), .int .i64 2, .int .i64 2, .int .i64 (-1), .int .i64 3, .int .i64 3, .int .i64 (-1)]) (fun _ => by kernel_rfl) ?_
  simp only [Act.put, List.setIfInBounds_toArray, List.set_cons_zero, List.set_cons_succ]
  refine wpList_value rfl (.agg #[.int .i64 0, .int .i64 1, .int .i64 1]) (fun _ => by kernel_rfl) ?_
  simp only [Act.put, List.setIfInBounds_toArray, List.set_cons_zero, List.set_cons_succ]
  refine wpList_value rfl (.agg #[.int .i64 1, .int .i64 0, .int .i64 1]) (fun _ => by kernel_rfl) ?_
  simp only [Act.put, List.setIfInBounds_toArray, List.set_cons_zero, List.set_cons_succ]
  refine wpList_value rfl (.agg #[.int .i64 2, .int .i64 3, .int .i64 1]) (fun _ => by kernel_rfl) ?_
  simp only [Act.put, List.setIfInBounds_toArray, List.set_cons_zero, List.set_cons_succ]
  refine wpList_value rfl (.agg #[.int .i64 3, .int .i64 2, .int .i64 (-1)]) (fun _ => by kernel_rfl) ?_
  simp only [Act.put, List.setIfInBounds_toArray, List.set_cons_zero, List.set_cons_succ]
  refine wpList_value rfl (.agg #[.int .i64 0, .int .i64 1, .int .i64 1, .int .i64 1, .int .i64 0, .int .i64 1, .int .i64 2, .int .i64 3, .int .i64 1, .int .i64 3, .int .i64 2, .int .i64 (-1)]) (fun _ => by kernel_rfl) ?_
  simp only [Act.put, List.setIfInBounds_toArray, List.set_cons_zero, List.set_cons_succ]
  refine wpList_value rfl (.agg #[.int .i64 0, .int .i64 2, .int .i64 1]) (fun _ => by kernel_rfl) ?_
  simp only [Act.put, List.setIfInBounds_toArray, List.set_cons_zero, List.set_cons_succ]
  refine wpList_value rfl (.agg #[.int .i64 1, .int .i64 3, .int .i64 (-1)]) (fun _ => by kernel_rfl) ?_
  simp only [Act.put, List.setIfInBounds_toArray, List.set_cons_zero, List.set_cons_succ]
  refine wpList_value rfl (.agg #[.int .i64 2, .int .i64 0, .int .i64 1]) (fun _ => by kernel_rfl) ?_
  simp only [Act.put, List.setIfInBounds_toArray, List.set_cons_zero, List.set_cons_succ]
  refine wpList_value rfl (.agg #[.int .i64 3, .int .i64 1, .int .i64 1]) (fun _ => by kernel_rfl) ?_
  simp only [Act.put, List.setIfInBounds_toArray, List.set_cons_zero, List.set_cons_succ]
  refine wpList_value rfl (.agg #[.int .i64 0, .int .i64 2, .int .i64 1, .int .i64 1, .int .i64 3, .int .i64 (-1), .int .i64 2, .int .i64 0, .int .i64 1, .int .i64 3, .int .i64 1, .int .i64 1]) (fun _ => by kernel_rfl) ?_
  simp only [Act.put, List.setIfInBounds_toArray, List.set_cons_zero, List.set_cons_succ]
  refine wpList_value rfl (.agg #[.int .i64 0, .int .i64 3, .int .i64 1]) (fun _ => by kernel_rfl) ?_
  simp only [Act.put, List.setIfInBounds_toArray, List.set_cons_zero, List.set_cons_succ]
  refine wpList_value rfl (.agg #[.int .i64 1, .int .i64 2, .int .i64 1]) (fun _ => by kernel_rfl) ?_
  simp only [Act.put, List.setIfInBounds_toArray, List.set_cons_zero, List.set_cons_succ]
  refine wpList_value rfl (.agg #[.int .i64 2, .int .i64 1, .int .i64 (-1)]) (fun _ => by kernel_rfl) ?_
  simp only [Act.put, List.setIfInBounds_toArray, List.set_cons_zero, List.set_cons_succ]
  refine wpList_value rfl (.agg #[.int .i64 3, .int .i64 0, .int .i64 1]) (fun _ => by kernel_rfl) ?_
  simp only [Act.put, List.setIfInBounds_toArray, List.set_cons_zero, List.set_cons_succ]
  refine wpList_value rfl (.agg #[.int .i64 0, .int .i64 3, .int .i64 1, .int .i64 1, .int .i64 2, .int .i64 1, .int .i64 2, .int .i64 1, .int .i64 (-1), .int .i64 3, .int .i64 0, .int .i64 1]) (fun _ => by kernel_rfl) ?_
  simp only [Act.put, List.setIfInBounds_toArray, List.set_cons_zero, List.set_cons_succ]
  refine wpList_value rfl (.agg #[.int .i64 0, .int .i64 0, .int .i64 1, .int .i64 1, .int .i64 1, .int .i64 (-1), .int .i64 2, .int .i64 2, .int .i64 (-1), .int .i64 3, .int .i64 3, .int .i64 (-1), .int .i64 0, .int .i64 1, .int .i64 1, .int .i64 1, .int .i64 0, .int .i64 1, .int .i64 2, .int .i64 3, .int .i64 1, .int .i64 3, .int .i64 2, .int .i64 (-1), .int .i64 0, .int .i64 2, .int .i64 1, .int .i64 1, .int .i64 3, .int .i64 (-1), .int .i64 2, .int .i64 0, .int .i64 1, .int .i64 3, .int .i64 1, .int .i64 1, .int .i64 0, .int .i64 3, .int .i64 1, .int .i64 1, .int .i64 2, .int .i64 1, .int .i64 2, .int .i64 1, .int .i64 (-1), .int .i64 3, .int .i64 0, .int .i64 1]) (fun _ => by kernel_rfl) ?_
  simp only [Act.put, List.setIfInBounds_toArray, List.set_cons_zero, List.set_cons_succ]
  refine wpList_unit rfl _ (run_op_store 60 _ _ rfl (run_storeAt_new w 60 _ termRows (by kernel_rfl) (by rfl) (by kernel_rfl))) ?_
  simp only [Act.put]
  go_step
  go_step
  go_step
  go_step
  exact bodyPost_ret (results_cell_row Try.results33 _ _ _ _ _ _ _ rfl (Row.new w _ 60) Try.underlying60 rfl (by kernel_rfl)) rfl ⟨rfl, (Ext.refl _).alloc _ _⟩

/-- A quaternion's number by its place. -/
def get4 (x0 x1 x2 x3 i : Int) : Int := if i = 0 then x0 else if i = 1 then x1 else if i = 2 then x2 else x3

theorem get4_cell {w : World} {b : Nat} {t : TypeId} {x0 x1 x2 x3 : Int} (h : Row w b #[.int .i64 x0, .int .i64 x1, .int .i64 x2, .int .i64 x3] t) (i : Int) (h0 : 0 ≤ i) (h1 : i < 4) :
    w.cell? ⟨b, i.toNat, none⟩ = some (.int .i64 (get4 x0 x1 x2 x3 i)) := by
  rw [h.cell]
  have : i = 0 ∨ i = 1 ∨ i = 2 ∨ i = 3 := by omega
  rcases this with rfl | rfl | rfl | rfl <;> rfl

theorem term_row {bf bp bq : Nat} {p0 p1 p2 p3 q0 q1 q2 q3 : Int} {f : Bool} {w : World} (rp : Row w bp #[.int .i64 p0, .int .i64 p1, .int .i64 p2, .int .i64 p3] 24) (rq : Row w bq #[.int .i64 q0, .int .i64 q1, .int .i64 q2, .int .i64 q3] 24) (rf : Row w bf #[.bool f] 54)
    (i j s : Int) (i0 : 0 ≤ i) (i1 : i < 4) (j0 : 0 ≤ j) (j1 : j < 4) (hpf : bp ≠ bf) (hqf : bq ≠ bf) :
    Calls Try.prog 30 #[.agg #[.int .i64 i, .int .i64 j, .int .i64 s], .pointer (some ⟨bf, 0, none⟩), .pointer (some ⟨bp, 0, none⟩), .pointer (some ⟨bq, 0, none⟩)] w fun e w' =>
      e = .returned (.int .i64 (termI s (get4 p0 p1 p2 p3 i) (get4 q0 q1 q2 q3 j))) ∧ Ext (w.setCell ⟨bf, 0, none⟩ (.bool (f || termB s (get4 p0 p1 p2 p3 i) (get4 q0 q1 q2 q3 j)))) w' := by
  have := term_calls bf bp bq i.toNat j.toNat s _ _ f (by omega) (by omega) w (rf.cell 0) (rf.frozen 0) (get4_cell rp i i0 i1) (get4_cell rq j j0 j1) hpf hqf
  rw [Int.toNat_of_nonneg i0, Int.toNat_of_nonneg j0] at this
  exact this

def qm0 (p0 p1 p2 p3 q0 q1 q2 q3 : Int) : Int := sumI (termI 1 (get4 p0 p1 p2 p3 0) (get4 q0 q1 q2 q3 0)) [termI (-1) (get4 p0 p1 p2 p3 1) (get4 q0 q1 q2 q3 1), termI (-1) (get4 p0 p1 p2 p3 2) (get4 q0 q1 q2 q3 2), termI (-1) (get4 p0 p1 p2 p3 3) (get4 q0 q1 q2 q3 3)]
def qf0 (p0 p1 p2 p3 q0 q1 q2 q3 : Int) (f : Bool) : Bool := sumB (f || termB 1 (get4 p0 p1 p2 p3 0) (get4 q0 q1 q2 q3 0) || termB (-1) (get4 p0 p1 p2 p3 1) (get4 q0 q1 q2 q3 1) || termB (-1) (get4 p0 p1 p2 p3 2) (get4 q0 q1 q2 q3 2) || termB (-1) (get4 p0 p1 p2 p3 3) (get4 q0 q1 q2 q3 3)) (termI 1 (get4 p0 p1 p2 p3 0) (get4 q0 q1 q2 q3 0)) [termI (-1) (get4 p0 p1 p2 p3 1) (get4 q0 q1 q2 q3 1), termI (-1) (get4 p0 p1 p2 p3 2) (get4 q0 q1 q2 q3 2), termI (-1) (get4 p0 p1 p2 p3 3) (get4 q0 q1 q2 q3 3)]
def qm1 (p0 p1 p2 p3 q0 q1 q2 q3 : Int) : Int := sumI (termI 1 (get4 p0 p1 p2 p3 0) (get4 q0 q1 q2 q3 1)) [termI 1 (get4 p0 p1 p2 p3 1) (get4 q0 q1 q2 q3 0), termI 1 (get4 p0 p1 p2 p3 2) (get4 q0 q1 q2 q3 3), termI (-1) (get4 p0 p1 p2 p3 3) (get4 q0 q1 q2 q3 2)]
def qf1 (p0 p1 p2 p3 q0 q1 q2 q3 : Int) (f : Bool) : Bool := sumB (f || termB 1 (get4 p0 p1 p2 p3 0) (get4 q0 q1 q2 q3 1) || termB 1 (get4 p0 p1 p2 p3 1) (get4 q0 q1 q2 q3 0) || termB 1 (get4 p0 p1 p2 p3 2) (get4 q0 q1 q2 q3 3) || termB (-1) (get4 p0 p1 p2 p3 3) (get4 q0 q1 q2 q3 2)) (termI 1 (get4 p0 p1 p2 p3 0) (get4 q0 q1 q2 q3 1)) [termI 1 (get4 p0 p1 p2 p3 1) (get4 q0 q1 q2 q3 0), termI 1 (get4 p0 p1 p2 p3 2) (get4 q0 q1 q2 q3 3), termI (-1) (get4 p0 p1 p2 p3 3) (get4 q0 q1 q2 q3 2)]
def qm2 (p0 p1 p2 p3 q0 q1 q2 q3 : Int) : Int := sumI (termI 1 (get4 p0 p1 p2 p3 0) (get4 q0 q1 q2 q3 2)) [termI (-1) (get4 p0 p1 p2 p3 1) (get4 q0 q1 q2 q3 3), termI 1 (get4 p0 p1 p2 p3 2) (get4 q0 q1 q2 q3 0), termI 1 (get4 p0 p1 p2 p3 3) (get4 q0 q1 q2 q3 1)]
def qf2 (p0 p1 p2 p3 q0 q1 q2 q3 : Int) (f : Bool) : Bool := sumB (f || termB 1 (get4 p0 p1 p2 p3 0) (get4 q0 q1 q2 q3 2) || termB (-1) (get4 p0 p1 p2 p3 1) (get4 q0 q1 q2 q3 3) || termB 1 (get4 p0 p1 p2 p3 2) (get4 q0 q1 q2 q3 0) || termB 1 (get4 p0 p1 p2 p3 3) (get4 q0 q1 q2 q3 1)) (termI 1 (get4 p0 p1 p2 p3 0) (get4 q0 q1 q2 q3 2)) [termI (-1) (get4 p0 p1 p2 p3 1) (get4 q0 q1 q2 q3 3), termI 1 (get4 p0 p1 p2 p3 2) (get4 q0 q1 q2 q3 0), termI 1 (get4 p0 p1 p2 p3 3) (get4 q0 q1 q2 q3 1)]
def qm3 (p0 p1 p2 p3 q0 q1 q2 q3 : Int) : Int := sumI (termI 1 (get4 p0 p1 p2 p3 0) (get4 q0 q1 q2 q3 3)) [termI 1 (get4 p0 p1 p2 p3 1) (get4 q0 q1 q2 q3 2), termI (-1) (get4 p0 p1 p2 p3 2) (get4 q0 q1 q2 q3 1), termI 1 (get4 p0 p1 p2 p3 3) (get4 q0 q1 q2 q3 0)]
def qf3 (p0 p1 p2 p3 q0 q1 q2 q3 : Int) (f : Bool) : Bool := sumB (f || termB 1 (get4 p0 p1 p2 p3 0) (get4 q0 q1 q2 q3 3) || termB 1 (get4 p0 p1 p2 p3 1) (get4 q0 q1 q2 q3 2) || termB (-1) (get4 p0 p1 p2 p3 2) (get4 q0 q1 q2 q3 1) || termB 1 (get4 p0 p1 p2 p3 3) (get4 q0 q1 q2 q3 0)) (termI 1 (get4 p0 p1 p2 p3 0) (get4 q0 q1 q2 q3 3)) [termI 1 (get4 p0 p1 p2 p3 1) (get4 q0 q1 q2 q3 2), termI (-1) (get4 p0 p1 p2 p3 2) (get4 q0 q1 q2 q3 1), termI 1 (get4 p0 p1 p2 p3 3) (get4 q0 q1 q2 q3 0)]

theorem qmul_start (w w2 : World) (p0 p1 p2 p3 q0 q1 q2 q3 : Int) (hx : Ext (((((w.alloc (.cells #[.int .i64 p0, .int .i64 p1, .int .i64 p2, .int .i64 p3] 24)).alloc (.cells #[.int .i64 q0, .int .i64 q1, .int .i64 q2, .int .i64 q3] 24)).alloc (.cells #[.int .i64 0, .int .i64 0, .int .i64 0, .int .i64 0] 24)).alloc (.cells #[.bool false] 54)).alloc (.cells #[.int .i64 0, .int .i64 0, .int .i64 0, .int .i64 0] 24)) w2) :
    MulSt w w2 w.heap.size (w.heap.size + 1) (w.heap.size + 1 + 1) (w.heap.size + 1 + 1 + 1) (w.heap.size + 1 + 1 + 1 + 1) #[.int .i64 p0, .int .i64 p1, .int .i64 p2, .int .i64 p3] #[.int .i64 q0, .int .i64 q1, .int .i64 q2, .int .i64 q3] #[.int .i64 0, .int .i64 0, .int .i64 0, .int .i64 0] false #[.int .i64 0, .int .i64 0, .int .i64 0, .int .i64 0] :=
    ⟨((((((Row.new w _ _).alloc _).alloc _).alloc _).alloc _).ext hx), (((((Row.new' (w.alloc _) _ _ _ (by simp)).alloc _).alloc _).alloc _).ext hx), ((((Row.new' ((w.alloc _).alloc _) _ _ _ (by simp)).alloc _).alloc _).ext hx),
     (((Row.new' (((w.alloc _).alloc _).alloc _) _ _ _ (by simp)).alloc _).ext hx), ((Row.new' ((((w.alloc _).alloc _).alloc _).alloc _) _ _ _ (by simp)).ext hx),
     ((((((Ext.refl w).alloc _ _).alloc _ _).alloc _ _).alloc _ _).alloc _ _).trans hx, by omega, by omega, by omega, by omega, by omega⟩

/-- What the flag is, and what has come out, ahead of round k. -/
def qflag (p0 p1 p2 p3 q0 q1 q2 q3 : Int) : Nat → Bool
  | 0 => false
  | 1 => (qf0 p0 p1 p2 p3 q0 q1 q2 q3 false)
  | 2 => (qf1 p0 p1 p2 p3 q0 q1 q2 q3 (qf0 p0 p1 p2 p3 q0 q1 q2 q3 false))
  | 3 => (qf2 p0 p1 p2 p3 q0 q1 q2 q3 (qf1 p0 p1 p2 p3 q0 q1 q2 q3 (qf0 p0 p1 p2 p3 q0 q1 q2 q3 false)))
  | _ => (qf3 p0 p1 p2 p3 q0 q1 q2 q3 (qf2 p0 p1 p2 p3 q0 q1 q2 q3 (qf1 p0 p1 p2 p3 q0 q1 q2 q3 (qf0 p0 p1 p2 p3 q0 q1 q2 q3 false))))
def qout (p0 p1 p2 p3 q0 q1 q2 q3 : Int) : Nat → Array Value
  | 0 => #[.int .i64 0, .int .i64 0, .int .i64 0, .int .i64 0]
  | 1 => #[.int .i64 (qm0 p0 p1 p2 p3 q0 q1 q2 q3), .int .i64 0, .int .i64 0, .int .i64 0]
  | 2 => #[.int .i64 (qm0 p0 p1 p2 p3 q0 q1 q2 q3), .int .i64 (qm1 p0 p1 p2 p3 q0 q1 q2 q3), .int .i64 0, .int .i64 0]
  | 3 => #[.int .i64 (qm0 p0 p1 p2 p3 q0 q1 q2 q3), .int .i64 (qm1 p0 p1 p2 p3 q0 q1 q2 q3), .int .i64 (qm2 p0 p1 p2 p3 q0 q1 q2 q3), .int .i64 0]
  | _ => #[.int .i64 (qm0 p0 p1 p2 p3 q0 q1 q2 q3), .int .i64 (qm1 p0 p1 p2 p3 q0 q1 q2 q3), .int .i64 (qm2 p0 p1 p2 p3 q0 q1 q2 q3), .int .i64 (qm3 p0 p1 p2 p3 q0 q1 q2 q3)]

theorem results_row_tmp {P : Program} {fn : Func} {p u : Tmp} {ty : TypeId} (h : fn.results = #[.cell p ty, .tmp u]) (tmps : Array Value) (w : World) (g : Nat) (t : TypeId) (cs : Array Value) (d : TypeDesc)
    (hp : tmps.getD p undef = .pointer (some ⟨g, 0, none⟩)) (hg : Row w g cs t) (hu : P.underlying ty = some d) (hd : (match d with | .struct _ | .array _ _ => true | _ => false) = true) (hi : (P.info? ty).map (·.size) = some cs.size) :
    (results fn tmps).run P w = .ok (.tuple #[.agg cs, tmps.getD u undef]) w := by
  rw [results_cell_tmp h, hp]
  simp only [asAddr, Sem.run_pure, Result.andThen_ok, run_loadVar_row w g t ty cs (0, 0) d hg hu hd hi]

theorem sum3 {W : World} {bf : Nat} {f : Bool} {t0 t1 t2 t3 : Int} (rf : Row W bf #[.bool f] 54) :
    Calls Try.prog 34 #[.pointer (some ⟨bf, 0, none⟩), .int .i64 t0, .slice (some ⟨W.heap.size, 0, none⟩) 3 3] (W.alloc (.cells #[.int .i64 t1, .int .i64 t2, .int .i64 t3] 22)) fun e w' =>
      e = .returned (.int .i64 (sumI t0 [t1, t2, t3])) ∧ Ext (W.setCell ⟨bf, 0, none⟩ (.bool (sumB f t0 [t1, t2, t3]))) w' := by
  have r2 := rf.alloc (.cells #[.int .i64 t1, .int .i64 t2, .int .i64 t3] 22)
  have := sum_calls bf W.heap.size f t0 [t1, t2, t3] 22 (by have := rf.lt; omega) (by simp) (W.alloc (.cells #[.int .i64 t1, .int .i64 t2, .int .i64 t3] 22)) (r2.cell 0) (r2.frozen 0) (Row.new W _ 22)
  exact this.mono fun e w' ⟨he, hw⟩ => ⟨he, hw ▸ ext_set ((Ext.refl W).alloc _ _) _ _ _⟩

set_option maxHeartbeats 4000000 in
theorem qmul_calls (p0 p1 p2 p3 q0 q1 q2 q3 : Int) (w : World) :
    Calls Try.prog 15 #[.agg #[.int .i64 p0, .int .i64 p1, .int .i64 p2, .int .i64 p3], .agg #[.int .i64 q0, .int .i64 q1, .int .i64 q2, .int .i64 q3]] w fun e w' => e = .returned (.tuple #[.agg #[.int .i64 (qm0 p0 p1 p2 p3 q0 q1 q2 q3), .int .i64 (qm1 p0 p1 p2 p3 q0 q1 q2 q3), .int .i64 (qm2 p0 p1 p2 p3 q0 q1 q2 q3), .int .i64 (qm3 p0 p1 p2 p3 q0 q1 q2 q3)], .bool (qf3 p0 p1 p2 p3 q0 q1 q2 q3 (qf2 p0 p1 p2 p3 q0 q1 q2 q3 (qf1 p0 p1 p2 p3 q0 q1 q2 q3 (qf0 p0 p1 p2 p3 q0 q1 q2 q3 false))))]) ∧ Ext w w' := by
  have hmf : ∀ (fn : Fn) (first cap : Array Value) (w : World), (Instr.makeFunc fn first cap).run Try.prog w = .ok (.func fn first cap) w := fun _ _ _ _ => rfl
  go_enter Try.func15, Try.ntmps15
  go_wp2_with (first | (go_at_call 33; fail))
  refine (terms_calls _).mono ?_
  rintro e w2 ⟨rfl, hx⟩
  have st := qmul_start w w2 p0 p1 p2 p3 q0 q1 q2 q3 hx
  clear hx
  generalize w.heap.size + 1 + 1 + 1 + 1 = bo at *
  generalize w.heap.size + 1 + 1 + 1 = bf at *
  generalize w.heap.size + 1 + 1 = br at *
  generalize w.heap.size + 1 = bq at *
  obtain ⟨bp, hbp⟩ : ∃ bp, bp = w.heap.size := ⟨_, rfl⟩
  rw [← hbp] at st ⊢
  clear hbp
  go_wp2
  go_loopw [13] (fun iv wr => ∃ k : Nat, k ≤ 4 ∧ iv = .int .i64 k ∧ Hid (MulSt w wr bp bq br bf bo #[.int .i64 p0, .int .i64 p1, .int .i64 p2, .int .i64 p3] #[.int .i64 q0, .int .i64 q1, .int .i64 q2, .int .i64 q3] #[.int .i64 0, .int .i64 0, .int .i64 0, .int .i64 0] (qflag p0 p1 p2 p3 q0 q1 q2 q3 k) (qout p0 p1 p2 p3 q0 q1 q2 q3 k))) (fun iv _ => 4 - (intOf iv).toNat)
  case atStart => exact ⟨0, by omega, rfl, st⟩
  case round =>
    clear st
    obtain ⟨k, hk, rfl, st⟩ := hrel
    have rx : True := trivial
    have : k = 0 ∨ k = 1 ∨ k = 2 ∨ k = 3 ∨ k = 4 := by omega
    rcases this with rfl | rfl | rfl | rfl | rfl
    · -- round 0
      replace st : MulSt w wr bp bq br bf bo #[.int .i64 p0, .int .i64 p1, .int .i64 p2, .int .i64 p3] #[.int .i64 q0, .int .i64 q1, .int .i64 q2, .int .i64 q3] #[.int .i64 0, .int .i64 0, .int .i64 0, .int .i64 0] false #[.int .i64 0, .int .i64 0, .int .i64 0, .int .i64 0] := st.out
      have ix : ∀ w, (Instr.index 60 (.agg termRows) (.int .i64 0)).run Try.prog w = .ok (.agg #[.int .i64 0, .int .i64 0, .int .i64 1, .int .i64 1, .int .i64 1, .int .i64 (-1), .int .i64 2, .int .i64 2, .int .i64 (-1), .int .i64 3, .int .i64 3, .int .i64 (-1)]) w := fun _ => by kernel_rfl
      have hxf : wr.heap.size ≠ bf := by have := st.rf.lt; omega
      go_wp2
      replace rx := Row.new wr #[.int .i64 0, .int .i64 0, .int .i64 1, .int .i64 1, .int .i64 1, .int .i64 (-1), .int .i64 2, .int .i64 2, .int .i64 (-1), .int .i64 3, .int .i64 3, .int .i64 (-1)] 59
      have st0 := st
      replace st := st.ext ((Ext.refl wr).alloc #[.int .i64 0, .int .i64 0, .int .i64 1, .int .i64 1, .int .i64 1, .int .i64 (-1), .int .i64 2, .int .i64 2, .int .i64 (-1), .int .i64 3, .int .i64 3, .int .i64 (-1)] 59)
      generalize wr.alloc (.cells #[.int .i64 0, .int .i64 0, .int .i64 1, .int .i64 1, .int .i64 1, .int .i64 (-1), .int .i64 2, .int .i64 2, .int .i64 (-1), .int .i64 3, .int .i64 3, .int .i64 (-1)] 59) = w4 at *
      have hbx : bo < wr.heap.size := st0.ro.lt
      generalize wr.heap.size = bx at *
      replace rx := rx.drew
      replace st := st.ext (Ext.refl w4).drew
      have hpf : bp ≠ bf := by have := st.l1; have := st.l2; have := st.l3; omega
      have hqf : bq ≠ bf := by have := st.l2; have := st.l3; omega
      have hxo : bx ≠ bo := by have := st.l4; omega
      go_region_held3 (fun w' => ∀ o, w'.cell? ⟨bx, o, none⟩ = (#[.int .i64 0, .int .i64 0, .int .i64 1, .int .i64 1, .int .i64 1, .int .i64 (-1), .int .i64 2, .int .i64 2, .int .i64 (-1), .int .i64 3, .int .i64 3, .int .i64 (-1)] : Array Value)[o]?) (first | exact rx.cell | exact (rx.alloc _).cell | exact (rx.set_other hxo 0 _).cell) ((first | (go_at_call 30; refine (term_row st.rp st.rq st.rf _ _ _ (by omega) (by omega) (by omega) (by omega) hpf hqf).mono ?_; rintro e w3 ⟨rfl, hx⟩; replace rx := (rx.set_other hxf 0 _).ext hx; replace st := st.flag hx; clear hx) | (go_at_call 34; refine (sum3 st.rf).mono ?_; rintro e w3 ⟨rfl, hx⟩; replace rx := (rx.set_other hxf 0 _).ext hx; replace st := st.flag hx; clear hx; have ko := st.ro.cell 0; have zo := st.ro.frozen 0)))
      have st2 := st.put 0 (.int .i64 (qm0 p0 p1 p2 p3 q0 q1 q2 q3))
      clear ko zo st st0
      go_wp2
      go_roundw
      case rel => exact ⟨1, by omega, by go_num, st2⟩
      case measure => simp [intOf]
    · -- round 1
      replace st : MulSt w wr bp bq br bf bo #[.int .i64 p0, .int .i64 p1, .int .i64 p2, .int .i64 p3] #[.int .i64 q0, .int .i64 q1, .int .i64 q2, .int .i64 q3] #[.int .i64 0, .int .i64 0, .int .i64 0, .int .i64 0] (qf0 p0 p1 p2 p3 q0 q1 q2 q3 false) #[.int .i64 (qm0 p0 p1 p2 p3 q0 q1 q2 q3), .int .i64 0, .int .i64 0, .int .i64 0] := st.out
      have ix : ∀ w, (Instr.index 60 (.agg termRows) (.int .i64 1)).run Try.prog w = .ok (.agg #[.int .i64 0, .int .i64 1, .int .i64 1, .int .i64 1, .int .i64 0, .int .i64 1, .int .i64 2, .int .i64 3, .int .i64 1, .int .i64 3, .int .i64 2, .int .i64 (-1)]) w := fun _ => by kernel_rfl
      have hxf : wr.heap.size ≠ bf := by have := st.rf.lt; omega
      go_wp2
      replace rx := Row.new wr #[.int .i64 0, .int .i64 1, .int .i64 1, .int .i64 1, .int .i64 0, .int .i64 1, .int .i64 2, .int .i64 3, .int .i64 1, .int .i64 3, .int .i64 2, .int .i64 (-1)] 59
      have st0 := st
      replace st := st.ext ((Ext.refl wr).alloc #[.int .i64 0, .int .i64 1, .int .i64 1, .int .i64 1, .int .i64 0, .int .i64 1, .int .i64 2, .int .i64 3, .int .i64 1, .int .i64 3, .int .i64 2, .int .i64 (-1)] 59)
      generalize wr.alloc (.cells #[.int .i64 0, .int .i64 1, .int .i64 1, .int .i64 1, .int .i64 0, .int .i64 1, .int .i64 2, .int .i64 3, .int .i64 1, .int .i64 3, .int .i64 2, .int .i64 (-1)] 59) = w4 at *
      have hbx : bo < wr.heap.size := st0.ro.lt
      generalize wr.heap.size = bx at *
      replace rx := rx.drew
      replace st := st.ext (Ext.refl w4).drew
      have hpf : bp ≠ bf := by have := st.l1; have := st.l2; have := st.l3; omega
      have hqf : bq ≠ bf := by have := st.l2; have := st.l3; omega
      have hxo : bx ≠ bo := by have := st.l4; omega
      go_region_held3 (fun w' => ∀ o, w'.cell? ⟨bx, o, none⟩ = (#[.int .i64 0, .int .i64 1, .int .i64 1, .int .i64 1, .int .i64 0, .int .i64 1, .int .i64 2, .int .i64 3, .int .i64 1, .int .i64 3, .int .i64 2, .int .i64 (-1)] : Array Value)[o]?) (first | exact rx.cell | exact (rx.alloc _).cell | exact (rx.set_other hxo 1 _).cell) ((first | (go_at_call 30; refine (term_row st.rp st.rq st.rf _ _ _ (by omega) (by omega) (by omega) (by omega) hpf hqf).mono ?_; rintro e w3 ⟨rfl, hx⟩; replace rx := (rx.set_other hxf 0 _).ext hx; replace st := st.flag hx; clear hx) | (go_at_call 34; refine (sum3 st.rf).mono ?_; rintro e w3 ⟨rfl, hx⟩; replace rx := (rx.set_other hxf 0 _).ext hx; replace st := st.flag hx; clear hx; have ko := st.ro.cell 1; have zo := st.ro.frozen 1)))
      have st2 := st.put 1 (.int .i64 (qm1 p0 p1 p2 p3 q0 q1 q2 q3))
      clear ko zo st st0
      go_wp2
      go_roundw
      case rel => exact ⟨2, by omega, by go_num, st2⟩
      case measure => simp [intOf]
    · -- round 2
      replace st : MulSt w wr bp bq br bf bo #[.int .i64 p0, .int .i64 p1, .int .i64 p2, .int .i64 p3] #[.int .i64 q0, .int .i64 q1, .int .i64 q2, .int .i64 q3] #[.int .i64 0, .int .i64 0, .int .i64 0, .int .i64 0] (qf1 p0 p1 p2 p3 q0 q1 q2 q3 (qf0 p0 p1 p2 p3 q0 q1 q2 q3 false)) #[.int .i64 (qm0 p0 p1 p2 p3 q0 q1 q2 q3), .int .i64 (qm1 p0 p1 p2 p3 q0 q1 q2 q3), .int .i64 0, .int .i64 0] := st.out
      have ix : ∀ w, (Instr.index 60 (.agg termRows) (.int .i64 2)).run Try.prog w = .ok (.agg #[.int .i64 0, .int .i64 2, .int .i64 1, .int .i64 1, .int .i64 3, .int .i64 (-1), .int .i64 2, .int .i64 0, .int .i64 1, .int .i64 3, .int .i64 1, .int .i64 1]) w := fun _ => by kernel_rfl
      have hxf : wr.heap.size ≠ bf := by have := st.rf.lt; omega
      go_wp2
      replace rx := Row.new wr #[.int .i64 0, .int .i64 2, .int .i64 1, .int .i64 1, .int .i64 3, .int .i64 (-1), .int .i64 2, .int .i64 0, .int .i64 1, .int .i64 3, .int .i64 1, .int .i64 1] 59
      have st0 := st
      replace st := st.ext ((Ext.refl wr).alloc #[.int .i64 0, .int .i64 2, .int .i64 1, .int .i64 1, .int .i64 3, .int .i64 (-1), .int .i64 2, .int .i64 0, .int .i64 1, .int .i64 3, .int .i64 1, .int .i64 1] 59)
      generalize wr.alloc (.cells #[.int .i64 0, .int .i64 2, .int .i64 1, .int .i64 1, .int .i64 3, .int .i64 (-1), .int .i64 2, .int .i64 0, .int .i64 1, .int .i64 3, .int .i64 1, .int .i64 1] 59) = w4 at *
      have hbx : bo < wr.heap.size := st0.ro.lt
      generalize wr.heap.size = bx at *
      replace rx := rx.drew
      replace st := st.ext (Ext.refl w4).drew
      have hpf : bp ≠ bf := by have := st.l1; have := st.l2; have := st.l3; omega
      have hqf : bq ≠ bf := by have := st.l2; have := st.l3; omega
      have hxo : bx ≠ bo := by have := st.l4; omega
      go_region_held3 (fun w' => ∀ o, w'.cell? ⟨bx, o, none⟩ = (#[.int .i64 0, .int .i64 2, .int .i64 1, .int .i64 1, .int .i64 3, .int .i64 (-1), .int .i64 2, .int .i64 0, .int .i64 1, .int .i64 3, .int .i64 1, .int .i64 1] : Array Value)[o]?) (first | exact rx.cell | exact (rx.alloc _).cell | exact (rx.set_other hxo 2 _).cell) ((first | (go_at_call 30; refine (term_row st.rp st.rq st.rf _ _ _ (by omega) (by omega) (by omega) (by omega) hpf hqf).mono ?_; rintro e w3 ⟨rfl, hx⟩; replace rx := (rx.set_other hxf 0 _).ext hx; replace st := st.flag hx; clear hx) | (go_at_call 34; refine (sum3 st.rf).mono ?_; rintro e w3 ⟨rfl, hx⟩; replace rx := (rx.set_other hxf 0 _).ext hx; replace st := st.flag hx; clear hx; have ko := st.ro.cell 2; have zo := st.ro.frozen 2)))
      have st2 := st.put 2 (.int .i64 (qm2 p0 p1 p2 p3 q0 q1 q2 q3))
      clear ko zo st st0
      go_wp2
      go_roundw
      case rel => exact ⟨3, by omega, by go_num, st2⟩
      case measure => simp [intOf]
    · -- round 3
      replace st : MulSt w wr bp bq br bf bo #[.int .i64 p0, .int .i64 p1, .int .i64 p2, .int .i64 p3] #[.int .i64 q0, .int .i64 q1, .int .i64 q2, .int .i64 q3] #[.int .i64 0, .int .i64 0, .int .i64 0, .int .i64 0] (qf2 p0 p1 p2 p3 q0 q1 q2 q3 (qf1 p0 p1 p2 p3 q0 q1 q2 q3 (qf0 p0 p1 p2 p3 q0 q1 q2 q3 false))) #[.int .i64 (qm0 p0 p1 p2 p3 q0 q1 q2 q3), .int .i64 (qm1 p0 p1 p2 p3 q0 q1 q2 q3), .int .i64 (qm2 p0 p1 p2 p3 q0 q1 q2 q3), .int .i64 0] := st.out
      have ix : ∀ w, (Instr.index 60 (.agg termRows) (.int .i64 3)).run Try.prog w = .ok (.agg #[.int .i64 0, .int .i64 3, .int .i64 1, .int .i64 1, .int .i64 2, .int .i64 1, .int .i64 2, .int .i64 1, .int .i64 (-1), .int .i64 3, .int .i64 0, .int .i64 1]) w := fun _ => by kernel_rfl
      have hxf : wr.heap.size ≠ bf := by have := st.rf.lt; omega
      go_wp2
      replace rx := Row.new wr #[.int .i64 0, .int .i64 3, .int .i64 1, .int .i64 1, .int .i64 2, .int .i64 1, .int .i64 2, .int .i64 1, .int .i64 (-1), .int .i64 3, .int .i64 0, .int .i64 1] 59
      have st0 := st
      replace st := st.ext ((Ext.refl wr).alloc #[.int .i64 0, .int .i64 3, .int .i64 1, .int .i64 1, .int .i64 2, .int .i64 1, .int .i64 2, .int .i64 1, .int .i64 (-1), .int .i64 3, .int .i64 0, .int .i64 1] 59)
      generalize wr.alloc (.cells #[.int .i64 0, .int .i64 3, .int .i64 1, .int .i64 1, .int .i64 2, .int .i64 1, .int .i64 2, .int .i64 1, .int .i64 (-1), .int .i64 3, .int .i64 0, .int .i64 1] 59) = w4 at *
      have hbx : bo < wr.heap.size := st0.ro.lt
      generalize wr.heap.size = bx at *
      replace rx := rx.drew
      replace st := st.ext (Ext.refl w4).drew
      have hpf : bp ≠ bf := by have := st.l1; have := st.l2; have := st.l3; omega
      have hqf : bq ≠ bf := by have := st.l2; have := st.l3; omega
      have hxo : bx ≠ bo := by have := st.l4; omega
      go_region_held3 (fun w' => ∀ o, w'.cell? ⟨bx, o, none⟩ = (#[.int .i64 0, .int .i64 3, .int .i64 1, .int .i64 1, .int .i64 2, .int .i64 1, .int .i64 2, .int .i64 1, .int .i64 (-1), .int .i64 3, .int .i64 0, .int .i64 1] : Array Value)[o]?) (first | exact rx.cell | exact (rx.alloc _).cell | exact (rx.set_other hxo 3 _).cell) ((first | (go_at_call 30; refine (term_row st.rp st.rq st.rf _ _ _ (by omega) (by omega) (by omega) (by omega) hpf hqf).mono ?_; rintro e w3 ⟨rfl, hx⟩; replace rx := (rx.set_other hxf 0 _).ext hx; replace st := st.flag hx; clear hx) | (go_at_call 34; refine (sum3 st.rf).mono ?_; rintro e w3 ⟨rfl, hx⟩; replace rx := (rx.set_other hxf 0 _).ext hx; replace st := st.flag hx; clear hx; have ko := st.ro.cell 3; have zo := st.ro.frozen 3)))
      have st2 := st.put 3 (.int .i64 (qm3 p0 p1 p2 p3 q0 q1 q2 q3))
      clear ko zo st st0
      go_wp2
      go_roundw
      case rel => exact ⟨4, by omega, by go_num, st2⟩
      case measure => simp [intOf]
    · -- the end
      replace st : MulSt w wr bp bq br bf bo #[.int .i64 p0, .int .i64 p1, .int .i64 p2, .int .i64 p3] #[.int .i64 q0, .int .i64 q1, .int .i64 q2, .int .i64 q3] #[.int .i64 0, .int .i64 0, .int .i64 0, .int .i64 0] (qf3 p0 p1 p2 p3 q0 q1 q2 q3 (qf2 p0 p1 p2 p3 q0 q1 q2 q3 (qf1 p0 p1 p2 p3 q0 q1 q2 q3 (qf0 p0 p1 p2 p3 q0 q1 q2 q3 false)))) #[.int .i64 (qm0 p0 p1 p2 p3 q0 q1 q2 q3), .int .i64 (qm1 p0 p1 p2 p3 q0 q1 q2 q3), .int .i64 (qm2 p0 p1 p2 p3 q0 q1 q2 q3), .int .i64 (qm3 p0 p1 p2 p3 q0 q1 q2 q3)] := st.out
      go_wp2
      have kr := st.rr.cell
      have zr := st.rr.frozen
      replace st := st.ext (Ext.refl wr).drew
      have hro : bo ≠ br := by have := st.l3; have := st.l4; omega
      have hrf : bf ≠ br := by have := st.l3; omega
      have hl0 : w.heap.size ≤ br := by have := st.l0; have := st.l1; have := st.l2; omega
      go_region_held3 (fun w' => (∀ o, w'.cell? ⟨bo, o, none⟩ = (#[.int .i64 (qm0 p0 p1 p2 p3 q0 q1 q2 q3), .int .i64 (qm1 p0 p1 p2 p3 q0 q1 q2 q3), .int .i64 (qm2 p0 p1 p2 p3 q0 q1 q2 q3), .int .i64 (qm3 p0 p1 p2 p3 q0 q1 q2 q3)] : Array Value)[o]?) ∧ (∀ o, w'.cell? ⟨bf, o, none⟩ = (#[.bool (qf3 p0 p1 p2 p3 q0 q1 q2 q3 (qf2 p0 p1 p2 p3 q0 q1 q2 q3 (qf1 p0 p1 p2 p3 q0 q1 q2 q3 (qf0 p0 p1 p2 p3 q0 q1 q2 q3 false))))] : Array Value)[o]?)) (first | exact ⟨st.ro.cell, st.rf.cell⟩ | exact ⟨((((st.ro.set_other hro 0 _).set_other hro 1 _).set_other hro 2 _).set_other hro 3 _).cell, ((((st.rf.set_other hrf 0 _).set_other hrf 1 _).set_other hrf 2 _).set_other hrf 3 _).cell⟩) (fail)
      go_wp2
      have rr2 := (((st.rr.set 0 (.int .i64 (qm0 p0 p1 p2 p3 q0 q1 q2 q3))).set 1 (.int .i64 (qm1 p0 p1 p2 p3 q0 q1 q2 q3))).set 2 (.int .i64 (qm2 p0 p1 p2 p3 q0 q1 q2 q3))).set 3 (.int .i64 (qm3 p0 p1 p2 p3 q0 q1 q2 q3))
      have x2 := (((st.x.setCell (p := ⟨br, 0, none⟩) hl0 (.int .i64 (qm0 p0 p1 p2 p3 q0 q1 q2 q3))).setCell (p := ⟨br, 1, none⟩) hl0 (.int .i64 (qm1 p0 p1 p2 p3 q0 q1 q2 q3))).setCell (p := ⟨br, 2, none⟩) hl0 (.int .i64 (qm2 p0 p1 p2 p3 q0 q1 q2 q3))).setCell (p := ⟨br, 3, none⟩) hl0 (.int .i64 (qm3 p0 p1 p2 p3 q0 q1 q2 q3))
      exact bodyPost_ret (results_row_tmp Try.results15 _ _ _ _ _ _ rfl rr2 Try.underlying24 rfl (by kernel_rfl)) rfl ⟨rfl, x2⟩
end Go.Proofs.Ytdjgafcniifmlaa
