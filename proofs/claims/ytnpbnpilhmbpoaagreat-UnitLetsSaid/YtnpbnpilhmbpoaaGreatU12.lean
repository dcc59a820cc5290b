/- Wide rows loaded and compared, as one operation each. -/
import Derived.Test.YtnpbnpilhmbpoaaGreatU9
import Derived.Deep.MidRow
set_option linter.unusedVariables false
set_option linter.unusedSimpArgs false
namespace Go.Proofs.YtnpbnpilhmbpoaaGreat
open Go.RowKit

theorem wpList_load_row {ops : Array Oper} {rest : List Oper} {op : Oper} {a : Act} {w : World} {Q : Exit → Act → World → Prop} (ty : TypeId) (n : Nat) (s : Array Value) {x : Operand} {b o : Nat}
    (ho : op.op = .load ty x) (hx : a.eval x = .pointer (some ⟨b, o, none⟩)) (hw : Region.wanted op (yielded ops a.tmps) = true)
    (hs : s.size = n) (hrow : (Tryz.prog.underlying ty).any (·.isRow) = true) (hi : (Tryz.prog.info? ty).map (·.size) = some n)
    (hc : ∀ j, j < n → w.cell? ⟨b, o + j, none⟩ = s[j]?)
    (h : wpList Tryz.prog ops Q rest (a.put op.dst (.agg s)) w) : wpList Tryz.prog ops Q (op :: rest) a w := by
  unfold wpList
  rw [if_pos hw]
  left
  cases hu : Tryz.prog.underlying ty with
  | none => simp [hu] at hrow
  | some d =>
    simp only [hu, Option.any_some] at hrow
    refine wp_load_mid ty x ho b o hx s.toList d (fun j v hv => ?_) hu hrow (by rw [hi]; simp [hs]) (by simpa using h)
    have hj : j < n := by
      by_cases hj : j < n
      · exact hj
      · rw [List.getElem?_eq_none (by simp; omega)] at hv; cases hv
    rw [hc j hj]; simpa using hv

theorem wpList_eql_row {ops : Array Oper} {rest : List Oper} {op : Oper} {a : Act} {w : World} {Q : Exit → Act → World → Prop} (ty : TypeId) {q q' : Array Value} {x y : Operand} {t' : TypeId} {r : Bool}
    (ho : op.op = .binOp .eql ty x y t') (hx : a.eval x = .agg q) (hy : a.eval y = .agg q') (hw : Region.wanted op (yielded ops a.tmps) = true)
    (hg : Tryz.prog.eqGuardType Tryz.prog.depth ty = false) (he : (Op.equalIn 10000 ty (.agg q) (.agg q')).run Tryz.prog w = .ok r w)
    (h : wpList Tryz.prog ops Q rest (a.put op.dst (.bool r)) w) : wpList Tryz.prog ops Q (op :: rest) a w := by
  unfold wpList
  rw [if_pos hw]
  left
  have he' : (Op.equal ty (.agg q) (.agg q')).run Tryz.prog w = .ok r w := by
    unfold Op.equal Op.maxDepth
    exact he
  have hgu : (eqGuard .eql ty x y (.agg q) (.agg q')).run Tryz.prog w = .ok () w := by
    unfold eqGuard
    simp [Sem.run_bind, program, Sem.run, hg]
  have hb : (binOp .eql ty (.agg q) (.agg q')).run Tryz.prog w = .ok (.bool r) w := by
    unfold binOp
    simp only [Sem.run_bind, Sem.run_pure, Result.andThen_ok, he']
  unfold Oper.wp execOp
  simp only [ho, hx, hy, Sem.run_bind, Sem.run_pure, Result.andThen_ok, hgu, hb]
  exact h
end Go.Proofs.YtnpbnpilhmbpoaaGreat
