import Derived.Test.YtnpbnpilhmbpoaaGreatE4
import Derived.Test.YtnpbnpilhmbpoaaGreatProg
import Derived.ChangeKeysEq
set_option linter.unusedSimpArgs false
set_option linter.unusedVariables false
/- Comparing arrays of numbers. -/
namespace Go.Proofs.YtnpbnpilhmbpoaaGreat
open Go.RowKit
theorem eq33 (a b c d a' b' c' d' : Int) (w : World) :
    (Op.equalIn 10000 33 (.agg #[.int .i64 a, .int .i64 b, .int .i64 c, .int .i64 d]) (.agg #[.int .i64 a', .int .i64 b', .int .i64 c', .int .i64 d'])).run Tryz.prog w = .ok ((a == a') && ((b == b') && ((c == c') && (d == d')))) w := by
  obtain ⟨ti, hti⟩ : ∃ i, Tryz.prog.info? 22 = some i := Option.isSome_iff_exists.1 (by kernel_rfl)
  rw [Go.run_equalIn_array _ 9999 _ _ (t := 33) (e := 22) (n := 4) (by kernel_rfl) hti]
  have hc : Tryz.prog.cellsOf 22 = 1 := by kernel_rfl
  have h0 : ∀ (x y z u : Value) w, (part 22 #[x, y, z, u] 0).run Tryz.prog w = .ok x w := fun _ _ _ _ _ => by kernel_rfl
  have h1 : ∀ (x y z u : Value) w, (part 22 #[x, y, z, u] 1).run Tryz.prog w = .ok y w := fun _ _ _ _ _ => by kernel_rfl
  have h2 : ∀ (x y z u : Value) w, (part 22 #[x, y, z, u] 2).run Tryz.prog w = .ok z w := fun _ _ _ _ _ => by kernel_rfl
  have h3 : ∀ (x y z u : Value) w, (part 22 #[x, y, z, u] 3).run Tryz.prog w = .ok u w := fun _ _ _ _ _ => by kernel_rfl
  have he : ∀ (x y : Int) w, (Op.equalIn 9999 22 (.int .i64 x) (.int .i64 y)).run Tryz.prog w = .ok (x == y) w := fun x y w => run_equalIn_int w 9998 22 .i64 .i64 x y (by kernel_rfl)
  rw [show List.range 4 = [0,1,2,3] from rfl]
  simp only [Op.eqItems, Sem.run_bind, hc, Nat.mul_one, h0, h1, h2, h3, he, Result.andThen_ok]
  cases ka : a == a' <;> cases kb : b == b' <;> cases kc : c == c' <;> cases kd : d == d' <;> simp only [ka, kb, kc, kd, h1, h2, h3, he, Sem.run_bind, Result.andThen_ok, Bool.not_true, Bool.not_false, if_true, if_false, Bool.false_eq_true, Sem.run_pure, Bool.and_true, Bool.and_false, Bool.true_and, Bool.false_and]
theorem eq40 (a b c d a' b' c' d' : Int) (w : World) :
    (Op.equalIn 10000 40 (.agg #[.int .i64 a, .int .i64 b, .int .i64 c, .int .i64 d]) (.agg #[.int .i64 a', .int .i64 b', .int .i64 c', .int .i64 d'])).run Tryz.prog w = .ok ((a == a') && ((b == b') && ((c == c') && (d == d')))) w := by
  obtain ⟨ti, hti⟩ : ∃ i, Tryz.prog.info? 3 = some i := Option.isSome_iff_exists.1 (by kernel_rfl)
  rw [Go.run_equalIn_array _ 9999 _ _ (t := 40) (e := 3) (n := 4) (by kernel_rfl) hti]
  have hc : Tryz.prog.cellsOf 3 = 1 := by kernel_rfl
  have h0 : ∀ (x y z u : Value) w, (part 3 #[x, y, z, u] 0).run Tryz.prog w = .ok x w := fun _ _ _ _ _ => by kernel_rfl
  have h1 : ∀ (x y z u : Value) w, (part 3 #[x, y, z, u] 1).run Tryz.prog w = .ok y w := fun _ _ _ _ _ => by kernel_rfl
  have h2 : ∀ (x y z u : Value) w, (part 3 #[x, y, z, u] 2).run Tryz.prog w = .ok z w := fun _ _ _ _ _ => by kernel_rfl
  have h3 : ∀ (x y z u : Value) w, (part 3 #[x, y, z, u] 3).run Tryz.prog w = .ok u w := fun _ _ _ _ _ => by kernel_rfl
  have he : ∀ (x y : Int) w, (Op.equalIn 9999 3 (.int .i64 x) (.int .i64 y)).run Tryz.prog w = .ok (x == y) w := fun x y w => run_equalIn_int w 9998 3 .i64 .i64 x y (by kernel_rfl)
  rw [show List.range 4 = [0,1,2,3] from rfl]
  simp only [Op.eqItems, Sem.run_bind, hc, Nat.mul_one, h0, h1, h2, h3, he, Result.andThen_ok]
  cases ka : a == a' <;> cases kb : b == b' <;> cases kc : c == c' <;> cases kd : d == d' <;> simp only [ka, kb, kc, kd, h1, h2, h3, he, Sem.run_bind, Result.andThen_ok, Bool.not_true, Bool.not_false, if_true, if_false, Bool.false_eq_true, Sem.run_pure, Bool.and_true, Bool.and_false, Bool.true_and, Bool.false_and]
theorem eq48 (a b c a' b' c' : Int) (w : World) :
    (Op.equalIn 10000 48 (.agg #[.int .i64 a, .int .i64 b, .int .i64 c]) (.agg #[.int .i64 a', .int .i64 b', .int .i64 c'])).run Tryz.prog w = .ok ((a == a') && ((b == b') && (c == c'))) w := by
  obtain ⟨ti, hti⟩ : ∃ i, Tryz.prog.info? 22 = some i := Option.isSome_iff_exists.1 (by kernel_rfl)
  rw [Go.run_equalIn_array _ 9999 _ _ (t := 48) (e := 22) (n := 3) (by kernel_rfl) hti]
  have hc : Tryz.prog.cellsOf 22 = 1 := by kernel_rfl
  have h0 : ∀ (x y z : Value) w, (part 22 #[x, y, z] 0).run Tryz.prog w = .ok x w := fun _ _ _ _ => by kernel_rfl
  have h1 : ∀ (x y z : Value) w, (part 22 #[x, y, z] 1).run Tryz.prog w = .ok y w := fun _ _ _ _ => by kernel_rfl
  have h2 : ∀ (x y z : Value) w, (part 22 #[x, y, z] 2).run Tryz.prog w = .ok z w := fun _ _ _ _ => by kernel_rfl
  have he : ∀ (x y : Int) w, (Op.equalIn 9999 22 (.int .i64 x) (.int .i64 y)).run Tryz.prog w = .ok (x == y) w := fun x y w => run_equalIn_int w 9998 22 .i64 .i64 x y (by kernel_rfl)
  rw [show List.range 3 = [0,1,2] from rfl]
  simp only [Op.eqItems, Sem.run_bind, hc, Nat.mul_one, h0, h1, h2, he, Result.andThen_ok]
  cases ka : a == a' <;> cases kb : b == b' <;> cases kc : c == c' <;> simp only [ka, kb, kc, h1, h2, he, Sem.run_bind, Result.andThen_ok, Bool.not_true, Bool.not_false, if_true, if_false, Bool.false_eq_true, Sem.run_pure, Bool.and_true, Bool.and_false, Bool.true_and, Bool.false_and]

end Go.Proofs.YtnpbnpilhmbpoaaGreat
