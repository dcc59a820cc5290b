/- The closed run, for this program: its table of functions. -/
import Derived.Test.YtnpbnpilhmbpoaaGreatRC
import Derived.Test.YtnpbnpilhmbpoaaGreatProg
import Derived.KernelRfl
set_option linter.unusedVariables false
namespace Go.Proofs.YtnpbnpilhmbpoaaGreat
open Go.RowKit

def funcOK (fn : Func) : Bool := match fn.body with
  | some c => cond (codeOK c) (!(fn.name == "runtime.NumGoroutine")) false
  | none => true
noncomputable def tabZ : Tab := fun f => match Tryz.prog.funcs.toList[f]? with
  | some fn => match fn.body with
    | some c => some (fn.ntmps, c, fn.results.toList)
    | none => none
  | none => none
theorem funcs_ok : Tryz.prog.funcs.toList.all funcOK = true := by kernel_rfl
theorem tabZ_ok : TabOK Tryz.prog tabZ := fun f n c rs h => by
  unfold tabZ at h
  cases hf : Tryz.prog.funcs.toList[f]? with
  | none => simp [hf] at h
  | some fn =>
    cases hb : fn.body with
    | none => simp [hf, hb] at h
    | some c1 =>
      simp only [hf, hb, Option.some.injEq, Prod.mk.injEq] at h
      obtain ⟨rfl, rfl, rfl⟩ := h
      have hok := List.all_eq_true.1 funcs_ok fn (List.mem_of_getElem? hf)
      unfold funcOK at hok
      simp only [hb] at hok
      cases hc : codeOK c1
      · simp [hc] at hok
      · rw [hc, cond_true] at hok
        exact ⟨rfl, fn, by rw [← Array.getElem?_toList]; exact hf, rfl, hb, rfl, by simpa using hok⟩
theorem mix_ok : Tryz.prog.follows .mixedOrders = true := by kernel_rfl
def noSumm : Summ := fun _ _ => none
theorem noSumm_ok : SummOK Tryz.prog noSumm := fun f vs v h => by simp [noSumm] at h
/-- The units' shown example. -/
theorem shown19_calls (w : World) : Calls Tryz.prog 19 #[] w fun e w' => e = .returned (.bool true) ∧ Ext w w' :=
  closed_run tabZ_ok noSumm_ok mix_ok 1000 100 19 (.bool true) rfl (by kernel_rfl) w
end Go.Proofs.YtnpbnpilhmbpoaaGreat
