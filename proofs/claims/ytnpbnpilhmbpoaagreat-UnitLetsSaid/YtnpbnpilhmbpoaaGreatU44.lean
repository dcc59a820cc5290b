/- UnitLets: whatever setup, unit and frame, the law answers true. -/
import Derived.Test.YtnpbnpilhmbpoaaGreatU43
import Derived.Test.YtnpbnpilhmbpoaaGreatU30
import Derived.Test.YtnpbnpilhmbpoaaGreatU31
import Derived.Test.YtnpbnpilhmbpoaaGreatU32
import Derived.Test.YtnpbnpilhmbpoaaGreatR17
set_option linter.unusedVariables false
set_option maxRecDepth 10000
namespace Go.Proofs.YtnpbnpilhmbpoaaGreat
open Go.RowKit

theorem zero62 : ∃ z, zeroOf 62 = some z ∧ z.size = 321 := by
  obtain ⟨z, hz⟩ : ∃ z, zeroOf 62 = some z := Option.isSome_iff_exists.1 (by kernel_rfl)
  have hs : (zeroOf 62).map (·.size) = some 321 := by kernel_rfl
  rw [hz] at hs
  simp only [Option.map_some, Option.some.injEq] at hs
  exact ⟨z, hz, hs⟩
theorem H19 (W : World) : Calls Tryz.prog 19 #[] W (SaysB W fun x => x = true) := (shown19_calls W).mono fun e w' ⟨h1, h2⟩ => ⟨true, h1, rfl, h2⟩
theorem lets_calls {w : World} {u : Array Value} (hu : UnitRow w u) (g0 g1 g2 g3 g4 g5 g6 g7 k : Int) (s : Value) (L : List Int) (hs : Sl w s L) (p : Option Addr) (cap : Nat) (he : s = .slice p L.length cap) (hcap : L.length ≤ cap) :
    Calls Tryz.prog 5 #[.agg #[.int .i64 g0, .int .i64 g1, .int .i64 g2, .int .i64 g3, .int .i64 g4, .int .i64 g5, .int .i64 g6, .int .i64 g7], .agg u, .agg #[.int .i64 k, s]] w (SaysB w fun x => x = true) := by
  obtain ⟨z, hz, hzs⟩ := zero62
  obtain ⟨inc, uc1⟩ := hu.c1
  have hsz := Lib.hid hu.size
  have hone := Lib.hid hu.one
  rcases hs with ⟨rfl, rfl⟩ | ⟨b, o, cap', rfl, hb, hL⟩
  · obtain ⟨wk, hwk, hws, hwu, hwg, hwl⟩ := built_work u #[.int .i64 g0, .int .i64 g1, .int .i64 g2, .int .i64 g3, .int .i64 g4, .int .i64 g5, .int .i64 g6, .int .i64 g7] hu.size rfl
    exact lets_small u z g0 g1 g2 g3 g4 g5 g6 g7 k inc 0 0 none 0 0 w hsz (Lib.hid hz) (Lib.hid hzs) hone uc1 (by omega) (Lib.hid H19) (Lib.hid (gmay_calls g0 g1 g2 g3 g4 g5 g6 g7)) (Lib.hid fun W hW => unit_few hu W hW) (Lib.hid fun W hW => unit_right hu W hW) (Lib.hid fun W hW => unit_same hu W hW) (Lib.hid fun W hW hun => by
      refine hear_other u z wk g0 g1 g2 g3 g4 g5 g6 g7 k none 0 0 W hsz (Lib.hid hz) (Lib.hid hzs) hone (Lib.hid hwk) (Lib.hid ?_)
      unfold Unheard at hun
      omega)
  · simp only [Value.slice.injEq] at he
    obtain ⟨-, -, rfl⟩ := he
    by_cases hm : L.length ≤ 1
    · exact lets_small u z g0 g1 g2 g3 g4 g5 g6 g7 k inc 0 0 (some ⟨b, o, none⟩) L.length cap' w hsz (Lib.hid hz) (Lib.hid hzs) hone uc1 hm (Lib.hid H19) (Lib.hid (gmay_calls g0 g1 g2 g3 g4 g5 g6 g7)) (Lib.hid fun W hW => unit_few hu W hW) (Lib.hid fun W hW => unit_right hu W hW) (Lib.hid fun W hW => unit_same hu W hW) (Lib.hid fun W hW hun => hear_nothing hu z g0 g1 g2 g3 g4 g5 g6 g7 k inc hz hzs b o L.length cap' L 0 0 uc1 rfl hcap hb hL (fun h => absurd h (by omega)) (fun h => absurd h (by omega)) W hW hun)
    · have h0 := hL 0 (by omega)
      have h1 := hL 1 (by omega)
      rw [Nat.add_zero] at h0
      generalize L[0]'(by omega) = y0 at h0
      generalize L[1]'(by omega) = y1 at h1
      have HE := Lib.hid fun W hW hun => hear_nothing hu z g0 g1 g2 g3 g4 g5 g6 g7 k inc hz hzs b o L.length cap' L y0 y1 uc1 rfl hcap hb hL (fun _ => h0) (fun _ => h1) W hW hun
      by_cases k134 : k = 1 ∨ k = 3 ∨ k = 4
      · exact lets_134 u z g0 g1 g2 g3 g4 g5 g6 g7 k inc y0 y1 L.length cap' w hsz (Lib.hid hz) (Lib.hid hzs) hone uc1 b o (by omega) hb h0 h1 k134 (Lib.hid H19) (Lib.hid (gmay_calls g0 g1 g2 g3 g4 g5 g6 g7)) (Lib.hid fun W hW => unit_few hu W hW) (Lib.hid fun W hW => unit_right hu W hW) (Lib.hid fun W hW => unit_same hu W hW) HE
      · by_cases k28 : k = 2 ∨ k = 8
        · exact lets_28 u z g0 g1 g2 g3 g4 g5 g6 g7 k inc y0 y1 L.length cap' w hsz (Lib.hid hz) (Lib.hid hzs) hone uc1 b o (by omega) hb h0 h1 k28 (Lib.hid H19) (Lib.hid (gmay_calls g0 g1 g2 g3 g4 g5 g6 g7)) (Lib.hid fun W hW => unit_few hu W hW) (Lib.hid fun W hW => unit_right hu W hW) (Lib.hid fun W hW => unit_same hu W hW) HE
        · by_cases k56 : k = 5 ∨ k = 6
          · exact lets_56 u z g0 g1 g2 g3 g4 g5 g6 g7 k inc y0 y1 L.length cap' w hsz (Lib.hid hz) (Lib.hid hzs) hone uc1 b o (by omega) hb h0 h1 k56 (Lib.hid H19) (Lib.hid (gmay_calls g0 g1 g2 g3 g4 g5 g6 g7)) (Lib.hid fun W hW => unit_few hu W hW) (Lib.hid fun W hW => unit_right hu W hW) (Lib.hid fun W hW => unit_same hu W hW) HE
          · exact lets_far u z g0 g1 g2 g3 g4 g5 g6 g7 k inc y0 y1 L.length cap' w hsz (Lib.hid hz) (Lib.hid hzs) hone uc1 b o (by omega) hb h0 h1 (by omega) (by omega) (by omega) (by omega) (by omega) (by omega) (by omega) (Lib.hid H19) (Lib.hid (gmay_calls g0 g1 g2 g3 g4 g5 g6 g7)) (Lib.hid fun W hW => unit_few hu W hW) (Lib.hid fun W hW => unit_right hu W hW) (Lib.hid fun W hW => unit_same hu W hW) HE
end Go.Proofs.YtnpbnpilhmbpoaaGreat
