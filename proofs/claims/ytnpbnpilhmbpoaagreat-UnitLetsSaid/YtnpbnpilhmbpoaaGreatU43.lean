/- A unit hears nothing of a frame that is not for it: it stays as it is, and sends nothing. -/
import Derived.Test.YtnpbnpilhmbpoaaGreatU42
import Derived.Test.YtnpbnpilhmbpoaaGreatU27
import Derived.Test.YtnpbnpilhmbpoaaGreatU29
set_option linter.unusedVariables false
set_option maxRecDepth 10000
namespace Go.Proofs.YtnpbnpilhmbpoaaGreat
open Go.RowKit

theorem getL {W : World} {b o : Nat} {L : List Int} (h : ∀ j (hj : j < L.length), W.cell? ⟨b, o + j, none⟩ = some (.int .i64 L[j])) (j : Nat) (hj : j < L.length) : ∃ y, W.cell? ⟨b, o + j, none⟩ = some (.int .i64 y) := ⟨_, h j hj⟩
theorem hear_nothing {W0 : World} {u : Array Value} (hu : UnitRow W0 u) (z : Array Value) (g0 g1 g2 g3 g4 g5 g6 g7 k inc : Int) (hz : zeroOf 62 = some z) (hzs : z.size = 321) (b o m cap : Nat) (L : List Int) (y0 y1 : Int) (huc : u[1]? = some (.int .i64 inc)) (hm : m = L.length) (hcap : m ≤ cap) (hb : b < W0.heap.size) (hL : ∀ j (hj : j < L.length), W0.cell? ⟨b, o + j, none⟩ = some (.int .i64 L[j]))
    (hy0 : 1 < m → W0.cell? ⟨b, o, none⟩ = some (.int .i64 y0)) (hy1 : 1 < m → W0.cell? ⟨b, o + 1, none⟩ = some (.int .i64 y1)) :
    ∀ W, Ext W0 W → Unheard k inc m y0 y1 → Calls Tryz.prog 23 #[.agg #[.int .i64 g0, .int .i64 g1, .int .i64 g2, .int .i64 g3, .int .i64 g4, .int .i64 g5, .int .i64 g6, .int .i64 g7], .agg u, .agg #[.int .i64 k, .slice (some ⟨b, o, none⟩) m cap]] W (Gives W (.tuple #[.agg u, .slice none 0 0])) := fun W hW hun => by
  obtain ⟨wk, hwk, hws, hwu, hwg, hwl⟩ := built_work u #[.int .i64 g0, .int .i64 g1, .int .i64 g2, .int .i64 g3, .int .i64 g4, .int .i64 g5, .int .i64 g6, .int .i64 g7] hu.size rfl
  have hsz := Lib.hid hu.size
  have hone := Lib.hid hu.one
  obtain ⟨n0, e0⟩ := hu.c0
  obtain ⟨n3, e3⟩ := hu.c3
  have w0 : wk[0]? = some (.int .i64 n0) := (hwu 0 (by omega)).trans e0
  have w1 : wk[1]? = some (.int .i64 inc) := (hwu 1 (by omega)).trans huc
  have w3 : wk[3]? = some (.int .i64 n3) := (hwu 3 (by omega)).trans e3
  have cellV : ∀ V, Ext W V → ∀ j, V.cell? ⟨b, o + j, none⟩ = W0.cell? ⟨b, o + j, none⟩ := fun V hV j => (hW.trans hV).cell b _ hb
  by_cases k2 : k = 2
  · subst k2
    have hm1 : 1 < m ∧ y1 ≠ inc := by unfold Unheard at hun; omega
    have hne : (y1 != inc) = true := by simpa using hm1.2
    refine hear_2 u z wk g0 g1 g2 g3 g4 g5 g6 g7 (some ⟨b, o, none⟩) m cap W hsz (Lib.hid hz) (Lib.hid hzs) hone (Lib.hid hwk) (Lib.hid fun V => fright_calls 2 8 (some ⟨b, o, none⟩) m cap V (by omega) (Lib.hid fun V2 => long_calls 2 8 (by decide) V2)) (Lib.hid fun hmn V hV hrow => ?_)
    rw [hmn] at hm
    obtain ⟨z0, c0⟩ := getL hL 0 (by omega)
    obtain ⟨z1, c1⟩ := getL hL 1 (by omega)
    obtain ⟨z2, c2⟩ := getL hL 2 (by omega)
    obtain ⟨z3, c3⟩ := getL hL 3 (by omega)
    obtain ⟨z4, c4⟩ := getL hL 4 (by omega)
    obtain ⟨z5, c5⟩ := getL hL 5 (by omega)
    obtain ⟨z6, c6⟩ := getL hL 6 (by omega)
    obtain ⟨z7, c7⟩ := getL hL 7 (by omega)
    have ey : z1 = y1 := by
      have h5 := hy1 hm1.1
      rw [c1] at h5
      simpa using h5
    subst ey
    have k0' : V.cell? ⟨b, o, none⟩ = some (.int .i64 z0) := (cellV V hV 0).trans c0
    have k1' : V.cell? ⟨b, o + 1, none⟩ = some (.int .i64 z1) := (cellV V hV 1).trans c1
    have k2' : V.cell? ⟨b, o + 2, none⟩ = some (.int .i64 z2) := (cellV V hV 2).trans c2
    have k3' : V.cell? ⟨b, o + 3, none⟩ = some (.int .i64 z3) := (cellV V hV 3).trans c3
    have k4' : V.cell? ⟨b, o + 4, none⟩ = some (.int .i64 z4) := (cellV V hV 4).trans c4
    have k5' : V.cell? ⟨b, o + 5, none⟩ = some (.int .i64 z5) := (cellV V hV 5).trans c5
    have k6' : V.cell? ⟨b, o + 6, none⟩ = some (.int .i64 z6) := (cellV V hV 6).trans c6
    have k7' : V.cell? ⟨b, o + 7, none⟩ = some (.int .i64 z7) := (cellV V hV 7).trans c7
    exact grant_refuses V _ b o cap wk n0 inc n3 z0 z1 z2 z3 z4 z5 z6 z7 w0 w1 w3 k0' k1' k2' k3' k4' k5' k6' k7' (fun o' => hrow.cell o') hne
  by_cases k6 : k = 6
  · subst k6
    have hm1 : 1 < m ∧ y1 ≠ inc := by unfold Unheard at hun; omega
    have hne : (y1 != inc) = true := by simpa using hm1.2
    refine hear_6 u z wk g0 g1 g2 g3 g4 g5 g6 g7 (some ⟨b, o, none⟩) m cap W hsz (Lib.hid hz) (Lib.hid hzs) hone (Lib.hid hwk) (Lib.hid fun V => fright_calls 6 4 (some ⟨b, o, none⟩) m cap V (by omega) (Lib.hid fun V2 => long_calls 6 4 (by decide) V2)) (Lib.hid fun hmn V hV hrow => ?_)
    rw [hmn] at hm
    obtain ⟨z0, c0⟩ := getL hL 0 (by omega)
    obtain ⟨z1, c1⟩ := getL hL 1 (by omega)
    obtain ⟨z2, c2⟩ := getL hL 2 (by omega)
    obtain ⟨z3, c3⟩ := getL hL 3 (by omega)
    have ey : z1 = y1 := by
      have h5 := hy1 hm1.1
      rw [c1] at h5
      simpa using h5
    subst ey
    have k0' : V.cell? ⟨b, o, none⟩ = some (.int .i64 z0) := (cellV V hV 0).trans c0
    have k1' : V.cell? ⟨b, o + 1, none⟩ = some (.int .i64 z1) := (cellV V hV 1).trans c1
    have k2' : V.cell? ⟨b, o + 2, none⟩ = some (.int .i64 z2) := (cellV V hV 2).trans c2
    have k3' : V.cell? ⟨b, o + 3, none⟩ = some (.int .i64 z3) := (cellV V hV 3).trans c3
    exact acked_refuses V _ b o cap wk n0 inc n3 z0 z1 z2 z3 w0 w1 w3 k0' k1' k2' k3' (fun o' => hrow.cell o') hne
  by_cases k8 : k = 8
  · subst k8
    have hm1 : 1 < m ∧ y0 ≠ inc := by unfold Unheard at hun; omega
    have hne : (y0 != inc) = true := by simpa using hm1.2
    refine hear_8 u z wk g0 g1 g2 g3 g4 g5 g6 g7 (some ⟨b, o, none⟩) m cap W hsz (Lib.hid hz) (Lib.hid hzs) hone (Lib.hid hwk) (Lib.hid fun V => fright_calls 8 15 (some ⟨b, o, none⟩) m cap V (by omega) (Lib.hid fun V2 => long_calls 8 15 (by decide) V2)) (Lib.hid fun hmn V hV hrow => ?_)
    rw [hmn] at hm
    obtain ⟨z0, c0⟩ := getL hL 0 (by omega)
    obtain ⟨z1, c1⟩ := getL hL 1 (by omega)
    obtain ⟨z2, c2⟩ := getL hL 2 (by omega)
    obtain ⟨z3, c3⟩ := getL hL 3 (by omega)
    obtain ⟨z4, c4⟩ := getL hL 4 (by omega)
    obtain ⟨z5, c5⟩ := getL hL 5 (by omega)
    obtain ⟨z6, c6⟩ := getL hL 6 (by omega)
    obtain ⟨z7, c7⟩ := getL hL 7 (by omega)
    obtain ⟨z8, c8⟩ := getL hL 8 (by omega)
    obtain ⟨z9, c9⟩ := getL hL 9 (by omega)
    obtain ⟨z10, c10⟩ := getL hL 10 (by omega)
    obtain ⟨z11, c11⟩ := getL hL 11 (by omega)
    obtain ⟨z12, c12⟩ := getL hL 12 (by omega)
    obtain ⟨z13, c13⟩ := getL hL 13 (by omega)
    obtain ⟨z14, c14⟩ := getL hL 14 (by omega)
    have ey : z0 = y0 := by
      have h5 := hy0 hm1.1
      rw [show o = o + 0 from rfl, c0] at h5
      simpa using h5
    subst ey
    have k0' : V.cell? ⟨b, o, none⟩ = some (.int .i64 z0) := (cellV V hV 0).trans c0
    have k1' : V.cell? ⟨b, o + 1, none⟩ = some (.int .i64 z1) := (cellV V hV 1).trans c1
    have k2' : V.cell? ⟨b, o + 2, none⟩ = some (.int .i64 z2) := (cellV V hV 2).trans c2
    have k3' : V.cell? ⟨b, o + 3, none⟩ = some (.int .i64 z3) := (cellV V hV 3).trans c3
    have k4' : V.cell? ⟨b, o + 4, none⟩ = some (.int .i64 z4) := (cellV V hV 4).trans c4
    have k5' : V.cell? ⟨b, o + 5, none⟩ = some (.int .i64 z5) := (cellV V hV 5).trans c5
    have k6' : V.cell? ⟨b, o + 6, none⟩ = some (.int .i64 z6) := (cellV V hV 6).trans c6
    have k7' : V.cell? ⟨b, o + 7, none⟩ = some (.int .i64 z7) := (cellV V hV 7).trans c7
    have k8' : V.cell? ⟨b, o + 8, none⟩ = some (.int .i64 z8) := (cellV V hV 8).trans c8
    have k9' : V.cell? ⟨b, o + 9, none⟩ = some (.int .i64 z9) := (cellV V hV 9).trans c9
    have k10' : V.cell? ⟨b, o + 10, none⟩ = some (.int .i64 z10) := (cellV V hV 10).trans c10
    have k11' : V.cell? ⟨b, o + 11, none⟩ = some (.int .i64 z11) := (cellV V hV 11).trans c11
    have k12' : V.cell? ⟨b, o + 12, none⟩ = some (.int .i64 z12) := (cellV V hV 12).trans c12
    have k13' : V.cell? ⟨b, o + 13, none⟩ = some (.int .i64 z13) := (cellV V hV 13).trans c13
    have k14' : V.cell? ⟨b, o + 14, none⟩ = some (.int .i64 z14) := (cellV V hV 14).trans c14
    exact chunk_refuses V _ b o cap wk n0 inc n3 z0 z1 z2 z3 z4 z5 z6 z7 z8 z9 z10 z11 z12 z13 z14 w0 w1 w3 k0' k1' k2' k3' k4' k5' k6' k7' k8' k9' k10' k11' k12' k13' k14' (fun o' => hrow.cell o') hne
  by_cases k5 : k = 5
  · subst k5
    have hm1 : 1 < m ∧ y0 ≠ inc := by unfold Unheard at hun; omega
    have hne : (y0 != inc) = true := by simpa using hm1.2
    refine hear_5 u z wk g0 g1 g2 g3 g4 g5 g6 g7 (some ⟨b, o, none⟩) m cap W hsz (Lib.hid hz) (Lib.hid hzs) hone (Lib.hid hwk) (Lib.hid fun V => fright_calls 5 18 (some ⟨b, o, none⟩) m cap V (by omega) (Lib.hid fun V2 => long_calls 5 18 (by decide) V2)) (Lib.hid fun hmn V hV hrow => ?_)
    rw [hmn] at hm
    obtain ⟨z0, c0⟩ := getL hL 0 (by omega)
    obtain ⟨z1, c1⟩ := getL hL 1 (by omega)
    obtain ⟨z2, c2⟩ := getL hL 2 (by omega)
    obtain ⟨z3, c3⟩ := getL hL 3 (by omega)
    obtain ⟨z4, c4⟩ := getL hL 4 (by omega)
    obtain ⟨z5, c5⟩ := getL hL 5 (by omega)
    obtain ⟨z6, c6⟩ := getL hL 6 (by omega)
    obtain ⟨z7, c7⟩ := getL hL 7 (by omega)
    obtain ⟨z8, c8⟩ := getL hL 8 (by omega)
    obtain ⟨z9, c9⟩ := getL hL 9 (by omega)
    obtain ⟨z10, c10⟩ := getL hL 10 (by omega)
    obtain ⟨z11, c11⟩ := getL hL 11 (by omega)
    obtain ⟨z12, c12⟩ := getL hL 12 (by omega)
    obtain ⟨z13, c13⟩ := getL hL 13 (by omega)
    obtain ⟨z14, c14⟩ := getL hL 14 (by omega)
    obtain ⟨z15, c15⟩ := getL hL 15 (by omega)
    obtain ⟨z16, c16⟩ := getL hL 16 (by omega)
    obtain ⟨z17, c17⟩ := getL hL 17 (by omega)
    have ey : z0 = y0 := by
      have h5 := hy0 hm1.1
      rw [show o = o + 0 from rfl, c0] at h5
      simpa using h5
    subst ey
    have k0' : V.cell? ⟨b, o, none⟩ = some (.int .i64 z0) := (cellV V hV 0).trans c0
    have k1' : V.cell? ⟨b, o + 1, none⟩ = some (.int .i64 z1) := (cellV V hV 1).trans c1
    have k2' : V.cell? ⟨b, o + 2, none⟩ = some (.int .i64 z2) := (cellV V hV 2).trans c2
    have k3' : V.cell? ⟨b, o + 3, none⟩ = some (.int .i64 z3) := (cellV V hV 3).trans c3
    have k4' : V.cell? ⟨b, o + 4, none⟩ = some (.int .i64 z4) := (cellV V hV 4).trans c4
    have k5' : V.cell? ⟨b, o + 5, none⟩ = some (.int .i64 z5) := (cellV V hV 5).trans c5
    have k6' : V.cell? ⟨b, o + 6, none⟩ = some (.int .i64 z6) := (cellV V hV 6).trans c6
    have k7' : V.cell? ⟨b, o + 7, none⟩ = some (.int .i64 z7) := (cellV V hV 7).trans c7
    have k8' : V.cell? ⟨b, o + 8, none⟩ = some (.int .i64 z8) := (cellV V hV 8).trans c8
    have k9' : V.cell? ⟨b, o + 9, none⟩ = some (.int .i64 z9) := (cellV V hV 9).trans c9
    have k10' : V.cell? ⟨b, o + 10, none⟩ = some (.int .i64 z10) := (cellV V hV 10).trans c10
    have k11' : V.cell? ⟨b, o + 11, none⟩ = some (.int .i64 z11) := (cellV V hV 11).trans c11
    have k12' : V.cell? ⟨b, o + 12, none⟩ = some (.int .i64 z12) := (cellV V hV 12).trans c12
    have k13' : V.cell? ⟨b, o + 13, none⟩ = some (.int .i64 z13) := (cellV V hV 13).trans c13
    have k14' : V.cell? ⟨b, o + 14, none⟩ = some (.int .i64 z14) := (cellV V hV 14).trans c14
    have k15' : V.cell? ⟨b, o + 15, none⟩ = some (.int .i64 z15) := (cellV V hV 15).trans c15
    have k16' : V.cell? ⟨b, o + 16, none⟩ = some (.int .i64 z16) := (cellV V hV 16).trans c16
    have k17' : V.cell? ⟨b, o + 17, none⟩ = some (.int .i64 z17) := (cellV V hV 17).trans c17
    have hb2 : b < V.heap.size := Nat.lt_of_lt_of_le hb (hW.trans hV).size
    exact entered_refuses V _ b o cap wk n0 inc n3 z0 z1 z2 z3 z4 z5 z6 z7 z8 z9 z10 z11 z12 z13 z14 z15 z16 z17 w0 w1 w3 k0' k1' k2' k3' k4' k5' k6' k7' k8' k9' k10' k11' k12' k13' k14' k15' k16' k17' (fun o' => hrow.cell o') hrow.lt hb2 (by omega) (Lib.hid fun V2 hV2 => unpack_gen V2 b (o + 5) (cap - 5) z5 z6 z7 z8 z9 z10 z11 z12 z13 z14 z15 z16 z17 _ _ _ (Lib.hid (Nat.lt_of_lt_of_le hb2 hV2.size)) (Lib.hid fun j hj => by
      have hq : ∀ i y, V.cell? ⟨b, o + i, none⟩ = some y → V2.cell? ⟨b, o + i, none⟩ = some y := fun i y h => by rw [hV2.cell b _ hb2]; exact h
      rw [Nat.add_assoc]
      match j, hj with
      | 0, _ => exact hq 5 _ k5'
      | 1, _ => exact hq 6 _ k6'
      | 2, _ => exact hq 7 _ k7'
      | 3, _ => exact hq 8 _ k8'
      | 4, _ => exact hq 9 _ k9'
      | 5, _ => exact hq 10 _ k10'
      | 6, _ => exact hq 11 _ k11'
      | 7, _ => exact hq 12 _ k12'
      | 8, _ => exact hq 13 _ k13'
      | 9, _ => exact hq 14 _ k14'
      | 10, _ => exact hq 15 _ k15'
      | 11, _ => exact hq 16 _ k16'
      | 12, _ => exact hq 17 _ k17'
      | j + 13, hj => exact absurd hj (by simp)) rfl rfl rfl) hne
  have k7 : k ≠ 7 := by unfold Unheard at hun; omega
  exact hear_other u z wk g0 g1 g2 g3 g4 g5 g6 g7 k (some ⟨b, o, none⟩) m cap W hsz (Lib.hid hz) (Lib.hid hzs) hone (Lib.hid hwk) (Lib.hid ⟨k2, k7, k6, k8, k5⟩)
end Go.Proofs.YtnpbnpilhmbpoaaGreat
