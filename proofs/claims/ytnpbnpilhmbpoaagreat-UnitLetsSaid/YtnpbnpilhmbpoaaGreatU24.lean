/- What a unit refuses: frames of another incarnation. -/
import Derived.Test.YtnpbnpilhmbpoaaGreatU22
set_option linter.unusedVariables false
namespace Go.Proofs.YtnpbnpilhmbpoaaGreat
open Go.RowKit

set_option maxRecDepth 10000 in
set_option maxHeartbeats 4000000 in
theorem grant_refuses (W : World) (bw b o cap : Nat) (wk : Array Value) (id inc role y0 y1 y2 y3 y4 y5 y6 y7 : Int) (w0 : wk[0]? = some (.int .i64 id)) (w1 : wk[1]? = some (.int .i64 inc)) (w3 : wk[3]? = some (.int .i64 role)) (kn0 : W.cell? ⟨b, o, none⟩ = some (.int .i64 y0)) (kn1 : W.cell? ⟨b, o + 1, none⟩ = some (.int .i64 y1)) (kn2 : W.cell? ⟨b, o + 2, none⟩ = some (.int .i64 y2)) (kn3 : W.cell? ⟨b, o + 3, none⟩ = some (.int .i64 y3)) (kn4 : W.cell? ⟨b, o + 4, none⟩ = some (.int .i64 y4)) (kn5 : W.cell? ⟨b, o + 5, none⟩ = some (.int .i64 y5)) (kn6 : W.cell? ⟨b, o + 6, none⟩ = some (.int .i64 y6)) (kn7 : W.cell? ⟨b, o + 7, none⟩ = some (.int .i64 y7)) (kw : ∀ o, W.cell? ⟨bw, o, none⟩ = wk[o]?) (hne : (y1 != inc) = true) :
    Calls Tryz.prog 58 #[.pointer (some ⟨bw, 0, none⟩), .slice (some ⟨b, o, none⟩) 8 cap] W (Gives W (.bool false)) := by
  cases h0 : (y0 != id)
  all_goals
    go_enter Tryz.func58, Tryz.ntmps58
    go_wp2
    go_quiet (fail)
    go_wp2
    have xx : Ext W (W.drewN nq) := (Ext.refl W).drewN nq
    replace kw : ∀ o, (W.drewN nq).cell? ⟨bw, o, none⟩ = wk[o]? := kw
    replace kn0 : (W.drewN nq).cell? ⟨b, o, none⟩ = some (.int .i64 y0) := kn0
    replace kn1 : (W.drewN nq).cell? ⟨b, o + 1, none⟩ = some (.int .i64 y1) := kn1
    replace kn2 : (W.drewN nq).cell? ⟨b, o + 2, none⟩ = some (.int .i64 y2) := kn2
    replace kn3 : (W.drewN nq).cell? ⟨b, o + 3, none⟩ = some (.int .i64 y3) := kn3
    replace kn4 : (W.drewN nq).cell? ⟨b, o + 4, none⟩ = some (.int .i64 y4) := kn4
    replace kn5 : (W.drewN nq).cell? ⟨b, o + 5, none⟩ = some (.int .i64 y5) := kn5
    replace kn6 : (W.drewN nq).cell? ⟨b, o + 6, none⟩ = some (.int .i64 y6) := kn6
    replace kn7 : (W.drewN nq).cell? ⟨b, o + 7, none⟩ = some (.int .i64 y7) := kn7
    generalize W.drewN nq = W2 at xx kw kn0 kn1 kn2 kn3 kn4 kn5 kn6 kn7 ⊢
    try go_quiet (fail)
    go_wp2
    go_ret
    first | exact Gives.mk (xx.drewN _) | exact Gives.mk xx

set_option maxRecDepth 10000 in
set_option maxHeartbeats 4000000 in
theorem acked_refuses (W : World) (bw b o cap : Nat) (wk : Array Value) (id inc role y0 y1 y2 y3 : Int) (w0 : wk[0]? = some (.int .i64 id)) (w1 : wk[1]? = some (.int .i64 inc)) (w3 : wk[3]? = some (.int .i64 role)) (kn0 : W.cell? ⟨b, o, none⟩ = some (.int .i64 y0)) (kn1 : W.cell? ⟨b, o + 1, none⟩ = some (.int .i64 y1)) (kn2 : W.cell? ⟨b, o + 2, none⟩ = some (.int .i64 y2)) (kn3 : W.cell? ⟨b, o + 3, none⟩ = some (.int .i64 y3)) (kw : ∀ o, W.cell? ⟨bw, o, none⟩ = wk[o]?) (hne : (y1 != inc) = true) :
    Calls Tryz.prog 60 #[.pointer (some ⟨bw, 0, none⟩), .slice (some ⟨b, o, none⟩) 4 cap] W (Gives W (.bool false)) := by
  cases h0 : (role != 2)
  all_goals
    go_enter Tryz.func60, Tryz.ntmps60
    go_wp2
    go_quiet (fail)
    go_wp2
    go_ret
    exact Gives.mk ((Ext.refl W).drewN _)

set_option maxRecDepth 10000 in
set_option maxHeartbeats 4000000 in
theorem chunk_refuses (W : World) (bw b o cap : Nat) (wk : Array Value) (id inc role y0 y1 y2 y3 y4 y5 y6 y7 y8 y9 y10 y11 y12 y13 y14 : Int) (w0 : wk[0]? = some (.int .i64 id)) (w1 : wk[1]? = some (.int .i64 inc)) (w3 : wk[3]? = some (.int .i64 role)) (kn0 : W.cell? ⟨b, o, none⟩ = some (.int .i64 y0)) (kn1 : W.cell? ⟨b, o + 1, none⟩ = some (.int .i64 y1)) (kn2 : W.cell? ⟨b, o + 2, none⟩ = some (.int .i64 y2)) (kn3 : W.cell? ⟨b, o + 3, none⟩ = some (.int .i64 y3)) (kn4 : W.cell? ⟨b, o + 4, none⟩ = some (.int .i64 y4)) (kn5 : W.cell? ⟨b, o + 5, none⟩ = some (.int .i64 y5)) (kn6 : W.cell? ⟨b, o + 6, none⟩ = some (.int .i64 y6)) (kn7 : W.cell? ⟨b, o + 7, none⟩ = some (.int .i64 y7)) (kn8 : W.cell? ⟨b, o + 8, none⟩ = some (.int .i64 y8)) (kn9 : W.cell? ⟨b, o + 9, none⟩ = some (.int .i64 y9)) (kn10 : W.cell? ⟨b, o + 10, none⟩ = some (.int .i64 y10)) (kn11 : W.cell? ⟨b, o + 11, none⟩ = some (.int .i64 y11)) (kn12 : W.cell? ⟨b, o + 12, none⟩ = some (.int .i64 y12)) (kn13 : W.cell? ⟨b, o + 13, none⟩ = some (.int .i64 y13)) (kn14 : W.cell? ⟨b, o + 14, none⟩ = some (.int .i64 y14)) (kw : ∀ o, W.cell? ⟨bw, o, none⟩ = wk[o]?) (hne : (y0 != inc) = true) :
    Calls Tryz.prog 61 #[.pointer (some ⟨bw, 0, none⟩), .slice (some ⟨b, o, none⟩) 15 cap] W (Gives W (.bool false)) := by
  cases h0 : (role != 0)
  all_goals
    go_enter Tryz.func61, Tryz.ntmps61
    go_wp2
    go_quiet (fail)
    go_wp2
    have xx : Ext W (W.drewN nq) := (Ext.refl W).drewN nq
    replace kw : ∀ o, (W.drewN nq).cell? ⟨bw, o, none⟩ = wk[o]? := kw
    replace kn0 : (W.drewN nq).cell? ⟨b, o, none⟩ = some (.int .i64 y0) := kn0
    replace kn1 : (W.drewN nq).cell? ⟨b, o + 1, none⟩ = some (.int .i64 y1) := kn1
    replace kn2 : (W.drewN nq).cell? ⟨b, o + 2, none⟩ = some (.int .i64 y2) := kn2
    replace kn3 : (W.drewN nq).cell? ⟨b, o + 3, none⟩ = some (.int .i64 y3) := kn3
    replace kn4 : (W.drewN nq).cell? ⟨b, o + 4, none⟩ = some (.int .i64 y4) := kn4
    replace kn5 : (W.drewN nq).cell? ⟨b, o + 5, none⟩ = some (.int .i64 y5) := kn5
    replace kn6 : (W.drewN nq).cell? ⟨b, o + 6, none⟩ = some (.int .i64 y6) := kn6
    replace kn7 : (W.drewN nq).cell? ⟨b, o + 7, none⟩ = some (.int .i64 y7) := kn7
    replace kn8 : (W.drewN nq).cell? ⟨b, o + 8, none⟩ = some (.int .i64 y8) := kn8
    replace kn9 : (W.drewN nq).cell? ⟨b, o + 9, none⟩ = some (.int .i64 y9) := kn9
    replace kn10 : (W.drewN nq).cell? ⟨b, o + 10, none⟩ = some (.int .i64 y10) := kn10
    replace kn11 : (W.drewN nq).cell? ⟨b, o + 11, none⟩ = some (.int .i64 y11) := kn11
    replace kn12 : (W.drewN nq).cell? ⟨b, o + 12, none⟩ = some (.int .i64 y12) := kn12
    replace kn13 : (W.drewN nq).cell? ⟨b, o + 13, none⟩ = some (.int .i64 y13) := kn13
    replace kn14 : (W.drewN nq).cell? ⟨b, o + 14, none⟩ = some (.int .i64 y14) := kn14
    generalize W.drewN nq = W2 at xx kw kn0 kn1 kn2 kn3 kn4 kn5 kn6 kn7 kn8 kn9 kn10 kn11 kn12 kn13 kn14 ⊢
    go_quiet (fail)
    go_wp2
    go_ret
    exact Gives.mk (xx.drewN _)

set_option maxRecDepth 10000 in
set_option maxHeartbeats 4000000 in
theorem entered_refuses (W : World) (bw b o cap : Nat) (wk : Array Value) (id inc role y0 y1 y2 y3 y4 y5 y6 y7 y8 y9 y10 y11 y12 y13 y14 y15 y16 y17 : Int) (w0 : wk[0]? = some (.int .i64 id)) (w1 : wk[1]? = some (.int .i64 inc)) (w3 : wk[3]? = some (.int .i64 role)) (kn0 : W.cell? ⟨b, o, none⟩ = some (.int .i64 y0)) (kn1 : W.cell? ⟨b, o + 1, none⟩ = some (.int .i64 y1)) (kn2 : W.cell? ⟨b, o + 2, none⟩ = some (.int .i64 y2)) (kn3 : W.cell? ⟨b, o + 3, none⟩ = some (.int .i64 y3)) (kn4 : W.cell? ⟨b, o + 4, none⟩ = some (.int .i64 y4)) (kn5 : W.cell? ⟨b, o + 5, none⟩ = some (.int .i64 y5)) (kn6 : W.cell? ⟨b, o + 6, none⟩ = some (.int .i64 y6)) (kn7 : W.cell? ⟨b, o + 7, none⟩ = some (.int .i64 y7)) (kn8 : W.cell? ⟨b, o + 8, none⟩ = some (.int .i64 y8)) (kn9 : W.cell? ⟨b, o + 9, none⟩ = some (.int .i64 y9)) (kn10 : W.cell? ⟨b, o + 10, none⟩ = some (.int .i64 y10)) (kn11 : W.cell? ⟨b, o + 11, none⟩ = some (.int .i64 y11)) (kn12 : W.cell? ⟨b, o + 12, none⟩ = some (.int .i64 y12)) (kn13 : W.cell? ⟨b, o + 13, none⟩ = some (.int .i64 y13)) (kn14 : W.cell? ⟨b, o + 14, none⟩ = some (.int .i64 y14)) (kn15 : W.cell? ⟨b, o + 15, none⟩ = some (.int .i64 y15)) (kn16 : W.cell? ⟨b, o + 16, none⟩ = some (.int .i64 y16)) (kn17 : W.cell? ⟨b, o + 17, none⟩ = some (.int .i64 y17)) (kw : ∀ o, W.cell? ⟨bw, o, none⟩ = wk[o]?) (hbw : bw < W.heap.size) (hb : b < W.heap.size) (hcap : (18 : Int) ≤ cap) (HU : Hid (∀ V, Ext W V → Calls Tryz.prog 101 #[.slice (some ⟨b, o + 5, none⟩) 13 (cap - 5)] V (Unpacks V [y5, y6, y7, y8, y9, y10, y11, y12, y13, y14, y15, y16, y17]))) (hne : (y0 != inc) = true) :
    Calls Tryz.prog 62 #[.pointer (some ⟨bw, 0, none⟩), .slice (some ⟨b, o, none⟩) 18 cap] W (Gives W (.bool false)) := by
  have KW0 := Lib.hid kw
  have KN0 := Lib.hid kn0
  cases h0 : (role != 1)
  all_goals
    go_enter Tryz.func62, Tryz.ntmps62
    go_wp2
    go_quiet (fail)
    clear kn0 kn1 kn3 kn5 kn6 kn7 kn8 kn9 kn10 kn11 kn12 kn13 kn14 kn15 kn16 kn17 kw
    go_wp2_with fail
    have xx : Ext W (W.drewN nq) := (Ext.refl W).drewN nq
    refine (HU.out _ xx).mono ?_
    rintro e w3 ⟨m, hb1, hg, g0, g1, g2, a0, a1, a2, bb, n0, n1, n2, x, rfl, -, hxx⟩
    have xa : Ext W (w3.alloc (.cells #[.bool m, .int .i64 g0, .int .i64 g1, .int .i64 g2, .int .i64 a0, .int .i64 a1, .int .i64 a2, .bool hb1, .int .i64 bb, .bool hg, .int .i64 n0, .int .i64 n1, .int .i64 n2] 50)) := (xx.trans hxx).alloc _ _
    have kw : ∀ o, (w3.alloc (.cells #[.bool m, .int .i64 g0, .int .i64 g1, .int .i64 g2, .int .i64 a0, .int .i64 a1, .int .i64 a2, .bool hb1, .int .i64 bb, .bool hg, .int .i64 n0, .int .i64 n1, .int .i64 n2] 50)).cell? ⟨bw, o, none⟩ = wk[o]? := fun o => by rw [xa.cell _ _ hbw]; exact KW0.out o
    have kn0 : (w3.alloc (.cells #[.bool m, .int .i64 g0, .int .i64 g1, .int .i64 g2, .int .i64 a0, .int .i64 a1, .int .i64 a2, .bool hb1, .int .i64 bb, .bool hg, .int .i64 n0, .int .i64 n1, .int .i64 n2] 50)).cell? ⟨b, o, none⟩ = some (.int .i64 y0) := by rw [xa.cell _ _ hb]; exact KN0.out
    clear hxx kn2 kn4
    replace hb := Lib.hid hb
    replace hbw := Lib.hid hbw
    replace xa := Lib.hid xa
    go_wp2_with fail
    generalize w3.alloc (.cells #[.bool m, .int .i64 g0, .int .i64 g1, .int .i64 g2, .int .i64 a0, .int .i64 a1, .int .i64 a2, .bool hb1, .int .i64 bb, .bool hg, .int .i64 n0, .int .i64 n1, .int .i64 n2] 50) = W3 at *
    go_quiet (fail)
    go_wp2
    go_ret
    exact Gives.mk (xa.out.drewN _)
end Go.Proofs.YtnpbnpilhmbpoaaGreat
