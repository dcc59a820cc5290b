/-
  No cell of these rows narrows 'for every input' (looked for: loops, veiled, ifaces, maps, wideKeys, modest, calm, conditions, laid).
  DERIVED. THE GIVEN ROWS OF THIS SEAT. 10 by the template 'for every input the law returns true; each argument reads behind the call as it read before'; 0 by the template 'total and deterministic' (their statements: YtdjgafcniifmlaaTotals.lean).
  GIVEN WITH THE SEED: the statements are not yours to turn. If you find one false, say at which input.
  Laid BY PROGRAM, IN A SANDBOX (cutbox-rows.mjs): the forced cells as the released guide's own fill.sh prints them over the translation b0ea0c8c9c1c8ef6… (all of the seat's roots in one cut). By AI agents, Wed Nov 11 2026. No macro, syntax, notation, axiom, sorry.
-/
import Derived.Test.YtdjgafcniifmlaaChecked
import GoSem.Claim
import GoSem.ClaimJoined
import GoSem.ClaimMapViews
import Derived.JoinedTies
import Derived.KernelRfl
namespace Go.Proofs.Ytdjgafcniifmlaa
/- THE CELL 'sum', in the pinned program and in every row, IS THE sha256 OF THE DUMP (.gsa) THAT YtdjgafcniifmlaaProg.lean LOADS. Nothing in Lean hashes anything: it is a label: what it is worth is what the hold of that sum in a sandbox is worth. -/
noncomputable def Try.pinned : Pinned := { name := "ytdjgafcniifmlaa", sum := "b0ea0c8c9c1c8ef6a4b78d19d0756170485e882f5f76bd7a27c16c346f48c6e2", checked := Try.checked }
namespace Rows
def none {H : Type} : Left H := { results := [], args := [] }

/-- 'alidadelaw04.QuatRounds': WHATEVER THE INPUT: true; the input reads as it did. -/
def quatRoundsSpec : ChangeSpec := { name := "quatRounds", fn := fun _ => fun
  | [d1, d2] => { results := [.lit (.bool true)], args := [d1, d2] }
  | _ => none }
def quatRoundsRow : OpenClaim := { program := "ytdjgafcniifmlaa", sum := "b0ea0c8c9c1c8ef6a4b78d19d0756170485e882f5f76bd7a27c16c346f48c6e2", func := "alidade/alidadelaw04.QuatRounds", spec := "quatRounds", unfollowed := true, recurses := true, apart := false }
def QuatRoundsSaid : Prop := quatRoundsRow.holds Try.pinned (OpenSpec.ofChange quatRoundsSpec)

/-- ITS FALSE NEIGHBOUR: 'it returns false'. Refute it at one input. -/
def quatRoundsWrong : ChangeSpec := { name := "quatRounds", fn := fun _ => fun
  | [d1, d2] => { results := [.lit (.bool false)], args := [d1, d2] }
  | _ => none }
def QuatRoundsWrongFalsely : Prop := quatRoundsRow.holds Try.pinned (OpenSpec.ofChange quatRoundsWrong)

/-- 'alidadelaw04.QuatWholes': WHATEVER THE INPUT: true; the input reads as it did. -/
def quatWholesSpec : ChangeSpec := { name := "quatWholes", fn := fun _ => fun
  | [d1, d2, d3] => { results := [.lit (.bool true)], args := [d1, d2, d3] }
  | _ => none }
def quatWholesRow : OpenClaim := { program := "ytdjgafcniifmlaa", sum := "b0ea0c8c9c1c8ef6a4b78d19d0756170485e882f5f76bd7a27c16c346f48c6e2", func := "alidade/alidadelaw04.QuatWholes", spec := "quatWholes", unfollowed := true, recurses := true, apart := false }
def QuatWholesSaid : Prop := quatWholesRow.holds Try.pinned (OpenSpec.ofChange quatWholesSpec)

/-- ITS FALSE NEIGHBOUR: 'it returns false'. Refute it at one input. -/
def quatWholesWrong : ChangeSpec := { name := "quatWholes", fn := fun _ => fun
  | [d1, d2, d3] => { results := [.lit (.bool false)], args := [d1, d2, d3] }
  | _ => none }
def QuatWholesWrongFalsely : Prop := quatWholesRow.holds Try.pinned (OpenSpec.ofChange quatWholesWrong)

/-- 'alidadelaw04.QuatConjs': WHATEVER THE INPUT: true; the input reads as it did. -/
def quatConjsSpec : ChangeSpec := { name := "quatConjs", fn := fun _ => fun
  | [d1, d2] => { results := [.lit (.bool true)], args := [d1, d2] }
  | _ => none }
def quatConjsRow : OpenClaim := { program := "ytdjgafcniifmlaa", sum := "b0ea0c8c9c1c8ef6a4b78d19d0756170485e882f5f76bd7a27c16c346f48c6e2", func := "alidade/alidadelaw04.QuatConjs", spec := "quatConjs", unfollowed := true, recurses := true, apart := false }
def QuatConjsSaid : Prop := quatConjsRow.holds Try.pinned (OpenSpec.ofChange quatConjsSpec)

/-- ITS FALSE NEIGHBOUR: 'it returns false'. Refute it at one input. -/
def quatConjsWrong : ChangeSpec := { name := "quatConjs", fn := fun _ => fun
  | [d1, d2] => { results := [.lit (.bool false)], args := [d1, d2] }
  | _ => none }
def QuatConjsWrongFalsely : Prop := quatConjsRow.holds Try.pinned (OpenSpec.ofChange quatConjsWrong)

/-- 'alidadelaw01.QfixNear': WHATEVER THE INPUT: true; the input reads as it did. -/
def qfixNearSpec : ChangeSpec := { name := "qfixNear", fn := fun _ => fun
  | [d1, d2] => { results := [.lit (.bool true)], args := [d1, d2] }
  | _ => none }
def qfixNearRow : OpenClaim := { program := "ytdjgafcniifmlaa", sum := "b0ea0c8c9c1c8ef6a4b78d19d0756170485e882f5f76bd7a27c16c346f48c6e2", func := "alidade/alidadelaw01.QfixNear", spec := "qfixNear", unfollowed := true, recurses := true, named := ["math/bits.divideError", "math/bits.overflowError"], apart := false }
def QfixNearSaid : Prop := qfixNearRow.holds Try.pinned (OpenSpec.ofChange qfixNearSpec)

/-- ITS FALSE NEIGHBOUR: 'it returns false'. Refute it at one input. -/
def qfixNearWrong : ChangeSpec := { name := "qfixNear", fn := fun _ => fun
  | [d1, d2] => { results := [.lit (.bool false)], args := [d1, d2] }
  | _ => none }
def QfixNearWrongFalsely : Prop := qfixNearRow.holds Try.pinned (OpenSpec.ofChange qfixNearWrong)

/-- 'alidadelaw01.QfixSigns': WHATEVER THE INPUT: true; the input reads as it did. -/
def qfixSignsSpec : ChangeSpec := { name := "qfixSigns", fn := fun _ => fun
  | [d1, d2] => { results := [.lit (.bool true)], args := [d1, d2] }
  | _ => none }
def qfixSignsRow : OpenClaim := { program := "ytdjgafcniifmlaa", sum := "b0ea0c8c9c1c8ef6a4b78d19d0756170485e882f5f76bd7a27c16c346f48c6e2", func := "alidade/alidadelaw01.QfixSigns", spec := "qfixSigns", unfollowed := true, recurses := true, named := ["math/bits.divideError", "math/bits.overflowError"], apart := false }
def QfixSignsSaid : Prop := qfixSignsRow.holds Try.pinned (OpenSpec.ofChange qfixSignsSpec)

/-- ITS FALSE NEIGHBOUR: 'it returns false'. Refute it at one input. -/
def qfixSignsWrong : ChangeSpec := { name := "qfixSigns", fn := fun _ => fun
  | [d1, d2] => { results := [.lit (.bool false)], args := [d1, d2] }
  | _ => none }
def QfixSignsWrongFalsely : Prop := qfixSignsRow.holds Try.pinned (OpenSpec.ofChange qfixSignsWrong)

/-- 'alidadelaw01.QfixOrders': WHATEVER THE INPUT: true; the input reads as it did. -/
def qfixOrdersSpec : ChangeSpec := { name := "qfixOrders", fn := fun _ => fun
  | [d1, d2] => { results := [.lit (.bool true)], args := [d1, d2] }
  | _ => none }
def qfixOrdersRow : OpenClaim := { program := "ytdjgafcniifmlaa", sum := "b0ea0c8c9c1c8ef6a4b78d19d0756170485e882f5f76bd7a27c16c346f48c6e2", func := "alidade/alidadelaw01.QfixOrders", spec := "qfixOrders", unfollowed := true, recurses := true, named := ["math/bits.divideError", "math/bits.overflowError"], apart := false }
def QfixOrdersSaid : Prop := qfixOrdersRow.holds Try.pinned (OpenSpec.ofChange qfixOrdersSpec)

/-- ITS FALSE NEIGHBOUR: 'it returns false'. Refute it at one input. -/
def qfixOrdersWrong : ChangeSpec := { name := "qfixOrders", fn := fun _ => fun
  | [d1, d2] => { results := [.lit (.bool false)], args := [d1, d2] }
  | _ => none }
def QfixOrdersWrongFalsely : Prop := qfixOrdersRow.holds Try.pinned (OpenSpec.ofChange qfixOrdersWrong)

/-- 'alidadelaw01.QfixRoots': WHATEVER THE INPUT: true; the input reads as it did. -/
def qfixRootsSpec : ChangeSpec := { name := "qfixRoots", fn := fun _ => fun
  | [d1, d2] => { results := [.lit (.bool true)], args := [d1, d2] }
  | _ => none }
def qfixRootsRow : OpenClaim := { program := "ytdjgafcniifmlaa", sum := "b0ea0c8c9c1c8ef6a4b78d19d0756170485e882f5f76bd7a27c16c346f48c6e2", func := "alidade/alidadelaw01.QfixRoots", spec := "qfixRoots", unfollowed := true, recurses := true, named := ["math/bits.divideError", "math/bits.overflowError"], apart := false }
def QfixRootsSaid : Prop := qfixRootsRow.holds Try.pinned (OpenSpec.ofChange qfixRootsSpec)

/-- ITS FALSE NEIGHBOUR: 'it returns false'. Refute it at one input. -/
def qfixRootsWrong : ChangeSpec := { name := "qfixRoots", fn := fun _ => fun
  | [d1, d2] => { results := [.lit (.bool false)], args := [d1, d2] }
  | _ => none }
def QfixRootsWrongFalsely : Prop := qfixRootsRow.holds Try.pinned (OpenSpec.ofChange qfixRootsWrong)

/-- 'alidadelaw01.QfixBounds': WHATEVER THE INPUT: true; the input reads as it did. -/
def qfixBoundsSpec : ChangeSpec := { name := "qfixBounds", fn := fun _ => fun
  | [d1, d2, d3] => { results := [.lit (.bool true)], args := [d1, d2, d3] }
  | _ => none }
def qfixBoundsRow : OpenClaim := { program := "ytdjgafcniifmlaa", sum := "b0ea0c8c9c1c8ef6a4b78d19d0756170485e882f5f76bd7a27c16c346f48c6e2", func := "alidade/alidadelaw01.QfixBounds", spec := "qfixBounds", unfollowed := true, recurses := true, named := ["math/bits.divideError", "math/bits.overflowError"], apart := false }
def QfixBoundsSaid : Prop := qfixBoundsRow.holds Try.pinned (OpenSpec.ofChange qfixBoundsSpec)

/-- ITS FALSE NEIGHBOUR: 'it returns false'. Refute it at one input. -/
def qfixBoundsWrong : ChangeSpec := { name := "qfixBounds", fn := fun _ => fun
  | [d1, d2, d3] => { results := [.lit (.bool false)], args := [d1, d2, d3] }
  | _ => none }
def QfixBoundsWrongFalsely : Prop := qfixBoundsRow.holds Try.pinned (OpenSpec.ofChange qfixBoundsWrong)

/-- 'alidadelaw04.QuatUnits': WHATEVER THE INPUT: true; the input reads as it did. -/
def quatUnitsSpec : ChangeSpec := { name := "quatUnits", fn := fun _ => fun
  | [d] => { results := [.lit (.bool true)], args := [d] }
  | _ => none }
def quatUnitsRow : OpenClaim := { program := "ytdjgafcniifmlaa", sum := "b0ea0c8c9c1c8ef6a4b78d19d0756170485e882f5f76bd7a27c16c346f48c6e2", func := "alidade/alidadelaw04.QuatUnits", spec := "quatUnits", unfollowed := true, recurses := true, named := ["math/bits.divideError", "math/bits.overflowError"], apart := false }
def QuatUnitsSaid : Prop := quatUnitsRow.holds Try.pinned (OpenSpec.ofChange quatUnitsSpec)

/-- ITS FALSE NEIGHBOUR: 'it returns false'. Refute it at one input. -/
def quatUnitsWrong : ChangeSpec := { name := "quatUnits", fn := fun _ => fun
  | [d] => { results := [.lit (.bool false)], args := [d] }
  | _ => none }
def QuatUnitsWrongFalsely : Prop := quatUnitsRow.holds Try.pinned (OpenSpec.ofChange quatUnitsWrong)

/-- 'alidadelaw04.QuatSmalls': WHATEVER THE INPUT: true; the input reads as it did. -/
def quatSmallsSpec : ChangeSpec := { name := "quatSmalls", fn := fun _ => fun
  | [d1, d2] => { results := [.lit (.bool true)], args := [d1, d2] }
  | _ => none }
def quatSmallsRow : OpenClaim := { program := "ytdjgafcniifmlaa", sum := "b0ea0c8c9c1c8ef6a4b78d19d0756170485e882f5f76bd7a27c16c346f48c6e2", func := "alidade/alidadelaw04.QuatSmalls", spec := "quatSmalls", unfollowed := true, recurses := true, named := ["math/bits.divideError", "math/bits.overflowError"], apart := false }
def QuatSmallsSaid : Prop := quatSmallsRow.holds Try.pinned (OpenSpec.ofChange quatSmallsSpec)

/-- ITS FALSE NEIGHBOUR: 'it returns false'. Refute it at one input. -/
def quatSmallsWrong : ChangeSpec := { name := "quatSmalls", fn := fun _ => fun
  | [d1, d2] => { results := [.lit (.bool false)], args := [d1, d2] }
  | _ => none }
def QuatSmallsWrongFalsely : Prop := quatSmallsRow.holds Try.pinned (OpenSpec.ofChange quatSmallsWrong)

/- THE SECOND FORM. 'bulk': how many values and letters a reading holds, each counted each time it is reached (what is shared counts as often as it is met; a slice's spare places count too). A statement '..UptoSaid' is the law's where the arguments, and the package variables that the reading takes, are together of bulk at most 1048576: NARROWER than '..Said'. Prove '..Said' where nothing that the law and all that it calls make is longer than what came in: it says more and counts as full. Else prove '..UptoSaid'. A law counts once. -/
mutual
def uptoBulk {H : Type} : DataW H → Nat
  | .lit (.string bytes) => bytes.length + 1
  | .lit _ => 1
  | .nil => 1
  | .ptr d => uptoBulk d + 1
  | .slice elems spare => uptoBulkAll elems + uptoBulkAll spare + 1
  | .agg parts => uptoBulkAll parts + 1
  | .iface _ d => uptoBulk d + 1
  | .map entries => uptoBulkEntries entries + 1
  | .held _ => 1
def uptoBulkAll {H : Type} : List (DataW H) → Nat
  | [] => 0
  | d :: r => uptoBulk d + uptoBulkAll r
def uptoBulkEntries {H : Type} : List (Lit × DataW H) → Nat
  | [] => 0
  | x :: r => uptoBulkEntry x + uptoBulkEntries r
def uptoBulkEntry {H : Type} : Lit × DataW H → Nat
  | (.string bytes, d) => bytes.length + uptoBulk d + 1
  | (_, d) => uptoBulk d + 1
 end
def uptoSmall : (H : Type) → List (DataW H) → Bool := fun _ ds => decide (uptoBulkAll ds ≤ 1048576)
def OpenSpec.upto (s : _root_.Go.ChangeSpec) : _root_.Go.OpenSpec := { _root_.Go.OpenSpec.ofChange s with cond := some uptoSmall }

/-- 'alidadelaw04.QuatRounds', WHERE WHAT IT READS IS OF BULK AT MOST 1048576: true; the input reads as it did. -/
def quatRoundsUptoRow : OpenClaim := { program := "ytdjgafcniifmlaa", sum := "b0ea0c8c9c1c8ef6a4b78d19d0756170485e882f5f76bd7a27c16c346f48c6e2", func := "alidade/alidadelaw04.QuatRounds", spec := "quatRounds", unfollowed := true, recurses := true, apart := false, narrowed := true }
def QuatRoundsUptoSaid : Prop := quatRoundsUptoRow.holds Try.pinned (OpenSpec.upto quatRoundsSpec)

/-- 'alidadelaw04.QuatWholes', WHERE WHAT IT READS IS OF BULK AT MOST 1048576: true; the input reads as it did. -/
def quatWholesUptoRow : OpenClaim := { program := "ytdjgafcniifmlaa", sum := "b0ea0c8c9c1c8ef6a4b78d19d0756170485e882f5f76bd7a27c16c346f48c6e2", func := "alidade/alidadelaw04.QuatWholes", spec := "quatWholes", unfollowed := true, recurses := true, apart := false, narrowed := true }
def QuatWholesUptoSaid : Prop := quatWholesUptoRow.holds Try.pinned (OpenSpec.upto quatWholesSpec)

/-- 'alidadelaw04.QuatConjs', WHERE WHAT IT READS IS OF BULK AT MOST 1048576: true; the input reads as it did. -/
def quatConjsUptoRow : OpenClaim := { program := "ytdjgafcniifmlaa", sum := "b0ea0c8c9c1c8ef6a4b78d19d0756170485e882f5f76bd7a27c16c346f48c6e2", func := "alidade/alidadelaw04.QuatConjs", spec := "quatConjs", unfollowed := true, recurses := true, apart := false, narrowed := true }
def QuatConjsUptoSaid : Prop := quatConjsUptoRow.holds Try.pinned (OpenSpec.upto quatConjsSpec)

/-- 'alidadelaw01.QfixNear', WHERE WHAT IT READS IS OF BULK AT MOST 1048576: true; the input reads as it did. -/
def qfixNearUptoRow : OpenClaim := { program := "ytdjgafcniifmlaa", sum := "b0ea0c8c9c1c8ef6a4b78d19d0756170485e882f5f76bd7a27c16c346f48c6e2", func := "alidade/alidadelaw01.QfixNear", spec := "qfixNear", unfollowed := true, recurses := true, named := ["math/bits.divideError", "math/bits.overflowError"], apart := false, narrowed := true }
def QfixNearUptoSaid : Prop := qfixNearUptoRow.holds Try.pinned (OpenSpec.upto qfixNearSpec)

/-- 'alidadelaw01.QfixSigns', WHERE WHAT IT READS IS OF BULK AT MOST 1048576: true; the input reads as it did. -/
def qfixSignsUptoRow : OpenClaim := { program := "ytdjgafcniifmlaa", sum := "b0ea0c8c9c1c8ef6a4b78d19d0756170485e882f5f76bd7a27c16c346f48c6e2", func := "alidade/alidadelaw01.QfixSigns", spec := "qfixSigns", unfollowed := true, recurses := true, named := ["math/bits.divideError", "math/bits.overflowError"], apart := false, narrowed := true }
def QfixSignsUptoSaid : Prop := qfixSignsUptoRow.holds Try.pinned (OpenSpec.upto qfixSignsSpec)

/-- 'alidadelaw01.QfixOrders', WHERE WHAT IT READS IS OF BULK AT MOST 1048576: true; the input reads as it did. -/
def qfixOrdersUptoRow : OpenClaim := { program := "ytdjgafcniifmlaa", sum := "b0ea0c8c9c1c8ef6a4b78d19d0756170485e882f5f76bd7a27c16c346f48c6e2", func := "alidade/alidadelaw01.QfixOrders", spec := "qfixOrders", unfollowed := true, recurses := true, named := ["math/bits.divideError", "math/bits.overflowError"], apart := false, narrowed := true }
def QfixOrdersUptoSaid : Prop := qfixOrdersUptoRow.holds Try.pinned (OpenSpec.upto qfixOrdersSpec)

/-- 'alidadelaw01.QfixRoots', WHERE WHAT IT READS IS OF BULK AT MOST 1048576: true; the input reads as it did. -/
def qfixRootsUptoRow : OpenClaim := { program := "ytdjgafcniifmlaa", sum := "b0ea0c8c9c1c8ef6a4b78d19d0756170485e882f5f76bd7a27c16c346f48c6e2", func := "alidade/alidadelaw01.QfixRoots", spec := "qfixRoots", unfollowed := true, recurses := true, named := ["math/bits.divideError", "math/bits.overflowError"], apart := false, narrowed := true }
def QfixRootsUptoSaid : Prop := qfixRootsUptoRow.holds Try.pinned (OpenSpec.upto qfixRootsSpec)

/-- 'alidadelaw01.QfixBounds', WHERE WHAT IT READS IS OF BULK AT MOST 1048576: true; the input reads as it did. -/
def qfixBoundsUptoRow : OpenClaim := { program := "ytdjgafcniifmlaa", sum := "b0ea0c8c9c1c8ef6a4b78d19d0756170485e882f5f76bd7a27c16c346f48c6e2", func := "alidade/alidadelaw01.QfixBounds", spec := "qfixBounds", unfollowed := true, recurses := true, named := ["math/bits.divideError", "math/bits.overflowError"], apart := false, narrowed := true }
def QfixBoundsUptoSaid : Prop := qfixBoundsUptoRow.holds Try.pinned (OpenSpec.upto qfixBoundsSpec)

/-- 'alidadelaw04.QuatUnits', WHERE WHAT IT READS IS OF BULK AT MOST 1048576: true; the input reads as it did. -/
def quatUnitsUptoRow : OpenClaim := { program := "ytdjgafcniifmlaa", sum := "b0ea0c8c9c1c8ef6a4b78d19d0756170485e882f5f76bd7a27c16c346f48c6e2", func := "alidade/alidadelaw04.QuatUnits", spec := "quatUnits", unfollowed := true, recurses := true, named := ["math/bits.divideError", "math/bits.overflowError"], apart := false, narrowed := true }
def QuatUnitsUptoSaid : Prop := quatUnitsUptoRow.holds Try.pinned (OpenSpec.upto quatUnitsSpec)

/-- 'alidadelaw04.QuatSmalls', WHERE WHAT IT READS IS OF BULK AT MOST 1048576: true; the input reads as it did. -/
def quatSmallsUptoRow : OpenClaim := { program := "ytdjgafcniifmlaa", sum := "b0ea0c8c9c1c8ef6a4b78d19d0756170485e882f5f76bd7a27c16c346f48c6e2", func := "alidade/alidadelaw04.QuatSmalls", spec := "quatSmalls", unfollowed := true, recurses := true, named := ["math/bits.divideError", "math/bits.overflowError"], apart := false, narrowed := true }
def QuatSmallsUptoSaid : Prop := quatSmallsUptoRow.holds Try.pinned (OpenSpec.upto quatSmallsSpec)

end Rows
end Go.Proofs.Ytdjgafcniifmlaa
