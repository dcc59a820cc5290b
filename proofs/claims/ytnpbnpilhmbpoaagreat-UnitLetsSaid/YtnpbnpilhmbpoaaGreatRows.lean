/-
  No cell of these rows narrows 'for every input' (looked for: loops, veiled, ifaces, maps, wideKeys, modest, calm, conditions, laid).
  DERIVED. THE GIVEN ROWS OF THIS SEAT. 10 by the template 'for every input the law returns true; each argument reads behind the call as it read before'; 0 by the template 'total and deterministic' (their statements: YtnpbnpilhmbpoaaGreatTotals.lean).
  GIVEN WITH THE SEED: the statements are not yours to turn. If you find one false, say at which input.
  Laid BY PROGRAM, IN A SANDBOX (cutbox-rows.mjs): the forced cells as the released guide's own fill.sh prints them over the translation 0ddba86d10e6b3aa… (all of the seat's roots in one cut). By AI agents, Wed Nov 11 2026. No macro, syntax, notation, axiom, sorry.
-/
import Derived.Test.YtnpbnpilhmbpoaaGreatChecked
import GoSem.Claim
import GoSem.ClaimJoined
import GoSem.ClaimMapViews
import Derived.JoinedTies
import Derived.KernelRfl
namespace Go.Proofs.YtnpbnpilhmbpoaaGreat
/- THE CELL 'sum', in the pinned program and in every row, IS THE sha256 OF THE DUMP (.gsa) THAT YtnpbnpilhmbpoaaGreatProg.lean LOADS. Nothing in Lean hashes anything: it is a label: what it is worth is what the hold of that sum in a sandbox is worth. -/
noncomputable def Tryz.pinned : Pinned := { name := "ytnpbnpilhmbpoaagreat", sum := "0ddba86d10e6b3aa838e417feb8876f043344bdec87d98bbe4db59277bedef8d", checked := Tryz.checked }
namespace Rows
def none {H : Type} : Left H := { results := [], args := [] }

/-- 'alidadetop.TopOneMaster': WHATEVER THE INPUT: true; the input reads as it did. -/
def topOneMasterSpec : ChangeSpec := { name := "topOneMaster", fn := fun _ => fun
  | [d1, d2, d3] => { results := [.lit (.bool true)], args := [d1, d2, d3] }
  | _ => none }
def topOneMasterRow : OpenClaim := { program := "ytnpbnpilhmbpoaagreat", sum := "0ddba86d10e6b3aa838e417feb8876f043344bdec87d98bbe4db59277bedef8d", func := "alidade/alidadetop.TopOneMaster", spec := "topOneMaster", unfollowed := true, recurses := true, named := ["math/bits.divideError", "math/bits.overflowError"], apart := false }
def TopOneMasterSaid : Prop := topOneMasterRow.holds Tryz.pinned (OpenSpec.ofChange topOneMasterSpec)

/-- ITS FALSE NEIGHBOUR: 'it returns false'. Refute it at one input. -/
def topOneMasterWrong : ChangeSpec := { name := "topOneMaster", fn := fun _ => fun
  | [d1, d2, d3] => { results := [.lit (.bool false)], args := [d1, d2, d3] }
  | _ => none }
def TopOneMasterWrongFalsely : Prop := topOneMasterRow.holds Tryz.pinned (OpenSpec.ofChange topOneMasterWrong)

/-- 'alidadetop.TopLatch': WHATEVER THE INPUT: true; the input reads as it did. -/
def topLatchSpec : ChangeSpec := { name := "topLatch", fn := fun _ => fun
  | [d] => { results := [.lit (.bool true)], args := [d] }
  | _ => none }
def topLatchRow : OpenClaim := { program := "ytnpbnpilhmbpoaagreat", sum := "0ddba86d10e6b3aa838e417feb8876f043344bdec87d98bbe4db59277bedef8d", func := "alidade/alidadetop.TopLatch", spec := "topLatch", unfollowed := true, recurses := true, named := ["math/bits.divideError", "math/bits.overflowError"], apart := false }
def TopLatchSaid : Prop := topLatchRow.holds Tryz.pinned (OpenSpec.ofChange topLatchSpec)

/-- ITS FALSE NEIGHBOUR: 'it returns false'. Refute it at one input. -/
def topLatchWrong : ChangeSpec := { name := "topLatch", fn := fun _ => fun
  | [d] => { results := [.lit (.bool false)], args := [d] }
  | _ => none }
def TopLatchWrongFalsely : Prop := topLatchRow.holds Tryz.pinned (OpenSpec.ofChange topLatchWrong)

/-- 'alidadelaw19.UnitLets': WHATEVER THE INPUT: true; the input reads as it did. -/
def unitLetsSpec : ChangeSpec := { name := "unitLets", fn := fun _ => fun
  | [d1, d2, d3] => { results := [.lit (.bool true)], args := [d1, d2, d3] }
  | _ => none }
def unitLetsRow : OpenClaim := { program := "ytnpbnpilhmbpoaagreat", sum := "0ddba86d10e6b3aa838e417feb8876f043344bdec87d98bbe4db59277bedef8d", func := "alidade/alidadelaw19.UnitLets", spec := "unitLets", unfollowed := true, recurses := true, named := ["math/bits.divideError", "math/bits.overflowError"], apart := false }
def UnitLetsSaid : Prop := unitLetsRow.holds Tryz.pinned (OpenSpec.ofChange unitLetsSpec)

/-- ITS FALSE NEIGHBOUR: 'it returns false'. Refute it at one input. -/
def unitLetsWrong : ChangeSpec := { name := "unitLets", fn := fun _ => fun
  | [d1, d2, d3] => { results := [.lit (.bool false)], args := [d1, d2, d3] }
  | _ => none }
def UnitLetsWrongFalsely : Prop := unitLetsRow.holds Tryz.pinned (OpenSpec.ofChange unitLetsWrong)

/-- 'alidadelaw19.UnitStays': WHATEVER THE INPUT: true; the input reads as it did. -/
def unitStaysSpec : ChangeSpec := { name := "unitStays", fn := fun _ => fun
  | [d] => { results := [.lit (.bool true)], args := [d] }
  | _ => none }
def unitStaysRow : OpenClaim := { program := "ytnpbnpilhmbpoaagreat", sum := "0ddba86d10e6b3aa838e417feb8876f043344bdec87d98bbe4db59277bedef8d", func := "alidade/alidadelaw19.UnitStays", spec := "unitStays", unfollowed := true, recurses := true, named := ["math/bits.divideError", "math/bits.overflowError"], apart := false }
def UnitStaysSaid : Prop := unitStaysRow.holds Tryz.pinned (OpenSpec.ofChange unitStaysSpec)

/-- ITS FALSE NEIGHBOUR: 'it returns false'. Refute it at one input. -/
def unitStaysWrong : ChangeSpec := { name := "unitStays", fn := fun _ => fun
  | [d] => { results := [.lit (.bool false)], args := [d] }
  | _ => none }
def UnitStaysWrongFalsely : Prop := unitStaysRow.holds Tryz.pinned (OpenSpec.ofChange unitStaysWrong)

/-- 'alidadelaw20.StationFences': WHATEVER THE INPUT: true; the input reads as it did. -/
def stationFencesSpec : ChangeSpec := { name := "stationFences", fn := fun _ => fun
  | [d1, d2, d3] => { results := [.lit (.bool true)], args := [d1, d2, d3] }
  | _ => none }
def stationFencesRow : OpenClaim := { program := "ytnpbnpilhmbpoaagreat", sum := "0ddba86d10e6b3aa838e417feb8876f043344bdec87d98bbe4db59277bedef8d", func := "alidade/alidadelaw20.StationFences", spec := "stationFences", unfollowed := true, recurses := true, named := ["math/bits.divideError", "math/bits.overflowError"], apart := false }
def StationFencesSaid : Prop := stationFencesRow.holds Tryz.pinned (OpenSpec.ofChange stationFencesSpec)

/-- ITS FALSE NEIGHBOUR: 'it returns false'. Refute it at one input. -/
def stationFencesWrong : ChangeSpec := { name := "stationFences", fn := fun _ => fun
  | [d1, d2, d3] => { results := [.lit (.bool false)], args := [d1, d2, d3] }
  | _ => none }
def StationFencesWrongFalsely : Prop := stationFencesRow.holds Tryz.pinned (OpenSpec.ofChange stationFencesWrong)

/-- 'alidadelaw20.StationSpoils': WHATEVER THE INPUT: true; the input reads as it did. -/
def stationSpoilsSpec : ChangeSpec := { name := "stationSpoils", fn := fun _ => fun
  | [d] => { results := [.lit (.bool true)], args := [d] }
  | _ => none }
def stationSpoilsRow : OpenClaim := { program := "ytnpbnpilhmbpoaagreat", sum := "0ddba86d10e6b3aa838e417feb8876f043344bdec87d98bbe4db59277bedef8d", func := "alidade/alidadelaw20.StationSpoils", spec := "stationSpoils", unfollowed := true, recurses := true, named := ["math/bits.divideError", "math/bits.overflowError"], apart := false }
def StationSpoilsSaid : Prop := stationSpoilsRow.holds Tryz.pinned (OpenSpec.ofChange stationSpoilsSpec)

/-- ITS FALSE NEIGHBOUR: 'it returns false'. Refute it at one input. -/
def stationSpoilsWrong : ChangeSpec := { name := "stationSpoils", fn := fun _ => fun
  | [d] => { results := [.lit (.bool false)], args := [d] }
  | _ => none }
def StationSpoilsWrongFalsely : Prop := stationSpoilsRow.holds Tryz.pinned (OpenSpec.ofChange stationSpoilsWrong)

/-- 'alidadelaw20.StationLoses': WHATEVER THE INPUT: true; the input reads as it did. -/
def stationLosesSpec : ChangeSpec := { name := "stationLoses", fn := fun _ => fun
  | [d1, d2, d3] => { results := [.lit (.bool true)], args := [d1, d2, d3] }
  | _ => none }
def stationLosesRow : OpenClaim := { program := "ytnpbnpilhmbpoaagreat", sum := "0ddba86d10e6b3aa838e417feb8876f043344bdec87d98bbe4db59277bedef8d", func := "alidade/alidadelaw20.StationLoses", spec := "stationLoses", unfollowed := true, recurses := true, named := ["math/bits.divideError", "math/bits.overflowError"], apart := false }
def StationLosesSaid : Prop := stationLosesRow.holds Tryz.pinned (OpenSpec.ofChange stationLosesSpec)

/-- ITS FALSE NEIGHBOUR: 'it returns false'. Refute it at one input. -/
def stationLosesWrong : ChangeSpec := { name := "stationLoses", fn := fun _ => fun
  | [d1, d2, d3] => { results := [.lit (.bool false)], args := [d1, d2, d3] }
  | _ => none }
def StationLosesWrongFalsely : Prop := stationLosesRow.holds Tryz.pinned (OpenSpec.ofChange stationLosesWrong)

/-- 'alidadelaw20.StationAlone': WHATEVER THE INPUT: true; the input reads as it did. -/
def stationAloneSpec : ChangeSpec := { name := "stationAlone", fn := fun _ => fun
  | [d1, d2, d3] => { results := [.lit (.bool true)], args := [d1, d2, d3] }
  | _ => none }
def stationAloneRow : OpenClaim := { program := "ytnpbnpilhmbpoaagreat", sum := "0ddba86d10e6b3aa838e417feb8876f043344bdec87d98bbe4db59277bedef8d", func := "alidade/alidadelaw20.StationAlone", spec := "stationAlone", unfollowed := true, recurses := true, named := ["math/bits.divideError", "math/bits.overflowError"], apart := false }
def StationAloneSaid : Prop := stationAloneRow.holds Tryz.pinned (OpenSpec.ofChange stationAloneSpec)

/-- ITS FALSE NEIGHBOUR: 'it returns false'. Refute it at one input. -/
def stationAloneWrong : ChangeSpec := { name := "stationAlone", fn := fun _ => fun
  | [d1, d2, d3] => { results := [.lit (.bool false)], args := [d1, d2, d3] }
  | _ => none }
def StationAloneWrongFalsely : Prop := stationAloneRow.holds Tryz.pinned (OpenSpec.ofChange stationAloneWrong)

/-- 'alidadelaw20.StationBooks': WHATEVER THE INPUT: true; the input reads as it did. -/
def stationBooksSpec : ChangeSpec := { name := "stationBooks", fn := fun _ => fun
  | [d1, d2, d3] => { results := [.lit (.bool true)], args := [d1, d2, d3] }
  | _ => none }
def stationBooksRow : OpenClaim := { program := "ytnpbnpilhmbpoaagreat", sum := "0ddba86d10e6b3aa838e417feb8876f043344bdec87d98bbe4db59277bedef8d", func := "alidade/alidadelaw20.StationBooks", spec := "stationBooks", unfollowed := true, recurses := true, named := ["math/bits.divideError", "math/bits.overflowError"], apart := false }
def StationBooksSaid : Prop := stationBooksRow.holds Tryz.pinned (OpenSpec.ofChange stationBooksSpec)

/-- ITS FALSE NEIGHBOUR: 'it returns false'. Refute it at one input. -/
def stationBooksWrong : ChangeSpec := { name := "stationBooks", fn := fun _ => fun
  | [d1, d2, d3] => { results := [.lit (.bool false)], args := [d1, d2, d3] }
  | _ => none }
def StationBooksWrongFalsely : Prop := stationBooksRow.holds Tryz.pinned (OpenSpec.ofChange stationBooksWrong)

/-- 'alidadelaw20.StationSame': WHATEVER THE INPUT: true; the input reads as it did. -/
def stationSameSpec : ChangeSpec := { name := "stationSame", fn := fun _ => fun
  | [d1, d2] => { results := [.lit (.bool true)], args := [d1, d2] }
  | _ => none }
def stationSameRow : OpenClaim := { program := "ytnpbnpilhmbpoaagreat", sum := "0ddba86d10e6b3aa838e417feb8876f043344bdec87d98bbe4db59277bedef8d", func := "alidade/alidadelaw20.StationSame", spec := "stationSame", unfollowed := true, recurses := true, named := ["math/bits.divideError", "math/bits.overflowError"], apart := false }
def StationSameSaid : Prop := stationSameRow.holds Tryz.pinned (OpenSpec.ofChange stationSameSpec)

/-- ITS FALSE NEIGHBOUR: 'it returns false'. Refute it at one input. -/
def stationSameWrong : ChangeSpec := { name := "stationSame", fn := fun _ => fun
  | [d1, d2] => { results := [.lit (.bool false)], args := [d1, d2] }
  | _ => none }
def StationSameWrongFalsely : Prop := stationSameRow.holds Tryz.pinned (OpenSpec.ofChange stationSameWrong)

/- THE SECOND FORM. 'bulk': how many values and letters a reading holds, each counted each time it is reached (what is shared counts as often as it is met; a slice's spare places count too). A statement '..UptoSaid' is the law's where the arguments, and the package variables that the reading takes, are together of bulk at most 1048576: NARROWER than '..Said'. Prove '..Said' where nothing that the law and all that it calls make is longer than what came in: it says more and counts as full. Else prove '..UptoSaid'. A law counts once. -/
mutual
def uptoBulk {H : Type} : DataW H → Nat
  | .lit (.string bytes) => bytes.length + 1
  | .lit _ => 1
  | .nil => 1
  | .ptr d => uptoBulk d + 1
  | .slice elems spare => uptoBulkAll elems + uptoBulkAll spare + 1
  | .agg parts => uptoBulkAll parts + 1
  | .iface _ d => uptoBulk d + 1
  | .map entries => uptoBulkEntries entries + 1
  | .held _ => 1
def uptoBulkAll {H : Type} : List (DataW H) → Nat
  | [] => 0
  | d :: r => uptoBulk d + uptoBulkAll r
def uptoBulkEntries {H : Type} : List (Lit × DataW H) → Nat
  | [] => 0
  | x :: r => uptoBulkEntry x + uptoBulkEntries r
def uptoBulkEntry {H : Type} : Lit × DataW H → Nat
  | (.string bytes, d) => bytes.length + uptoBulk d + 1
  | (_, d) => uptoBulk d + 1
 end
def uptoSmall : (H : Type) → List (DataW H) → Bool := fun _ ds => decide (uptoBulkAll ds ≤ 1048576)
def OpenSpec.upto (s : _root_.Go.ChangeSpec) : _root_.Go.OpenSpec := { _root_.Go.OpenSpec.ofChange s with cond := some uptoSmall }

/-- 'alidadetop.TopOneMaster', WHERE WHAT IT READS IS OF BULK AT MOST 1048576: true; the input reads as it did. -/
def topOneMasterUptoRow : OpenClaim := { program := "ytnpbnpilhmbpoaagreat", sum := "0ddba86d10e6b3aa838e417feb8876f043344bdec87d98bbe4db59277bedef8d", func := "alidade/alidadetop.TopOneMaster", spec := "topOneMaster", unfollowed := true, recurses := true, named := ["math/bits.divideError", "math/bits.overflowError"], apart := false, narrowed := true }
def TopOneMasterUptoSaid : Prop := topOneMasterUptoRow.holds Tryz.pinned (OpenSpec.upto topOneMasterSpec)

/-- 'alidadetop.TopLatch', WHERE WHAT IT READS IS OF BULK AT MOST 1048576: true; the input reads as it did. -/
def topLatchUptoRow : OpenClaim := { program := "ytnpbnpilhmbpoaagreat", sum := "0ddba86d10e6b3aa838e417feb8876f043344bdec87d98bbe4db59277bedef8d", func := "alidade/alidadetop.TopLatch", spec := "topLatch", unfollowed := true, recurses := true, named := ["math/bits.divideError", "math/bits.overflowError"], apart := false, narrowed := true }
def TopLatchUptoSaid : Prop := topLatchUptoRow.holds Tryz.pinned (OpenSpec.upto topLatchSpec)

/-- 'alidadelaw19.UnitLets', WHERE WHAT IT READS IS OF BULK AT MOST 1048576: true; the input reads as it did. -/
def unitLetsUptoRow : OpenClaim := { program := "ytnpbnpilhmbpoaagreat", sum := "0ddba86d10e6b3aa838e417feb8876f043344bdec87d98bbe4db59277bedef8d", func := "alidade/alidadelaw19.UnitLets", spec := "unitLets", unfollowed := true, recurses := true, named := ["math/bits.divideError", "math/bits.overflowError"], apart := false, narrowed := true }
def UnitLetsUptoSaid : Prop := unitLetsUptoRow.holds Tryz.pinned (OpenSpec.upto unitLetsSpec)

/-- 'alidadelaw19.UnitStays', WHERE WHAT IT READS IS OF BULK AT MOST 1048576: true; the input reads as it did. -/
def unitStaysUptoRow : OpenClaim := { program := "ytnpbnpilhmbpoaagreat", sum := "0ddba86d10e6b3aa838e417feb8876f043344bdec87d98bbe4db59277bedef8d", func := "alidade/alidadelaw19.UnitStays", spec := "unitStays", unfollowed := true, recurses := true, named := ["math/bits.divideError", "math/bits.overflowError"], apart := false, narrowed := true }
def UnitStaysUptoSaid : Prop := unitStaysUptoRow.holds Tryz.pinned (OpenSpec.upto unitStaysSpec)

/-- 'alidadelaw20.StationFences', WHERE WHAT IT READS IS OF BULK AT MOST 1048576: true; the input reads as it did. -/
def stationFencesUptoRow : OpenClaim := { program := "ytnpbnpilhmbpoaagreat", sum := "0ddba86d10e6b3aa838e417feb8876f043344bdec87d98bbe4db59277bedef8d", func := "alidade/alidadelaw20.StationFences", spec := "stationFences", unfollowed := true, recurses := true, named := ["math/bits.divideError", "math/bits.overflowError"], apart := false, narrowed := true }
def StationFencesUptoSaid : Prop := stationFencesUptoRow.holds Tryz.pinned (OpenSpec.upto stationFencesSpec)

/-- 'alidadelaw20.StationSpoils', WHERE WHAT IT READS IS OF BULK AT MOST 1048576: true; the input reads as it did. -/
def stationSpoilsUptoRow : OpenClaim := { program := "ytnpbnpilhmbpoaagreat", sum := "0ddba86d10e6b3aa838e417feb8876f043344bdec87d98bbe4db59277bedef8d", func := "alidade/alidadelaw20.StationSpoils", spec := "stationSpoils", unfollowed := true, recurses := true, named := ["math/bits.divideError", "math/bits.overflowError"], apart := false, narrowed := true }
def StationSpoilsUptoSaid : Prop := stationSpoilsUptoRow.holds Tryz.pinned (OpenSpec.upto stationSpoilsSpec)

/-- 'alidadelaw20.StationLoses', WHERE WHAT IT READS IS OF BULK AT MOST 1048576: true; the input reads as it did. -/
def stationLosesUptoRow : OpenClaim := { program := "ytnpbnpilhmbpoaagreat", sum := "0ddba86d10e6b3aa838e417feb8876f043344bdec87d98bbe4db59277bedef8d", func := "alidade/alidadelaw20.StationLoses", spec := "stationLoses", unfollowed := true, recurses := true, named := ["math/bits.divideError", "math/bits.overflowError"], apart := false, narrowed := true }
def StationLosesUptoSaid : Prop := stationLosesUptoRow.holds Tryz.pinned (OpenSpec.upto stationLosesSpec)

/-- 'alidadelaw20.StationAlone', WHERE WHAT IT READS IS OF BULK AT MOST 1048576: true; the input reads as it did. -/
def stationAloneUptoRow : OpenClaim := { program := "ytnpbnpilhmbpoaagreat", sum := "0ddba86d10e6b3aa838e417feb8876f043344bdec87d98bbe4db59277bedef8d", func := "alidade/alidadelaw20.StationAlone", spec := "stationAlone", unfollowed := true, recurses := true, named := ["math/bits.divideError", "math/bits.overflowError"], apart := false, narrowed := true }
def StationAloneUptoSaid : Prop := stationAloneUptoRow.holds Tryz.pinned (OpenSpec.upto stationAloneSpec)

/-- 'alidadelaw20.StationBooks', WHERE WHAT IT READS IS OF BULK AT MOST 1048576: true; the input reads as it did. -/
def stationBooksUptoRow : OpenClaim := { program := "ytnpbnpilhmbpoaagreat", sum := "0ddba86d10e6b3aa838e417feb8876f043344bdec87d98bbe4db59277bedef8d", func := "alidade/alidadelaw20.StationBooks", spec := "stationBooks", unfollowed := true, recurses := true, named := ["math/bits.divideError", "math/bits.overflowError"], apart := false, narrowed := true }
def StationBooksUptoSaid : Prop := stationBooksUptoRow.holds Tryz.pinned (OpenSpec.upto stationBooksSpec)

/-- 'alidadelaw20.StationSame', WHERE WHAT IT READS IS OF BULK AT MOST 1048576: true; the input reads as it did. -/
def stationSameUptoRow : OpenClaim := { program := "ytnpbnpilhmbpoaagreat", sum := "0ddba86d10e6b3aa838e417feb8876f043344bdec87d98bbe4db59277bedef8d", func := "alidade/alidadelaw20.StationSame", spec := "stationSame", unfollowed := true, recurses := true, named := ["math/bits.divideError", "math/bits.overflowError"], apart := false, narrowed := true }
def StationSameUptoSaid : Prop := stationSameUptoRow.holds Tryz.pinned (OpenSpec.upto stationSameSpec)

end Rows
end Go.Proofs.YtnpbnpilhmbpoaaGreat
