/-
  No cell of these rows narrows 'for every input' (looked for: loops, veiled, ifaces, maps, wideKeys, modest, calm, conditions, laid).
  DERIVED. THE GIVEN ROWS OF THIS SEAT. 11 by the template 'for every input the law returns true; each argument reads behind the call as it read before'; 0 by the template 'total and deterministic' (their statements: YtbefllijmbcpjaaTotals.lean).
  GIVEN WITH THE SEED: the statements are not yours to turn. If you find one false, say at which input.
  Laid BY PROGRAM, IN A SANDBOX (cutbox-rows.mjs): the forced cells as the released guide's own fill.sh prints them over the translation be4ba4370abfef39… (all of the seat's roots in one cut). By AI agents, Wed Nov 11 2026. No macro, syntax, notation, axiom, sorry.
-/
import Derived.Test.YtbefllijmbcpjaaChecked
import GoSem.Claim
import GoSem.ClaimJoined
import GoSem.ClaimMapViews
import Derived.JoinedTies
import Derived.KernelRfl
namespace Go.Proofs.Ytbefllijmbcpjaa
/- THE CELL 'sum', in the pinned program and in every row, IS THE sha256 OF THE DUMP (.gsa) THAT YtbefllijmbcpjaaProg.lean LOADS. Nothing in Lean hashes anything: it is a label: what it is worth is what the hold of that sum in a sandbox is worth. -/
noncomputable def Try.pinned : Pinned := { name := "ytbefllijmbcpjaa", sum := "be4ba4370abfef39f7f33868555ba788db507029c747ef697f7863d6badee979", checked := Try.checked }
namespace Rows
def none {H : Type} : Left H := { results := [], args := [] }

/-- 'afterimagelaw02.VecNear': WHATEVER THE INPUT: true; the input reads as it did. -/
def vecNearSpec : ChangeSpec := { name := "vecNear", fn := fun _ => fun
  | [d1, d2, d3] => { results := [.lit (.bool true)], args := [d1, d2, d3] }
  | _ => none }
def vecNearRow : OpenClaim := { program := "ytbefllijmbcpjaa", sum := "be4ba4370abfef39f7f33868555ba788db507029c747ef697f7863d6badee979", func := "afterimage/afterimagelaw02.VecNear", spec := "vecNear", unfollowed := true, recurses := true, apart := false }
def VecNearSaid : Prop := vecNearRow.holds Try.pinned (OpenSpec.ofChange vecNearSpec)

/-- ITS FALSE NEIGHBOUR: 'it returns false'. Refute it at one input. -/
def vecNearWrong : ChangeSpec := { name := "vecNear", fn := fun _ => fun
  | [d1, d2, d3] => { results := [.lit (.bool false)], args := [d1, d2, d3] }
  | _ => none }
def VecNearWrongFalsely : Prop := vecNearRow.holds Try.pinned (OpenSpec.ofChange vecNearWrong)

/-- 'afterimagelaw02.VecStays': WHATEVER THE INPUT: true; the input reads as it did. -/
def vecStaysSpec : ChangeSpec := { name := "vecStays", fn := fun _ => fun
  | [d1, d2, d3] => { results := [.lit (.bool true)], args := [d1, d2, d3] }
  | _ => none }
def vecStaysRow : OpenClaim := { program := "ytbefllijmbcpjaa", sum := "be4ba4370abfef39f7f33868555ba788db507029c747ef697f7863d6badee979", func := "afterimage/afterimagelaw02.VecStays", spec := "vecStays", unfollowed := true, recurses := true, apart := false }
def VecStaysSaid : Prop := vecStaysRow.holds Try.pinned (OpenSpec.ofChange vecStaysSpec)

/-- ITS FALSE NEIGHBOUR: 'it returns false'. Refute it at one input. -/
def vecStaysWrong : ChangeSpec := { name := "vecStays", fn := fun _ => fun
  | [d1, d2, d3] => { results := [.lit (.bool false)], args := [d1, d2, d3] }
  | _ => none }
def VecStaysWrongFalsely : Prop := vecStaysRow.holds Try.pinned (OpenSpec.ofChange vecStaysWrong)

/-- 'afterimagelaw02.VecBetween': WHATEVER THE INPUT: true; the input reads as it did. -/
def vecBetweenSpec : ChangeSpec := { name := "vecBetween", fn := fun _ => fun
  | [d1, d2, d3] => { results := [.lit (.bool true)], args := [d1, d2, d3] }
  | _ => none }
def vecBetweenRow : OpenClaim := { program := "ytbefllijmbcpjaa", sum := "be4ba4370abfef39f7f33868555ba788db507029c747ef697f7863d6badee979", func := "afterimage/afterimagelaw02.VecBetween", spec := "vecBetween", unfollowed := true, recurses := true, apart := false }
def VecBetweenSaid : Prop := vecBetweenRow.holds Try.pinned (OpenSpec.ofChange vecBetweenSpec)

/-- ITS FALSE NEIGHBOUR: 'it returns false'. Refute it at one input. -/
def vecBetweenWrong : ChangeSpec := { name := "vecBetween", fn := fun _ => fun
  | [d1, d2, d3] => { results := [.lit (.bool false)], args := [d1, d2, d3] }
  | _ => none }
def VecBetweenWrongFalsely : Prop := vecBetweenRow.holds Try.pinned (OpenSpec.ofChange vecBetweenWrong)

/-- 'afterimagelaw02.VecReckons': WHATEVER THE INPUT: true; the input reads as it did. -/
def vecReckonsSpec : ChangeSpec := { name := "vecReckons", fn := fun _ => fun
  | [d1, d2, d3] => { results := [.lit (.bool true)], args := [d1, d2, d3] }
  | _ => none }
def vecReckonsRow : OpenClaim := { program := "ytbefllijmbcpjaa", sum := "be4ba4370abfef39f7f33868555ba788db507029c747ef697f7863d6badee979", func := "afterimage/afterimagelaw02.VecReckons", spec := "vecReckons", unfollowed := true, recurses := true, apart := false }
def VecReckonsSaid : Prop := vecReckonsRow.holds Try.pinned (OpenSpec.ofChange vecReckonsSpec)

/-- ITS FALSE NEIGHBOUR: 'it returns false'. Refute it at one input. -/
def vecReckonsWrong : ChangeSpec := { name := "vecReckons", fn := fun _ => fun
  | [d1, d2, d3] => { results := [.lit (.bool false)], args := [d1, d2, d3] }
  | _ => none }
def VecReckonsWrongFalsely : Prop := vecReckonsRow.holds Try.pinned (OpenSpec.ofChange vecReckonsWrong)

/-- 'afterimagelaw02.VecLerps': WHATEVER THE INPUT: true; the input reads as it did. -/
def vecLerpsSpec : ChangeSpec := { name := "vecLerps", fn := fun _ => fun
  | [d1, d2, d3] => { results := [.lit (.bool true)], args := [d1, d2, d3] }
  | _ => none }
def vecLerpsRow : OpenClaim := { program := "ytbefllijmbcpjaa", sum := "be4ba4370abfef39f7f33868555ba788db507029c747ef697f7863d6badee979", func := "afterimage/afterimagelaw02.VecLerps", spec := "vecLerps", unfollowed := true, recurses := true, named := ["math/bits.divideError", "math/bits.overflowError"], apart := false }
def VecLerpsSaid : Prop := vecLerpsRow.holds Try.pinned (OpenSpec.ofChange vecLerpsSpec)

/-- ITS FALSE NEIGHBOUR: 'it returns false'. Refute it at one input. -/
def vecLerpsWrong : ChangeSpec := { name := "vecLerps", fn := fun _ => fun
  | [d1, d2, d3] => { results := [.lit (.bool false)], args := [d1, d2, d3] }
  | _ => none }
def VecLerpsWrongFalsely : Prop := vecLerpsRow.holds Try.pinned (OpenSpec.ofChange vecLerpsWrong)

/-- 'afterimagelaw02.VecLines': WHATEVER THE INPUT: true; the input reads as it did. -/
def vecLinesSpec : ChangeSpec := { name := "vecLines", fn := fun _ => fun
  | [d1, d2, d3] => { results := [.lit (.bool true)], args := [d1, d2, d3] }
  | _ => none }
def vecLinesRow : OpenClaim := { program := "ytbefllijmbcpjaa", sum := "be4ba4370abfef39f7f33868555ba788db507029c747ef697f7863d6badee979", func := "afterimage/afterimagelaw02.VecLines", spec := "vecLines", unfollowed := true, recurses := true, named := ["math/bits.divideError", "math/bits.overflowError"], apart := false }
def VecLinesSaid : Prop := vecLinesRow.holds Try.pinned (OpenSpec.ofChange vecLinesSpec)

/-- ITS FALSE NEIGHBOUR: 'it returns false'. Refute it at one input. -/
def vecLinesWrong : ChangeSpec := { name := "vecLines", fn := fun _ => fun
  | [d1, d2, d3] => { results := [.lit (.bool false)], args := [d1, d2, d3] }
  | _ => none }
def VecLinesWrongFalsely : Prop := vecLinesRow.holds Try.pinned (OpenSpec.ofChange vecLinesWrong)

/-- 'afterimagelaw04.CurveWeights': WHATEVER THE INPUT: true; the input reads as it did. -/
def curveWeightsSpec : ChangeSpec := { name := "curveWeights", fn := fun _ => fun
  | [d] => { results := [.lit (.bool true)], args := [d] }
  | _ => none }
def curveWeightsRow : OpenClaim := { program := "ytbefllijmbcpjaa", sum := "be4ba4370abfef39f7f33868555ba788db507029c747ef697f7863d6badee979", func := "afterimage/afterimagelaw04.CurveWeights", spec := "curveWeights", named := ["math/bits.divideError", "math/bits.overflowError"], apart := false }
def CurveWeightsSaid : Prop := curveWeightsRow.holds Try.pinned (OpenSpec.ofChange curveWeightsSpec)

/-- ITS FALSE NEIGHBOUR: 'it returns false'. Refute it at one input. -/
def curveWeightsWrong : ChangeSpec := { name := "curveWeights", fn := fun _ => fun
  | [d] => { results := [.lit (.bool false)], args := [d] }
  | _ => none }
def CurveWeightsWrongFalsely : Prop := curveWeightsRow.holds Try.pinned (OpenSpec.ofChange curveWeightsWrong)

/-- 'afterimagelaw04.CurveNumbers': WHATEVER THE INPUT: true; the input reads as it did. -/
def curveNumbersSpec : ChangeSpec := { name := "curveNumbers", fn := fun _ => fun
  | [d1, d2, d3] => { results := [.lit (.bool true)], args := [d1, d2, d3] }
  | _ => none }
def curveNumbersRow : OpenClaim := { program := "ytbefllijmbcpjaa", sum := "be4ba4370abfef39f7f33868555ba788db507029c747ef697f7863d6badee979", func := "afterimage/afterimagelaw04.CurveNumbers", spec := "curveNumbers", recurses := true, named := ["math/bits.divideError", "math/bits.overflowError"], apart := false }
def CurveNumbersSaid : Prop := curveNumbersRow.holds Try.pinned (OpenSpec.ofChange curveNumbersSpec)

/-- ITS FALSE NEIGHBOUR: 'it returns false'. Refute it at one input. -/
def curveNumbersWrong : ChangeSpec := { name := "curveNumbers", fn := fun _ => fun
  | [d1, d2, d3] => { results := [.lit (.bool false)], args := [d1, d2, d3] }
  | _ => none }
def CurveNumbersWrongFalsely : Prop := curveNumbersRow.holds Try.pinned (OpenSpec.ofChange curveNumbersWrong)

/-- 'afterimagelaw04.CurveEnds': WHATEVER THE INPUT: true; the input reads as it did. -/
def curveEndsSpec : ChangeSpec := { name := "curveEnds", fn := fun _ => fun
  | [d1, d2, d3] => { results := [.lit (.bool true)], args := [d1, d2, d3] }
  | _ => none }
def curveEndsRow : OpenClaim := { program := "ytbefllijmbcpjaa", sum := "be4ba4370abfef39f7f33868555ba788db507029c747ef697f7863d6badee979", func := "afterimage/afterimagelaw04.CurveEnds", spec := "curveEnds", named := ["math/bits.divideError", "math/bits.overflowError"], apart := false }
def CurveEndsSaid : Prop := curveEndsRow.holds Try.pinned (OpenSpec.ofChange curveEndsSpec)

/-- ITS FALSE NEIGHBOUR: 'it returns false'. Refute it at one input. -/
def curveEndsWrong : ChangeSpec := { name := "curveEnds", fn := fun _ => fun
  | [d1, d2, d3] => { results := [.lit (.bool false)], args := [d1, d2, d3] }
  | _ => none }
def CurveEndsWrongFalsely : Prop := curveEndsRow.holds Try.pinned (OpenSpec.ofChange curveEndsWrong)

/-- 'afterimagelaw04.CurveEach': WHATEVER THE INPUT: true; the input reads as it did. -/
def curveEachSpec : ChangeSpec := { name := "curveEach", fn := fun _ => fun
  | [d1, d2, d3] => { results := [.lit (.bool true)], args := [d1, d2, d3] }
  | _ => none }
def curveEachRow : OpenClaim := { program := "ytbefllijmbcpjaa", sum := "be4ba4370abfef39f7f33868555ba788db507029c747ef697f7863d6badee979", func := "afterimage/afterimagelaw04.CurveEach", spec := "curveEach", named := ["math/bits.divideError", "math/bits.overflowError"], apart := false }
def CurveEachSaid : Prop := curveEachRow.holds Try.pinned (OpenSpec.ofChange curveEachSpec)

/-- ITS FALSE NEIGHBOUR: 'it returns false'. Refute it at one input. -/
def curveEachWrong : ChangeSpec := { name := "curveEach", fn := fun _ => fun
  | [d1, d2, d3] => { results := [.lit (.bool false)], args := [d1, d2, d3] }
  | _ => none }
def CurveEachWrongFalsely : Prop := curveEachRow.holds Try.pinned (OpenSpec.ofChange curveEachWrong)

/-- 'afterimagelaw04.CurvePlaces': WHATEVER THE INPUT: true; the input reads as it did. -/
def curvePlacesSpec : ChangeSpec := { name := "curvePlaces", fn := fun _ => fun
  | [d1, d2, d3] => { results := [.lit (.bool true)], args := [d1, d2, d3] }
  | _ => none }
def curvePlacesRow : OpenClaim := { program := "ytbefllijmbcpjaa", sum := "be4ba4370abfef39f7f33868555ba788db507029c747ef697f7863d6badee979", func := "afterimage/afterimagelaw04.CurvePlaces", spec := "curvePlaces", unfollowed := true, recurses := true, named := ["math/bits.divideError", "math/bits.overflowError"], apart := false }
def CurvePlacesSaid : Prop := curvePlacesRow.holds Try.pinned (OpenSpec.ofChange curvePlacesSpec)

/-- ITS FALSE NEIGHBOUR: 'it returns false'. Refute it at one input. -/
def curvePlacesWrong : ChangeSpec := { name := "curvePlaces", fn := fun _ => fun
  | [d1, d2, d3] => { results := [.lit (.bool false)], args := [d1, d2, d3] }
  | _ => none }
def CurvePlacesWrongFalsely : Prop := curvePlacesRow.holds Try.pinned (OpenSpec.ofChange curvePlacesWrong)

/- THE SECOND FORM. 'bulk': how many values and letters a reading holds, each counted each time it is reached (what is shared counts as often as it is met; a slice's spare places count too). A statement '..UptoSaid' is the law's where the arguments, and the package variables that the reading takes, are together of bulk at most 1048576: NARROWER than '..Said'. Prove '..Said' where nothing that the law and all that it calls make is longer than what came in: it says more and counts as full. Else prove '..UptoSaid'. A law counts once. -/
mutual
def uptoBulk {H : Type} : DataW H → Nat
  | .lit (.string bytes) => bytes.length + 1
  | .lit _ => 1
  | .nil => 1
  | .ptr d => uptoBulk d + 1
  | .slice elems spare => uptoBulkAll elems + uptoBulkAll spare + 1
  | .agg parts => uptoBulkAll parts + 1
  | .iface _ d => uptoBulk d + 1
  | .map entries => uptoBulkEntries entries + 1
  | .held _ => 1
def uptoBulkAll {H : Type} : List (DataW H) → Nat
  | [] => 0
  | d :: r => uptoBulk d + uptoBulkAll r
def uptoBulkEntries {H : Type} : List (Lit × DataW H) → Nat
  | [] => 0
  | x :: r => uptoBulkEntry x + uptoBulkEntries r
def uptoBulkEntry {H : Type} : Lit × DataW H → Nat
  | (.string bytes, d) => bytes.length + uptoBulk d + 1
  | (_, d) => uptoBulk d + 1
 end
def uptoSmall : (H : Type) → List (DataW H) → Bool := fun _ ds => decide (uptoBulkAll ds ≤ 1048576)
def OpenSpec.upto (s : _root_.Go.ChangeSpec) : _root_.Go.OpenSpec := { _root_.Go.OpenSpec.ofChange s with cond := some uptoSmall }

/-- 'afterimagelaw02.VecNear', WHERE WHAT IT READS IS OF BULK AT MOST 1048576: true; the input reads as it did. -/
def vecNearUptoRow : OpenClaim := { program := "ytbefllijmbcpjaa", sum := "be4ba4370abfef39f7f33868555ba788db507029c747ef697f7863d6badee979", func := "afterimage/afterimagelaw02.VecNear", spec := "vecNear", unfollowed := true, recurses := true, apart := false, narrowed := true }
def VecNearUptoSaid : Prop := vecNearUptoRow.holds Try.pinned (OpenSpec.upto vecNearSpec)

/-- 'afterimagelaw02.VecStays', WHERE WHAT IT READS IS OF BULK AT MOST 1048576: true; the input reads as it did. -/
def vecStaysUptoRow : OpenClaim := { program := "ytbefllijmbcpjaa", sum := "be4ba4370abfef39f7f33868555ba788db507029c747ef697f7863d6badee979", func := "afterimage/afterimagelaw02.VecStays", spec := "vecStays", unfollowed := true, recurses := true, apart := false, narrowed := true }
def VecStaysUptoSaid : Prop := vecStaysUptoRow.holds Try.pinned (OpenSpec.upto vecStaysSpec)

/-- 'afterimagelaw02.VecBetween', WHERE WHAT IT READS IS OF BULK AT MOST 1048576: true; the input reads as it did. -/
def vecBetweenUptoRow : OpenClaim := { program := "ytbefllijmbcpjaa", sum := "be4ba4370abfef39f7f33868555ba788db507029c747ef697f7863d6badee979", func := "afterimage/afterimagelaw02.VecBetween", spec := "vecBetween", unfollowed := true, recurses := true, apart := false, narrowed := true }
def VecBetweenUptoSaid : Prop := vecBetweenUptoRow.holds Try.pinned (OpenSpec.upto vecBetweenSpec)

/-- 'afterimagelaw02.VecReckons', WHERE WHAT IT READS IS OF BULK AT MOST 1048576: true; the input reads as it did. -/
def vecReckonsUptoRow : OpenClaim := { program := "ytbefllijmbcpjaa", sum := "be4ba4370abfef39f7f33868555ba788db507029c747ef697f7863d6badee979", func := "afterimage/afterimagelaw02.VecReckons", spec := "vecReckons", unfollowed := true, recurses := true, apart := false, narrowed := true }
def VecReckonsUptoSaid : Prop := vecReckonsUptoRow.holds Try.pinned (OpenSpec.upto vecReckonsSpec)

/-- 'afterimagelaw02.VecLerps', WHERE WHAT IT READS IS OF BULK AT MOST 1048576: true; the input reads as it did. -/
def vecLerpsUptoRow : OpenClaim := { program := "ytbefllijmbcpjaa", sum := "be4ba4370abfef39f7f33868555ba788db507029c747ef697f7863d6badee979", func := "afterimage/afterimagelaw02.VecLerps", spec := "vecLerps", unfollowed := true, recurses := true, named := ["math/bits.divideError", "math/bits.overflowError"], apart := false, narrowed := true }
def VecLerpsUptoSaid : Prop := vecLerpsUptoRow.holds Try.pinned (OpenSpec.upto vecLerpsSpec)

/-- 'afterimagelaw02.VecLines', WHERE WHAT IT READS IS OF BULK AT MOST 1048576: true; the input reads as it did. -/
def vecLinesUptoRow : OpenClaim := { program := "ytbefllijmbcpjaa", sum := "be4ba4370abfef39f7f33868555ba788db507029c747ef697f7863d6badee979", func := "afterimage/afterimagelaw02.VecLines", spec := "vecLines", unfollowed := true, recurses := true, named := ["math/bits.divideError", "math/bits.overflowError"], apart := false, narrowed := true }
def VecLinesUptoSaid : Prop := vecLinesUptoRow.holds Try.pinned (OpenSpec.upto vecLinesSpec)

/-- 'afterimagelaw04.CurveWeights', WHERE WHAT IT READS IS OF BULK AT MOST 1048576: true; the input reads as it did. -/
def curveWeightsUptoRow : OpenClaim := { program := "ytbefllijmbcpjaa", sum := "be4ba4370abfef39f7f33868555ba788db507029c747ef697f7863d6badee979", func := "afterimage/afterimagelaw04.CurveWeights", spec := "curveWeights", named := ["math/bits.divideError", "math/bits.overflowError"], apart := false, narrowed := true }
def CurveWeightsUptoSaid : Prop := curveWeightsUptoRow.holds Try.pinned (OpenSpec.upto curveWeightsSpec)

/-- 'afterimagelaw04.CurveNumbers', WHERE WHAT IT READS IS OF BULK AT MOST 1048576: true; the input reads as it did. -/
def curveNumbersUptoRow : OpenClaim := { program := "ytbefllijmbcpjaa", sum := "be4ba4370abfef39f7f33868555ba788db507029c747ef697f7863d6badee979", func := "afterimage/afterimagelaw04.CurveNumbers", spec := "curveNumbers", recurses := true, named := ["math/bits.divideError", "math/bits.overflowError"], apart := false, narrowed := true }
def CurveNumbersUptoSaid : Prop := curveNumbersUptoRow.holds Try.pinned (OpenSpec.upto curveNumbersSpec)

/-- 'afterimagelaw04.CurveEnds', WHERE WHAT IT READS IS OF BULK AT MOST 1048576: true; the input reads as it did. -/
def curveEndsUptoRow : OpenClaim := { program := "ytbefllijmbcpjaa", sum := "be4ba4370abfef39f7f33868555ba788db507029c747ef697f7863d6badee979", func := "afterimage/afterimagelaw04.CurveEnds", spec := "curveEnds", named := ["math/bits.divideError", "math/bits.overflowError"], apart := false, narrowed := true }
def CurveEndsUptoSaid : Prop := curveEndsUptoRow.holds Try.pinned (OpenSpec.upto curveEndsSpec)

/-- 'afterimagelaw04.CurveEach', WHERE WHAT IT READS IS OF BULK AT MOST 1048576: true; the input reads as it did. -/
def curveEachUptoRow : OpenClaim := { program := "ytbefllijmbcpjaa", sum := "be4ba4370abfef39f7f33868555ba788db507029c747ef697f7863d6badee979", func := "afterimage/afterimagelaw04.CurveEach", spec := "curveEach", named := ["math/bits.divideError", "math/bits.overflowError"], apart := false, narrowed := true }
def CurveEachUptoSaid : Prop := curveEachUptoRow.holds Try.pinned (OpenSpec.upto curveEachSpec)

/-- 'afterimagelaw04.CurvePlaces', WHERE WHAT IT READS IS OF BULK AT MOST 1048576: true; the input reads as it did. -/
def curvePlacesUptoRow : OpenClaim := { program := "ytbefllijmbcpjaa", sum := "be4ba4370abfef39f7f33868555ba788db507029c747ef697f7863d6badee979", func := "afterimage/afterimagelaw04.CurvePlaces", spec := "curvePlaces", unfollowed := true, recurses := true, named := ["math/bits.divideError", "math/bits.overflowError"], apart := false, narrowed := true }
def CurvePlacesUptoSaid : Prop := curvePlacesUptoRow.holds Try.pinned (OpenSpec.upto curvePlacesSpec)

end Rows
end Go.Proofs.Ytbefllijmbcpjaa
