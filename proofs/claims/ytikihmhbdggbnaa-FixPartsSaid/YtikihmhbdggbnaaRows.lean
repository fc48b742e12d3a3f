/-
  No cell of these rows narrows 'for every input' (looked for: loops, veiled, ifaces, maps, wideKeys, modest, calm, conditions, laid).
  DERIVED. THE GIVEN ROWS OF THIS SEAT. 10 by the template 'for every input the law returns true; each argument reads behind the call as it read before'; 0 by the template 'total and deterministic' (their statements: YtikihmhbdggbnaaTotals.lean).
  GIVEN WITH THE SEED: the statements are not yours to turn. If you find one false, say at which input.
  Laid BY PROGRAM, IN A SANDBOX (cutbox-rows.mjs): the forced cells as the released guide's own fill.sh prints them over the translation 6c4fd5fd33a3d784… (all of the seat's roots in one cut). By AI agents, Wed Nov 11 2026. No macro, syntax, notation, axiom, sorry.
-/
import Derived.Test.YtikihmhbdggbnaaChecked
import GoSem.Claim
import GoSem.ClaimJoined
import GoSem.ClaimMapViews
import Derived.JoinedTies
import Derived.KernelRfl
namespace Go.Proofs.Ytikihmhbdggbnaa
/- THE CELL 'sum', in the pinned program and in every row, IS THE sha256 OF THE DUMP (.gsa) THAT YtikihmhbdggbnaaProg.lean LOADS. Nothing in Lean hashes anything: it is a label: what it is worth is what the hold of that sum in a sandbox is worth. -/
noncomputable def Try.pinned : Pinned := { name := "ytikihmhbdggbnaa", sum := "6c4fd5fd33a3d7844a62171e637b73268574fd6c8f3b89f5fe76338dc0001352", checked := Try.checked }
namespace Rows
def none {H : Type} : Left H := { results := [], args := [] }

/-- 'afterimagelaw01.FixBetween': WHATEVER THE INPUT: true; the input reads as it did. -/
def fixBetweenSpec : ChangeSpec := { name := "fixBetween", fn := fun _ => fun
  | [d1, d2, d3] => { results := [.lit (.bool true)], args := [d1, d2, d3] }
  | _ => none }
def fixBetweenRow : OpenClaim := { program := "ytikihmhbdggbnaa", sum := "6c4fd5fd33a3d7844a62171e637b73268574fd6c8f3b89f5fe76338dc0001352", func := "afterimage/afterimagelaw01.FixBetween", spec := "fixBetween", named := ["math/bits.divideError", "math/bits.overflowError"], apart := false }
def FixBetweenSaid : Prop := fixBetweenRow.holds Try.pinned (OpenSpec.ofChange fixBetweenSpec)

/-- ITS FALSE NEIGHBOUR: 'it returns false'. Refute it at one input. -/
def fixBetweenWrong : ChangeSpec := { name := "fixBetween", fn := fun _ => fun
  | [d1, d2, d3] => { results := [.lit (.bool false)], args := [d1, d2, d3] }
  | _ => none }
def FixBetweenWrongFalsely : Prop := fixBetweenRow.holds Try.pinned (OpenSpec.ofChange fixBetweenWrong)

/-- 'afterimagelaw01.FixClamps': WHATEVER THE INPUT: true; the input reads as it did. -/
def fixClampsSpec : ChangeSpec := { name := "fixClamps", fn := fun _ => fun
  | [d1, d2, d3] => { results := [.lit (.bool true)], args := [d1, d2, d3] }
  | _ => none }
def fixClampsRow : OpenClaim := { program := "ytikihmhbdggbnaa", sum := "6c4fd5fd33a3d7844a62171e637b73268574fd6c8f3b89f5fe76338dc0001352", func := "afterimage/afterimagelaw01.FixClamps", spec := "fixClamps", recurses := true, named := ["math/bits.divideError", "math/bits.overflowError"], apart := false }
def FixClampsSaid : Prop := fixClampsRow.holds Try.pinned (OpenSpec.ofChange fixClampsSpec)

/-- ITS FALSE NEIGHBOUR: 'it returns false'. Refute it at one input. -/
def fixClampsWrong : ChangeSpec := { name := "fixClamps", fn := fun _ => fun
  | [d1, d2, d3] => { results := [.lit (.bool false)], args := [d1, d2, d3] }
  | _ => none }
def FixClampsWrongFalsely : Prop := fixClampsRow.holds Try.pinned (OpenSpec.ofChange fixClampsWrong)

/-- 'afterimagelaw01.FixLerps': WHATEVER THE INPUT: true; the input reads as it did. -/
def fixLerpsSpec : ChangeSpec := { name := "fixLerps", fn := fun _ => fun
  | [d1, d2, d3] => { results := [.lit (.bool true)], args := [d1, d2, d3] }
  | _ => none }
def fixLerpsRow : OpenClaim := { program := "ytikihmhbdggbnaa", sum := "6c4fd5fd33a3d7844a62171e637b73268574fd6c8f3b89f5fe76338dc0001352", func := "afterimage/afterimagelaw01.FixLerps", spec := "fixLerps", named := ["math/bits.divideError", "math/bits.overflowError"], apart := false }
def FixLerpsSaid : Prop := fixLerpsRow.holds Try.pinned (OpenSpec.ofChange fixLerpsSpec)

/-- ITS FALSE NEIGHBOUR: 'it returns false'. Refute it at one input. -/
def fixLerpsWrong : ChangeSpec := { name := "fixLerps", fn := fun _ => fun
  | [d1, d2, d3] => { results := [.lit (.bool false)], args := [d1, d2, d3] }
  | _ => none }
def FixLerpsWrongFalsely : Prop := fixLerpsRow.holds Try.pinned (OpenSpec.ofChange fixLerpsWrong)

/-- 'afterimagelaw01.FixParts': WHATEVER THE INPUT: true; the input reads as it did. -/
def fixPartsSpec : ChangeSpec := { name := "fixParts", fn := fun _ => fun
  | [d1, d2] => { results := [.lit (.bool true)], args := [d1, d2] }
  | _ => none }
def fixPartsRow : OpenClaim := { program := "ytikihmhbdggbnaa", sum := "6c4fd5fd33a3d7844a62171e637b73268574fd6c8f3b89f5fe76338dc0001352", func := "afterimage/afterimagelaw01.FixParts", spec := "fixParts", named := ["math/bits.divideError", "math/bits.overflowError"], apart := false }
def FixPartsSaid : Prop := fixPartsRow.holds Try.pinned (OpenSpec.ofChange fixPartsSpec)

/-- ITS FALSE NEIGHBOUR: 'it returns false'. Refute it at one input. -/
def fixPartsWrong : ChangeSpec := { name := "fixParts", fn := fun _ => fun
  | [d1, d2] => { results := [.lit (.bool false)], args := [d1, d2] }
  | _ => none }
def FixPartsWrongFalsely : Prop := fixPartsRow.holds Try.pinned (OpenSpec.ofChange fixPartsWrong)

/-- 'afterimagelaw01.FixAdds': WHATEVER THE INPUT: true; the input reads as it did. -/
def fixAddsSpec : ChangeSpec := { name := "fixAdds", fn := fun _ => fun
  | [d1, d2] => { results := [.lit (.bool true)], args := [d1, d2] }
  | _ => none }
def fixAddsRow : OpenClaim := { program := "ytikihmhbdggbnaa", sum := "6c4fd5fd33a3d7844a62171e637b73268574fd6c8f3b89f5fe76338dc0001352", func := "afterimage/afterimagelaw01.FixAdds", spec := "fixAdds", named := ["math/bits.divideError", "math/bits.overflowError"], apart := false }
def FixAddsSaid : Prop := fixAddsRow.holds Try.pinned (OpenSpec.ofChange fixAddsSpec)

/-- ITS FALSE NEIGHBOUR: 'it returns false'. Refute it at one input. -/
def fixAddsWrong : ChangeSpec := { name := "fixAdds", fn := fun _ => fun
  | [d1, d2] => { results := [.lit (.bool false)], args := [d1, d2] }
  | _ => none }
def FixAddsWrongFalsely : Prop := fixAddsRow.holds Try.pinned (OpenSpec.ofChange fixAddsWrong)

/-- 'afterimagelaw01.FixMuls': WHATEVER THE INPUT: true; the input reads as it did. -/
def fixMulsSpec : ChangeSpec := { name := "fixMuls", fn := fun _ => fun
  | [d1, d2] => { results := [.lit (.bool true)], args := [d1, d2] }
  | _ => none }
def fixMulsRow : OpenClaim := { program := "ytikihmhbdggbnaa", sum := "6c4fd5fd33a3d7844a62171e637b73268574fd6c8f3b89f5fe76338dc0001352", func := "afterimage/afterimagelaw01.FixMuls", spec := "fixMuls", named := ["math/bits.divideError", "math/bits.overflowError"], apart := false }
def FixMulsSaid : Prop := fixMulsRow.holds Try.pinned (OpenSpec.ofChange fixMulsSpec)

/-- ITS FALSE NEIGHBOUR: 'it returns false'. Refute it at one input. -/
def fixMulsWrong : ChangeSpec := { name := "fixMuls", fn := fun _ => fun
  | [d1, d2] => { results := [.lit (.bool false)], args := [d1, d2] }
  | _ => none }
def FixMulsWrongFalsely : Prop := fixMulsRow.holds Try.pinned (OpenSpec.ofChange fixMulsWrong)

/-- 'afterimagelaw01.FixTurns': WHATEVER THE INPUT: true; the input reads as it did. -/
def fixTurnsSpec : ChangeSpec := { name := "fixTurns", fn := fun _ => fun
  | [d1, d2] => { results := [.lit (.bool true)], args := [d1, d2] }
  | _ => none }
def fixTurnsRow : OpenClaim := { program := "ytikihmhbdggbnaa", sum := "6c4fd5fd33a3d7844a62171e637b73268574fd6c8f3b89f5fe76338dc0001352", func := "afterimage/afterimagelaw01.FixTurns", spec := "fixTurns", named := ["math/bits.divideError", "math/bits.overflowError"], apart := false }
def FixTurnsSaid : Prop := fixTurnsRow.holds Try.pinned (OpenSpec.ofChange fixTurnsSpec)

/-- ITS FALSE NEIGHBOUR: 'it returns false'. Refute it at one input. -/
def fixTurnsWrong : ChangeSpec := { name := "fixTurns", fn := fun _ => fun
  | [d1, d2] => { results := [.lit (.bool false)], args := [d1, d2] }
  | _ => none }
def FixTurnsWrongFalsely : Prop := fixTurnsRow.holds Try.pinned (OpenSpec.ofChange fixTurnsWrong)

/-- 'afterimagelaw01.FixDivs': WHATEVER THE INPUT: true; the input reads as it did. -/
def fixDivsSpec : ChangeSpec := { name := "fixDivs", fn := fun _ => fun
  | [d1, d2] => { results := [.lit (.bool true)], args := [d1, d2] }
  | _ => none }
def fixDivsRow : OpenClaim := { program := "ytikihmhbdggbnaa", sum := "6c4fd5fd33a3d7844a62171e637b73268574fd6c8f3b89f5fe76338dc0001352", func := "afterimage/afterimagelaw01.FixDivs", spec := "fixDivs", named := ["math/bits.divideError", "math/bits.overflowError"], apart := false }
def FixDivsSaid : Prop := fixDivsRow.holds Try.pinned (OpenSpec.ofChange fixDivsSpec)

/-- ITS FALSE NEIGHBOUR: 'it returns false'. Refute it at one input. -/
def fixDivsWrong : ChangeSpec := { name := "fixDivs", fn := fun _ => fun
  | [d1, d2] => { results := [.lit (.bool false)], args := [d1, d2] }
  | _ => none }
def FixDivsWrongFalsely : Prop := fixDivsRow.holds Try.pinned (OpenSpec.ofChange fixDivsWrong)

/-- 'afterimagelaw01.FixRises': WHATEVER THE INPUT: true; the input reads as it did. -/
def fixRisesSpec : ChangeSpec := { name := "fixRises", fn := fun _ => fun
  | [d1, d2, d3] => { results := [.lit (.bool true)], args := [d1, d2, d3] }
  | _ => none }
def fixRisesRow : OpenClaim := { program := "ytikihmhbdggbnaa", sum := "6c4fd5fd33a3d7844a62171e637b73268574fd6c8f3b89f5fe76338dc0001352", func := "afterimage/afterimagelaw01.FixRises", spec := "fixRises", named := ["math/bits.divideError", "math/bits.overflowError"], apart := false }
def FixRisesSaid : Prop := fixRisesRow.holds Try.pinned (OpenSpec.ofChange fixRisesSpec)

/-- ITS FALSE NEIGHBOUR: 'it returns false'. Refute it at one input. -/
def fixRisesWrong : ChangeSpec := { name := "fixRises", fn := fun _ => fun
  | [d1, d2, d3] => { results := [.lit (.bool false)], args := [d1, d2, d3] }
  | _ => none }
def FixRisesWrongFalsely : Prop := fixRisesRow.holds Try.pinned (OpenSpec.ofChange fixRisesWrong)

/-- 'afterimagelaw01.FixSigns': WHATEVER THE INPUT: true; the input reads as it did. -/
def fixSignsSpec : ChangeSpec := { name := "fixSigns", fn := fun _ => fun
  | [d1, d2] => { results := [.lit (.bool true)], args := [d1, d2] }
  | _ => none }
def fixSignsRow : OpenClaim := { program := "ytikihmhbdggbnaa", sum := "6c4fd5fd33a3d7844a62171e637b73268574fd6c8f3b89f5fe76338dc0001352", func := "afterimage/afterimagelaw01.FixSigns", spec := "fixSigns", named := ["math/bits.divideError", "math/bits.overflowError"], apart := false }
def FixSignsSaid : Prop := fixSignsRow.holds Try.pinned (OpenSpec.ofChange fixSignsSpec)

/-- ITS FALSE NEIGHBOUR: 'it returns false'. Refute it at one input. -/
def fixSignsWrong : ChangeSpec := { name := "fixSigns", fn := fun _ => fun
  | [d1, d2] => { results := [.lit (.bool false)], args := [d1, d2] }
  | _ => none }
def FixSignsWrongFalsely : Prop := fixSignsRow.holds Try.pinned (OpenSpec.ofChange fixSignsWrong)

/- THE SECOND FORM. 'bulk': how many values and letters a reading holds, each counted each time it is reached (what is shared counts as often as it is met; a slice's spare places count too). A statement '..UptoSaid' is the law's where the arguments, and the package variables that the reading takes, are together of bulk at most 1048576: NARROWER than '..Said'. Prove '..Said' where nothing that the law and all that it calls make is longer than what came in: it says more and counts as full. Else prove '..UptoSaid'. A law counts once. -/
mutual
def uptoBulk {H : Type} : DataW H → Nat
  | .lit (.string bytes) => bytes.length + 1
  | .lit _ => 1
  | .nil => 1
  | .ptr d => uptoBulk d + 1
  | .slice elems spare => uptoBulkAll elems + uptoBulkAll spare + 1
  | .agg parts => uptoBulkAll parts + 1
  | .iface _ d => uptoBulk d + 1
  | .map entries => uptoBulkEntries entries + 1
  | .held _ => 1
def uptoBulkAll {H : Type} : List (DataW H) → Nat
  | [] => 0
  | d :: r => uptoBulk d + uptoBulkAll r
def uptoBulkEntries {H : Type} : List (Lit × DataW H) → Nat
  | [] => 0
  | x :: r => uptoBulkEntry x + uptoBulkEntries r
def uptoBulkEntry {H : Type} : Lit × DataW H → Nat
  | (.string bytes, d) => bytes.length + uptoBulk d + 1
  | (_, d) => uptoBulk d + 1
 end
def uptoSmall : (H : Type) → List (DataW H) → Bool := fun _ ds => decide (uptoBulkAll ds ≤ 1048576)
def OpenSpec.upto (s : _root_.Go.ChangeSpec) : _root_.Go.OpenSpec := { _root_.Go.OpenSpec.ofChange s with cond := some uptoSmall }

/-- 'afterimagelaw01.FixBetween', WHERE WHAT IT READS IS OF BULK AT MOST 1048576: true; the input reads as it did. -/
def fixBetweenUptoRow : OpenClaim := { program := "ytikihmhbdggbnaa", sum := "6c4fd5fd33a3d7844a62171e637b73268574fd6c8f3b89f5fe76338dc0001352", func := "afterimage/afterimagelaw01.FixBetween", spec := "fixBetween", named := ["math/bits.divideError", "math/bits.overflowError"], apart := false, narrowed := true }
def FixBetweenUptoSaid : Prop := fixBetweenUptoRow.holds Try.pinned (OpenSpec.upto fixBetweenSpec)

/-- 'afterimagelaw01.FixClamps', WHERE WHAT IT READS IS OF BULK AT MOST 1048576: true; the input reads as it did. -/
def fixClampsUptoRow : OpenClaim := { program := "ytikihmhbdggbnaa", sum := "6c4fd5fd33a3d7844a62171e637b73268574fd6c8f3b89f5fe76338dc0001352", func := "afterimage/afterimagelaw01.FixClamps", spec := "fixClamps", recurses := true, named := ["math/bits.divideError", "math/bits.overflowError"], apart := false, narrowed := true }
def FixClampsUptoSaid : Prop := fixClampsUptoRow.holds Try.pinned (OpenSpec.upto fixClampsSpec)

/-- 'afterimagelaw01.FixLerps', WHERE WHAT IT READS IS OF BULK AT MOST 1048576: true; the input reads as it did. -/
def fixLerpsUptoRow : OpenClaim := { program := "ytikihmhbdggbnaa", sum := "6c4fd5fd33a3d7844a62171e637b73268574fd6c8f3b89f5fe76338dc0001352", func := "afterimage/afterimagelaw01.FixLerps", spec := "fixLerps", named := ["math/bits.divideError", "math/bits.overflowError"], apart := false, narrowed := true }
def FixLerpsUptoSaid : Prop := fixLerpsUptoRow.holds Try.pinned (OpenSpec.upto fixLerpsSpec)

/-- 'afterimagelaw01.FixParts', WHERE WHAT IT READS IS OF BULK AT MOST 1048576: true; the input reads as it did. -/
def fixPartsUptoRow : OpenClaim := { program := "ytikihmhbdggbnaa", sum := "6c4fd5fd33a3d7844a62171e637b73268574fd6c8f3b89f5fe76338dc0001352", func := "afterimage/afterimagelaw01.FixParts", spec := "fixParts", named := ["math/bits.divideError", "math/bits.overflowError"], apart := false, narrowed := true }
def FixPartsUptoSaid : Prop := fixPartsUptoRow.holds Try.pinned (OpenSpec.upto fixPartsSpec)

/-- 'afterimagelaw01.FixAdds', WHERE WHAT IT READS IS OF BULK AT MOST 1048576: true; the input reads as it did. -/
def fixAddsUptoRow : OpenClaim := { program := "ytikihmhbdggbnaa", sum := "6c4fd5fd33a3d7844a62171e637b73268574fd6c8f3b89f5fe76338dc0001352", func := "afterimage/afterimagelaw01.FixAdds", spec := "fixAdds", named := ["math/bits.divideError", "math/bits.overflowError"], apart := false, narrowed := true }
def FixAddsUptoSaid : Prop := fixAddsUptoRow.holds Try.pinned (OpenSpec.upto fixAddsSpec)

/-- 'afterimagelaw01.FixMuls', WHERE WHAT IT READS IS OF BULK AT MOST 1048576: true; the input reads as it did. -/
def fixMulsUptoRow : OpenClaim := { program := "ytikihmhbdggbnaa", sum := "6c4fd5fd33a3d7844a62171e637b73268574fd6c8f3b89f5fe76338dc0001352", func := "afterimage/afterimagelaw01.FixMuls", spec := "fixMuls", named := ["math/bits.divideError", "math/bits.overflowError"], apart := false, narrowed := true }
def FixMulsUptoSaid : Prop := fixMulsUptoRow.holds Try.pinned (OpenSpec.upto fixMulsSpec)

/-- 'afterimagelaw01.FixTurns', WHERE WHAT IT READS IS OF BULK AT MOST 1048576: true; the input reads as it did. -/
def fixTurnsUptoRow : OpenClaim := { program := "ytikihmhbdggbnaa", sum := "6c4fd5fd33a3d7844a62171e637b73268574fd6c8f3b89f5fe76338dc0001352", func := "afterimage/afterimagelaw01.FixTurns", spec := "fixTurns", named := ["math/bits.divideError", "math/bits.overflowError"], apart := false, narrowed := true }
def FixTurnsUptoSaid : Prop := fixTurnsUptoRow.holds Try.pinned (OpenSpec.upto fixTurnsSpec)

/-- 'afterimagelaw01.FixDivs', WHERE WHAT IT READS IS OF BULK AT MOST 1048576: true; the input reads as it did. -/
def fixDivsUptoRow : OpenClaim := { program := "ytikihmhbdggbnaa", sum := "6c4fd5fd33a3d7844a62171e637b73268574fd6c8f3b89f5fe76338dc0001352", func := "afterimage/afterimagelaw01.FixDivs", spec := "fixDivs", named := ["math/bits.divideError", "math/bits.overflowError"], apart := false, narrowed := true }
def FixDivsUptoSaid : Prop := fixDivsUptoRow.holds Try.pinned (OpenSpec.upto fixDivsSpec)

/-- 'afterimagelaw01.FixRises', WHERE WHAT IT READS IS OF BULK AT MOST 1048576: true; the input reads as it did. -/
def fixRisesUptoRow : OpenClaim := { program := "ytikihmhbdggbnaa", sum := "6c4fd5fd33a3d7844a62171e637b73268574fd6c8f3b89f5fe76338dc0001352", func := "afterimage/afterimagelaw01.FixRises", spec := "fixRises", named := ["math/bits.divideError", "math/bits.overflowError"], apart := false, narrowed := true }
def FixRisesUptoSaid : Prop := fixRisesUptoRow.holds Try.pinned (OpenSpec.upto fixRisesSpec)

/-- 'afterimagelaw01.FixSigns', WHERE WHAT IT READS IS OF BULK AT MOST 1048576: true; the input reads as it did. -/
def fixSignsUptoRow : OpenClaim := { program := "ytikihmhbdggbnaa", sum := "6c4fd5fd33a3d7844a62171e637b73268574fd6c8f3b89f5fe76338dc0001352", func := "afterimage/afterimagelaw01.FixSigns", spec := "fixSigns", named := ["math/bits.divideError", "math/bits.overflowError"], apart := false, narrowed := true }
def FixSignsUptoSaid : Prop := fixSignsUptoRow.holds Try.pinned (OpenSpec.upto fixSignsSpec)

end Rows
end Go.Proofs.Ytikihmhbdggbnaa
