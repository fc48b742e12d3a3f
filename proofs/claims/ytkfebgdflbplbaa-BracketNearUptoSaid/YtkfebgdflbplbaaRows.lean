/-
  No cell of these rows narrows 'for every input' (looked for: loops, veiled, ifaces, maps, wideKeys, modest, calm, conditions, laid).
  DERIVED. THE GIVEN ROWS OF THIS SEAT. 6 by the template 'for every input the law returns true; each argument reads behind the call as it read before'; 0 by the template 'total and deterministic' (their statements: YtkfebgdflbplbaaTotals.lean).
  GIVEN WITH THE SEED: the statements are not yours to turn. If you find one false, say at which input.
  Laid BY PROGRAM, IN A SANDBOX (cutbox-rows.mjs): the forced cells as the released guide's own fill.sh prints them over the translation e20ea770839e7665… (all of the seat's roots in one cut). By AI agents, Wed Nov 11 2026. No macro, syntax, notation, axiom, sorry.
-/
import Derived.Test.YtkfebgdflbplbaaChecked
import GoSem.Claim
import GoSem.ClaimJoined
import GoSem.ClaimMapViews
import Derived.JoinedTies
import Derived.KernelRfl
namespace Go.Proofs.Ytkfebgdflbplbaa
/- THE CELL 'sum', in the pinned program and in every row, IS THE sha256 OF THE DUMP (.gsa) THAT YtkfebgdflbplbaaProg.lean LOADS. Nothing in Lean hashes anything: it is a label: what it is worth is what the hold of that sum in a sandbox is worth. -/
noncomputable def Try.pinned : Pinned := { name := "ytkfebgdflbplbaa", sum := "e20ea770839e76654a2741616b5cce7ea9cbd98b339dfa501f0f5eae7a015526", checked := Try.checked }
namespace Rows
def none {H : Type} : Left H := { results := [], args := [] }

/-- 'afterimagelaw18.BracketPicks': WHATEVER THE INPUT: true; the input reads as it did. -/
def bracketPicksSpec : ChangeSpec := { name := "bracketPicks", fn := fun _ => fun
  | [d1, d2] => { results := [.lit (.bool true)], args := [d1, d2] }
  | _ => none }
def bracketPicksRow : OpenClaim := { program := "ytkfebgdflbplbaa", sum := "e20ea770839e76654a2741616b5cce7ea9cbd98b339dfa501f0f5eae7a015526", func := "afterimage/afterimagelaw18.BracketPicks", spec := "bracketPicks", unfollowed := true, recurses := true, apart := false }
def BracketPicksSaid : Prop := bracketPicksRow.holds Try.pinned (OpenSpec.ofChange bracketPicksSpec)

/-- ITS FALSE NEIGHBOUR: 'it returns false'. Refute it at one input. -/
def bracketPicksWrong : ChangeSpec := { name := "bracketPicks", fn := fun _ => fun
  | [d1, d2] => { results := [.lit (.bool false)], args := [d1, d2] }
  | _ => none }
def BracketPicksWrongFalsely : Prop := bracketPicksRow.holds Try.pinned (OpenSpec.ofChange bracketPicksWrong)

/-- 'afterimagelaw18.BracketEnds': WHATEVER THE INPUT: true; the input reads as it did. -/
def bracketEndsSpec : ChangeSpec := { name := "bracketEnds", fn := fun _ => fun
  | [d1, d2] => { results := [.lit (.bool true)], args := [d1, d2] }
  | _ => none }
def bracketEndsRow : OpenClaim := { program := "ytkfebgdflbplbaa", sum := "e20ea770839e76654a2741616b5cce7ea9cbd98b339dfa501f0f5eae7a015526", func := "afterimage/afterimagelaw18.BracketEnds", spec := "bracketEnds", unfollowed := true, recurses := true, apart := false }
def BracketEndsSaid : Prop := bracketEndsRow.holds Try.pinned (OpenSpec.ofChange bracketEndsSpec)

/-- ITS FALSE NEIGHBOUR: 'it returns false'. Refute it at one input. -/
def bracketEndsWrong : ChangeSpec := { name := "bracketEnds", fn := fun _ => fun
  | [d1, d2] => { results := [.lit (.bool false)], args := [d1, d2] }
  | _ => none }
def BracketEndsWrongFalsely : Prop := bracketEndsRow.holds Try.pinned (OpenSpec.ofChange bracketEndsWrong)

/-- 'afterimagelaw18.BracketMoved': WHATEVER THE INPUT: true; the input reads as it did. -/
def bracketMovedSpec : ChangeSpec := { name := "bracketMoved", fn := fun _ => fun
  | [d1, d2, d3] => { results := [.lit (.bool true)], args := [d1, d2, d3] }
  | _ => none }
def bracketMovedRow : OpenClaim := { program := "ytkfebgdflbplbaa", sum := "e20ea770839e76654a2741616b5cce7ea9cbd98b339dfa501f0f5eae7a015526", func := "afterimage/afterimagelaw18.BracketMoved", spec := "bracketMoved", unfollowed := true, recurses := true, apart := false }
def BracketMovedSaid : Prop := bracketMovedRow.holds Try.pinned (OpenSpec.ofChange bracketMovedSpec)

/-- ITS FALSE NEIGHBOUR: 'it returns false'. Refute it at one input. -/
def bracketMovedWrong : ChangeSpec := { name := "bracketMoved", fn := fun _ => fun
  | [d1, d2, d3] => { results := [.lit (.bool false)], args := [d1, d2, d3] }
  | _ => none }
def BracketMovedWrongFalsely : Prop := bracketMovedRow.holds Try.pinned (OpenSpec.ofChange bracketMovedWrong)

/-- 'afterimagelaw18.BracketParts': WHATEVER THE INPUT: true; the input reads as it did. -/
def bracketPartsSpec : ChangeSpec := { name := "bracketParts", fn := fun _ => fun
  | [d1, d2, d3] => { results := [.lit (.bool true)], args := [d1, d2, d3] }
  | _ => none }
def bracketPartsRow : OpenClaim := { program := "ytkfebgdflbplbaa", sum := "e20ea770839e76654a2741616b5cce7ea9cbd98b339dfa501f0f5eae7a015526", func := "afterimage/afterimagelaw18.BracketParts", spec := "bracketParts", unfollowed := true, recurses := true, apart := false }
def BracketPartsSaid : Prop := bracketPartsRow.holds Try.pinned (OpenSpec.ofChange bracketPartsSpec)

/-- ITS FALSE NEIGHBOUR: 'it returns false'. Refute it at one input. -/
def bracketPartsWrong : ChangeSpec := { name := "bracketParts", fn := fun _ => fun
  | [d1, d2, d3] => { results := [.lit (.bool false)], args := [d1, d2, d3] }
  | _ => none }
def BracketPartsWrongFalsely : Prop := bracketPartsRow.holds Try.pinned (OpenSpec.ofChange bracketPartsWrong)

/-- 'afterimagelaw18.BracketBeyond': WHATEVER THE INPUT: true; the input reads as it did. -/
def bracketBeyondSpec : ChangeSpec := { name := "bracketBeyond", fn := fun _ => fun
  | [d1, d2] => { results := [.lit (.bool true)], args := [d1, d2] }
  | _ => none }
def bracketBeyondRow : OpenClaim := { program := "ytkfebgdflbplbaa", sum := "e20ea770839e76654a2741616b5cce7ea9cbd98b339dfa501f0f5eae7a015526", func := "afterimage/afterimagelaw18.BracketBeyond", spec := "bracketBeyond", unfollowed := true, recurses := true, apart := false }
def BracketBeyondSaid : Prop := bracketBeyondRow.holds Try.pinned (OpenSpec.ofChange bracketBeyondSpec)

/-- ITS FALSE NEIGHBOUR: 'it returns false'. Refute it at one input. -/
def bracketBeyondWrong : ChangeSpec := { name := "bracketBeyond", fn := fun _ => fun
  | [d1, d2] => { results := [.lit (.bool false)], args := [d1, d2] }
  | _ => none }
def BracketBeyondWrongFalsely : Prop := bracketBeyondRow.holds Try.pinned (OpenSpec.ofChange bracketBeyondWrong)

/-- 'afterimagelaw18.BracketNear': WHATEVER THE INPUT: true; the input reads as it did. -/
def bracketNearSpec : ChangeSpec := { name := "bracketNear", fn := fun _ => fun
  | [d1, d2] => { results := [.lit (.bool true)], args := [d1, d2] }
  | _ => none }
def bracketNearRow : OpenClaim := { program := "ytkfebgdflbplbaa", sum := "e20ea770839e76654a2741616b5cce7ea9cbd98b339dfa501f0f5eae7a015526", func := "afterimage/afterimagelaw18.BracketNear", spec := "bracketNear", unfollowed := true, recurses := true, named := ["math/bits.divideError", "math/bits.overflowError"], apart := false }
def BracketNearSaid : Prop := bracketNearRow.holds Try.pinned (OpenSpec.ofChange bracketNearSpec)

/-- ITS FALSE NEIGHBOUR: 'it returns false'. Refute it at one input. -/
def bracketNearWrong : ChangeSpec := { name := "bracketNear", fn := fun _ => fun
  | [d1, d2] => { results := [.lit (.bool false)], args := [d1, d2] }
  | _ => none }
def BracketNearWrongFalsely : Prop := bracketNearRow.holds Try.pinned (OpenSpec.ofChange bracketNearWrong)

/- THE SECOND FORM. 'bulk': how many values and letters a reading holds, each counted each time it is reached (what is shared counts as often as it is met; a slice's spare places count too). A statement '..UptoSaid' is the law's where the arguments, and the package variables that the reading takes, are together of bulk at most 1048576: NARROWER than '..Said'. Prove '..Said' where nothing that the law and all that it calls make is longer than what came in: it says more and counts as full. Else prove '..UptoSaid'. A law counts once. -/
mutual
def uptoBulk {H : Type} : DataW H → Nat
  | .lit (.string bytes) => bytes.length + 1
  | .lit _ => 1
  | .nil => 1
  | .ptr d => uptoBulk d + 1
  | .slice elems spare => uptoBulkAll elems + uptoBulkAll spare + 1
  | .agg parts => uptoBulkAll parts + 1
  | .iface _ d => uptoBulk d + 1
  | .map entries => uptoBulkEntries entries + 1
  | .held _ => 1
def uptoBulkAll {H : Type} : List (DataW H) → Nat
  | [] => 0
  | d :: r => uptoBulk d + uptoBulkAll r
def uptoBulkEntries {H : Type} : List (Lit × DataW H) → Nat
  | [] => 0
  | x :: r => uptoBulkEntry x + uptoBulkEntries r
def uptoBulkEntry {H : Type} : Lit × DataW H → Nat
  | (.string bytes, d) => bytes.length + uptoBulk d + 1
  | (_, d) => uptoBulk d + 1
 end
def uptoSmall : (H : Type) → List (DataW H) → Bool := fun _ ds => decide (uptoBulkAll ds ≤ 1048576)
def OpenSpec.upto (s : _root_.Go.ChangeSpec) : _root_.Go.OpenSpec := { _root_.Go.OpenSpec.ofChange s with cond := some uptoSmall }

/-- 'afterimagelaw18.BracketPicks', WHERE WHAT IT READS IS OF BULK AT MOST 1048576: true; the input reads as it did. -/
def bracketPicksUptoRow : OpenClaim := { program := "ytkfebgdflbplbaa", sum := "e20ea770839e76654a2741616b5cce7ea9cbd98b339dfa501f0f5eae7a015526", func := "afterimage/afterimagelaw18.BracketPicks", spec := "bracketPicks", unfollowed := true, recurses := true, apart := false, narrowed := true }
def BracketPicksUptoSaid : Prop := bracketPicksUptoRow.holds Try.pinned (OpenSpec.upto bracketPicksSpec)

/-- 'afterimagelaw18.BracketEnds', WHERE WHAT IT READS IS OF BULK AT MOST 1048576: true; the input reads as it did. -/
def bracketEndsUptoRow : OpenClaim := { program := "ytkfebgdflbplbaa", sum := "e20ea770839e76654a2741616b5cce7ea9cbd98b339dfa501f0f5eae7a015526", func := "afterimage/afterimagelaw18.BracketEnds", spec := "bracketEnds", unfollowed := true, recurses := true, apart := false, narrowed := true }
def BracketEndsUptoSaid : Prop := bracketEndsUptoRow.holds Try.pinned (OpenSpec.upto bracketEndsSpec)

/-- 'afterimagelaw18.BracketMoved', WHERE WHAT IT READS IS OF BULK AT MOST 1048576: true; the input reads as it did. -/
def bracketMovedUptoRow : OpenClaim := { program := "ytkfebgdflbplbaa", sum := "e20ea770839e76654a2741616b5cce7ea9cbd98b339dfa501f0f5eae7a015526", func := "afterimage/afterimagelaw18.BracketMoved", spec := "bracketMoved", unfollowed := true, recurses := true, apart := false, narrowed := true }
def BracketMovedUptoSaid : Prop := bracketMovedUptoRow.holds Try.pinned (OpenSpec.upto bracketMovedSpec)

/-- 'afterimagelaw18.BracketParts', WHERE WHAT IT READS IS OF BULK AT MOST 1048576: true; the input reads as it did. -/
def bracketPartsUptoRow : OpenClaim := { program := "ytkfebgdflbplbaa", sum := "e20ea770839e76654a2741616b5cce7ea9cbd98b339dfa501f0f5eae7a015526", func := "afterimage/afterimagelaw18.BracketParts", spec := "bracketParts", unfollowed := true, recurses := true, apart := false, narrowed := true }
def BracketPartsUptoSaid : Prop := bracketPartsUptoRow.holds Try.pinned (OpenSpec.upto bracketPartsSpec)

/-- 'afterimagelaw18.BracketBeyond', WHERE WHAT IT READS IS OF BULK AT MOST 1048576: true; the input reads as it did. -/
def bracketBeyondUptoRow : OpenClaim := { program := "ytkfebgdflbplbaa", sum := "e20ea770839e76654a2741616b5cce7ea9cbd98b339dfa501f0f5eae7a015526", func := "afterimage/afterimagelaw18.BracketBeyond", spec := "bracketBeyond", unfollowed := true, recurses := true, apart := false, narrowed := true }
def BracketBeyondUptoSaid : Prop := bracketBeyondUptoRow.holds Try.pinned (OpenSpec.upto bracketBeyondSpec)

/-- 'afterimagelaw18.BracketNear', WHERE WHAT IT READS IS OF BULK AT MOST 1048576: true; the input reads as it did. -/
def bracketNearUptoRow : OpenClaim := { program := "ytkfebgdflbplbaa", sum := "e20ea770839e76654a2741616b5cce7ea9cbd98b339dfa501f0f5eae7a015526", func := "afterimage/afterimagelaw18.BracketNear", spec := "bracketNear", unfollowed := true, recurses := true, named := ["math/bits.divideError", "math/bits.overflowError"], apart := false, narrowed := true }
def BracketNearUptoSaid : Prop := bracketNearUptoRow.holds Try.pinned (OpenSpec.upto bracketNearSpec)

end Rows
end Go.Proofs.Ytkfebgdflbplbaa
