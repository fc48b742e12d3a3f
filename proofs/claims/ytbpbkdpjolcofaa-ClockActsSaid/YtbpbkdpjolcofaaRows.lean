/-
  No cell of these rows narrows 'for every input' (looked for: loops, veiled, ifaces, maps, wideKeys, modest, calm, conditions, laid).
  DERIVED. THE GIVEN ROWS OF THIS SEAT. 7 by the template 'for every input the law returns true; each argument reads behind the call as it read before'; 0 by the template 'total and deterministic' (their statements: YtbpbkdpjolcofaaTotals.lean).
  GIVEN WITH THE SEED: the statements are not yours to turn. If you find one false, say at which input.
  Laid BY PROGRAM, IN A SANDBOX (cutbox-rows.mjs): the forced cells as the released guide's own fill.sh prints them over the translation 861e5bbb0167a8cb… (all of the seat's roots in one cut). By AI agents, Wed Nov 11 2026. No macro, syntax, notation, axiom, sorry.
-/
import Derived.Test.YtbpbkdpjolcofaaChecked
import GoSem.Claim
import GoSem.ClaimJoined
import GoSem.ClaimMapViews
import Derived.JoinedTies
import Derived.KernelRfl
namespace Go.Proofs.Ytbpbkdpjolcofaa
/- THE CELL 'sum', in the pinned program and in every row, IS THE sha256 OF THE DUMP (.gsa) THAT YtbpbkdpjolcofaaProg.lean LOADS. Nothing in Lean hashes anything: it is a label: what it is worth is what the hold of that sum in a sandbox is worth. -/
noncomputable def Try.pinned : Pinned := { name := "ytbpbkdpjolcofaa", sum := "861e5bbb0167a8cb1b7a05ed41c53adf8b4379a6e9cec05f388c0dad25bfcc8d", checked := Try.checked }
namespace Rows
def none {H : Type} : Left H := { results := [], args := [] }

/-- 'afterimagelaw17.ClockForward': WHATEVER THE INPUT: true; the input reads as it did. -/
def clockForwardSpec : ChangeSpec := { name := "clockForward", fn := fun _ => fun
  | [d1, d2] => { results := [.lit (.bool true)], args := [d1, d2] }
  | _ => none }
def clockForwardRow : OpenClaim := { program := "ytbpbkdpjolcofaa", sum := "861e5bbb0167a8cb1b7a05ed41c53adf8b4379a6e9cec05f388c0dad25bfcc8d", func := "afterimage/afterimagelaw17.ClockForward", spec := "clockForward", unfollowed := true, recurses := true, named := ["math/bits.divideError", "math/bits.overflowError"], apart := false }
def ClockForwardSaid : Prop := clockForwardRow.holds Try.pinned (OpenSpec.ofChange clockForwardSpec)

/-- ITS FALSE NEIGHBOUR: 'it returns false'. Refute it at one input. -/
def clockForwardWrong : ChangeSpec := { name := "clockForward", fn := fun _ => fun
  | [d1, d2] => { results := [.lit (.bool false)], args := [d1, d2] }
  | _ => none }
def ClockForwardWrongFalsely : Prop := clockForwardRow.holds Try.pinned (OpenSpec.ofChange clockForwardWrong)

/-- 'afterimagelaw17.ClockOffsets': WHATEVER THE INPUT: true; the input reads as it did. -/
def clockOffsetsSpec : ChangeSpec := { name := "clockOffsets", fn := fun _ => fun
  | [d1, d2] => { results := [.lit (.bool true)], args := [d1, d2] }
  | _ => none }
def clockOffsetsRow : OpenClaim := { program := "ytbpbkdpjolcofaa", sum := "861e5bbb0167a8cb1b7a05ed41c53adf8b4379a6e9cec05f388c0dad25bfcc8d", func := "afterimage/afterimagelaw17.ClockOffsets", spec := "clockOffsets", unfollowed := true, recurses := true, named := ["math/bits.divideError", "math/bits.overflowError"], apart := false }
def ClockOffsetsSaid : Prop := clockOffsetsRow.holds Try.pinned (OpenSpec.ofChange clockOffsetsSpec)

/-- ITS FALSE NEIGHBOUR: 'it returns false'. Refute it at one input. -/
def clockOffsetsWrong : ChangeSpec := { name := "clockOffsets", fn := fun _ => fun
  | [d1, d2] => { results := [.lit (.bool false)], args := [d1, d2] }
  | _ => none }
def ClockOffsetsWrongFalsely : Prop := clockOffsetsRow.holds Try.pinned (OpenSpec.ofChange clockOffsetsWrong)

/-- 'afterimagelaw17.ClockSteady': WHATEVER THE INPUT: true; the input reads as it did. -/
def clockSteadySpec : ChangeSpec := { name := "clockSteady", fn := fun _ => fun
  | [d1, d2, d3] => { results := [.lit (.bool true)], args := [d1, d2, d3] }
  | _ => none }
def clockSteadyRow : OpenClaim := { program := "ytbpbkdpjolcofaa", sum := "861e5bbb0167a8cb1b7a05ed41c53adf8b4379a6e9cec05f388c0dad25bfcc8d", func := "afterimage/afterimagelaw17.ClockSteady", spec := "clockSteady", unfollowed := true, recurses := true, named := ["math/bits.divideError", "math/bits.overflowError"], apart := false }
def ClockSteadySaid : Prop := clockSteadyRow.holds Try.pinned (OpenSpec.ofChange clockSteadySpec)

/-- ITS FALSE NEIGHBOUR: 'it returns false'. Refute it at one input. -/
def clockSteadyWrong : ChangeSpec := { name := "clockSteady", fn := fun _ => fun
  | [d1, d2, d3] => { results := [.lit (.bool false)], args := [d1, d2, d3] }
  | _ => none }
def ClockSteadyWrongFalsely : Prop := clockSteadyRow.holds Try.pinned (OpenSpec.ofChange clockSteadyWrong)

/-- 'afterimagelaw17.ClockMoved': WHATEVER THE INPUT: true; the input reads as it did. -/
def clockMovedSpec : ChangeSpec := { name := "clockMoved", fn := fun _ => fun
  | [d1, d2, d3] => { results := [.lit (.bool true)], args := [d1, d2, d3] }
  | _ => none }
def clockMovedRow : OpenClaim := { program := "ytbpbkdpjolcofaa", sum := "861e5bbb0167a8cb1b7a05ed41c53adf8b4379a6e9cec05f388c0dad25bfcc8d", func := "afterimage/afterimagelaw17.ClockMoved", spec := "clockMoved", unfollowed := true, recurses := true, named := ["math/bits.divideError", "math/bits.overflowError"], apart := false }
def ClockMovedSaid : Prop := clockMovedRow.holds Try.pinned (OpenSpec.ofChange clockMovedSpec)

/-- ITS FALSE NEIGHBOUR: 'it returns false'. Refute it at one input. -/
def clockMovedWrong : ChangeSpec := { name := "clockMoved", fn := fun _ => fun
  | [d1, d2, d3] => { results := [.lit (.bool false)], args := [d1, d2, d3] }
  | _ => none }
def ClockMovedWrongFalsely : Prop := clockMovedRow.holds Try.pinned (OpenSpec.ofChange clockMovedWrong)

/-- 'afterimagelaw17.ClockActs': WHATEVER THE INPUT: true; the input reads as it did. -/
def clockActsSpec : ChangeSpec := { name := "clockActs", fn := fun _ => fun
  | [d1, d2] => { results := [.lit (.bool true)], args := [d1, d2] }
  | _ => none }
def clockActsRow : OpenClaim := { program := "ytbpbkdpjolcofaa", sum := "861e5bbb0167a8cb1b7a05ed41c53adf8b4379a6e9cec05f388c0dad25bfcc8d", func := "afterimage/afterimagelaw17.ClockActs", spec := "clockActs", unfollowed := true, recurses := true, named := ["math/bits.divideError", "math/bits.overflowError"], apart := false }
def ClockActsSaid : Prop := clockActsRow.holds Try.pinned (OpenSpec.ofChange clockActsSpec)

/-- ITS FALSE NEIGHBOUR: 'it returns false'. Refute it at one input. -/
def clockActsWrong : ChangeSpec := { name := "clockActs", fn := fun _ => fun
  | [d1, d2] => { results := [.lit (.bool false)], args := [d1, d2] }
  | _ => none }
def ClockActsWrongFalsely : Prop := clockActsRow.holds Try.pinned (OpenSpec.ofChange clockActsWrong)

/-- 'afterimagelaw17.ClockNone': WHATEVER THE INPUT: true; the input reads as it did. -/
def clockNoneSpec : ChangeSpec := { name := "clockNone", fn := fun _ => fun
  | [d1, d2] => { results := [.lit (.bool true)], args := [d1, d2] }
  | _ => none }
def clockNoneRow : OpenClaim := { program := "ytbpbkdpjolcofaa", sum := "861e5bbb0167a8cb1b7a05ed41c53adf8b4379a6e9cec05f388c0dad25bfcc8d", func := "afterimage/afterimagelaw17.ClockNone", spec := "clockNone", unfollowed := true, recurses := true, named := ["math/bits.divideError", "math/bits.overflowError"], apart := false }
def ClockNoneSaid : Prop := clockNoneRow.holds Try.pinned (OpenSpec.ofChange clockNoneSpec)

/-- ITS FALSE NEIGHBOUR: 'it returns false'. Refute it at one input. -/
def clockNoneWrong : ChangeSpec := { name := "clockNone", fn := fun _ => fun
  | [d1, d2] => { results := [.lit (.bool false)], args := [d1, d2] }
  | _ => none }
def ClockNoneWrongFalsely : Prop := clockNoneRow.holds Try.pinned (OpenSpec.ofChange clockNoneWrong)

/-- 'afterimagelaw17.ClockApart': WHATEVER THE INPUT: true; the input reads as it did. -/
def clockApartSpec : ChangeSpec := { name := "clockApart", fn := fun _ => fun
  | [d1, d2] => { results := [.lit (.bool true)], args := [d1, d2] }
  | _ => none }
def clockApartRow : OpenClaim := { program := "ytbpbkdpjolcofaa", sum := "861e5bbb0167a8cb1b7a05ed41c53adf8b4379a6e9cec05f388c0dad25bfcc8d", func := "afterimage/afterimagelaw17.ClockApart", spec := "clockApart", unfollowed := true, recurses := true, named := ["math/bits.divideError", "math/bits.overflowError"], apart := false }
def ClockApartSaid : Prop := clockApartRow.holds Try.pinned (OpenSpec.ofChange clockApartSpec)

/-- ITS FALSE NEIGHBOUR: 'it returns false'. Refute it at one input. -/
def clockApartWrong : ChangeSpec := { name := "clockApart", fn := fun _ => fun
  | [d1, d2] => { results := [.lit (.bool false)], args := [d1, d2] }
  | _ => none }
def ClockApartWrongFalsely : Prop := clockApartRow.holds Try.pinned (OpenSpec.ofChange clockApartWrong)

/- THE SECOND FORM. 'bulk': how many values and letters a reading holds, each counted each time it is reached (what is shared counts as often as it is met; a slice's spare places count too). A statement '..UptoSaid' is the law's where the arguments, and the package variables that the reading takes, are together of bulk at most 1048576: NARROWER than '..Said'. Prove '..Said' where nothing that the law and all that it calls make is longer than what came in: it says more and counts as full. Else prove '..UptoSaid'. A law counts once. -/
mutual
def uptoBulk {H : Type} : DataW H → Nat
  | .lit (.string bytes) => bytes.length + 1
  | .lit _ => 1
  | .nil => 1
  | .ptr d => uptoBulk d + 1
  | .slice elems spare => uptoBulkAll elems + uptoBulkAll spare + 1
  | .agg parts => uptoBulkAll parts + 1
  | .iface _ d => uptoBulk d + 1
  | .map entries => uptoBulkEntries entries + 1
  | .held _ => 1
def uptoBulkAll {H : Type} : List (DataW H) → Nat
  | [] => 0
  | d :: r => uptoBulk d + uptoBulkAll r
def uptoBulkEntries {H : Type} : List (Lit × DataW H) → Nat
  | [] => 0
  | x :: r => uptoBulkEntry x + uptoBulkEntries r
def uptoBulkEntry {H : Type} : Lit × DataW H → Nat
  | (.string bytes, d) => bytes.length + uptoBulk d + 1
  | (_, d) => uptoBulk d + 1
 end
def uptoSmall : (H : Type) → List (DataW H) → Bool := fun _ ds => decide (uptoBulkAll ds ≤ 1048576)
def OpenSpec.upto (s : _root_.Go.ChangeSpec) : _root_.Go.OpenSpec := { _root_.Go.OpenSpec.ofChange s with cond := some uptoSmall }

/-- 'afterimagelaw17.ClockForward', WHERE WHAT IT READS IS OF BULK AT MOST 1048576: true; the input reads as it did. -/
def clockForwardUptoRow : OpenClaim := { program := "ytbpbkdpjolcofaa", sum := "861e5bbb0167a8cb1b7a05ed41c53adf8b4379a6e9cec05f388c0dad25bfcc8d", func := "afterimage/afterimagelaw17.ClockForward", spec := "clockForward", unfollowed := true, recurses := true, named := ["math/bits.divideError", "math/bits.overflowError"], apart := false, narrowed := true }
def ClockForwardUptoSaid : Prop := clockForwardUptoRow.holds Try.pinned (OpenSpec.upto clockForwardSpec)

/-- 'afterimagelaw17.ClockOffsets', WHERE WHAT IT READS IS OF BULK AT MOST 1048576: true; the input reads as it did. -/
def clockOffsetsUptoRow : OpenClaim := { program := "ytbpbkdpjolcofaa", sum := "861e5bbb0167a8cb1b7a05ed41c53adf8b4379a6e9cec05f388c0dad25bfcc8d", func := "afterimage/afterimagelaw17.ClockOffsets", spec := "clockOffsets", unfollowed := true, recurses := true, named := ["math/bits.divideError", "math/bits.overflowError"], apart := false, narrowed := true }
def ClockOffsetsUptoSaid : Prop := clockOffsetsUptoRow.holds Try.pinned (OpenSpec.upto clockOffsetsSpec)

/-- 'afterimagelaw17.ClockSteady', WHERE WHAT IT READS IS OF BULK AT MOST 1048576: true; the input reads as it did. -/
def clockSteadyUptoRow : OpenClaim := { program := "ytbpbkdpjolcofaa", sum := "861e5bbb0167a8cb1b7a05ed41c53adf8b4379a6e9cec05f388c0dad25bfcc8d", func := "afterimage/afterimagelaw17.ClockSteady", spec := "clockSteady", unfollowed := true, recurses := true, named := ["math/bits.divideError", "math/bits.overflowError"], apart := false, narrowed := true }
def ClockSteadyUptoSaid : Prop := clockSteadyUptoRow.holds Try.pinned (OpenSpec.upto clockSteadySpec)

/-- 'afterimagelaw17.ClockMoved', WHERE WHAT IT READS IS OF BULK AT MOST 1048576: true; the input reads as it did. -/
def clockMovedUptoRow : OpenClaim := { program := "ytbpbkdpjolcofaa", sum := "861e5bbb0167a8cb1b7a05ed41c53adf8b4379a6e9cec05f388c0dad25bfcc8d", func := "afterimage/afterimagelaw17.ClockMoved", spec := "clockMoved", unfollowed := true, recurses := true, named := ["math/bits.divideError", "math/bits.overflowError"], apart := false, narrowed := true }
def ClockMovedUptoSaid : Prop := clockMovedUptoRow.holds Try.pinned (OpenSpec.upto clockMovedSpec)

/-- 'afterimagelaw17.ClockActs', WHERE WHAT IT READS IS OF BULK AT MOST 1048576: true; the input reads as it did. -/
def clockActsUptoRow : OpenClaim := { program := "ytbpbkdpjolcofaa", sum := "861e5bbb0167a8cb1b7a05ed41c53adf8b4379a6e9cec05f388c0dad25bfcc8d", func := "afterimage/afterimagelaw17.ClockActs", spec := "clockActs", unfollowed := true, recurses := true, named := ["math/bits.divideError", "math/bits.overflowError"], apart := false, narrowed := true }
def ClockActsUptoSaid : Prop := clockActsUptoRow.holds Try.pinned (OpenSpec.upto clockActsSpec)

/-- 'afterimagelaw17.ClockNone', WHERE WHAT IT READS IS OF BULK AT MOST 1048576: true; the input reads as it did. -/
def clockNoneUptoRow : OpenClaim := { program := "ytbpbkdpjolcofaa", sum := "861e5bbb0167a8cb1b7a05ed41c53adf8b4379a6e9cec05f388c0dad25bfcc8d", func := "afterimage/afterimagelaw17.ClockNone", spec := "clockNone", unfollowed := true, recurses := true, named := ["math/bits.divideError", "math/bits.overflowError"], apart := false, narrowed := true }
def ClockNoneUptoSaid : Prop := clockNoneUptoRow.holds Try.pinned (OpenSpec.upto clockNoneSpec)

/-- 'afterimagelaw17.ClockApart', WHERE WHAT IT READS IS OF BULK AT MOST 1048576: true; the input reads as it did. -/
def clockApartUptoRow : OpenClaim := { program := "ytbpbkdpjolcofaa", sum := "861e5bbb0167a8cb1b7a05ed41c53adf8b4379a6e9cec05f388c0dad25bfcc8d", func := "afterimage/afterimagelaw17.ClockApart", spec := "clockApart", unfollowed := true, recurses := true, named := ["math/bits.divideError", "math/bits.overflowError"], apart := false, narrowed := true }
def ClockApartUptoSaid : Prop := clockApartUptoRow.holds Try.pinned (OpenSpec.upto clockApartSpec)

end Rows
end Go.Proofs.Ytbpbkdpjolcofaa
