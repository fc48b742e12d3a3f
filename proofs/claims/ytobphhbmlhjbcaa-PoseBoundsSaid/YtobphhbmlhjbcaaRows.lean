/-
  No cell of these rows narrows 'for every input' (looked for: loops, veiled, ifaces, maps, wideKeys, modest, calm, conditions, laid).
  DERIVED. THE GIVEN ROWS OF THIS SEAT. 7 by the template 'for every input the law returns true; each argument reads behind the call as it read before'; 0 by the template 'total and deterministic' (their statements: YtobphhbmlhjbcaaTotals.lean).
  GIVEN WITH THE SEED: the statements are not yours to turn. If you find one false, say at which input.
  Laid BY PROGRAM, IN A SANDBOX (cutbox-rows.mjs): the forced cells as the released guide's own fill.sh prints them over the translation 7d6250dfbdbd7095… (all of the seat's roots in one cut). By AI agents, Wed Nov 11 2026. No macro, syntax, notation, axiom, sorry.
-/
import Derived.Test.YtobphhbmlhjbcaaChecked
import GoSem.Claim
import GoSem.ClaimJoined
import GoSem.ClaimMapViews
import Derived.JoinedTies
import Derived.KernelRfl
namespace Go.Proofs.Ytobphhbmlhjbcaa
/- THE CELL 'sum', in the pinned program and in every row, IS THE sha256 OF THE DUMP (.gsa) THAT YtobphhbmlhjbcaaProg.lean LOADS. Nothing in Lean hashes anything: it is a label: what it is worth is what the hold of that sum in a sandbox is worth. -/
noncomputable def Try.pinned : Pinned := { name := "ytobphhbmlhjbcaa", sum := "7d6250dfbdbd7095765e89b44e12f311790710f45f93167293edfe4bc75518d6", checked := Try.checked }
namespace Rows
def none {H : Type} : Left H := { results := [], args := [] }

/-- 'afterimagelaw19.PoseBetween': WHATEVER THE INPUT: true; the input reads as it did. -/
def poseBetweenSpec : ChangeSpec := { name := "poseBetween", fn := fun _ => fun
  | [d1, d2, d3] => { results := [.lit (.bool true)], args := [d1, d2, d3] }
  | _ => none }
def poseBetweenRow : OpenClaim := { program := "ytobphhbmlhjbcaa", sum := "7d6250dfbdbd7095765e89b44e12f311790710f45f93167293edfe4bc75518d6", func := "afterimage/afterimagelaw19.PoseBetween", spec := "poseBetween", unfollowed := true, recurses := true, named := ["math/bits.divideError", "math/bits.overflowError"], apart := false }
def PoseBetweenSaid : Prop := poseBetweenRow.holds Try.pinned (OpenSpec.ofChange poseBetweenSpec)

/-- ITS FALSE NEIGHBOUR: 'it returns false'. Refute it at one input. -/
def poseBetweenWrong : ChangeSpec := { name := "poseBetween", fn := fun _ => fun
  | [d1, d2, d3] => { results := [.lit (.bool false)], args := [d1, d2, d3] }
  | _ => none }
def PoseBetweenWrongFalsely : Prop := poseBetweenRow.holds Try.pinned (OpenSpec.ofChange poseBetweenWrong)

/-- 'afterimagelaw19.PoseHolds': WHATEVER THE INPUT: true; the input reads as it did. -/
def poseHoldsSpec : ChangeSpec := { name := "poseHolds", fn := fun _ => fun
  | [d1, d2, d3] => { results := [.lit (.bool true)], args := [d1, d2, d3] }
  | _ => none }
def poseHoldsRow : OpenClaim := { program := "ytobphhbmlhjbcaa", sum := "7d6250dfbdbd7095765e89b44e12f311790710f45f93167293edfe4bc75518d6", func := "afterimage/afterimagelaw19.PoseHolds", spec := "poseHolds", unfollowed := true, recurses := true, named := ["math/bits.divideError", "math/bits.overflowError"], apart := false }
def PoseHoldsSaid : Prop := poseHoldsRow.holds Try.pinned (OpenSpec.ofChange poseHoldsSpec)

/-- ITS FALSE NEIGHBOUR: 'it returns false'. Refute it at one input. -/
def poseHoldsWrong : ChangeSpec := { name := "poseHolds", fn := fun _ => fun
  | [d1, d2, d3] => { results := [.lit (.bool false)], args := [d1, d2, d3] }
  | _ => none }
def PoseHoldsWrongFalsely : Prop := poseHoldsRow.holds Try.pinned (OpenSpec.ofChange poseHoldsWrong)

/-- 'afterimagelaw19.PoseEnds': WHATEVER THE INPUT: true; the input reads as it did. -/
def poseEndsSpec : ChangeSpec := { name := "poseEnds", fn := fun _ => fun
  | [d1, d2] => { results := [.lit (.bool true)], args := [d1, d2] }
  | _ => none }
def poseEndsRow : OpenClaim := { program := "ytobphhbmlhjbcaa", sum := "7d6250dfbdbd7095765e89b44e12f311790710f45f93167293edfe4bc75518d6", func := "afterimage/afterimagelaw19.PoseEnds", spec := "poseEnds", unfollowed := true, recurses := true, named := ["math/bits.divideError", "math/bits.overflowError"], apart := false }
def PoseEndsSaid : Prop := poseEndsRow.holds Try.pinned (OpenSpec.ofChange poseEndsSpec)

/-- ITS FALSE NEIGHBOUR: 'it returns false'. Refute it at one input. -/
def poseEndsWrong : ChangeSpec := { name := "poseEnds", fn := fun _ => fun
  | [d1, d2] => { results := [.lit (.bool false)], args := [d1, d2] }
  | _ => none }
def PoseEndsWrongFalsely : Prop := poseEndsRow.holds Try.pinned (OpenSpec.ofChange poseEndsWrong)

/-- 'afterimagelaw19.PoseCurved': WHATEVER THE INPUT: true; the input reads as it did. -/
def poseCurvedSpec : ChangeSpec := { name := "poseCurved", fn := fun _ => fun
  | [d1, d2, d3] => { results := [.lit (.bool true)], args := [d1, d2, d3] }
  | _ => none }
def poseCurvedRow : OpenClaim := { program := "ytobphhbmlhjbcaa", sum := "7d6250dfbdbd7095765e89b44e12f311790710f45f93167293edfe4bc75518d6", func := "afterimage/afterimagelaw19.PoseCurved", spec := "poseCurved", unfollowed := true, recurses := true, named := ["math/bits.divideError", "math/bits.overflowError"], apart := false }
def PoseCurvedSaid : Prop := poseCurvedRow.holds Try.pinned (OpenSpec.ofChange poseCurvedSpec)

/-- ITS FALSE NEIGHBOUR: 'it returns false'. Refute it at one input. -/
def poseCurvedWrong : ChangeSpec := { name := "poseCurved", fn := fun _ => fun
  | [d1, d2, d3] => { results := [.lit (.bool false)], args := [d1, d2, d3] }
  | _ => none }
def PoseCurvedWrongFalsely : Prop := poseCurvedRow.holds Try.pinned (OpenSpec.ofChange poseCurvedWrong)

/-- 'afterimagelaw19.PoseBeyond': WHATEVER THE INPUT: true; the input reads as it did. -/
def poseBeyondSpec : ChangeSpec := { name := "poseBeyond", fn := fun _ => fun
  | [d1, d2, d3] => { results := [.lit (.bool true)], args := [d1, d2, d3] }
  | _ => none }
def poseBeyondRow : OpenClaim := { program := "ytobphhbmlhjbcaa", sum := "7d6250dfbdbd7095765e89b44e12f311790710f45f93167293edfe4bc75518d6", func := "afterimage/afterimagelaw19.PoseBeyond", spec := "poseBeyond", unfollowed := true, recurses := true, named := ["math/bits.divideError", "math/bits.overflowError"], apart := false }
def PoseBeyondSaid : Prop := poseBeyondRow.holds Try.pinned (OpenSpec.ofChange poseBeyondSpec)

/-- ITS FALSE NEIGHBOUR: 'it returns false'. Refute it at one input. -/
def poseBeyondWrong : ChangeSpec := { name := "poseBeyond", fn := fun _ => fun
  | [d1, d2, d3] => { results := [.lit (.bool false)], args := [d1, d2, d3] }
  | _ => none }
def PoseBeyondWrongFalsely : Prop := poseBeyondRow.holds Try.pinned (OpenSpec.ofChange poseBeyondWrong)

/-- 'afterimagelaw19.PoseBounds': WHATEVER THE INPUT: true; the input reads as it did. -/
def poseBoundsSpec : ChangeSpec := { name := "poseBounds", fn := fun _ => fun
  | [d1, d2, d3] => { results := [.lit (.bool true)], args := [d1, d2, d3] }
  | _ => none }
def poseBoundsRow : OpenClaim := { program := "ytobphhbmlhjbcaa", sum := "7d6250dfbdbd7095765e89b44e12f311790710f45f93167293edfe4bc75518d6", func := "afterimage/afterimagelaw19.PoseBounds", spec := "poseBounds", unfollowed := true, recurses := true, named := ["math/bits.divideError", "math/bits.overflowError"], apart := false }
def PoseBoundsSaid : Prop := poseBoundsRow.holds Try.pinned (OpenSpec.ofChange poseBoundsSpec)

/-- ITS FALSE NEIGHBOUR: 'it returns false'. Refute it at one input. -/
def poseBoundsWrong : ChangeSpec := { name := "poseBounds", fn := fun _ => fun
  | [d1, d2, d3] => { results := [.lit (.bool false)], args := [d1, d2, d3] }
  | _ => none }
def PoseBoundsWrongFalsely : Prop := poseBoundsRow.holds Try.pinned (OpenSpec.ofChange poseBoundsWrong)

/-- 'afterimagelaw19.PoseShows': WHATEVER THE INPUT: true; the input reads as it did. -/
def poseShowsSpec : ChangeSpec := { name := "poseShows", fn := fun _ => fun
  | [d1, d2, d3] => { results := [.lit (.bool true)], args := [d1, d2, d3] }
  | _ => none }
def poseShowsRow : OpenClaim := { program := "ytobphhbmlhjbcaa", sum := "7d6250dfbdbd7095765e89b44e12f311790710f45f93167293edfe4bc75518d6", func := "afterimage/afterimagelaw19.PoseShows", spec := "poseShows", unfollowed := true, recurses := true, named := ["math/bits.divideError", "math/bits.overflowError"], apart := false }
def PoseShowsSaid : Prop := poseShowsRow.holds Try.pinned (OpenSpec.ofChange poseShowsSpec)

/-- ITS FALSE NEIGHBOUR: 'it returns false'. Refute it at one input. -/
def poseShowsWrong : ChangeSpec := { name := "poseShows", fn := fun _ => fun
  | [d1, d2, d3] => { results := [.lit (.bool false)], args := [d1, d2, d3] }
  | _ => none }
def PoseShowsWrongFalsely : Prop := poseShowsRow.holds Try.pinned (OpenSpec.ofChange poseShowsWrong)

/- THE SECOND FORM. 'bulk': how many values and letters a reading holds, each counted each time it is reached (what is shared counts as often as it is met; a slice's spare places count too). A statement '..UptoSaid' is the law's where the arguments, and the package variables that the reading takes, are together of bulk at most 1048576: NARROWER than '..Said'. Prove '..Said' where nothing that the law and all that it calls make is longer than what came in: it says more and counts as full. Else prove '..UptoSaid'. A law counts once. -/
mutual
def uptoBulk {H : Type} : DataW H → Nat
  | .lit (.string bytes) => bytes.length + 1
  | .lit _ => 1
  | .nil => 1
  | .ptr d => uptoBulk d + 1
  | .slice elems spare => uptoBulkAll elems + uptoBulkAll spare + 1
  | .agg parts => uptoBulkAll parts + 1
  | .iface _ d => uptoBulk d + 1
  | .map entries => uptoBulkEntries entries + 1
  | .held _ => 1
def uptoBulkAll {H : Type} : List (DataW H) → Nat
  | [] => 0
  | d :: r => uptoBulk d + uptoBulkAll r
def uptoBulkEntries {H : Type} : List (Lit × DataW H) → Nat
  | [] => 0
  | x :: r => uptoBulkEntry x + uptoBulkEntries r
def uptoBulkEntry {H : Type} : Lit × DataW H → Nat
  | (.string bytes, d) => bytes.length + uptoBulk d + 1
  | (_, d) => uptoBulk d + 1
 end
def uptoSmall : (H : Type) → List (DataW H) → Bool := fun _ ds => decide (uptoBulkAll ds ≤ 1048576)
def OpenSpec.upto (s : _root_.Go.ChangeSpec) : _root_.Go.OpenSpec := { _root_.Go.OpenSpec.ofChange s with cond := some uptoSmall }

/-- 'afterimagelaw19.PoseBetween', WHERE WHAT IT READS IS OF BULK AT MOST 1048576: true; the input reads as it did. -/
def poseBetweenUptoRow : OpenClaim := { program := "ytobphhbmlhjbcaa", sum := "7d6250dfbdbd7095765e89b44e12f311790710f45f93167293edfe4bc75518d6", func := "afterimage/afterimagelaw19.PoseBetween", spec := "poseBetween", unfollowed := true, recurses := true, named := ["math/bits.divideError", "math/bits.overflowError"], apart := false, narrowed := true }
def PoseBetweenUptoSaid : Prop := poseBetweenUptoRow.holds Try.pinned (OpenSpec.upto poseBetweenSpec)

/-- 'afterimagelaw19.PoseHolds', WHERE WHAT IT READS IS OF BULK AT MOST 1048576: true; the input reads as it did. -/
def poseHoldsUptoRow : OpenClaim := { program := "ytobphhbmlhjbcaa", sum := "7d6250dfbdbd7095765e89b44e12f311790710f45f93167293edfe4bc75518d6", func := "afterimage/afterimagelaw19.PoseHolds", spec := "poseHolds", unfollowed := true, recurses := true, named := ["math/bits.divideError", "math/bits.overflowError"], apart := false, narrowed := true }
def PoseHoldsUptoSaid : Prop := poseHoldsUptoRow.holds Try.pinned (OpenSpec.upto poseHoldsSpec)

/-- 'afterimagelaw19.PoseEnds', WHERE WHAT IT READS IS OF BULK AT MOST 1048576: true; the input reads as it did. -/
def poseEndsUptoRow : OpenClaim := { program := "ytobphhbmlhjbcaa", sum := "7d6250dfbdbd7095765e89b44e12f311790710f45f93167293edfe4bc75518d6", func := "afterimage/afterimagelaw19.PoseEnds", spec := "poseEnds", unfollowed := true, recurses := true, named := ["math/bits.divideError", "math/bits.overflowError"], apart := false, narrowed := true }
def PoseEndsUptoSaid : Prop := poseEndsUptoRow.holds Try.pinned (OpenSpec.upto poseEndsSpec)

/-- 'afterimagelaw19.PoseCurved', WHERE WHAT IT READS IS OF BULK AT MOST 1048576: true; the input reads as it did. -/
def poseCurvedUptoRow : OpenClaim := { program := "ytobphhbmlhjbcaa", sum := "7d6250dfbdbd7095765e89b44e12f311790710f45f93167293edfe4bc75518d6", func := "afterimage/afterimagelaw19.PoseCurved", spec := "poseCurved", unfollowed := true, recurses := true, named := ["math/bits.divideError", "math/bits.overflowError"], apart := false, narrowed := true }
def PoseCurvedUptoSaid : Prop := poseCurvedUptoRow.holds Try.pinned (OpenSpec.upto poseCurvedSpec)

/-- 'afterimagelaw19.PoseBeyond', WHERE WHAT IT READS IS OF BULK AT MOST 1048576: true; the input reads as it did. -/
def poseBeyondUptoRow : OpenClaim := { program := "ytobphhbmlhjbcaa", sum := "7d6250dfbdbd7095765e89b44e12f311790710f45f93167293edfe4bc75518d6", func := "afterimage/afterimagelaw19.PoseBeyond", spec := "poseBeyond", unfollowed := true, recurses := true, named := ["math/bits.divideError", "math/bits.overflowError"], apart := false, narrowed := true }
def PoseBeyondUptoSaid : Prop := poseBeyondUptoRow.holds Try.pinned (OpenSpec.upto poseBeyondSpec)

/-- 'afterimagelaw19.PoseBounds', WHERE WHAT IT READS IS OF BULK AT MOST 1048576: true; the input reads as it did. -/
def poseBoundsUptoRow : OpenClaim := { program := "ytobphhbmlhjbcaa", sum := "7d6250dfbdbd7095765e89b44e12f311790710f45f93167293edfe4bc75518d6", func := "afterimage/afterimagelaw19.PoseBounds", spec := "poseBounds", unfollowed := true, recurses := true, named := ["math/bits.divideError", "math/bits.overflowError"], apart := false, narrowed := true }
def PoseBoundsUptoSaid : Prop := poseBoundsUptoRow.holds Try.pinned (OpenSpec.upto poseBoundsSpec)

/-- 'afterimagelaw19.PoseShows', WHERE WHAT IT READS IS OF BULK AT MOST 1048576: true; the input reads as it did. -/
def poseShowsUptoRow : OpenClaim := { program := "ytobphhbmlhjbcaa", sum := "7d6250dfbdbd7095765e89b44e12f311790710f45f93167293edfe4bc75518d6", func := "afterimage/afterimagelaw19.PoseShows", spec := "poseShows", unfollowed := true, recurses := true, named := ["math/bits.divideError", "math/bits.overflowError"], apart := false, narrowed := true }
def PoseShowsUptoSaid : Prop := poseShowsUptoRow.holds Try.pinned (OpenSpec.upto poseShowsSpec)

end Rows
end Go.Proofs.Ytobphhbmlhjbcaa
