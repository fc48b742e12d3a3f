/-
  No cell of these rows narrows 'for every input' (looked for: loops, veiled, ifaces, maps, wideKeys, modest, calm, conditions, laid).
  DERIVED. THE GIVEN ROWS OF THIS SEAT. 5 by the template 'for every input the law returns true; each argument reads behind the call as it read before'; 0 by the template 'total and deterministic' (their statements: YtklkooeimkedgaaGreatTotals.lean).
  GIVEN WITH THE SEED: the statements are not yours to turn. If you find one false, say at which input.
  Laid BY PROGRAM, IN A SANDBOX (cutbox-rows.mjs): the forced cells as the released guide's own fill.sh prints them over the translation ebebfb0734a0cdc9… (all of the seat's roots in one cut). By AI agents, Wed Nov 11 2026. No macro, syntax, notation, axiom, sorry.
-/
import Derived.Test.YtklkooeimkedgaaGreatChecked
import GoSem.Claim
import GoSem.ClaimJoined
import GoSem.ClaimMapViews
import Derived.JoinedTies
import Derived.KernelRfl
namespace Go.Proofs.YtklkooeimkedgaaGreat
/- THE CELL 'sum', in the pinned program and in every row, IS THE sha256 OF THE DUMP (.gsa) THAT YtklkooeimkedgaaGreatProg.lean LOADS. Nothing in Lean hashes anything: it is a label: what it is worth is what the hold of that sum in a sandbox is worth. -/
noncomputable def Tryz.pinned : Pinned := { name := "ytklkooeimkedgaagreat", sum := "ebebfb0734a0cdc9414271c22263c958c384169e42107215d732270e06d5e459", checked := Tryz.checked }
namespace Rows
def none {H : Type} : Left H := { results := [], args := [] }

/-- 'afterimagetop.TopJumps': WHATEVER THE INPUT: true; the input reads as it did. -/
def topJumpsSpec : ChangeSpec := { name := "topJumps", fn := fun _ => fun
  | [d1, d2, d3] => { results := [.lit (.bool true)], args := [d1, d2, d3] }
  | _ => none }
def topJumpsRow : OpenClaim := { program := "ytklkooeimkedgaagreat", sum := "ebebfb0734a0cdc9414271c22263c958c384169e42107215d732270e06d5e459", func := "afterimage/afterimagetop.TopJumps", spec := "topJumps", inPlace := ["slices.overlaps[afterimage/ring.one[afterimage/api.Snap]]"], unfollowed := true, recurses := true, named := ["math/bits.divideError", "math/bits.overflowError"], apart := false }
def TopJumpsSaid : Prop := topJumpsRow.holds Tryz.pinned (OpenSpec.ofChange topJumpsSpec)

/-- ITS FALSE NEIGHBOUR: 'it returns false'. Refute it at one input. -/
def topJumpsWrong : ChangeSpec := { name := "topJumps", fn := fun _ => fun
  | [d1, d2, d3] => { results := [.lit (.bool false)], args := [d1, d2, d3] }
  | _ => none }
def TopJumpsWrongFalsely : Prop := topJumpsRow.holds Tryz.pinned (OpenSpec.ofChange topJumpsWrong)

/-- 'afterimagetop.TopOrders': WHATEVER THE INPUT: true; the input reads as it did. -/
def topOrdersSpec : ChangeSpec := { name := "topOrders", fn := fun _ => fun
  | [d1, d2, d3] => { results := [.lit (.bool true)], args := [d1, d2, d3] }
  | _ => none }
def topOrdersRow : OpenClaim := { program := "ytklkooeimkedgaagreat", sum := "ebebfb0734a0cdc9414271c22263c958c384169e42107215d732270e06d5e459", func := "afterimage/afterimagetop.TopOrders", spec := "topOrders", inPlace := ["slices.overlaps[afterimage/ring.one[afterimage/api.Snap]]"], unfollowed := true, recurses := true, named := ["math/bits.divideError", "math/bits.overflowError"], apart := false }
def TopOrdersSaid : Prop := topOrdersRow.holds Tryz.pinned (OpenSpec.ofChange topOrdersSpec)

/-- ITS FALSE NEIGHBOUR: 'it returns false'. Refute it at one input. -/
def topOrdersWrong : ChangeSpec := { name := "topOrders", fn := fun _ => fun
  | [d1, d2, d3] => { results := [.lit (.bool false)], args := [d1, d2, d3] }
  | _ => none }
def TopOrdersWrongFalsely : Prop := topOrdersRow.holds Tryz.pinned (OpenSpec.ofChange topOrdersWrong)

/-- 'afterimagetop.TopDeltas': WHATEVER THE INPUT: true; the input reads as it did. -/
def topDeltasSpec : ChangeSpec := { name := "topDeltas", fn := fun _ => fun
  | [d1, d2, d3] => { results := [.lit (.bool true)], args := [d1, d2, d3] }
  | _ => none }
def topDeltasRow : OpenClaim := { program := "ytklkooeimkedgaagreat", sum := "ebebfb0734a0cdc9414271c22263c958c384169e42107215d732270e06d5e459", func := "afterimage/afterimagetop.TopDeltas", spec := "topDeltas", inPlace := ["slices.overlaps[afterimage/ring.one[afterimage/api.Snap]]"], unfollowed := true, recurses := true, named := ["math/bits.divideError", "math/bits.overflowError"], apart := false }
def TopDeltasSaid : Prop := topDeltasRow.holds Tryz.pinned (OpenSpec.ofChange topDeltasSpec)

/-- ITS FALSE NEIGHBOUR: 'it returns false'. Refute it at one input. -/
def topDeltasWrong : ChangeSpec := { name := "topDeltas", fn := fun _ => fun
  | [d1, d2, d3] => { results := [.lit (.bool false)], args := [d1, d2, d3] }
  | _ => none }
def TopDeltasWrongFalsely : Prop := topDeltasRow.holds Tryz.pinned (OpenSpec.ofChange topDeltasWrong)

/-- 'afterimagetop.TopExact': WHATEVER THE INPUT: true; the input reads as it did. -/
def topExactSpec : ChangeSpec := { name := "topExact", fn := fun _ => fun
  | [d1, d2] => { results := [.lit (.bool true)], args := [d1, d2] }
  | _ => none }
def topExactRow : OpenClaim := { program := "ytklkooeimkedgaagreat", sum := "ebebfb0734a0cdc9414271c22263c958c384169e42107215d732270e06d5e459", func := "afterimage/afterimagetop.TopExact", spec := "topExact", inPlace := ["slices.overlaps[afterimage/ring.one[afterimage/api.Snap]]"], unfollowed := true, recurses := true, named := ["math/bits.divideError", "math/bits.overflowError"], apart := false }
def TopExactSaid : Prop := topExactRow.holds Tryz.pinned (OpenSpec.ofChange topExactSpec)

/-- ITS FALSE NEIGHBOUR: 'it returns false'. Refute it at one input. -/
def topExactWrong : ChangeSpec := { name := "topExact", fn := fun _ => fun
  | [d1, d2] => { results := [.lit (.bool false)], args := [d1, d2] }
  | _ => none }
def TopExactWrongFalsely : Prop := topExactRow.holds Tryz.pinned (OpenSpec.ofChange topExactWrong)

/-- 'afterimagetop.TopBeyond': WHATEVER THE INPUT: true; the input reads as it did. -/
def topBeyondSpec : ChangeSpec := { name := "topBeyond", fn := fun _ => fun
  | [d1, d2] => { results := [.lit (.bool true)], args := [d1, d2] }
  | _ => none }
def topBeyondRow : OpenClaim := { program := "ytklkooeimkedgaagreat", sum := "ebebfb0734a0cdc9414271c22263c958c384169e42107215d732270e06d5e459", func := "afterimage/afterimagetop.TopBeyond", spec := "topBeyond", inPlace := ["slices.overlaps[afterimage/ring.one[afterimage/api.Snap]]"], unfollowed := true, recurses := true, named := ["math/bits.divideError", "math/bits.overflowError"], apart := false }
def TopBeyondSaid : Prop := topBeyondRow.holds Tryz.pinned (OpenSpec.ofChange topBeyondSpec)

/-- ITS FALSE NEIGHBOUR: 'it returns false'. Refute it at one input. -/
def topBeyondWrong : ChangeSpec := { name := "topBeyond", fn := fun _ => fun
  | [d1, d2] => { results := [.lit (.bool false)], args := [d1, d2] }
  | _ => none }
def TopBeyondWrongFalsely : Prop := topBeyondRow.holds Tryz.pinned (OpenSpec.ofChange topBeyondWrong)

/- THE SECOND FORM. 'bulk': how many values and letters a reading holds, each counted each time it is reached (what is shared counts as often as it is met; a slice's spare places count too). A statement '..UptoSaid' is the law's where the arguments, and the package variables that the reading takes, are together of bulk at most 1048576: NARROWER than '..Said'. Prove '..Said' where nothing that the law and all that it calls make is longer than what came in: it says more and counts as full. Else prove '..UptoSaid'. A law counts once. -/
mutual
def uptoBulk {H : Type} : DataW H → Nat
  | .lit (.string bytes) => bytes.length + 1
  | .lit _ => 1
  | .nil => 1
  | .ptr d => uptoBulk d + 1
  | .slice elems spare => uptoBulkAll elems + uptoBulkAll spare + 1
  | .agg parts => uptoBulkAll parts + 1
  | .iface _ d => uptoBulk d + 1
  | .map entries => uptoBulkEntries entries + 1
  | .held _ => 1
def uptoBulkAll {H : Type} : List (DataW H) → Nat
  | [] => 0
  | d :: r => uptoBulk d + uptoBulkAll r
def uptoBulkEntries {H : Type} : List (Lit × DataW H) → Nat
  | [] => 0
  | x :: r => uptoBulkEntry x + uptoBulkEntries r
def uptoBulkEntry {H : Type} : Lit × DataW H → Nat
  | (.string bytes, d) => bytes.length + uptoBulk d + 1
  | (_, d) => uptoBulk d + 1
 end
def uptoSmall : (H : Type) → List (DataW H) → Bool := fun _ ds => decide (uptoBulkAll ds ≤ 1048576)
def OpenSpec.upto (s : _root_.Go.ChangeSpec) : _root_.Go.OpenSpec := { _root_.Go.OpenSpec.ofChange s with cond := some uptoSmall }

/-- 'afterimagetop.TopJumps', WHERE WHAT IT READS IS OF BULK AT MOST 1048576: true; the input reads as it did. -/
def topJumpsUptoRow : OpenClaim := { program := "ytklkooeimkedgaagreat", sum := "ebebfb0734a0cdc9414271c22263c958c384169e42107215d732270e06d5e459", func := "afterimage/afterimagetop.TopJumps", spec := "topJumps", inPlace := ["slices.overlaps[afterimage/ring.one[afterimage/api.Snap]]"], unfollowed := true, recurses := true, named := ["math/bits.divideError", "math/bits.overflowError"], apart := false, narrowed := true }
def TopJumpsUptoSaid : Prop := topJumpsUptoRow.holds Tryz.pinned (OpenSpec.upto topJumpsSpec)

/-- 'afterimagetop.TopOrders', WHERE WHAT IT READS IS OF BULK AT MOST 1048576: true; the input reads as it did. -/
def topOrdersUptoRow : OpenClaim := { program := "ytklkooeimkedgaagreat", sum := "ebebfb0734a0cdc9414271c22263c958c384169e42107215d732270e06d5e459", func := "afterimage/afterimagetop.TopOrders", spec := "topOrders", inPlace := ["slices.overlaps[afterimage/ring.one[afterimage/api.Snap]]"], unfollowed := true, recurses := true, named := ["math/bits.divideError", "math/bits.overflowError"], apart := false, narrowed := true }
def TopOrdersUptoSaid : Prop := topOrdersUptoRow.holds Tryz.pinned (OpenSpec.upto topOrdersSpec)

/-- 'afterimagetop.TopDeltas', WHERE WHAT IT READS IS OF BULK AT MOST 1048576: true; the input reads as it did. -/
def topDeltasUptoRow : OpenClaim := { program := "ytklkooeimkedgaagreat", sum := "ebebfb0734a0cdc9414271c22263c958c384169e42107215d732270e06d5e459", func := "afterimage/afterimagetop.TopDeltas", spec := "topDeltas", inPlace := ["slices.overlaps[afterimage/ring.one[afterimage/api.Snap]]"], unfollowed := true, recurses := true, named := ["math/bits.divideError", "math/bits.overflowError"], apart := false, narrowed := true }
def TopDeltasUptoSaid : Prop := topDeltasUptoRow.holds Tryz.pinned (OpenSpec.upto topDeltasSpec)

/-- 'afterimagetop.TopExact', WHERE WHAT IT READS IS OF BULK AT MOST 1048576: true; the input reads as it did. -/
def topExactUptoRow : OpenClaim := { program := "ytklkooeimkedgaagreat", sum := "ebebfb0734a0cdc9414271c22263c958c384169e42107215d732270e06d5e459", func := "afterimage/afterimagetop.TopExact", spec := "topExact", inPlace := ["slices.overlaps[afterimage/ring.one[afterimage/api.Snap]]"], unfollowed := true, recurses := true, named := ["math/bits.divideError", "math/bits.overflowError"], apart := false, narrowed := true }
def TopExactUptoSaid : Prop := topExactUptoRow.holds Tryz.pinned (OpenSpec.upto topExactSpec)

/-- 'afterimagetop.TopBeyond', WHERE WHAT IT READS IS OF BULK AT MOST 1048576: true; the input reads as it did. -/
def topBeyondUptoRow : OpenClaim := { program := "ytklkooeimkedgaagreat", sum := "ebebfb0734a0cdc9414271c22263c958c384169e42107215d732270e06d5e459", func := "afterimage/afterimagetop.TopBeyond", spec := "topBeyond", inPlace := ["slices.overlaps[afterimage/ring.one[afterimage/api.Snap]]"], unfollowed := true, recurses := true, named := ["math/bits.divideError", "math/bits.overflowError"], apart := false, narrowed := true }
def TopBeyondUptoSaid : Prop := topBeyondUptoRow.holds Tryz.pinned (OpenSpec.upto topBeyondSpec)

end Rows
end Go.Proofs.YtklkooeimkedgaaGreat
