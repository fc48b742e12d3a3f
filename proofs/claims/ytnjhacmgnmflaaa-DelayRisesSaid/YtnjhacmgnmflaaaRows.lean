/-
  No cell of these rows narrows 'for every input' (looked for: loops, veiled, ifaces, maps, wideKeys, modest, calm, conditions, laid).
  DERIVED. THE GIVEN ROWS OF THIS SEAT. 12 by the template 'for every input the law returns true; each argument reads behind the call as it read before'; 0 by the template 'total and deterministic' (their statements: YtnjhacmgnmflaaaTotals.lean).
  GIVEN WITH THE SEED: the statements are not yours to turn. If you find one false, say at which input.
  Laid BY PROGRAM, IN A SANDBOX (cutbox-rows.mjs): the forced cells as the released guide's own fill.sh prints them over the translation 4eda0861ee747ddf… (all of the seat's roots in one cut). By AI agents, Wed Nov 11 2026. No macro, syntax, notation, axiom, sorry.
-/
import Derived.Test.YtnjhacmgnmflaaaChecked
import GoSem.Claim
import GoSem.ClaimJoined
import GoSem.ClaimMapViews
import Derived.JoinedTies
import Derived.KernelRfl
namespace Go.Proofs.Ytnjhacmgnmflaaa
/- THE CELL 'sum', in the pinned program and in every row, IS THE sha256 OF THE DUMP (.gsa) THAT YtnjhacmgnmflaaaProg.lean LOADS. Nothing in Lean hashes anything: it is a label: what it is worth is what the hold of that sum in a sandbox is worth. -/
noncomputable def Try.pinned : Pinned := { name := "ytnjhacmgnmflaaa", sum := "4eda0861ee747ddf62386184d79580961fc19a07f92b2c241dfd0bcce8a0a6b3", checked := Try.checked }
namespace Rows
def none {H : Type} : Left H := { results := [], args := [] }

/-- 'afterimagelaw15.DelayTargets': WHATEVER THE INPUT: true; the input reads as it did. -/
def delayTargetsSpec : ChangeSpec := { name := "delayTargets", fn := fun _ => fun
  | [d1, d2] => { results := [.lit (.bool true)], args := [d1, d2] }
  | _ => none }
def delayTargetsRow : OpenClaim := { program := "ytnjhacmgnmflaaa", sum := "4eda0861ee747ddf62386184d79580961fc19a07f92b2c241dfd0bcce8a0a6b3", func := "afterimage/afterimagelaw15.DelayTargets", spec := "delayTargets", recurses := true, apart := false }
def DelayTargetsSaid : Prop := delayTargetsRow.holds Try.pinned (OpenSpec.ofChange delayTargetsSpec)

/-- ITS FALSE NEIGHBOUR: 'it returns false'. Refute it at one input. -/
def delayTargetsWrong : ChangeSpec := { name := "delayTargets", fn := fun _ => fun
  | [d1, d2] => { results := [.lit (.bool false)], args := [d1, d2] }
  | _ => none }
def DelayTargetsWrongFalsely : Prop := delayTargetsRow.holds Try.pinned (OpenSpec.ofChange delayTargetsWrong)

/-- 'afterimagelaw15.DelayUpdates': WHATEVER THE INPUT: true; the input reads as it did. -/
def delayUpdatesSpec : ChangeSpec := { name := "delayUpdates", fn := fun _ => fun
  | [d1, d2] => { results := [.lit (.bool true)], args := [d1, d2] }
  | _ => none }
def delayUpdatesRow : OpenClaim := { program := "ytnjhacmgnmflaaa", sum := "4eda0861ee747ddf62386184d79580961fc19a07f92b2c241dfd0bcce8a0a6b3", func := "afterimage/afterimagelaw15.DelayUpdates", spec := "delayUpdates", recurses := true, apart := false }
def DelayUpdatesSaid : Prop := delayUpdatesRow.holds Try.pinned (OpenSpec.ofChange delayUpdatesSpec)

/-- ITS FALSE NEIGHBOUR: 'it returns false'. Refute it at one input. -/
def delayUpdatesWrong : ChangeSpec := { name := "delayUpdates", fn := fun _ => fun
  | [d1, d2] => { results := [.lit (.bool false)], args := [d1, d2] }
  | _ => none }
def DelayUpdatesWrongFalsely : Prop := delayUpdatesRow.holds Try.pinned (OpenSpec.ofChange delayUpdatesWrong)

/-- 'afterimagelaw15.DelayBounds': WHATEVER THE INPUT: true; the input reads as it did. -/
def delayBoundsSpec : ChangeSpec := { name := "delayBounds", fn := fun _ => fun
  | [d1, d2] => { results := [.lit (.bool true)], args := [d1, d2] }
  | _ => none }
def delayBoundsRow : OpenClaim := { program := "ytnjhacmgnmflaaa", sum := "4eda0861ee747ddf62386184d79580961fc19a07f92b2c241dfd0bcce8a0a6b3", func := "afterimage/afterimagelaw15.DelayBounds", spec := "delayBounds", apart := false }
def DelayBoundsSaid : Prop := delayBoundsRow.holds Try.pinned (OpenSpec.ofChange delayBoundsSpec)

/-- ITS FALSE NEIGHBOUR: 'it returns false'. Refute it at one input. -/
def delayBoundsWrong : ChangeSpec := { name := "delayBounds", fn := fun _ => fun
  | [d1, d2] => { results := [.lit (.bool false)], args := [d1, d2] }
  | _ => none }
def DelayBoundsWrongFalsely : Prop := delayBoundsRow.holds Try.pinned (OpenSpec.ofChange delayBoundsWrong)

/-- 'afterimagelaw15.DelayRises': WHATEVER THE INPUT: true; the input reads as it did. -/
def delayRisesSpec : ChangeSpec := { name := "delayRises", fn := fun _ => fun
  | [d1, d2, d3] => { results := [.lit (.bool true)], args := [d1, d2, d3] }
  | _ => none }
def delayRisesRow : OpenClaim := { program := "ytnjhacmgnmflaaa", sum := "4eda0861ee747ddf62386184d79580961fc19a07f92b2c241dfd0bcce8a0a6b3", func := "afterimage/afterimagelaw15.DelayRises", spec := "delayRises", apart := false }
def DelayRisesSaid : Prop := delayRisesRow.holds Try.pinned (OpenSpec.ofChange delayRisesSpec)

/-- ITS FALSE NEIGHBOUR: 'it returns false'. Refute it at one input. -/
def delayRisesWrong : ChangeSpec := { name := "delayRises", fn := fun _ => fun
  | [d1, d2, d3] => { results := [.lit (.bool false)], args := [d1, d2, d3] }
  | _ => none }
def DelayRisesWrongFalsely : Prop := delayRisesRow.holds Try.pinned (OpenSpec.ofChange delayRisesWrong)

/-- 'afterimagelaw15.DelaySlack': WHATEVER THE INPUT: true; the input reads as it did. -/
def delaySlackSpec : ChangeSpec := { name := "delaySlack", fn := fun _ => fun
  | [d1, d2] => { results := [.lit (.bool true)], args := [d1, d2] }
  | _ => none }
def delaySlackRow : OpenClaim := { program := "ytnjhacmgnmflaaa", sum := "4eda0861ee747ddf62386184d79580961fc19a07f92b2c241dfd0bcce8a0a6b3", func := "afterimage/afterimagelaw15.DelaySlack", spec := "delaySlack", apart := false }
def DelaySlackSaid : Prop := delaySlackRow.holds Try.pinned (OpenSpec.ofChange delaySlackSpec)

/-- ITS FALSE NEIGHBOUR: 'it returns false'. Refute it at one input. -/
def delaySlackWrong : ChangeSpec := { name := "delaySlack", fn := fun _ => fun
  | [d1, d2] => { results := [.lit (.bool false)], args := [d1, d2] }
  | _ => none }
def DelaySlackWrongFalsely : Prop := delaySlackRow.holds Try.pinned (OpenSpec.ofChange delaySlackWrong)

/-- 'afterimagelaw16.SlewRooms': WHATEVER THE INPUT: true; the input reads as it did. -/
def slewRoomsSpec : ChangeSpec := { name := "slewRooms", fn := fun _ => fun
  | [d1, d2] => { results := [.lit (.bool true)], args := [d1, d2] }
  | _ => none }
def slewRoomsRow : OpenClaim := { program := "ytnjhacmgnmflaaa", sum := "4eda0861ee747ddf62386184d79580961fc19a07f92b2c241dfd0bcce8a0a6b3", func := "afterimage/afterimagelaw16.SlewRooms", spec := "slewRooms", named := ["math/bits.divideError", "math/bits.overflowError"], apart := false }
def SlewRoomsSaid : Prop := slewRoomsRow.holds Try.pinned (OpenSpec.ofChange slewRoomsSpec)

/-- ITS FALSE NEIGHBOUR: 'it returns false'. Refute it at one input. -/
def slewRoomsWrong : ChangeSpec := { name := "slewRooms", fn := fun _ => fun
  | [d1, d2] => { results := [.lit (.bool false)], args := [d1, d2] }
  | _ => none }
def SlewRoomsWrongFalsely : Prop := slewRoomsRow.holds Try.pinned (OpenSpec.ofChange slewRoomsWrong)

/-- 'afterimagelaw16.SlewReaches': WHATEVER THE INPUT: true; the input reads as it did. -/
def slewReachesSpec : ChangeSpec := { name := "slewReaches", fn := fun _ => fun
  | [d1, d2, d3] => { results := [.lit (.bool true)], args := [d1, d2, d3] }
  | _ => none }
def slewReachesRow : OpenClaim := { program := "ytnjhacmgnmflaaa", sum := "4eda0861ee747ddf62386184d79580961fc19a07f92b2c241dfd0bcce8a0a6b3", func := "afterimage/afterimagelaw16.SlewReaches", spec := "slewReaches", named := ["math/bits.divideError", "math/bits.overflowError"], apart := false }
def SlewReachesSaid : Prop := slewReachesRow.holds Try.pinned (OpenSpec.ofChange slewReachesSpec)

/-- ITS FALSE NEIGHBOUR: 'it returns false'. Refute it at one input. -/
def slewReachesWrong : ChangeSpec := { name := "slewReaches", fn := fun _ => fun
  | [d1, d2, d3] => { results := [.lit (.bool false)], args := [d1, d2, d3] }
  | _ => none }
def SlewReachesWrongFalsely : Prop := slewReachesRow.holds Try.pinned (OpenSpec.ofChange slewReachesWrong)

/-- 'afterimagelaw16.SlewRatio': WHATEVER THE INPUT: true; the input reads as it did. -/
def slewRatioSpec : ChangeSpec := { name := "slewRatio", fn := fun _ => fun
  | [d1, d2, d3] => { results := [.lit (.bool true)], args := [d1, d2, d3] }
  | _ => none }
def slewRatioRow : OpenClaim := { program := "ytnjhacmgnmflaaa", sum := "4eda0861ee747ddf62386184d79580961fc19a07f92b2c241dfd0bcce8a0a6b3", func := "afterimage/afterimagelaw16.SlewRatio", spec := "slewRatio", named := ["math/bits.divideError", "math/bits.overflowError"], apart := false }
def SlewRatioSaid : Prop := slewRatioRow.holds Try.pinned (OpenSpec.ofChange slewRatioSpec)

/-- ITS FALSE NEIGHBOUR: 'it returns false'. Refute it at one input. -/
def slewRatioWrong : ChangeSpec := { name := "slewRatio", fn := fun _ => fun
  | [d1, d2, d3] => { results := [.lit (.bool false)], args := [d1, d2, d3] }
  | _ => none }
def SlewRatioWrongFalsely : Prop := slewRatioRow.holds Try.pinned (OpenSpec.ofChange slewRatioWrong)

/-- 'afterimagelaw16.SlewSums': WHATEVER THE INPUT: true; the input reads as it did. -/
def slewSumsSpec : ChangeSpec := { name := "slewSums", fn := fun _ => fun
  | [d1, d2, d3] => { results := [.lit (.bool true)], args := [d1, d2, d3] }
  | _ => none }
def slewSumsRow : OpenClaim := { program := "ytnjhacmgnmflaaa", sum := "4eda0861ee747ddf62386184d79580961fc19a07f92b2c241dfd0bcce8a0a6b3", func := "afterimage/afterimagelaw16.SlewSums", spec := "slewSums", named := ["math/bits.divideError", "math/bits.overflowError"], apart := false }
def SlewSumsSaid : Prop := slewSumsRow.holds Try.pinned (OpenSpec.ofChange slewSumsSpec)

/-- ITS FALSE NEIGHBOUR: 'it returns false'. Refute it at one input. -/
def slewSumsWrong : ChangeSpec := { name := "slewSums", fn := fun _ => fun
  | [d1, d2, d3] => { results := [.lit (.bool false)], args := [d1, d2, d3] }
  | _ => none }
def SlewSumsWrongFalsely : Prop := slewSumsRow.holds Try.pinned (OpenSpec.ofChange slewSumsWrong)

/-- 'afterimagelaw16.SlewGoes': WHATEVER THE INPUT: true; the input reads as it did. -/
def slewGoesSpec : ChangeSpec := { name := "slewGoes", fn := fun _ => fun
  | [d1, d2] => { results := [.lit (.bool true)], args := [d1, d2] }
  | _ => none }
def slewGoesRow : OpenClaim := { program := "ytnjhacmgnmflaaa", sum := "4eda0861ee747ddf62386184d79580961fc19a07f92b2c241dfd0bcce8a0a6b3", func := "afterimage/afterimagelaw16.SlewGoes", spec := "slewGoes", named := ["math/bits.divideError", "math/bits.overflowError"], apart := false }
def SlewGoesSaid : Prop := slewGoesRow.holds Try.pinned (OpenSpec.ofChange slewGoesSpec)

/-- ITS FALSE NEIGHBOUR: 'it returns false'. Refute it at one input. -/
def slewGoesWrong : ChangeSpec := { name := "slewGoes", fn := fun _ => fun
  | [d1, d2] => { results := [.lit (.bool false)], args := [d1, d2] }
  | _ => none }
def SlewGoesWrongFalsely : Prop := slewGoesRow.holds Try.pinned (OpenSpec.ofChange slewGoesWrong)

/-- 'afterimagelaw16.SlewForward': WHATEVER THE INPUT: true; the input reads as it did. -/
def slewForwardSpec : ChangeSpec := { name := "slewForward", fn := fun _ => fun
  | [d1, d2] => { results := [.lit (.bool true)], args := [d1, d2] }
  | _ => none }
def slewForwardRow : OpenClaim := { program := "ytnjhacmgnmflaaa", sum := "4eda0861ee747ddf62386184d79580961fc19a07f92b2c241dfd0bcce8a0a6b3", func := "afterimage/afterimagelaw16.SlewForward", spec := "slewForward", named := ["math/bits.divideError", "math/bits.overflowError"], apart := false }
def SlewForwardSaid : Prop := slewForwardRow.holds Try.pinned (OpenSpec.ofChange slewForwardSpec)

/-- ITS FALSE NEIGHBOUR: 'it returns false'. Refute it at one input. -/
def slewForwardWrong : ChangeSpec := { name := "slewForward", fn := fun _ => fun
  | [d1, d2] => { results := [.lit (.bool false)], args := [d1, d2] }
  | _ => none }
def SlewForwardWrongFalsely : Prop := slewForwardRow.holds Try.pinned (OpenSpec.ofChange slewForwardWrong)

/-- 'afterimagelaw16.SlewSame': WHATEVER THE INPUT: true; the input reads as it did. -/
def slewSameSpec : ChangeSpec := { name := "slewSame", fn := fun _ => fun
  | [d1, d2, d3] => { results := [.lit (.bool true)], args := [d1, d2, d3] }
  | _ => none }
def slewSameRow : OpenClaim := { program := "ytnjhacmgnmflaaa", sum := "4eda0861ee747ddf62386184d79580961fc19a07f92b2c241dfd0bcce8a0a6b3", func := "afterimage/afterimagelaw16.SlewSame", spec := "slewSame", named := ["math/bits.divideError", "math/bits.overflowError"], apart := false }
def SlewSameSaid : Prop := slewSameRow.holds Try.pinned (OpenSpec.ofChange slewSameSpec)

/-- ITS FALSE NEIGHBOUR: 'it returns false'. Refute it at one input. -/
def slewSameWrong : ChangeSpec := { name := "slewSame", fn := fun _ => fun
  | [d1, d2, d3] => { results := [.lit (.bool false)], args := [d1, d2, d3] }
  | _ => none }
def SlewSameWrongFalsely : Prop := slewSameRow.holds Try.pinned (OpenSpec.ofChange slewSameWrong)

/- THE SECOND FORM. 'bulk': how many values and letters a reading holds, each counted each time it is reached (what is shared counts as often as it is met; a slice's spare places count too). A statement '..UptoSaid' is the law's where the arguments, and the package variables that the reading takes, are together of bulk at most 1048576: NARROWER than '..Said'. Prove '..Said' where nothing that the law and all that it calls make is longer than what came in: it says more and counts as full. Else prove '..UptoSaid'. A law counts once. -/
mutual
def uptoBulk {H : Type} : DataW H → Nat
  | .lit (.string bytes) => bytes.length + 1
  | .lit _ => 1
  | .nil => 1
  | .ptr d => uptoBulk d + 1
  | .slice elems spare => uptoBulkAll elems + uptoBulkAll spare + 1
  | .agg parts => uptoBulkAll parts + 1
  | .iface _ d => uptoBulk d + 1
  | .map entries => uptoBulkEntries entries + 1
  | .held _ => 1
def uptoBulkAll {H : Type} : List (DataW H) → Nat
  | [] => 0
  | d :: r => uptoBulk d + uptoBulkAll r
def uptoBulkEntries {H : Type} : List (Lit × DataW H) → Nat
  | [] => 0
  | x :: r => uptoBulkEntry x + uptoBulkEntries r
def uptoBulkEntry {H : Type} : Lit × DataW H → Nat
  | (.string bytes, d) => bytes.length + uptoBulk d + 1
  | (_, d) => uptoBulk d + 1
 end
def uptoSmall : (H : Type) → List (DataW H) → Bool := fun _ ds => decide (uptoBulkAll ds ≤ 1048576)
def OpenSpec.upto (s : _root_.Go.ChangeSpec) : _root_.Go.OpenSpec := { _root_.Go.OpenSpec.ofChange s with cond := some uptoSmall }

/-- 'afterimagelaw15.DelayTargets', WHERE WHAT IT READS IS OF BULK AT MOST 1048576: true; the input reads as it did. -/
def delayTargetsUptoRow : OpenClaim := { program := "ytnjhacmgnmflaaa", sum := "4eda0861ee747ddf62386184d79580961fc19a07f92b2c241dfd0bcce8a0a6b3", func := "afterimage/afterimagelaw15.DelayTargets", spec := "delayTargets", recurses := true, apart := false, narrowed := true }
def DelayTargetsUptoSaid : Prop := delayTargetsUptoRow.holds Try.pinned (OpenSpec.upto delayTargetsSpec)

/-- 'afterimagelaw15.DelayUpdates', WHERE WHAT IT READS IS OF BULK AT MOST 1048576: true; the input reads as it did. -/
def delayUpdatesUptoRow : OpenClaim := { program := "ytnjhacmgnmflaaa", sum := "4eda0861ee747ddf62386184d79580961fc19a07f92b2c241dfd0bcce8a0a6b3", func := "afterimage/afterimagelaw15.DelayUpdates", spec := "delayUpdates", recurses := true, apart := false, narrowed := true }
def DelayUpdatesUptoSaid : Prop := delayUpdatesUptoRow.holds Try.pinned (OpenSpec.upto delayUpdatesSpec)

/-- 'afterimagelaw15.DelayBounds', WHERE WHAT IT READS IS OF BULK AT MOST 1048576: true; the input reads as it did. -/
def delayBoundsUptoRow : OpenClaim := { program := "ytnjhacmgnmflaaa", sum := "4eda0861ee747ddf62386184d79580961fc19a07f92b2c241dfd0bcce8a0a6b3", func := "afterimage/afterimagelaw15.DelayBounds", spec := "delayBounds", apart := false, narrowed := true }
def DelayBoundsUptoSaid : Prop := delayBoundsUptoRow.holds Try.pinned (OpenSpec.upto delayBoundsSpec)

/-- 'afterimagelaw15.DelayRises', WHERE WHAT IT READS IS OF BULK AT MOST 1048576: true; the input reads as it did. -/
def delayRisesUptoRow : OpenClaim := { program := "ytnjhacmgnmflaaa", sum := "4eda0861ee747ddf62386184d79580961fc19a07f92b2c241dfd0bcce8a0a6b3", func := "afterimage/afterimagelaw15.DelayRises", spec := "delayRises", apart := false, narrowed := true }
def DelayRisesUptoSaid : Prop := delayRisesUptoRow.holds Try.pinned (OpenSpec.upto delayRisesSpec)

/-- 'afterimagelaw15.DelaySlack', WHERE WHAT IT READS IS OF BULK AT MOST 1048576: true; the input reads as it did. -/
def delaySlackUptoRow : OpenClaim := { program := "ytnjhacmgnmflaaa", sum := "4eda0861ee747ddf62386184d79580961fc19a07f92b2c241dfd0bcce8a0a6b3", func := "afterimage/afterimagelaw15.DelaySlack", spec := "delaySlack", apart := false, narrowed := true }
def DelaySlackUptoSaid : Prop := delaySlackUptoRow.holds Try.pinned (OpenSpec.upto delaySlackSpec)

/-- 'afterimagelaw16.SlewRooms', WHERE WHAT IT READS IS OF BULK AT MOST 1048576: true; the input reads as it did. -/
def slewRoomsUptoRow : OpenClaim := { program := "ytnjhacmgnmflaaa", sum := "4eda0861ee747ddf62386184d79580961fc19a07f92b2c241dfd0bcce8a0a6b3", func := "afterimage/afterimagelaw16.SlewRooms", spec := "slewRooms", named := ["math/bits.divideError", "math/bits.overflowError"], apart := false, narrowed := true }
def SlewRoomsUptoSaid : Prop := slewRoomsUptoRow.holds Try.pinned (OpenSpec.upto slewRoomsSpec)

/-- 'afterimagelaw16.SlewReaches', WHERE WHAT IT READS IS OF BULK AT MOST 1048576: true; the input reads as it did. -/
def slewReachesUptoRow : OpenClaim := { program := "ytnjhacmgnmflaaa", sum := "4eda0861ee747ddf62386184d79580961fc19a07f92b2c241dfd0bcce8a0a6b3", func := "afterimage/afterimagelaw16.SlewReaches", spec := "slewReaches", named := ["math/bits.divideError", "math/bits.overflowError"], apart := false, narrowed := true }
def SlewReachesUptoSaid : Prop := slewReachesUptoRow.holds Try.pinned (OpenSpec.upto slewReachesSpec)

/-- 'afterimagelaw16.SlewRatio', WHERE WHAT IT READS IS OF BULK AT MOST 1048576: true; the input reads as it did. -/
def slewRatioUptoRow : OpenClaim := { program := "ytnjhacmgnmflaaa", sum := "4eda0861ee747ddf62386184d79580961fc19a07f92b2c241dfd0bcce8a0a6b3", func := "afterimage/afterimagelaw16.SlewRatio", spec := "slewRatio", named := ["math/bits.divideError", "math/bits.overflowError"], apart := false, narrowed := true }
def SlewRatioUptoSaid : Prop := slewRatioUptoRow.holds Try.pinned (OpenSpec.upto slewRatioSpec)

/-- 'afterimagelaw16.SlewSums', WHERE WHAT IT READS IS OF BULK AT MOST 1048576: true; the input reads as it did. -/
def slewSumsUptoRow : OpenClaim := { program := "ytnjhacmgnmflaaa", sum := "4eda0861ee747ddf62386184d79580961fc19a07f92b2c241dfd0bcce8a0a6b3", func := "afterimage/afterimagelaw16.SlewSums", spec := "slewSums", named := ["math/bits.divideError", "math/bits.overflowError"], apart := false, narrowed := true }
def SlewSumsUptoSaid : Prop := slewSumsUptoRow.holds Try.pinned (OpenSpec.upto slewSumsSpec)

/-- 'afterimagelaw16.SlewGoes', WHERE WHAT IT READS IS OF BULK AT MOST 1048576: true; the input reads as it did. -/
def slewGoesUptoRow : OpenClaim := { program := "ytnjhacmgnmflaaa", sum := "4eda0861ee747ddf62386184d79580961fc19a07f92b2c241dfd0bcce8a0a6b3", func := "afterimage/afterimagelaw16.SlewGoes", spec := "slewGoes", named := ["math/bits.divideError", "math/bits.overflowError"], apart := false, narrowed := true }
def SlewGoesUptoSaid : Prop := slewGoesUptoRow.holds Try.pinned (OpenSpec.upto slewGoesSpec)

/-- 'afterimagelaw16.SlewForward', WHERE WHAT IT READS IS OF BULK AT MOST 1048576: true; the input reads as it did. -/
def slewForwardUptoRow : OpenClaim := { program := "ytnjhacmgnmflaaa", sum := "4eda0861ee747ddf62386184d79580961fc19a07f92b2c241dfd0bcce8a0a6b3", func := "afterimage/afterimagelaw16.SlewForward", spec := "slewForward", named := ["math/bits.divideError", "math/bits.overflowError"], apart := false, narrowed := true }
def SlewForwardUptoSaid : Prop := slewForwardUptoRow.holds Try.pinned (OpenSpec.upto slewForwardSpec)

/-- 'afterimagelaw16.SlewSame', WHERE WHAT IT READS IS OF BULK AT MOST 1048576: true; the input reads as it did. -/
def slewSameUptoRow : OpenClaim := { program := "ytnjhacmgnmflaaa", sum := "4eda0861ee747ddf62386184d79580961fc19a07f92b2c241dfd0bcce8a0a6b3", func := "afterimage/afterimagelaw16.SlewSame", spec := "slewSame", named := ["math/bits.divideError", "math/bits.overflowError"], apart := false, narrowed := true }
def SlewSameUptoSaid : Prop := slewSameUptoRow.holds Try.pinned (OpenSpec.upto slewSameSpec)

end Rows
end Go.Proofs.Ytnjhacmgnmflaaa
