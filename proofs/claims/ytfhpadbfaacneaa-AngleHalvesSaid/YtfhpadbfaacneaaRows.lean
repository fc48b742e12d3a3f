/-
  No cell of these rows narrows 'for every input' (looked for: loops, veiled, ifaces, maps, wideKeys, modest, calm, conditions, laid).
  DERIVED. THE GIVEN ROWS OF THIS SEAT. 7 by the template 'for every input the law returns true; each argument reads behind the call as it read before'; 0 by the template 'total and deterministic' (their statements: YtfhpadbfaacneaaTotals.lean).
  GIVEN WITH THE SEED: the statements are not yours to turn. If you find one false, say at which input.
  Laid BY PROGRAM, IN A SANDBOX (cutbox-rows.mjs): the forced cells as the released guide's own fill.sh prints them over the translation 4c910495fb87f6f1… (all of the seat's roots in one cut). By AI agents, Wed Nov 11 2026. No macro, syntax, notation, axiom, sorry.
-/
import Derived.Test.YtfhpadbfaacneaaChecked
import GoSem.Claim
import GoSem.ClaimJoined
import GoSem.ClaimMapViews
import Derived.JoinedTies
import Derived.KernelRfl
namespace Go.Proofs.Ytfhpadbfaacneaa
/- THE CELL 'sum', in the pinned program and in every row, IS THE sha256 OF THE DUMP (.gsa) THAT YtfhpadbfaacneaaProg.lean LOADS. Nothing in Lean hashes anything: it is a label: what it is worth is what the hold of that sum in a sandbox is worth. -/
noncomputable def Try.pinned : Pinned := { name := "ytfhpadbfaacneaa", sum := "4c910495fb87f6f147e32ff9930cbea273d4ee581d52848461e526871c2b094f", checked := Try.checked }
namespace Rows
def none {H : Type} : Left H := { results := [], args := [] }

/-- 'afterimagelaw03.AngleWays': WHATEVER THE INPUT: true; the input reads as it did. -/
def angleWaysSpec : ChangeSpec := { name := "angleWays", fn := fun _ => fun
  | [d1, d2, d3] => { results := [.lit (.bool true)], args := [d1, d2, d3] }
  | _ => none }
def angleWaysRow : OpenClaim := { program := "ytfhpadbfaacneaa", sum := "4c910495fb87f6f147e32ff9930cbea273d4ee581d52848461e526871c2b094f", func := "afterimage/afterimagelaw03.AngleWays", spec := "angleWays", named := ["math/bits.divideError", "math/bits.overflowError"], apart := false }
def AngleWaysSaid : Prop := angleWaysRow.holds Try.pinned (OpenSpec.ofChange angleWaysSpec)

/-- ITS FALSE NEIGHBOUR: 'it returns false'. Refute it at one input. -/
def angleWaysWrong : ChangeSpec := { name := "angleWays", fn := fun _ => fun
  | [d1, d2, d3] => { results := [.lit (.bool false)], args := [d1, d2, d3] }
  | _ => none }
def AngleWaysWrongFalsely : Prop := angleWaysRow.holds Try.pinned (OpenSpec.ofChange angleWaysWrong)

/-- 'afterimagelaw03.AngleRound': WHATEVER THE INPUT: true; the input reads as it did. -/
def angleRoundSpec : ChangeSpec := { name := "angleRound", fn := fun _ => fun
  | [d1, d2, d3] => { results := [.lit (.bool true)], args := [d1, d2, d3] }
  | _ => none }
def angleRoundRow : OpenClaim := { program := "ytfhpadbfaacneaa", sum := "4c910495fb87f6f147e32ff9930cbea273d4ee581d52848461e526871c2b094f", func := "afterimage/afterimagelaw03.AngleRound", spec := "angleRound", named := ["math/bits.divideError", "math/bits.overflowError"], apart := false }
def AngleRoundSaid : Prop := angleRoundRow.holds Try.pinned (OpenSpec.ofChange angleRoundSpec)

/-- ITS FALSE NEIGHBOUR: 'it returns false'. Refute it at one input. -/
def angleRoundWrong : ChangeSpec := { name := "angleRound", fn := fun _ => fun
  | [d1, d2, d3] => { results := [.lit (.bool false)], args := [d1, d2, d3] }
  | _ => none }
def AngleRoundWrongFalsely : Prop := angleRoundRow.holds Try.pinned (OpenSpec.ofChange angleRoundWrong)

/-- 'afterimagelaw03.AngleSums': WHATEVER THE INPUT: true; the input reads as it did. -/
def angleSumsSpec : ChangeSpec := { name := "angleSums", fn := fun _ => fun
  | [d1, d2, d3] => { results := [.lit (.bool true)], args := [d1, d2, d3] }
  | _ => none }
def angleSumsRow : OpenClaim := { program := "ytfhpadbfaacneaa", sum := "4c910495fb87f6f147e32ff9930cbea273d4ee581d52848461e526871c2b094f", func := "afterimage/afterimagelaw03.AngleSums", spec := "angleSums", named := ["math/bits.divideError", "math/bits.overflowError"], apart := false }
def AngleSumsSaid : Prop := angleSumsRow.holds Try.pinned (OpenSpec.ofChange angleSumsSpec)

/-- ITS FALSE NEIGHBOUR: 'it returns false'. Refute it at one input. -/
def angleSumsWrong : ChangeSpec := { name := "angleSums", fn := fun _ => fun
  | [d1, d2, d3] => { results := [.lit (.bool false)], args := [d1, d2, d3] }
  | _ => none }
def AngleSumsWrongFalsely : Prop := angleSumsRow.holds Try.pinned (OpenSpec.ofChange angleSumsWrong)

/-- 'afterimagelaw03.AngleLerps': WHATEVER THE INPUT: true; the input reads as it did. -/
def angleLerpsSpec : ChangeSpec := { name := "angleLerps", fn := fun _ => fun
  | [d1, d2, d3] => { results := [.lit (.bool true)], args := [d1, d2, d3] }
  | _ => none }
def angleLerpsRow : OpenClaim := { program := "ytfhpadbfaacneaa", sum := "4c910495fb87f6f147e32ff9930cbea273d4ee581d52848461e526871c2b094f", func := "afterimage/afterimagelaw03.AngleLerps", spec := "angleLerps", named := ["math/bits.divideError", "math/bits.overflowError"], apart := false }
def AngleLerpsSaid : Prop := angleLerpsRow.holds Try.pinned (OpenSpec.ofChange angleLerpsSpec)

/-- ITS FALSE NEIGHBOUR: 'it returns false'. Refute it at one input. -/
def angleLerpsWrong : ChangeSpec := { name := "angleLerps", fn := fun _ => fun
  | [d1, d2, d3] => { results := [.lit (.bool false)], args := [d1, d2, d3] }
  | _ => none }
def AngleLerpsWrongFalsely : Prop := angleLerpsRow.holds Try.pinned (OpenSpec.ofChange angleLerpsWrong)

/-- 'afterimagelaw03.AngleBetween': WHATEVER THE INPUT: true; the input reads as it did. -/
def angleBetweenSpec : ChangeSpec := { name := "angleBetween", fn := fun _ => fun
  | [d1, d2, d3] => { results := [.lit (.bool true)], args := [d1, d2, d3] }
  | _ => none }
def angleBetweenRow : OpenClaim := { program := "ytfhpadbfaacneaa", sum := "4c910495fb87f6f147e32ff9930cbea273d4ee581d52848461e526871c2b094f", func := "afterimage/afterimagelaw03.AngleBetween", spec := "angleBetween", named := ["math/bits.divideError", "math/bits.overflowError"], apart := false }
def AngleBetweenSaid : Prop := angleBetweenRow.holds Try.pinned (OpenSpec.ofChange angleBetweenSpec)

/-- ITS FALSE NEIGHBOUR: 'it returns false'. Refute it at one input. -/
def angleBetweenWrong : ChangeSpec := { name := "angleBetween", fn := fun _ => fun
  | [d1, d2, d3] => { results := [.lit (.bool false)], args := [d1, d2, d3] }
  | _ => none }
def AngleBetweenWrongFalsely : Prop := angleBetweenRow.holds Try.pinned (OpenSpec.ofChange angleBetweenWrong)

/-- 'afterimagelaw03.AngleShort': WHATEVER THE INPUT: true; the input reads as it did. -/
def angleShortSpec : ChangeSpec := { name := "angleShort", fn := fun _ => fun
  | [d1, d2, d3] => { results := [.lit (.bool true)], args := [d1, d2, d3] }
  | _ => none }
def angleShortRow : OpenClaim := { program := "ytfhpadbfaacneaa", sum := "4c910495fb87f6f147e32ff9930cbea273d4ee581d52848461e526871c2b094f", func := "afterimage/afterimagelaw03.AngleShort", spec := "angleShort", unfollowed := true, recurses := true, named := ["math/bits.divideError", "math/bits.overflowError"], apart := false }
def AngleShortSaid : Prop := angleShortRow.holds Try.pinned (OpenSpec.ofChange angleShortSpec)

/-- ITS FALSE NEIGHBOUR: 'it returns false'. Refute it at one input. -/
def angleShortWrong : ChangeSpec := { name := "angleShort", fn := fun _ => fun
  | [d1, d2, d3] => { results := [.lit (.bool false)], args := [d1, d2, d3] }
  | _ => none }
def AngleShortWrongFalsely : Prop := angleShortRow.holds Try.pinned (OpenSpec.ofChange angleShortWrong)

/-- 'afterimagelaw03.AngleHalves': WHATEVER THE INPUT: true; the input reads as it did. -/
def angleHalvesSpec : ChangeSpec := { name := "angleHalves", fn := fun _ => fun
  | [d1, d2, d3] => { results := [.lit (.bool true)], args := [d1, d2, d3] }
  | _ => none }
def angleHalvesRow : OpenClaim := { program := "ytfhpadbfaacneaa", sum := "4c910495fb87f6f147e32ff9930cbea273d4ee581d52848461e526871c2b094f", func := "afterimage/afterimagelaw03.AngleHalves", spec := "angleHalves", unfollowed := true, recurses := true, named := ["math/bits.divideError", "math/bits.overflowError"], apart := false }
def AngleHalvesSaid : Prop := angleHalvesRow.holds Try.pinned (OpenSpec.ofChange angleHalvesSpec)

/-- ITS FALSE NEIGHBOUR: 'it returns false'. Refute it at one input. -/
def angleHalvesWrong : ChangeSpec := { name := "angleHalves", fn := fun _ => fun
  | [d1, d2, d3] => { results := [.lit (.bool false)], args := [d1, d2, d3] }
  | _ => none }
def AngleHalvesWrongFalsely : Prop := angleHalvesRow.holds Try.pinned (OpenSpec.ofChange angleHalvesWrong)

/- THE SECOND FORM. 'bulk': how many values and letters a reading holds, each counted each time it is reached (what is shared counts as often as it is met; a slice's spare places count too). A statement '..UptoSaid' is the law's where the arguments, and the package variables that the reading takes, are together of bulk at most 1048576: NARROWER than '..Said'. Prove '..Said' where nothing that the law and all that it calls make is longer than what came in: it says more and counts as full. Else prove '..UptoSaid'. A law counts once. -/
mutual
def uptoBulk {H : Type} : DataW H → Nat
  | .lit (.string bytes) => bytes.length + 1
  | .lit _ => 1
  | .nil => 1
  | .ptr d => uptoBulk d + 1
  | .slice elems spare => uptoBulkAll elems + uptoBulkAll spare + 1
  | .agg parts => uptoBulkAll parts + 1
  | .iface _ d => uptoBulk d + 1
  | .map entries => uptoBulkEntries entries + 1
  | .held _ => 1
def uptoBulkAll {H : Type} : List (DataW H) → Nat
  | [] => 0
  | d :: r => uptoBulk d + uptoBulkAll r
def uptoBulkEntries {H : Type} : List (Lit × DataW H) → Nat
  | [] => 0
  | x :: r => uptoBulkEntry x + uptoBulkEntries r
def uptoBulkEntry {H : Type} : Lit × DataW H → Nat
  | (.string bytes, d) => bytes.length + uptoBulk d + 1
  | (_, d) => uptoBulk d + 1
 end
def uptoSmall : (H : Type) → List (DataW H) → Bool := fun _ ds => decide (uptoBulkAll ds ≤ 1048576)
def OpenSpec.upto (s : _root_.Go.ChangeSpec) : _root_.Go.OpenSpec := { _root_.Go.OpenSpec.ofChange s with cond := some uptoSmall }

/-- 'afterimagelaw03.AngleWays', WHERE WHAT IT READS IS OF BULK AT MOST 1048576: true; the input reads as it did. -/
def angleWaysUptoRow : OpenClaim := { program := "ytfhpadbfaacneaa", sum := "4c910495fb87f6f147e32ff9930cbea273d4ee581d52848461e526871c2b094f", func := "afterimage/afterimagelaw03.AngleWays", spec := "angleWays", named := ["math/bits.divideError", "math/bits.overflowError"], apart := false, narrowed := true }
def AngleWaysUptoSaid : Prop := angleWaysUptoRow.holds Try.pinned (OpenSpec.upto angleWaysSpec)

/-- 'afterimagelaw03.AngleRound', WHERE WHAT IT READS IS OF BULK AT MOST 1048576: true; the input reads as it did. -/
def angleRoundUptoRow : OpenClaim := { program := "ytfhpadbfaacneaa", sum := "4c910495fb87f6f147e32ff9930cbea273d4ee581d52848461e526871c2b094f", func := "afterimage/afterimagelaw03.AngleRound", spec := "angleRound", named := ["math/bits.divideError", "math/bits.overflowError"], apart := false, narrowed := true }
def AngleRoundUptoSaid : Prop := angleRoundUptoRow.holds Try.pinned (OpenSpec.upto angleRoundSpec)

/-- 'afterimagelaw03.AngleSums', WHERE WHAT IT READS IS OF BULK AT MOST 1048576: true; the input reads as it did. -/
def angleSumsUptoRow : OpenClaim := { program := "ytfhpadbfaacneaa", sum := "4c910495fb87f6f147e32ff9930cbea273d4ee581d52848461e526871c2b094f", func := "afterimage/afterimagelaw03.AngleSums", spec := "angleSums", named := ["math/bits.divideError", "math/bits.overflowError"], apart := false, narrowed := true }
def AngleSumsUptoSaid : Prop := angleSumsUptoRow.holds Try.pinned (OpenSpec.upto angleSumsSpec)

/-- 'afterimagelaw03.AngleLerps', WHERE WHAT IT READS IS OF BULK AT MOST 1048576: true; the input reads as it did. -/
def angleLerpsUptoRow : OpenClaim := { program := "ytfhpadbfaacneaa", sum := "4c910495fb87f6f147e32ff9930cbea273d4ee581d52848461e526871c2b094f", func := "afterimage/afterimagelaw03.AngleLerps", spec := "angleLerps", named := ["math/bits.divideError", "math/bits.overflowError"], apart := false, narrowed := true }
def AngleLerpsUptoSaid : Prop := angleLerpsUptoRow.holds Try.pinned (OpenSpec.upto angleLerpsSpec)

/-- 'afterimagelaw03.AngleBetween', WHERE WHAT IT READS IS OF BULK AT MOST 1048576: true; the input reads as it did. -/
def angleBetweenUptoRow : OpenClaim := { program := "ytfhpadbfaacneaa", sum := "4c910495fb87f6f147e32ff9930cbea273d4ee581d52848461e526871c2b094f", func := "afterimage/afterimagelaw03.AngleBetween", spec := "angleBetween", named := ["math/bits.divideError", "math/bits.overflowError"], apart := false, narrowed := true }
def AngleBetweenUptoSaid : Prop := angleBetweenUptoRow.holds Try.pinned (OpenSpec.upto angleBetweenSpec)

/-- 'afterimagelaw03.AngleShort', WHERE WHAT IT READS IS OF BULK AT MOST 1048576: true; the input reads as it did. -/
def angleShortUptoRow : OpenClaim := { program := "ytfhpadbfaacneaa", sum := "4c910495fb87f6f147e32ff9930cbea273d4ee581d52848461e526871c2b094f", func := "afterimage/afterimagelaw03.AngleShort", spec := "angleShort", unfollowed := true, recurses := true, named := ["math/bits.divideError", "math/bits.overflowError"], apart := false, narrowed := true }
def AngleShortUptoSaid : Prop := angleShortUptoRow.holds Try.pinned (OpenSpec.upto angleShortSpec)

/-- 'afterimagelaw03.AngleHalves', WHERE WHAT IT READS IS OF BULK AT MOST 1048576: true; the input reads as it did. -/
def angleHalvesUptoRow : OpenClaim := { program := "ytfhpadbfaacneaa", sum := "4c910495fb87f6f147e32ff9930cbea273d4ee581d52848461e526871c2b094f", func := "afterimage/afterimagelaw03.AngleHalves", spec := "angleHalves", unfollowed := true, recurses := true, named := ["math/bits.divideError", "math/bits.overflowError"], apart := false, narrowed := true }
def AngleHalvesUptoSaid : Prop := angleHalvesUptoRow.holds Try.pinned (OpenSpec.upto angleHalvesSpec)

end Rows
end Go.Proofs.Ytfhpadbfaacneaa
