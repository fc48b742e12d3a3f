/- A fact behind a word of its own. -/
import Derived.Lib.Hide
set_option linter.unusedVariables false
namespace Go.Proofs.YtklkooeimkedgaaGreat
theorem aiS {p : Prop} (h : p) : RowKit.Hid p := h
theorem aiT {w : World} {o : Obj} : RowKit.Below w.heap.size w (w.alloc o) := (RowKit.Below.refl _ _).alloc (Nat.le_refl _) _
theorem aiU {b : Nat} {w : World} : RowKit.Below b w w := RowKit.Below.refl _ _
end Go.Proofs.YtklkooeimkedgaaGreat
