/- A fact behind a word of its own. -/
import Derived.Lib.Hide
set_option linter.unusedVariables false
namespace Go.Proofs.YtklkooeimkedgaaGreat
theorem ahZ {p : Prop} (h : p) : RowKit.Hid p := h
end Go.Proofs.YtklkooeimkedgaaGreat
