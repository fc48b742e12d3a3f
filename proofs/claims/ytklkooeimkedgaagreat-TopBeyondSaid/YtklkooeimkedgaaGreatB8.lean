/- Walk of TopBeyond. -/
import Derived.Test.YtklkooeimkedgaaGreatB0
import Derived.StillTailTactics
import Derived.WalkKit
set_option linter.unusedVariables false
set_option linter.unusedSimpArgs false
namespace Go.Proofs.YtklkooeimkedgaaGreat
open Go.RowKit
theorem kF {P : Program} {id : Nat} {Q : Exit -> Act -> World -> Prop} {a : Act} {w : World} {l : List Oper} (n : Nat) (hm : P.follows .mixedOrders = true) (hB : Region.lexTailB .any l.toArray n = true)
 (h : wpStill P l.toArray w.drew (λa'=>wpList P l.toArray Q (l.drop n) a' w.drew) (l.take n) a) : (Code.region id l.toArray true).wp P Q a w :=
 wp_region_still_tail n hm hB h
theorem qO {P : Program} {f : FuncId} {args : Array Value} {w : World} {v : Value}
 (h : Calls P f args w λe w'=>e = .returned v /\ w = w') : Calls P f args w λe w'=>e = .returned v /\ w' = w :=
 h.mono λ_ _ ⟨he,hm⟩=>⟨he,hm.symm⟩
end Go.Proofs.YtklkooeimkedgaaGreat
