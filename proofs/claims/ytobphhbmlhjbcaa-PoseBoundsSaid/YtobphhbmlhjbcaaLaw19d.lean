/- A drawn region, met by what its orders have in common; two snapshots out of a pair. -/
import Derived.Test.YtobphhbmlhjbcaaLaw19
namespace Go.Proofs.Ytobphhbmlhjbcaa
set_option linter.unusedVariables false
set_option linter.unusedSimpArgs false
open Go.RowKit
set_option maxRecDepth 100000

theorem wp_region_into {P : Program} {id : Nat} {ops : Array Oper} {Q : Exit → Act → World → Prop} {A : Act} {w : World} (R : Act → Act → World → Prop)
    (h1 : (Code.region id ops true).wp P (fun e a w' => match e with | .normal => R A a w' | _ => False) A w) (h2 : ∀ a w', R A a w' → Q .normal a w') : (Code.region id ops true).wp P Q A w :=
  Code.wp_mono (fun e a w' h => by cases e <;> first | exact h2 _ _ h | exact h.elim) h1
/-- two boxes made anew: the frame, with their addresses in x and y -/
def TwoBoxes (w : World) (ca cb : Array Value) (t : TypeId) (x y : Tmp) (l : List (Tmp × Value)) (A a : Act) (w' : World) : Prop :=
  ∃ bx by', bx ≠ by' ∧ w.heap.size ≤ bx ∧ w.heap.size ≤ by' ∧ Blk w' bx ca t ∧ Blk w' by' cb t ∧ Below w.heap.size w w' ∧
    a = ((l.foldl (fun a p => a.put (some p.1) p.2) A).put (some x) (.pointer (some ⟨bx, 0, none⟩))).put (some y) (.pointer (some ⟨by', 0, none⟩))
theorem poses_at {w : World} {s : Option Addr} {n k : Nat} {P : Nat → Po} (h : PosesAt w s n P) (hk : k < n) : ∃ b o, s = some ⟨b, o, none⟩ ∧ b < w.heap.size ∧ PoCells w b (o + k * 6) (P k) := by
  rcases h with h | ⟨b, o, e, hl, hc⟩
  · omega
  · exact ⟨b, o, e, hl, hc k hk⟩
end Go.Proofs.Ytobphhbmlhjbcaa
