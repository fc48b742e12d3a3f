/- package vec: between; the document's between and near; the example. -/
import Derived.Test.YtobphhbmlhjbcaaVec4
import Derived.LoopTactic
namespace Go.Proofs.Ytobphhbmlhjbcaa
set_option linter.unusedVariables false
set_option linter.unusedSimpArgs false
open Go.RowKit

theorem qsameV {P : Program} {f : FuncId} {args : Array Value} {w : World} {n : Nat} {v : Value}
    (h : Calls P f args (w.drewN n) fun e w' => e = .returned v ∧ w.drewN n = w') : Calls P f args (w.drewN n) fun e w'' => e = .returned v ∧ ∃ m, w'' = w.drewN m :=
  h.mono fun _ _ ⟨he, hm⟩ => ⟨he, n, hm.symm⟩

def vbetwF (x0 x1 x2 a0 a1 a2 b0 b1 b2 : Int) : Bool := clampF x0 a0 b0 == x0 && clampF x1 a1 b1 == x1 && clampF x2 a2 b2 == x2

set_option maxHeartbeats 1000000 in
theorem vbetw_f (x0 x1 x2 a0 a1 a2 b0 b1 b2 : Int) (w : World) :
    Calls Try.prog 22 #[v3 x0 x1 x2, v3 a0 a1 a2, v3 b0 b1 b2] w fun e w' => e = .returned (.bool (vbetwF x0 x1 x2 a0 a1 a2 b0 b1 b2)) ∧ Below w.heap.size w w' := by
  have c := vclamp_f x0 x1 x2 a0 a1 a2 b0 b1 b2
  have HE : Hid ((clampF x0 a0 b0 == x0 && clampF x1 a1 b1 == x1 && clampF x2 a2 b2 == x2) = vbetwF x0 x1 x2 a0 a1 a2 b0 b1 b2) := Lib.hid rfl
  generalize vbetwF x0 x1 x2 a0 a1 a2 b0 b1 b2 = r at *
  generalize clampF x0 a0 b0 = r0 at *
  generalize clampF x1 a1 b1 = r1 at *
  generalize clampF x2 a2 b2 = r2 at *
  have BA : ∀ w1, Below (w.heap.size + 1 + 1 + 1) (((w.alloc (.cells #[.int .i64 x0, .int .i64 x1, .int .i64 x2] 42)).alloc (.cells #[.int .i64 a0, .int .i64 a1, .int .i64 a2] 42)).alloc (.cells #[.int .i64 b0, .int .i64 b1, .int .i64 b2] 42)) w1 → Vec3At w1 w.heap.size x0 x1 x2 ∧ Below w.heap.size w w1 := fun w1 hb =>
    ⟨(((Blk.new w #[.int .i64 x0, .int .i64 x1, .int .i64 x2] 42).alloc (.cells #[.int .i64 a0, .int .i64 a1, .int .i64 a2] 42)).alloc (.cells #[.int .i64 b0, .int .i64 b1, .int .i64 b2] 42)).below hb (by omega), Below.trans (by (repeat (first | exact Below.refl _ _ | assumption | (refine Below.drew ?_) | (refine below_drewN ?_ _) | (refine Below.alloc ?_ (by simp <;> omega) _) | (refine Below.setCell ?_ (by simp <;> omega) _)))) (hb.mono (by omega))⟩
  have HA := Lib.hid BA
  clear BA
  go_enter Try.func22, Try.ntmps22
  go_wp2_with fail
  go_region_with (first
    | (go_at_call 47; refine (c _).mono ?_; rintro e w1 ⟨rfl, hb⟩; have HB1 := HA.out _ (show Below (w.heap.size + 1 + 1 + 1) (((w.alloc (.cells #[.int .i64 x0, .int .i64 x1, .int .i64 x2] 42)).alloc (.cells #[.int .i64 a0, .int .i64 a1, .int .i64 a2] 42)).alloc (.cells #[.int .i64 b0, .int .i64 b1, .int .i64 b2] 42)) w1 from Below.trans (by (repeat (first | exact Below.refl _ _ | assumption | (refine Below.drew ?_) | (refine below_drewN ?_ _) | (refine Below.alloc ?_ (by simp <;> omega) _) | (refine Below.setCell ?_ (by simp <;> omega) _)))) (hb.mono (by simp <;> omega))); obtain ⟨qa0, qa1, qa2⟩ := vec_cells HB1.1; have HB2 := Lib.hid HB1.2; clear hb HB1))
  all_goals go_wp2
  all_goals go_ret
  all_goals first
    | exact ⟨by rw [← HE.out]; rfl, HB2.out⟩
    | exact ⟨by rw [← HE.out]; rfl, by have := HB2.out; (repeat (first | exact Below.refl _ _ | assumption | (refine Below.drew ?_) | (refine below_drewN ?_ _) | (refine Below.alloc ?_ (by simp <;> omega) _) | (refine Below.setCell ?_ (by simp <;> omega) _)))⟩

theorem i64_of (a : Int) (h : -9223372036854775808 ≤ a ∧ a ≤ 9223372036854775807) : I64 a := h

end Go.Proofs.Ytobphhbmlhjbcaa
