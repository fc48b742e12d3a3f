/- package vec: 'each' at its other functions (printed by gen/vec.py). -/
import Derived.Test.YtobphhbmlhjbcaaVecEach
namespace Go.Proofs.Ytobphhbmlhjbcaa
set_option linter.unusedVariables false
set_option linter.unusedSimpArgs false
open Go.RowKit

theorem clamp1_f (p q : Int) (w : World) :
    Calls Try.prog 72 #[.int .i64 p, .int .i64 q] w fun e w' => e = .returned (v2 p q) ∧ w' = w.alloc (.cells #[.int .i64 p, .int .i64 q] 38) := by
  go_enter Try.func72, Try.ntmps72
  go_wp2
  exact bodyPost_ret (v := v2 p q) (by simp [results, Try.results72, go_sem]) rfl ⟨rfl, rfl⟩

theorem clamp2_f (y p q : Int) (w : World) :
    Calls Try.prog 74 #[.int .i64 y, v2 p q] w fun e w' => e = .returned (.int .i64 (clampF y p q)) ∧ w' = w.alloc (.cells #[.int .i64 p, .int .i64 q] 38) := by
  have c := clamp_f y p q
  generalize clampF y p q = r at *
  go_enter Try.func74, Try.ntmps74
  go_wp2_with fail
  refine (c _).mono ?_; rintro e w' ⟨rfl, rfl⟩
  go_wp2
  go_ret
  exact ⟨rfl, rfl⟩

set_option maxHeartbeats 1000000 in
theorem eachEnds_f (a0 a1 a2 b0 b1 b2 : Int) (w : World) :
    Calls Try.prog 71 #[v3 a0 a1 a2, v3 b0 b1 b2, .func (.func 72) #[] #[]] w fun e w' =>
      e = .returned (v6 a0 b0 a1 b1 a2 b2) ∧ Below w.heap.size w w' := by
  go_enter Try.func71, Try.ntmps71
  go_wp2_with fail
  go_loopw [9] (fun i wr => EachRel1 w #[.int .i64 a0, .int .i64 a1, .int .i64 a2] 42 #[.int .i64 b0, .int .i64 b1, .int .i64 b2] 42 #[.int .i64 0, .int .i64 0, .int .i64 0, .int .i64 0, .int .i64 0, .int .i64 0] #[.int .i64 a0, .int .i64 b0, .int .i64 0, .int .i64 0, .int .i64 0, .int .i64 0] #[.int .i64 a0, .int .i64 b0, .int .i64 a1, .int .i64 b1, .int .i64 0, .int .i64 0] #[.int .i64 a0, .int .i64 b0, .int .i64 a1, .int .i64 b1, .int .i64 a2, .int .i64 b2] 111 (.cells #[.int .i64 a0, .int .i64 b0] 38) (.cells #[.int .i64 a1, .int .i64 b1] 38) (.cells #[.int .i64 a2, .int .i64 b2] 38) i wr) (fun i _ => 3 - (intOf i).toNat)
  case atStart => exact ⟨0, .inl ⟨rfl, rfl⟩⟩
  case round =>
    obtain ⟨n, ⟨rfl, rfl⟩ | ⟨rfl, rfl⟩ | ⟨rfl, rfl⟩ | ⟨rfl, rfl⟩⟩ := hrel
    · go_wp2_with fail
      go_region_with (go_at_call 72; refine (clamp1_f a0 b0 _).mono ?_; rintro e w' ⟨rfl, rfl⟩)
      all_goals go_wp2_with fail
      all_goals go_roundw
      all_goals first | exact ⟨_, .inr (.inl ⟨rfl, rfl⟩)⟩ | decide
    · go_wp2_with fail
      go_region_with (go_at_call 72; refine (clamp1_f a1 b1 _).mono ?_; rintro e w' ⟨rfl, rfl⟩)
      all_goals go_wp2_with fail
      all_goals go_roundw
      all_goals first | exact ⟨_, .inr (.inr (.inl ⟨rfl, rfl⟩))⟩ | decide
    · go_wp2_with fail
      go_region_with (go_at_call 72; refine (clamp1_f a2 b2 _).mono ?_; rintro e w' ⟨rfl, rfl⟩)
      all_goals go_wp2_with fail
      all_goals go_roundw
      all_goals first | exact ⟨_, .inr (.inr (.inr ⟨rfl, rfl⟩))⟩ | decide
    · go_wp2_with fail
      exact bodyPost_ret (v := v6 a0 b0 a1 b1 a2 b2) (by simp [results, Try.results71, go_sem]) rfl ⟨rfl, by (repeat (first | exact Below.refl _ _ | assumption | (refine Below.drew ?_) | (refine below_drewN ?_ _) | (refine Below.alloc ?_ (by simp <;> omega) _) | (refine Below.setCell ?_ (by simp <;> omega) _)))⟩

set_option maxHeartbeats 1000000 in
theorem eachClamp_f (x0 x1 x2 a0 a1 a2 b0 b1 b2 : Int) (w : World) :
    Calls Try.prog 73 #[v3 x0 x1 x2, v6 a0 b0 a1 b1 a2 b2, .func (.func 74) #[] #[]] w fun e w' =>
      e = .returned (v3 (clampF x0 a0 b0) (clampF x1 a1 b1) (clampF x2 a2 b2)) ∧ Below w.heap.size w w' := by
  have c0 := clamp2_f x0 a0 b0
  have c1 := clamp2_f x1 a1 b1
  have c2 := clamp2_f x2 a2 b2
  generalize clampF x0 a0 b0 = r0 at *
  generalize clampF x1 a1 b1 = r1 at *
  generalize clampF x2 a2 b2 = r2 at *
  go_enter Try.func73, Try.ntmps73
  go_wp2_with fail
  go_loopw [9] (fun i wr => EachRel1 w #[.int .i64 x0, .int .i64 x1, .int .i64 x2] 42 #[.int .i64 a0, .int .i64 b0, .int .i64 a1, .int .i64 b1, .int .i64 a2, .int .i64 b2] 111 #[.int .i64 0, .int .i64 0, .int .i64 0] #[.int .i64 r0, .int .i64 0, .int .i64 0] #[.int .i64 r0, .int .i64 r1, .int .i64 0] #[.int .i64 r0, .int .i64 r1, .int .i64 r2] 42 (.cells #[.int .i64 a0, .int .i64 b0] 38) (.cells #[.int .i64 a1, .int .i64 b1] 38) (.cells #[.int .i64 a2, .int .i64 b2] 38) i wr) (fun i _ => 3 - (intOf i).toNat)
  case atStart => exact ⟨0, .inl ⟨rfl, rfl⟩⟩
  case round =>
    obtain ⟨n, ⟨rfl, rfl⟩ | ⟨rfl, rfl⟩ | ⟨rfl, rfl⟩ | ⟨rfl, rfl⟩⟩ := hrel
    · go_wp2_with fail
      go_region_with (go_at_call 74; refine (c0 _).mono ?_; rintro e w' ⟨rfl, rfl⟩)
      all_goals go_wp2_with fail
      all_goals go_roundw
      all_goals first | exact ⟨_, .inr (.inl ⟨rfl, rfl⟩)⟩ | decide
    · go_wp2_with fail
      go_region_with (go_at_call 74; refine (c1 _).mono ?_; rintro e w' ⟨rfl, rfl⟩)
      all_goals go_wp2_with fail
      all_goals go_roundw
      all_goals first | exact ⟨_, .inr (.inr (.inl ⟨rfl, rfl⟩))⟩ | decide
    · go_wp2_with fail
      go_region_with (go_at_call 74; refine (c2 _).mono ?_; rintro e w' ⟨rfl, rfl⟩)
      all_goals go_wp2_with fail
      all_goals go_roundw
      all_goals first | exact ⟨_, .inr (.inr (.inr ⟨rfl, rfl⟩))⟩ | decide
    · go_wp2_with fail
      exact bodyPost_ret (v := v3 r0 r1 r2) (by simp [results, Try.results73, go_sem]) rfl ⟨rfl, by (repeat (first | exact Below.refl _ _ | assumption | (refine Below.drew ?_) | (refine below_drewN ?_ _) | (refine Below.alloc ?_ (by simp <;> omega) _) | (refine Below.setCell ?_ (by simp <;> omega) _)))⟩

end Go.Proofs.Ytobphhbmlhjbcaa
