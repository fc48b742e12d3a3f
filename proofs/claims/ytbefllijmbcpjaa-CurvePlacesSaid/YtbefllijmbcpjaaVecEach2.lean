/- package vec: 'each' at its other functions (printed by gen/vec.py). -/
import Derived.Test.YtbefllijmbcpjaaVecEach
namespace Go.Proofs.Ytbefllijmbcpjaa
set_option linter.unusedVariables false
set_option linter.unusedSimpArgs false
open Go.RowKit

theorem near1_f (x y d : Int) (hx : I64 x) (hy : I64 y) (d0 : 0 ≤ d) (d1 : d ≤ 9223372036854775807) (bd : Nat) (w : World) (hd : w.cell? ⟨bd, 0, none⟩ = some (.int .i64 d)) :
    Calls Try.prog 42 #[.int .i64 x, .int .i64 y, .pointer (some ⟨bd, 0, none⟩)] w fun e w' => e = .returned (.bool (nearF x y d)) ∧ w = w' := by
  obtain ⟨x1, x2⟩ := hx
  obtain ⟨y1, y2⟩ := hy
  obtain ⟨q, hq⟩ : ∃ q, IntKind.u64.wrap (wrap64 (max x y - min x y)) = q := ⟨_, rfl⟩
  have HE : Hid (decide (q ≤ d) = nearF x y d) := by
    refine Lib.hid ?_
    have : q = max x y - min x y := by rw [← hq, IntKind.wrap_u64]; unfold wrap64; omega
    rw [this]; rfl
  go_enter Try.func42, Try.ntmps42
  go_wp2
  go_ret
  refine ⟨?_, rfl⟩
  rw [← HE.out]; rfl

set_option maxHeartbeats 1000000 in
theorem eachNear_f (a0 a1 a2 b0 b1 b2 d : Int) (h0 : I64 a0) (h1 : I64 a1) (h2 : I64 a2) (k0 : I64 b0) (k1 : I64 b1) (k2 : I64 b2) (d0 : 0 ≤ d) (d1 : d ≤ 9223372036854775807) (bd : Nat) (w : World) (hd : w.cell? ⟨bd, 0, none⟩ = some (.int .i64 d)) :
    Calls Try.prog 41 #[v3 a0 a1 a2, v3 b0 b1 b2, .func (.func 42) #[] #[.pointer (some ⟨bd, 0, none⟩)]] w fun e w' =>
      e = .returned (t3 (nearF a0 b0 d) (nearF a1 b1 d) (nearF a2 b2 d)) ∧ Below w.heap.size w w' := by
  have ld := World.block_lt_of_cell? w _ hd
  have c0 := fun w' (hb : Below w.heap.size w w') => near1_f a0 b0 d h0 k0 d0 d1 bd w' ((hb.cell (p := ⟨bd, 0, none⟩) ld).trans hd)
  have c1 := fun w' (hb : Below w.heap.size w w') => near1_f a1 b1 d h1 k1 d0 d1 bd w' ((hb.cell (p := ⟨bd, 0, none⟩) ld).trans hd)
  have c2 := fun w' (hb : Below w.heap.size w w') => near1_f a2 b2 d h2 k2 d0 d1 bd w' ((hb.cell (p := ⟨bd, 0, none⟩) ld).trans hd)
  clear h0 h1 h2 k0 k1 k2 hd ld d0 d1
  generalize nearF a0 b0 d = r0 at *
  generalize nearF a1 b1 d = r1 at *
  generalize nearF a2 b2 d = r2 at *
  go_enter Try.func41, Try.ntmps41
  go_wp2_with fail
  go_loopw [9] (fun i wr => EachRel w #[.int .i64 a0, .int .i64 a1, .int .i64 a2] 22 #[.int .i64 b0, .int .i64 b1, .int .i64 b2] 22 #[.bool false, .bool false, .bool false] #[.bool r0, .bool false, .bool false] #[.bool r0, .bool r1, .bool false] #[.bool r0, .bool r1, .bool r2] 55 i wr) (fun i _ => 3 - (intOf i).toNat)
  case atStart => exact ⟨0, .inl ⟨rfl, rfl⟩⟩
  case round =>
    obtain ⟨n, ⟨rfl, rfl⟩ | ⟨rfl, rfl⟩ | ⟨rfl, rfl⟩ | ⟨rfl, rfl⟩⟩ := hrel
    · go_wp2_with fail
      go_region_with (go_at_call 42; refine (c0 _ ?hb).mono ?_; (case hb => (repeat (first | exact Below.refl _ _ | assumption | (refine Below.drew ?_) | (refine below_drewN ?_ _) | (refine Below.alloc ?_ (by simp <;> omega) _) | (refine Below.setCell ?_ (by simp <;> omega) _)))); rintro e w' ⟨rfl, rfl⟩)
      all_goals go_wp2_with fail
      all_goals go_roundw
      all_goals first | exact ⟨_, .inr (.inl ⟨rfl, rfl⟩)⟩ | decide
    · go_wp2_with fail
      go_region_with (go_at_call 42; refine (c1 _ ?hb).mono ?_; (case hb => (repeat (first | exact Below.refl _ _ | assumption | (refine Below.drew ?_) | (refine below_drewN ?_ _) | (refine Below.alloc ?_ (by simp <;> omega) _) | (refine Below.setCell ?_ (by simp <;> omega) _)))); rintro e w' ⟨rfl, rfl⟩)
      all_goals go_wp2_with fail
      all_goals go_roundw
      all_goals first | exact ⟨_, .inr (.inr (.inl ⟨rfl, rfl⟩))⟩ | decide
    · go_wp2_with fail
      go_region_with (go_at_call 42; refine (c2 _ ?hb).mono ?_; (case hb => (repeat (first | exact Below.refl _ _ | assumption | (refine Below.drew ?_) | (refine below_drewN ?_ _) | (refine Below.alloc ?_ (by simp <;> omega) _) | (refine Below.setCell ?_ (by simp <;> omega) _)))); rintro e w' ⟨rfl, rfl⟩)
      all_goals go_wp2_with fail
      all_goals go_roundw
      all_goals first | exact ⟨_, .inr (.inr (.inr ⟨rfl, rfl⟩))⟩ | decide
    · go_wp2_with fail
      exact bodyPost_ret (v := t3 r0 r1 r2) (by simp [results, Try.results41, go_sem]) rfl ⟨rfl, by (repeat (first | exact Below.refl _ _ | assumption | (refine Below.drew ?_) | (refine below_drewN ?_ _) | (refine Below.alloc ?_ (by simp <;> omega) _) | (refine Below.setCell ?_ (by simp <;> omega) _)))⟩

theorem clamp1_f (p q : Int) (w : World) :
    Calls Try.prog 45 #[.int .i64 p, .int .i64 q] w fun e w' => e = .returned (v2 p q) ∧ w' = w.alloc (.cells #[.int .i64 p, .int .i64 q] 32) := by
  go_enter Try.func45, Try.ntmps45
  go_wp2
  exact bodyPost_ret (v := v2 p q) (by simp [results, Try.results45, go_sem]) rfl ⟨rfl, rfl⟩

theorem clamp2_f (y p q : Int) (w : World) :
    Calls Try.prog 47 #[.int .i64 y, v2 p q] w fun e w' => e = .returned (.int .i64 (clampF y p q)) ∧ w' = w.alloc (.cells #[.int .i64 p, .int .i64 q] 32) := by
  have c := clamp_f y p q
  generalize clampF y p q = r at *
  go_enter Try.func47, Try.ntmps47
  go_wp2_with fail
  refine (c _).mono ?_; rintro e w' ⟨rfl, rfl⟩
  go_wp2
  go_ret
  exact ⟨rfl, rfl⟩

set_option maxHeartbeats 1000000 in
theorem eachEnds_f (a0 a1 a2 b0 b1 b2 : Int) (w : World) :
    Calls Try.prog 44 #[v3 a0 a1 a2, v3 b0 b1 b2, .func (.func 45) #[] #[]] w fun e w' =>
      e = .returned (v6 a0 b0 a1 b1 a2 b2) ∧ Below w.heap.size w w' := by
  go_enter Try.func44, Try.ntmps44
  go_wp2_with fail
  go_loopw [9] (fun i wr => EachRel1 w #[.int .i64 a0, .int .i64 a1, .int .i64 a2] 22 #[.int .i64 b0, .int .i64 b1, .int .i64 b2] 22 #[.int .i64 0, .int .i64 0, .int .i64 0, .int .i64 0, .int .i64 0, .int .i64 0] #[.int .i64 a0, .int .i64 b0, .int .i64 0, .int .i64 0, .int .i64 0, .int .i64 0] #[.int .i64 a0, .int .i64 b0, .int .i64 a1, .int .i64 b1, .int .i64 0, .int .i64 0] #[.int .i64 a0, .int .i64 b0, .int .i64 a1, .int .i64 b1, .int .i64 a2, .int .i64 b2] 58 (.cells #[.int .i64 a0, .int .i64 b0] 32) (.cells #[.int .i64 a1, .int .i64 b1] 32) (.cells #[.int .i64 a2, .int .i64 b2] 32) i wr) (fun i _ => 3 - (intOf i).toNat)
  case atStart => exact ⟨0, .inl ⟨rfl, rfl⟩⟩
  case round =>
    obtain ⟨n, ⟨rfl, rfl⟩ | ⟨rfl, rfl⟩ | ⟨rfl, rfl⟩ | ⟨rfl, rfl⟩⟩ := hrel
    · go_wp2_with fail
      go_region_with (go_at_call 45; refine (clamp1_f a0 b0 _).mono ?_; rintro e w' ⟨rfl, rfl⟩)
      all_goals go_wp2_with fail
      all_goals go_roundw
      all_goals first | exact ⟨_, .inr (.inl ⟨rfl, rfl⟩)⟩ | decide
    · go_wp2_with fail
      go_region_with (go_at_call 45; refine (clamp1_f a1 b1 _).mono ?_; rintro e w' ⟨rfl, rfl⟩)
      all_goals go_wp2_with fail
      all_goals go_roundw
      all_goals first | exact ⟨_, .inr (.inr (.inl ⟨rfl, rfl⟩))⟩ | decide
    · go_wp2_with fail
      go_region_with (go_at_call 45; refine (clamp1_f a2 b2 _).mono ?_; rintro e w' ⟨rfl, rfl⟩)
      all_goals go_wp2_with fail
      all_goals go_roundw
      all_goals first | exact ⟨_, .inr (.inr (.inr ⟨rfl, rfl⟩))⟩ | decide
    · go_wp2_with fail
      exact bodyPost_ret (v := v6 a0 b0 a1 b1 a2 b2) (by simp [results, Try.results44, go_sem]) rfl ⟨rfl, by (repeat (first | exact Below.refl _ _ | assumption | (refine Below.drew ?_) | (refine below_drewN ?_ _) | (refine Below.alloc ?_ (by simp <;> omega) _) | (refine Below.setCell ?_ (by simp <;> omega) _)))⟩

set_option maxHeartbeats 1000000 in
theorem eachClamp_f (x0 x1 x2 a0 a1 a2 b0 b1 b2 : Int) (w : World) :
    Calls Try.prog 46 #[v3 x0 x1 x2, v6 a0 b0 a1 b1 a2 b2, .func (.func 47) #[] #[]] w fun e w' =>
      e = .returned (v3 (clampF x0 a0 b0) (clampF x1 a1 b1) (clampF x2 a2 b2)) ∧ Below w.heap.size w w' := by
  have c0 := clamp2_f x0 a0 b0
  have c1 := clamp2_f x1 a1 b1
  have c2 := clamp2_f x2 a2 b2
  generalize clampF x0 a0 b0 = r0 at *
  generalize clampF x1 a1 b1 = r1 at *
  generalize clampF x2 a2 b2 = r2 at *
  go_enter Try.func46, Try.ntmps46
  go_wp2_with fail
  go_loopw [9] (fun i wr => EachRel1 w #[.int .i64 x0, .int .i64 x1, .int .i64 x2] 22 #[.int .i64 a0, .int .i64 b0, .int .i64 a1, .int .i64 b1, .int .i64 a2, .int .i64 b2] 58 #[.int .i64 0, .int .i64 0, .int .i64 0] #[.int .i64 r0, .int .i64 0, .int .i64 0] #[.int .i64 r0, .int .i64 r1, .int .i64 0] #[.int .i64 r0, .int .i64 r1, .int .i64 r2] 22 (.cells #[.int .i64 a0, .int .i64 b0] 32) (.cells #[.int .i64 a1, .int .i64 b1] 32) (.cells #[.int .i64 a2, .int .i64 b2] 32) i wr) (fun i _ => 3 - (intOf i).toNat)
  case atStart => exact ⟨0, .inl ⟨rfl, rfl⟩⟩
  case round =>
    obtain ⟨n, ⟨rfl, rfl⟩ | ⟨rfl, rfl⟩ | ⟨rfl, rfl⟩ | ⟨rfl, rfl⟩⟩ := hrel
    · go_wp2_with fail
      go_region_with (go_at_call 47; refine (c0 _).mono ?_; rintro e w' ⟨rfl, rfl⟩)
      all_goals go_wp2_with fail
      all_goals go_roundw
      all_goals first | exact ⟨_, .inr (.inl ⟨rfl, rfl⟩)⟩ | decide
    · go_wp2_with fail
      go_region_with (go_at_call 47; refine (c1 _).mono ?_; rintro e w' ⟨rfl, rfl⟩)
      all_goals go_wp2_with fail
      all_goals go_roundw
      all_goals first | exact ⟨_, .inr (.inr (.inl ⟨rfl, rfl⟩))⟩ | decide
    · go_wp2_with fail
      go_region_with (go_at_call 47; refine (c2 _).mono ?_; rintro e w' ⟨rfl, rfl⟩)
      all_goals go_wp2_with fail
      all_goals go_roundw
      all_goals first | exact ⟨_, .inr (.inr (.inr ⟨rfl, rfl⟩))⟩ | decide
    · go_wp2_with fail
      exact bodyPost_ret (v := v3 r0 r1 r2) (by simp [results, Try.results46, go_sem]) rfl ⟨rfl, by (repeat (first | exact Below.refl _ _ | assumption | (refine Below.drew ?_) | (refine below_drewN ?_ _) | (refine Below.alloc ?_ (by simp <;> omega) _) | (refine Below.setCell ?_ (by simp <;> omega) _)))⟩

end Go.Proofs.Ytbefllijmbcpjaa
