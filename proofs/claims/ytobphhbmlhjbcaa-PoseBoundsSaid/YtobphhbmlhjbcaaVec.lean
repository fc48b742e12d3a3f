/- package vec: its functions; the document's (printed by gen/vec2.py). -/
import Derived.Test.YtobphhbmlhjbcaaVecEach2
import Derived.Test.YtobphhbmlhjbcaaRefPart
import Derived.Test.YtobphhbmlhjbcaaObjs
import Derived.Test.YtobphhbmlhjbcaaTail
import Derived.Deep.QuietTactic
import Derived.BigQuiet
namespace Go.Proofs.Ytobphhbmlhjbcaa
set_option linter.unusedVariables false
set_option linter.unusedSimpArgs false
open Go.RowKit
set_option maxRecDepth 8000

theorem vadd_f (a0 a1 a2 b0 b1 b2 : Int) (h0 : I64 a0) (h1 : I64 a1) (h2 : I64 a2) (k0 : I64 b0) (k1 : I64 b1) (k2 : I64 b2) (w : World) :
    Calls Try.prog 43 #[v3 a0 a1 a2, v3 b0 b1 b2] w fun e w' => e = .returned (v3 (addF a0 b0) (addF a1 b1) (addF a2 b2)) ∧ Below w.heap.size w w' := by
  have c := eachAdd_f a0 a1 a2 b0 b1 b2 h0 h1 h2 k0 k1 k2
  clear h0 h1 h2 k0 k1 k2
  generalize addF a0 b0 = r0 at *
  generalize addF a1 b1 = r1 at *
  generalize addF a2 b2 = r2 at *
  go_enter Try.func43, Try.ntmps43
  go_wp2_with fail
  refine (c _).mono ?_; rintro e w1 ⟨rfl, hb⟩
  have R := (Blk.new _ _ _).below hb (by simp)
  have hB : Below w.heap.size w w1 := Below.trans (by (repeat (first | exact Below.refl _ _ | assumption | (refine Below.drew ?_) | (refine below_drewN ?_ _) | (refine Below.alloc ?_ (by simp <;> omega) _) | (refine Below.setCell ?_ (by simp <;> omega) _)))) (hb.mono (by simp <;> omega))
  clear hb
  have q0 := R.cell 0; have q1 := R.cell 1; have q2 := R.cell 2; have f0 := R.free 0; have f1 := R.free 1; have f2 := R.free 2
  simp at q0 q1 q2 f0 f1 f2
  go_wp2
  exact bodyPost_ret (v := v3 r0 r1 r2) (by simp [results, Try.results43, go_sem, *]) rfl ⟨rfl, by (repeat (first | exact Below.refl _ _ | assumption | (refine Below.drew ?_) | (refine below_drewN ?_ _) | (refine Below.alloc ?_ (by simp <;> omega) _) | (refine Below.setCell ?_ (by simp <;> omega) _)))⟩

theorem rvadd_f (a0 a1 a2 b0 b1 b2 : Int) (h0 : I64 a0) (h1 : I64 a1) (h2 : I64 a2) (k0 : I64 b0) (k1 : I64 b1) (k2 : I64 b2) (w : World) :
    Calls Try.prog 69 #[v3 a0 a1 a2, v3 b0 b1 b2] w fun e w' => e = .returned (v3 (addF a0 b0) (addF a1 b1) (addF a2 b2)) ∧ Below w.heap.size w w' := by
  have c0 := radd_f a0 b0 h0 k0
  have c1 := radd_f a1 b1 h1 k1
  have c2 := radd_f a2 b2 h2 k2
  clear h0 h1 h2 k0 k1 k2
  generalize addF a0 b0 = r0 at *
  generalize addF a1 b1 = r1 at *
  generalize addF a2 b2 = r2 at *
  go_enter Try.func69, Try.ntmps69
  go_wp2_with fail
  (refine wp_region_tail 16 (by kernel_rfl) (by kernel_rfl) ?_; simp only [List.take_succ_cons, List.take_zero, List.drop_succ_cons, List.drop_zero]; (repeat still_step); (try refine wpStill_nil ?_))
  (still_call (still_of (c0 _)); (repeat still_step); (try refine wpStill_nil ?_))
  (still_call (still_of (c1 _)); (repeat still_step); (try refine wpStill_nil ?_))
  (still_call (still_of (c2 _)); (repeat still_step); (try refine wpStill_nil ?_))
  go_wp2
  exact bodyPost_ret (v := v3 r0 r1 r2) (by simp [results, Try.results69, go_sem, *]) rfl ⟨rfl, by (repeat (first | exact Below.refl _ _ | assumption | (refine Below.drew ?_) | (refine below_drewN ?_ _) | (refine Below.alloc ?_ (by simp <;> omega) _) | (refine Below.setCell ?_ (by simp <;> omega) _)))⟩

theorem vscale_f (a0 a1 a2 k : Int) (h0 : I64 a0) (h1 : I64 a1) (h2 : I64 a2) (hk : I64 k) (w : World) :
    Calls Try.prog 44 #[v3 a0 a1 a2, .int .i64 k] w fun e w' => e = .returned (v3 (mulF a0 k) (mulF a1 k) (mulF a2 k)) ∧ Below w.heap.size w w' := by
  have c := eachMul_f a0 a1 a2 k k k h0 h1 h2 hk hk hk
  clear h0 h1 h2 hk
  generalize mulF a0 k = r0 at *
  generalize mulF a1 k = r1 at *
  generalize mulF a2 k = r2 at *
  go_enter Try.func44, Try.ntmps44
  go_wp2_with fail
  refine (c _).mono ?_; rintro e w1 ⟨rfl, hb⟩
  have R := (Blk.new _ _ _).below hb (by simp)
  have hB : Below w.heap.size w w1 := Below.trans (by (repeat (first | exact Below.refl _ _ | assumption | (refine Below.drew ?_) | (refine below_drewN ?_ _) | (refine Below.alloc ?_ (by simp <;> omega) _) | (refine Below.setCell ?_ (by simp <;> omega) _)))) (hb.mono (by simp <;> omega))
  clear hb
  have q0 := R.cell 0; have q1 := R.cell 1; have q2 := R.cell 2; have f0 := R.free 0; have f1 := R.free 1; have f2 := R.free 2
  simp at q0 q1 q2 f0 f1 f2
  go_wp2
  exact bodyPost_ret (v := v3 r0 r1 r2) (by simp [results, Try.results44, go_sem, *]) rfl ⟨rfl, by (repeat (first | exact Below.refl _ _ | assumption | (refine Below.drew ?_) | (refine below_drewN ?_ _) | (refine Below.alloc ?_ (by simp <;> omega) _) | (refine Below.setCell ?_ (by simp <;> omega) _)))⟩

theorem rvscale_f (a0 a1 a2 k : Int) (h0 : I64 a0) (h1 : I64 a1) (h2 : I64 a2) (hk : I64 k) (w : World) :
    Calls Try.prog 70 #[v3 a0 a1 a2, .int .i64 k] w fun e w' => e = .returned (v3 (mulF a0 k) (mulF a1 k) (mulF a2 k)) ∧ Below w.heap.size w w' := by
  have c0 := rmul_f a0 k h0 hk
  have c1 := rmul_f a1 k h1 hk
  have c2 := rmul_f a2 k h2 hk
  clear h0 h1 h2 hk
  generalize mulF a0 k = r0 at *
  generalize mulF a1 k = r1 at *
  generalize mulF a2 k = r2 at *
  go_enter Try.func70, Try.ntmps70
  go_wp2_with fail
  (refine wp_region_tail 13 (by kernel_rfl) (by kernel_rfl) ?_; simp only [List.take_succ_cons, List.take_zero, List.drop_succ_cons, List.drop_zero]; (repeat still_step); (try refine wpStill_nil ?_))
  (still_call (still_of (c0 _)); (repeat still_step); (try refine wpStill_nil ?_))
  (still_call (still_of (c1 _)); (repeat still_step); (try refine wpStill_nil ?_))
  (still_call (still_of (c2 _)); (repeat still_step); (try refine wpStill_nil ?_))
  go_wp2
  exact bodyPost_ret (v := v3 r0 r1 r2) (by simp [results, Try.results70, go_sem, *]) rfl ⟨rfl, by (repeat (first | exact Below.refl _ _ | assumption | (refine Below.drew ?_) | (refine below_drewN ?_ _) | (refine Below.alloc ?_ (by simp <;> omega) _) | (refine Below.setCell ?_ (by simp <;> omega) _)))⟩

set_option maxHeartbeats 1000000 in
theorem vclamp_f (x0 x1 x2 a0 a1 a2 b0 b1 b2 : Int) (w : World) :
    Calls Try.prog 47 #[v3 x0 x1 x2, v3 a0 a1 a2, v3 b0 b1 b2] w fun e w' => e = .returned (v3 (clampF x0 a0 b0) (clampF x1 a1 b1) (clampF x2 a2 b2)) ∧ Below w.heap.size w w' := by
  have c := eachEnds_f a0 a1 a2 b0 b1 b2
  have d := eachClamp_f x0 x1 x2 a0 a1 a2 b0 b1 b2
  generalize clampF x0 a0 b0 = r0 at *
  generalize clampF x1 a1 b1 = r1 at *
  generalize clampF x2 a2 b2 = r2 at *
  go_enter Try.func47, Try.ntmps47
  go_wp2_with fail
  refine (c _).mono ?_; rintro e w1 ⟨rfl, hb⟩
  have R := (Blk.new _ _ _).below hb (by simp)
  have X := ((((Blk.new w #[.int .i64 x0, .int .i64 x1, .int .i64 x2] 42).alloc _).alloc _).alloc _).below hb (by simp <;> omega)
  have x0c := X.cell 0; have x1c := X.cell 1; have x2c := X.cell 2
  simp at x0c x1c x2c
  have hB : Below w.heap.size w w1 := Below.trans (by (repeat (first | exact Below.refl _ _ | assumption | (refine Below.drew ?_) | (refine below_drewN ?_ _) | (refine Below.alloc ?_ (by simp <;> omega) _) | (refine Below.setCell ?_ (by simp <;> omega) _)))) (hb.mono (by simp <;> omega))
  have hl : w.heap.size + 1 + 1 + 1 < w1.heap.size := by have := R.lt; simpa using this
  clear hb
  have l0 : w.heap.size < w1.heap.size := by omega
  have Y := X.alloc (.cells #[.int .i64 a0, .int .i64 b0, .int .i64 a1, .int .i64 b1, .int .i64 a2, .int .i64 b2] 111)
  have S := R.alloc (.cells #[.int .i64 a0, .int .i64 b0, .int .i64 a1, .int .i64 b1, .int .i64 a2, .int .i64 b2] 111)
  have y0 := Y.cell 0; have y1 := Y.cell 1; have y2 := Y.cell 2
  simp at y0 y1 y2
  have hB2 : Below w.heap.size w (w1.alloc (.cells #[.int .i64 a0, .int .i64 b0, .int .i64 a1, .int .i64 b1, .int .i64 a2, .int .i64 b2] 111)) := hB.alloc (Nat.le_of_lt l0) _
  go_wp2_with fail
  refine (d _).mono ?_; rintro e w2 ⟨rfl, hb⟩
  have R := S.below hb S.lt
  have hB : Below w.heap.size w w2 := hB2.trans (hb.mono (by simp <;> omega))
  clear hb hB2 Y S X x0c x1c x2c y0 y1 y2
  have q0 := R.cell 0; have q1 := R.cell 1; have q2 := R.cell 2; have f0 := R.free 0; have f1 := R.free 1; have f2 := R.free 2
  simp at q0 q1 q2 f0 f1 f2
  go_wp2
  exact bodyPost_ret (v := v3 r0 r1 r2) (by simp [results, Try.results47, go_sem, *]) rfl ⟨rfl, by (repeat (first | exact Below.refl _ _ | assumption | (refine Below.drew ?_) | (refine below_drewN ?_ _) | (refine Below.alloc ?_ (by simp <;> omega) _) | (refine Below.setCell ?_ (by simp <;> omega) _)))⟩

end Go.Proofs.Ytobphhbmlhjbcaa
