/- The law VecBetween, walked: it returns true (printed by gen/law02.py). -/
import Derived.Test.YtbefllijmbcpjaaLaw02
import Derived.Deep.RegionHeld3
namespace Go.Proofs.Ytbefllijmbcpjaa
set_option linter.unusedVariables false
set_option linter.unusedSimpArgs false
open Go.RowKit

set_option maxRecDepth 100000 in
set_option maxHeartbeats 2000000 in
theorem vecBetween_walk (x0 x1 x2 a0 a1 a2 b0 b1 b2 : Int) (_ : I64 x0) (_ : I64 x1) (_ : I64 x2) (_ : I64 a0) (_ : I64 a1) (_ : I64 a2) (_ : I64 b0) (_ : I64 b1) (_ : I64 b2) (w : World) :
    Calls Try.prog 5 #[v3 x0 x1 x2, v3 a0 a1 a2, v3 b0 b1 b2] w fun e w' => e = .returned (.bool true) ∧ Below w.heap.size w w' := by
  have c1 := vclamp_f x0 x1 x2 a0 a1 a2 b0 b1 b2
  have c2 := rvclamp_f x0 x1 x2 a0 a1 a2 b0 b1 b2
  have c3 := vbetw_f x0 x1 x2 a0 a1 a2 b0 b1 b2
  have c4 := rvbetw_f x0 x1 x2 a0 a1 a2 b0 b1 b2
  have c5 := vbetw_f (clampF x0 a0 b0) (clampF x1 a1 b1) (clampF x2 a2 b2) b0 b1 b2 a0 a1 a2
  rw [vbetwF_clamp] at c5
  generalize vbetwF x0 x1 x2 a0 a1 a2 b0 b1 b2 = r at *
  generalize clampF x0 a0 b0 = y0 at *
  generalize clampF x1 a1 b1 = y1 at *
  generalize clampF x2 a2 b2 = y2 at *
  have Bx : Vec3At (((w.alloc (.cells #[.int .i64 x0, .int .i64 x1, .int .i64 x2] 22)).alloc (.cells #[.int .i64 a0, .int .i64 a1, .int .i64 a2] 22)).alloc (.cells #[.int .i64 b0, .int .i64 b1, .int .i64 b2] 22)) (w.heap.size) x0 x1 x2 := by simpa using (((Blk.new w #[.int .i64 x0, .int .i64 x1, .int .i64 x2] 22).alloc (.cells #[.int .i64 a0, .int .i64 a1, .int .i64 a2] 22)).alloc (.cells #[.int .i64 b0, .int .i64 b1, .int .i64 b2] 22))
  have Ba : Vec3At (((w.alloc (.cells #[.int .i64 x0, .int .i64 x1, .int .i64 x2] 22)).alloc (.cells #[.int .i64 a0, .int .i64 a1, .int .i64 a2] 22)).alloc (.cells #[.int .i64 b0, .int .i64 b1, .int .i64 b2] 22)) (w.heap.size + 1) a0 a1 a2 := by simpa using ((Blk.new (w.alloc (.cells #[.int .i64 x0, .int .i64 x1, .int .i64 x2] 22)) #[.int .i64 a0, .int .i64 a1, .int .i64 a2] 22).alloc (.cells #[.int .i64 b0, .int .i64 b1, .int .i64 b2] 22))
  have Bb : Vec3At (((w.alloc (.cells #[.int .i64 x0, .int .i64 x1, .int .i64 x2] 22)).alloc (.cells #[.int .i64 a0, .int .i64 a1, .int .i64 a2] 22)).alloc (.cells #[.int .i64 b0, .int .i64 b1, .int .i64 b2] 22)) (w.heap.size + 1 + 1) b0 b1 b2 := by simpa using (Blk.new ((w.alloc (.cells #[.int .i64 x0, .int .i64 x1, .int .i64 x2] 22)).alloc (.cells #[.int .i64 a0, .int .i64 a1, .int .i64 a2] 22)) #[.int .i64 b0, .int .i64 b1, .int .i64 b2] 22)
  have hB : Below w.heap.size w (((w.alloc (.cells #[.int .i64 x0, .int .i64 x1, .int .i64 x2] 22)).alloc (.cells #[.int .i64 a0, .int .i64 a1, .int .i64 a2] 22)).alloc (.cells #[.int .i64 b0, .int .i64 b1, .int .i64 b2] 22)) := by (repeat (first | exact Below.refl _ _ | assumption | (refine Below.drew ?_) | (refine below_drewN ?_ _) | (refine Below.alloc ?_ (by simp <;> omega) _) | (refine Below.setCell ?_ (by simp <;> omega) _)))
  cases r
  all_goals
    go_enter Try.func5, Try.ntmps5
    go_wp2_with fail
    refine (c1 _).mono ?_; rintro e w1 ⟨rfl, hb⟩
    have hB := hB.trans (hb.mono hB.size)
    have Bx := Bx.below hb Bx.lt
    have Ba := Ba.below hb Ba.lt
    have Bb := Bb.below hb Bb.lt
    obtain ⟨by_, hby⟩ : ∃ n, w1.heap.size = n := ⟨_, rfl⟩
    have By := Blk.new w1 #[.int .i64 y0, .int .i64 y1, .int .i64 y2] 22
    have hB := hB.alloc hB.size (.cells #[.int .i64 y0, .int .i64 y1, .int .i64 y2] 22)
    have Bx := Bx.alloc (.cells #[.int .i64 y0, .int .i64 y1, .int .i64 y2] 22)
    have Ba := Ba.alloc (.cells #[.int .i64 y0, .int .i64 y1, .int .i64 y2] 22)
    have Bb := Bb.alloc (.cells #[.int .i64 y0, .int .i64 y1, .int .i64 y2] 22)
    clear hb hby
    obtain ⟨qx0, qx1, qx2⟩ := vec_cells Bx
    obtain ⟨qa0, qa1, qa2⟩ := vec_cells Ba
    obtain ⟨qb0, qb1, qb2⟩ := vec_cells Bb
    go_wp2_with fail
    go_region_held3 (fun w' => (w'.cell? ⟨w.heap.size, 0, none⟩ = some (.int .i64 x0) ∧ w'.cell? ⟨w.heap.size, 1, none⟩ = some (.int .i64 x1) ∧ w'.cell? ⟨w.heap.size, 2, none⟩ = some (.int .i64 x2)) ∧ (w'.cell? ⟨w.heap.size + 1, 0, none⟩ = some (.int .i64 a0) ∧ w'.cell? ⟨w.heap.size + 1, 1, none⟩ = some (.int .i64 a1) ∧ w'.cell? ⟨w.heap.size + 1, 2, none⟩ = some (.int .i64 a2)) ∧ (w'.cell? ⟨w.heap.size + 1 + 1, 0, none⟩ = some (.int .i64 b0) ∧ w'.cell? ⟨w.heap.size + 1 + 1, 1, none⟩ = some (.int .i64 b1) ∧ w'.cell? ⟨w.heap.size + 1 + 1, 2, none⟩ = some (.int .i64 b2)) ∧ (w'.cell? ⟨w1.heap.size, 0, none⟩ = some (.int .i64 y0) ∧ w'.cell? ⟨w1.heap.size, 1, none⟩ = some (.int .i64 y1) ∧ w'.cell? ⟨w1.heap.size, 2, none⟩ = some (.int .i64 y2)) ∧ Vec3At w' (w.heap.size) x0 x1 x2 ∧ Vec3At w' (w.heap.size + 1) a0 a1 a2 ∧ Vec3At w' (w.heap.size + 1 + 1) b0 b1 b2 ∧ Vec3At w' (w1.heap.size) y0 y1 y2 ∧ Below w.heap.size w w')
      (first | (go_keep; done) | (((try dsimp only); repeat' apply And.intro) <;> (first | assumption | exact Below.drew (by assumption) | go_keep)) | (go_split_ands; exact ⟨vec_cells (Blk.below (b := w.heap.size) (by assumption) hbk (Blk.lt (b := w.heap.size) (by assumption))), vec_cells (Blk.below (b := w.heap.size + 1) (by assumption) hbk (Blk.lt (b := w.heap.size + 1) (by assumption))), vec_cells (Blk.below (b := w.heap.size + 1 + 1) (by assumption) hbk (Blk.lt (b := w.heap.size + 1 + 1) (by assumption))), vec_cells (Blk.below (b := w1.heap.size) (by assumption) hbk (Blk.lt (b := w1.heap.size) (by assumption))), Blk.below (b := w.heap.size) (by assumption) hbk (Blk.lt (b := w.heap.size) (by assumption)), Blk.below (b := w.heap.size + 1) (by assumption) hbk (Blk.lt (b := w.heap.size + 1) (by assumption)), Blk.below (b := w.heap.size + 1 + 1) (by assumption) hbk (Blk.lt (b := w.heap.size + 1 + 1) (by assumption)), Blk.below (b := w1.heap.size) (by assumption) hbk (Blk.lt (b := w1.heap.size) (by assumption)), Below.trans (by assumption) (hbk.mono (Below.size (by assumption)))⟩))
      ((first | (go_at_call 15; ((with_reducible refine (alive02_f _).mono ?_); rintro e wx ⟨rfl, hbk⟩)) | (go_at_call 19; ((with_reducible refine (c2 _).mono ?_); rintro e wx ⟨rfl, hbk⟩)) | (go_at_call 20; ((with_reducible refine (c3 _).mono ?_); rintro e wx ⟨rfl, hbk⟩)) | (go_at_call 20; ((with_reducible refine (c5 _).mono ?_); rintro e wx ⟨rfl, hbk⟩)) | (go_at_call 21; ((with_reducible refine (c4 _).mono ?_); rintro e wx ⟨rfl, hbk⟩))))
    all_goals
      rename_i hH
      obtain ⟨_, _, _, _, _, _, _, _, hH⟩ := hH
      go_wp2
      go_ret
      exact ⟨rfl, hH⟩

end Go.Proofs.Ytbefllijmbcpjaa
