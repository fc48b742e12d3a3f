/- More laws of layer 2, walked: each returns true (printed by gen/law02.py). -/
import Derived.Test.YtbefllijmbcpjaaLaw02
import Derived.Deep.RegionHeld3
namespace Go.Proofs.Ytbefllijmbcpjaa
set_option linter.unusedVariables false
set_option linter.unusedSimpArgs false
open Go.RowKit

set_option maxRecDepth 100000 in
set_option maxHeartbeats 2000000 in
theorem vecReckons_walk (a0 a1 a2 b0 b1 b2 k : Int) (h0 : I64 a0) (h1 : I64 a1) (h2 : I64 a2) (k0 : I64 b0) (k1 : I64 b1) (k2 : I64 b2) (hk : I64 k) (w : World) :
    Calls Try.prog 6 #[v3 a0 a1 a2, v3 b0 b1 b2, .int .i64 k] w fun e w' => e = .returned (.bool true) ∧ Below w.heap.size w w' := by
  have c1 := vadd_f a0 a1 a2 b0 b1 b2 h0 h1 h2 k0 k1 k2
  have c2 := rvadd_f a0 a1 a2 b0 b1 b2 h0 h1 h2 k0 k1 k2
  have c3 := vsub_f a0 a1 a2 b0 b1 b2 h0 h1 h2 k0 k1 k2
  have c4 := rvsub_f a0 a1 a2 b0 b1 b2 h0 h1 h2 k0 k1 k2
  have c5 := vscale_f a0 a1 a2 k h0 h1 h2 hk
  have c6 := rvscale_f a0 a1 a2 k h0 h1 h2 hk
  have c7 := vgo_f a0 a1 a2 b0 b1 b2 k h0 h1 h2 k0 k1 k2 hk
  have c8 := rvgo_f a0 a1 a2 b0 b1 b2 k h0 h1 h2 k0 k1 k2 hk
  generalize addF a0 (mulF b0 k) = g0 at *
  generalize addF a1 (mulF b1 k) = g1 at *
  generalize addF a2 (mulF b2 k) = g2 at *
  generalize addF a0 b0 = p0 at *
  generalize addF a1 b1 = p1 at *
  generalize addF a2 b2 = p2 at *
  generalize subF a0 b0 = s0 at *
  generalize subF a1 b1 = s1 at *
  generalize subF a2 b2 = s2 at *
  generalize mulF a0 k = m0 at *
  generalize mulF a1 k = m1 at *
  generalize mulF a2 k = m2 at *
  clear h0 h1 h2 k0 k1 k2 hk
  have Ba : Vec3At ((w.alloc (.cells #[.int .i64 a0, .int .i64 a1, .int .i64 a2] 22)).alloc (.cells #[.int .i64 b0, .int .i64 b1, .int .i64 b2] 22)) (w.heap.size) a0 a1 a2 := by simpa using ((Blk.new w #[.int .i64 a0, .int .i64 a1, .int .i64 a2] 22).alloc (.cells #[.int .i64 b0, .int .i64 b1, .int .i64 b2] 22))
  have Bb : Vec3At ((w.alloc (.cells #[.int .i64 a0, .int .i64 a1, .int .i64 a2] 22)).alloc (.cells #[.int .i64 b0, .int .i64 b1, .int .i64 b2] 22)) (w.heap.size + 1) b0 b1 b2 := by simpa using (Blk.new (w.alloc (.cells #[.int .i64 a0, .int .i64 a1, .int .i64 a2] 22)) #[.int .i64 b0, .int .i64 b1, .int .i64 b2] 22)
  have hB : Below w.heap.size w ((w.alloc (.cells #[.int .i64 a0, .int .i64 a1, .int .i64 a2] 22)).alloc (.cells #[.int .i64 b0, .int .i64 b1, .int .i64 b2] 22)) := by (repeat (first | exact Below.refl _ _ | assumption | (refine Below.drew ?_) | (refine below_drewN ?_ _) | (refine Below.alloc ?_ (by simp <;> omega) _) | (refine Below.setCell ?_ (by simp <;> omega) _)))
  go_enter Try.func6, Try.ntmps6
  go_wp2_with fail
  go_region_held3 (fun w' => (w'.cell? ⟨w.heap.size, 0, none⟩ = some (.int .i64 a0) ∧ w'.cell? ⟨w.heap.size, 1, none⟩ = some (.int .i64 a1) ∧ w'.cell? ⟨w.heap.size, 2, none⟩ = some (.int .i64 a2)) ∧ (w'.cell? ⟨w.heap.size + 1, 0, none⟩ = some (.int .i64 b0) ∧ w'.cell? ⟨w.heap.size + 1, 1, none⟩ = some (.int .i64 b1) ∧ w'.cell? ⟨w.heap.size + 1, 2, none⟩ = some (.int .i64 b2)) ∧ Vec3At w' (w.heap.size) a0 a1 a2 ∧ Vec3At w' (w.heap.size + 1) b0 b1 b2 ∧ Below w.heap.size w w')
    (first | (go_keep; done) | (((try dsimp only); repeat' apply And.intro) <;> (first | assumption | exact Below.drew (by assumption) | go_keep)) | (go_split_ands; exact ⟨vec_cells (Blk.below (b := w.heap.size) (by assumption) hbk (Blk.lt (b := w.heap.size) (by assumption))), vec_cells (Blk.below (b := w.heap.size + 1) (by assumption) hbk (Blk.lt (b := w.heap.size + 1) (by assumption))), Blk.below (b := w.heap.size) (by assumption) hbk (Blk.lt (b := w.heap.size) (by assumption)), Blk.below (b := w.heap.size + 1) (by assumption) hbk (Blk.lt (b := w.heap.size + 1) (by assumption)), Below.trans (by assumption) (hbk.mono (Below.size (by assumption)))⟩))
    ((first | (go_at_call 15; ((with_reducible refine (alive02_f _).mono ?_); rintro e wx ⟨rfl, hbk⟩)) | (go_at_call 22; ((with_reducible refine (c1 _).mono ?_); rintro e wx ⟨rfl, hbk⟩)) | (go_at_call 23; ((with_reducible refine (c2 _).mono ?_); rintro e wx ⟨rfl, hbk⟩)) | (go_at_call 24; ((with_reducible refine (c3 _).mono ?_); rintro e wx ⟨rfl, hbk⟩)) | (go_at_call 25; ((with_reducible refine (c4 _).mono ?_); rintro e wx ⟨rfl, hbk⟩)) | (go_at_call 26; ((with_reducible refine (c5 _).mono ?_); rintro e wx ⟨rfl, hbk⟩)) | (go_at_call 27; ((with_reducible refine (c6 _).mono ?_); rintro e wx ⟨rfl, hbk⟩)) | (go_at_call 17; ((with_reducible refine (c7 _).mono ?_); rintro e wx ⟨rfl, hbk⟩)) | (go_at_call 28; ((with_reducible refine (c8 _).mono ?_); rintro e wx ⟨rfl, hbk⟩))))
  all_goals
    rename_i hH
    obtain ⟨_, _, _, _, hH⟩ := hH
    go_wp2
    go_ret
    exact ⟨rfl, hH⟩

end Go.Proofs.Ytbefllijmbcpjaa
