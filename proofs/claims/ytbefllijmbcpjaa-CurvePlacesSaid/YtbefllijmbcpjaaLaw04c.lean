/- The law CurvePlaces, walked: it returns true (printed by gen/law04.py). -/
import Derived.Test.YtbefllijmbcpjaaLaw04
namespace Go.Proofs.Ytbefllijmbcpjaa
set_option linter.unusedVariables false
set_option linter.unusedSimpArgs false
open Go.RowKit

set_option maxRecDepth 100000 in
set_option maxHeartbeats 4000000 in
theorem curvePlaces_walk (a0 a1 a2 b0 b1 b2 v0 v1 v2 z0 z1 z2 num den : Int) (ha0 : I64 a0) (ha1 : I64 a1) (ha2 : I64 a2) (hb0 : I64 b0) (hb1 : I64 b1) (hb2 : I64 b2) (hv0 : I64 v0) (hv1 : I64 v1) (hv2 : I64 v2) (hz0 : I64 z0) (hz1 : I64 z1) (hz2 : I64 z2) (_ : I64 num) (_ : I64 den) (w : World) :
    Calls Try.prog 13 #[.agg #[.int .i64 a0, .int .i64 a1, .int .i64 a2, .int .i64 b0, .int .i64 b1, .int .i64 b2], .agg #[.int .i64 v0, .int .i64 v1, .int .i64 v2, .int .i64 z0, .int .i64 z1, .int .i64 z2], .agg #[.int .i64 num, .int .i64 den]] w fun e w' => e = .returned (.bool true) ∧ Below w.heap.size w w' := by
  have fn := rfine_f num den
  have Be : V6At (((w.alloc (.cells #[.int .i64 a0, .int .i64 a1, .int .i64 a2, .int .i64 b0, .int .i64 b1, .int .i64 b2] 25)).alloc (.cells #[.int .i64 v0, .int .i64 v1, .int .i64 v2, .int .i64 z0, .int .i64 z1, .int .i64 z2] 25)).alloc (.cells #[.int .i64 num, .int .i64 den] 32)) (w.heap.size) a0 a1 a2 b0 b1 b2 := by simpa using (((Blk.new w #[.int .i64 a0, .int .i64 a1, .int .i64 a2, .int .i64 b0, .int .i64 b1, .int .i64 b2] 25).alloc (.cells #[.int .i64 v0, .int .i64 v1, .int .i64 v2, .int .i64 z0, .int .i64 z1, .int .i64 z2] 25)).alloc (.cells #[.int .i64 num, .int .i64 den] 32))
  have Bs : V6At (((w.alloc (.cells #[.int .i64 a0, .int .i64 a1, .int .i64 a2, .int .i64 b0, .int .i64 b1, .int .i64 b2] 25)).alloc (.cells #[.int .i64 v0, .int .i64 v1, .int .i64 v2, .int .i64 z0, .int .i64 z1, .int .i64 z2] 25)).alloc (.cells #[.int .i64 num, .int .i64 den] 32)) (w.heap.size + 1) v0 v1 v2 z0 z1 z2 := by simpa using ((Blk.new (w.alloc (.cells #[.int .i64 a0, .int .i64 a1, .int .i64 a2, .int .i64 b0, .int .i64 b1, .int .i64 b2] 25)) #[.int .i64 v0, .int .i64 v1, .int .i64 v2, .int .i64 z0, .int .i64 z1, .int .i64 z2] 25).alloc (.cells #[.int .i64 num, .int .i64 den] 32))
  have Bp : Q2At (((w.alloc (.cells #[.int .i64 a0, .int .i64 a1, .int .i64 a2, .int .i64 b0, .int .i64 b1, .int .i64 b2] 25)).alloc (.cells #[.int .i64 v0, .int .i64 v1, .int .i64 v2, .int .i64 z0, .int .i64 z1, .int .i64 z2] 25)).alloc (.cells #[.int .i64 num, .int .i64 den] 32)) (w.heap.size + 1 + 1) num den := by simpa using (Blk.new ((w.alloc (.cells #[.int .i64 a0, .int .i64 a1, .int .i64 a2, .int .i64 b0, .int .i64 b1, .int .i64 b2] 25)).alloc (.cells #[.int .i64 v0, .int .i64 v1, .int .i64 v2, .int .i64 z0, .int .i64 z1, .int .i64 z2] 25)) #[.int .i64 num, .int .i64 den] 32)
  have hB : Below w.heap.size w (((w.alloc (.cells #[.int .i64 a0, .int .i64 a1, .int .i64 a2, .int .i64 b0, .int .i64 b1, .int .i64 b2] 25)).alloc (.cells #[.int .i64 v0, .int .i64 v1, .int .i64 v2, .int .i64 z0, .int .i64 z1, .int .i64 z2] 25)).alloc (.cells #[.int .i64 num, .int .i64 den] 32)) := by (repeat (first | exact Below.refl _ _ | assumption | (refine Below.drew ?_) | (refine below_drewN ?_ _) | (refine Below.alloc ?_ (by simp <;> omega) _) | (refine Below.setCell ?_ (by simp <;> omega) _)))
  obtain ⟨qe0, qe1, qe2, qe3, qe4, qe5⟩ := v6_cells Be
  obtain ⟨qs0, qs1, qs2, qs3, qs4, qs5⟩ := v6_cells Bs
  obtain ⟨qp0, qp1⟩ := q2_cells Bp
  cases hf : fineB num den
  · have c1 := cvec_bad a0 a1 a2 v0 v1 v2 b0 b1 b2 z0 z1 z2 num den hf
    rw [hf] at fn
    clear hf ha0 ha1 ha2 hv0 hv1 hv2 hb0 hb1 hb2 hz0 hz1 hz2
    go_enter Try.func13, Try.ntmps13
    go_wp2_with fail
    refine (c1 _).mono ?_; rintro e w1 ⟨rfl, hb⟩
    clear qe0 qe1 qe2 qe3 qe4 qe5 qs0 qs1 qs2 qs3 qs4 qs5 qp0 qp1
    have Be := Be.below hb Be.lt
    have Bs := Bs.below hb Bs.lt
    have Bp := Bp.below hb Bp.lt
    have hB := hB.trans (hb.mono hB.size)
    clear hb
    have Be := Be.alloc (.cells #[.int .i64 0, .int .i64 0, .int .i64 0] 22)
    have Bs := Bs.alloc (.cells #[.int .i64 0, .int .i64 0, .int .i64 0] 22)
    have Bp := Bp.alloc (.cells #[.int .i64 0, .int .i64 0, .int .i64 0] 22)
    have hB := hB.alloc hB.size (.cells #[.int .i64 0, .int .i64 0, .int .i64 0] 22)
    have Bx := Blk.new w1 #[.int .i64 0, .int .i64 0, .int .i64 0] 22
    obtain ⟨qe0, qe1, qe2, qe3, qe4, qe5⟩ := v6_cells Be
    obtain ⟨qs0, qs1, qs2, qs3, qs4, qs5⟩ := v6_cells Bs
    obtain ⟨qp0, qp1⟩ := q2_cells Bp
    obtain ⟨qx0, qx1, qx2⟩ := vec_cells Bx
    go_wp2_with fail
    refine (fn _).mono ?_; rintro e w' ⟨rfl, rfl⟩
    go_wp2_with fail
    refine (alive04_f _).mono ?_; rintro e w2 ⟨rfl, hb⟩
    clear qe0 qe1 qe2 qe3 qe4 qe5 qs0 qs1 qs2 qs3 qs4 qs5 qp0 qp1 qx0 qx1 qx2
    have Be := Be.below hb Be.lt
    have Bs := Bs.below hb Bs.lt
    have Bp := Bp.below hb Bp.lt
    have Bx := Bx.below hb Bx.lt
    have hB := hB.trans (hb.mono hB.size)
    clear hb
    obtain ⟨qe0, qe1, qe2, qe3, qe4, qe5⟩ := v6_cells Be
    obtain ⟨qs0, qs1, qs2, qs3, qs4, qs5⟩ := v6_cells Bs
    obtain ⟨qp0, qp1⟩ := q2_cells Bp
    obtain ⟨qx0, qx1, qx2⟩ := vec_cells Bx
    go_wp2
    go_ret
    exact ⟨rfl, hB⟩
  · have c1 := cvec_f a0 a1 a2 v0 v1 v2 b0 b1 b2 z0 z1 z2 num den ha0 ha1 ha2 hv0 hv1 hv2 hb0 hb1 hb2 hz0 hz1 hz2 hf
    have c2 := rcvec_f a0 a1 a2 v0 v1 v2 b0 b1 b2 z0 z1 z2 num den ha0 ha1 ha2 hv0 hv1 hv2 hb0 hb1 hb2 hz0 hz1 hz2 hf
    have c3 := vbetw_f (curveF a0 v0 b0 z0 num den) (curveF a1 v1 b1 z1 num den) (curveF a2 v2 b2 z2 num den) a0 a1 a2 b0 b1 b2
    rw [vbetwF_curve] at c3
    rw [hf] at fn
    generalize curveF a0 v0 b0 z0 num den = r0 at *
    generalize curveF a1 v1 b1 z1 num den = r1 at *
    generalize curveF a2 v2 b2 z2 num den = r2 at *
    clear hf ha0 ha1 ha2 hv0 hv1 hv2 hb0 hb1 hb2 hz0 hz1 hz2
    go_enter Try.func13, Try.ntmps13
    go_wp2_with fail
    refine (c1 _).mono ?_; rintro e w1 ⟨rfl, hb⟩
    clear qe0 qe1 qe2 qe3 qe4 qe5 qs0 qs1 qs2 qs3 qs4 qs5 qp0 qp1
    have Be := Be.below hb Be.lt
    have Bs := Bs.below hb Bs.lt
    have Bp := Bp.below hb Bp.lt
    have hB := hB.trans (hb.mono hB.size)
    clear hb
    have Be := Be.alloc (.cells #[.int .i64 r0, .int .i64 r1, .int .i64 r2] 22)
    have Bs := Bs.alloc (.cells #[.int .i64 r0, .int .i64 r1, .int .i64 r2] 22)
    have Bp := Bp.alloc (.cells #[.int .i64 r0, .int .i64 r1, .int .i64 r2] 22)
    have hB := hB.alloc hB.size (.cells #[.int .i64 r0, .int .i64 r1, .int .i64 r2] 22)
    have Bx := Blk.new w1 #[.int .i64 r0, .int .i64 r1, .int .i64 r2] 22
    obtain ⟨qe0, qe1, qe2, qe3, qe4, qe5⟩ := v6_cells Be
    obtain ⟨qs0, qs1, qs2, qs3, qs4, qs5⟩ := v6_cells Bs
    obtain ⟨qp0, qp1⟩ := q2_cells Bp
    obtain ⟨qx0, qx1, qx2⟩ := vec_cells Bx
    go_wp2_with fail
    refine (fn _).mono ?_; rintro e w' ⟨rfl, rfl⟩
    clear c1 fn
    go_wp2_with fail
    go_region_held3 (fun w' => (w'.cell? ⟨w.heap.size, 0, none⟩ = some (.int .i64 a0) ∧ w'.cell? ⟨w.heap.size, 1, none⟩ = some (.int .i64 a1) ∧ w'.cell? ⟨w.heap.size, 2, none⟩ = some (.int .i64 a2) ∧ w'.cell? ⟨w.heap.size, 3, none⟩ = some (.int .i64 b0) ∧ w'.cell? ⟨w.heap.size, 4, none⟩ = some (.int .i64 b1) ∧ w'.cell? ⟨w.heap.size, 5, none⟩ = some (.int .i64 b2)) ∧ (w'.cell? ⟨w.heap.size + 1, 0, none⟩ = some (.int .i64 v0) ∧ w'.cell? ⟨w.heap.size + 1, 1, none⟩ = some (.int .i64 v1) ∧ w'.cell? ⟨w.heap.size + 1, 2, none⟩ = some (.int .i64 v2) ∧ w'.cell? ⟨w.heap.size + 1, 3, none⟩ = some (.int .i64 z0) ∧ w'.cell? ⟨w.heap.size + 1, 4, none⟩ = some (.int .i64 z1) ∧ w'.cell? ⟨w.heap.size + 1, 5, none⟩ = some (.int .i64 z2)) ∧ (w'.cell? ⟨w.heap.size + 1 + 1, 0, none⟩ = some (.int .i64 num) ∧ w'.cell? ⟨w.heap.size + 1 + 1, 1, none⟩ = some (.int .i64 den)) ∧ (w'.cell? ⟨w1.heap.size, 0, none⟩ = some (.int .i64 r0) ∧ w'.cell? ⟨w1.heap.size, 1, none⟩ = some (.int .i64 r1) ∧ w'.cell? ⟨w1.heap.size, 2, none⟩ = some (.int .i64 r2)) ∧ V6At w' (w.heap.size) a0 a1 a2 b0 b1 b2 ∧ V6At w' (w.heap.size + 1) v0 v1 v2 z0 z1 z2 ∧ Q2At w' (w.heap.size + 1 + 1) num den ∧ Vec3At w' (w1.heap.size) r0 r1 r2 ∧ Below w.heap.size w w')
      (first | (go_keep; done) | (((try dsimp only); repeat' apply And.intro) <;> (first | assumption | exact Below.drew (by assumption) | go_keep)) | (go_split_ands; exact ⟨v6_cells (Blk.below (b := w.heap.size) (by assumption) hbk (Blk.lt (b := w.heap.size) (by assumption))), v6_cells (Blk.below (b := w.heap.size + 1) (by assumption) hbk (Blk.lt (b := w.heap.size + 1) (by assumption))), q2_cells (Blk.below (b := w.heap.size + 1 + 1) (by assumption) hbk (Blk.lt (b := w.heap.size + 1 + 1) (by assumption))), vec_cells (Blk.below (b := w1.heap.size) (by assumption) hbk (Blk.lt (b := w1.heap.size) (by assumption))), Blk.below (b := w.heap.size) (by assumption) hbk (Blk.lt (b := w.heap.size) (by assumption)), Blk.below (b := w.heap.size + 1) (by assumption) hbk (Blk.lt (b := w.heap.size + 1) (by assumption)), Blk.below (b := w.heap.size + 1 + 1) (by assumption) hbk (Blk.lt (b := w.heap.size + 1 + 1) (by assumption)), Blk.below (b := w1.heap.size) (by assumption) hbk (Blk.lt (b := w1.heap.size) (by assumption)), Below.trans (by assumption) (hbk.mono (Below.size (by assumption)))⟩))
      ((first | (go_at_call 34; ((with_reducible refine (alive04_f _).mono ?_); rintro e wx ⟨rfl, hbk⟩)) | (go_at_call 39; ((with_reducible refine (c2 _).mono ?_); rintro e wx ⟨rfl, hbk⟩)) | (go_at_call 20; ((with_reducible refine (c3 _).mono ?_); rintro e wx ⟨rfl, hbk⟩))))
    all_goals
      rename_i hH
      obtain ⟨_, _, _, _, _, _, _, _, hZ⟩ := hH
      go_wp2
      go_ret
      exact ⟨rfl, hZ⟩

end Go.Proofs.Ytbefllijmbcpjaa
