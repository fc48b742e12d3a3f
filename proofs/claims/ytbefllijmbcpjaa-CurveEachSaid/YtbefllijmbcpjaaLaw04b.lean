/- The law CurveEach, walked: it returns true (printed by gen/law04.py). -/
import Derived.Test.YtbefllijmbcpjaaLaw04
namespace Go.Proofs.Ytbefllijmbcpjaa
set_option linter.unusedVariables false
set_option linter.unusedSimpArgs false
open Go.RowKit

set_option maxRecDepth 100000 in
set_option maxHeartbeats 4000000 in
theorem curveEach_walk (a0 a1 a2 b0 b1 b2 v0 v1 v2 z0 z1 z2 p0 p1 p2 : Int) (ha0 : I64 a0) (ha1 : I64 a1) (ha2 : I64 a2) (hb0 : I64 b0) (hb1 : I64 b1) (hb2 : I64 b2) (hv0 : I64 v0) (hv1 : I64 v1) (hv2 : I64 v2) (hz0 : I64 z0) (hz1 : I64 z1) (hz2 : I64 z2) (_ : I64 p0) (_ : I64 p1) (hp2 : I64 p2) (w : World) :
    Calls Try.prog 12 #[.agg #[.int .i64 a0, .int .i64 a1, .int .i64 a2, .int .i64 b0, .int .i64 b1, .int .i64 b2], .agg #[.int .i64 v0, .int .i64 v1, .int .i64 v2, .int .i64 z0, .int .i64 z1, .int .i64 z2], v3 p0 p1 p2] w fun e w' => e = .returned (.bool true) ∧ Below w.heap.size w w' := by
  obtain ⟨q1, e1⟩ : ∃ q, IntKind.u64.wrap p1 = q := ⟨_, rfl⟩
  have f1 : p1 % 18446744073709551616 = q1 := by rw [← IntKind.wrap_u64]; exact e1
  have g1 : 0 ≤ q1 ∧ q1 ≤ 18446744073709551615 := by omega
  obtain ⟨g1, g2⟩ := g1
  clear f1
  obtain ⟨d, hd⟩ : ∃ d, q1 % 4611686018427387904 = d := ⟨_, rfl⟩
  have g3 : 0 ≤ d ∧ d ≤ 4611686018427387903 := by omega
  obtain ⟨g3, g4⟩ := g3
  have d1 : 1 ≤ d + 1 := by omega
  have d2 : d + 1 ≤ 4611686018427387904 := by omega
  obtain ⟨q0, e3, q3, q4, e4⟩ := num_walkC p0 (d + 1) d1
  obtain ⟨n1, n2⟩ := numF_bounds (n := p0) d1
  generalize numF p0 (d + 1) = n at *
  have hf : fineB n (d + 1) = true := fineB_iff.2 ⟨d1, d2, n1, n2⟩
  have c1 := cvec_f a0 a1 a2 v0 v1 v2 b0 b1 b2 z0 z1 z2 n (d + 1) ha0 ha1 ha2 hv0 hv1 hv2 hb0 hb1 hb2 hz0 hz1 hz2 hf
  have c5 := cvec_f a0 a1 a2 p2 v1 v2 b0 b1 b2 0 z1 z2 n (d + 1) ha0 ha1 ha2 hp2 hv1 hv2 hb0 hb1 hb2 (i64_of _ (by omega)) hz1 hz2 hf
  have l0 := ccurve_f a0 v0 b0 z0 n (d + 1) ha0 hv0 hb0 hz0 hf
  have l1 := ccurve_f a1 v1 b1 z1 n (d + 1) ha1 hv1 hb1 hz1 hf
  have l2 := ccurve_f a2 v2 b2 z2 n (d + 1) ha2 hv2 hb2 hz2 hf
  generalize curveF a0 v0 b0 z0 n (d + 1) = r0 at *
  generalize curveF a1 v1 b1 z1 n (d + 1) = r1 at *
  generalize curveF a2 v2 b2 z2 n (d + 1) = r2 at *
  generalize curveF a0 p2 b0 0 n (d + 1) = y0 at *
  clear hf hp2 ha0 ha1 ha2 hv0 hv1 hv2 hb0 hb1 hb2 hz0 hz1 hz2
  have Be : V6At (((w.alloc (.cells #[.int .i64 a0, .int .i64 a1, .int .i64 a2, .int .i64 b0, .int .i64 b1, .int .i64 b2] 25)).alloc (.cells #[.int .i64 v0, .int .i64 v1, .int .i64 v2, .int .i64 z0, .int .i64 z1, .int .i64 z2] 25)).alloc (.cells #[.int .i64 p0, .int .i64 p1, .int .i64 p2] 22)) (w.heap.size) a0 a1 a2 b0 b1 b2 := by simpa using (((Blk.new w #[.int .i64 a0, .int .i64 a1, .int .i64 a2, .int .i64 b0, .int .i64 b1, .int .i64 b2] 25).alloc (.cells #[.int .i64 v0, .int .i64 v1, .int .i64 v2, .int .i64 z0, .int .i64 z1, .int .i64 z2] 25)).alloc (.cells #[.int .i64 p0, .int .i64 p1, .int .i64 p2] 22))
  have Bs : V6At (((w.alloc (.cells #[.int .i64 a0, .int .i64 a1, .int .i64 a2, .int .i64 b0, .int .i64 b1, .int .i64 b2] 25)).alloc (.cells #[.int .i64 v0, .int .i64 v1, .int .i64 v2, .int .i64 z0, .int .i64 z1, .int .i64 z2] 25)).alloc (.cells #[.int .i64 p0, .int .i64 p1, .int .i64 p2] 22)) (w.heap.size + 1) v0 v1 v2 z0 z1 z2 := by simpa using ((Blk.new (w.alloc (.cells #[.int .i64 a0, .int .i64 a1, .int .i64 a2, .int .i64 b0, .int .i64 b1, .int .i64 b2] 25)) #[.int .i64 v0, .int .i64 v1, .int .i64 v2, .int .i64 z0, .int .i64 z1, .int .i64 z2] 25).alloc (.cells #[.int .i64 p0, .int .i64 p1, .int .i64 p2] 22))
  have Bp : Vec3At (((w.alloc (.cells #[.int .i64 a0, .int .i64 a1, .int .i64 a2, .int .i64 b0, .int .i64 b1, .int .i64 b2] 25)).alloc (.cells #[.int .i64 v0, .int .i64 v1, .int .i64 v2, .int .i64 z0, .int .i64 z1, .int .i64 z2] 25)).alloc (.cells #[.int .i64 p0, .int .i64 p1, .int .i64 p2] 22)) (w.heap.size + 1 + 1) p0 p1 p2 := by simpa using (Blk.new ((w.alloc (.cells #[.int .i64 a0, .int .i64 a1, .int .i64 a2, .int .i64 b0, .int .i64 b1, .int .i64 b2] 25)).alloc (.cells #[.int .i64 v0, .int .i64 v1, .int .i64 v2, .int .i64 z0, .int .i64 z1, .int .i64 z2] 25)) #[.int .i64 p0, .int .i64 p1, .int .i64 p2] 22)
  have hB : Below w.heap.size w (((w.alloc (.cells #[.int .i64 a0, .int .i64 a1, .int .i64 a2, .int .i64 b0, .int .i64 b1, .int .i64 b2] 25)).alloc (.cells #[.int .i64 v0, .int .i64 v1, .int .i64 v2, .int .i64 z0, .int .i64 z1, .int .i64 z2] 25)).alloc (.cells #[.int .i64 p0, .int .i64 p1, .int .i64 p2] 22)) := by (repeat (first | exact Below.refl _ _ | assumption | (refine Below.drew ?_) | (refine below_drewN ?_ _) | (refine Below.alloc ?_ (by simp <;> omega) _) | (refine Below.setCell ?_ (by simp <;> omega) _)))
  obtain ⟨qe0, qe1, qe2, qe3, qe4, qe5⟩ := v6_cells Be
  obtain ⟨qs0, qs1, qs2, qs3, qs4, qs5⟩ := v6_cells Bs
  obtain ⟨qp0, qp1, qp2⟩ := vec_cells Bp
  go_enter Try.func12, Try.ntmps12
  go_wp2_with fail
  refine (c1 _).mono ?_; rintro e w1 ⟨rfl, hb⟩
  clear qe0 qe1 qe2 qe3 qe4 qe5 qs0 qs1 qs2 qs3 qs4 qs5 qp0 qp1 qp2
  have Be := Be.below hb Be.lt
  have Bs := Bs.below hb Bs.lt
  have Bp := Bp.below hb Bp.lt
  have hB := hB.trans (hb.mono hB.size)
  clear hb
  have Be := Be.alloc (.cells #[.int .i64 r0, .int .i64 r1, .int .i64 r2] 22)
  have Bs := Bs.alloc (.cells #[.int .i64 r0, .int .i64 r1, .int .i64 r2] 22)
  have Bp := Bp.alloc (.cells #[.int .i64 r0, .int .i64 r1, .int .i64 r2] 22)
  have hB := hB.alloc hB.size (.cells #[.int .i64 r0, .int .i64 r1, .int .i64 r2] 22)
  have Bx := Blk.new w1 #[.int .i64 r0, .int .i64 r1, .int .i64 r2] 22
  obtain ⟨qe0, qe1, qe2, qe3, qe4, qe5⟩ := v6_cells Be
  obtain ⟨qs0, qs1, qs2, qs3, qs4, qs5⟩ := v6_cells Bs
  obtain ⟨qp0, qp1, qp2⟩ := vec_cells Bp
  obtain ⟨qx0, qx1, qx2⟩ := vec_cells Bx
  clear c1
  obtain ⟨nx, hnx⟩ : ∃ nx, w1.heap.size = nx := ⟨_, rfl⟩
  rw [hnx] at Bx
  have START := Lib.hid (And.intro Be (And.intro Bs (And.intro Bp (And.intro Bx hB))))
  clear Be Bs Bp Bx hB
  go_wp2_with fail
  go_loopw [47] (fun i wr => (i = .int .i64 0 ∨ i = .int .i64 1 ∨ i = .int .i64 2 ∨ i = .int .i64 3) ∧ V6At wr (w.heap.size) a0 a1 a2 b0 b1 b2 ∧ V6At wr (w.heap.size + 1) v0 v1 v2 z0 z1 z2 ∧ Vec3At wr (w.heap.size + 1 + 1) p0 p1 p2 ∧ Vec3At wr (nx) r0 r1 r2 ∧ Below w.heap.size w wr) (fun i _ => 3 - (intOf i).toNat)
  case atStart => exact ⟨.inl rfl, START.out⟩
  case round =>
    rename_i wr
    clear START qe0 qe1 qe2 qe3 qe4 qe5 qs0 qs1 qs2 qs3 qs4 qs5 qp0 qp1 qp2 qx0 qx1 qx2
    obtain ⟨hi, Be, Bs, Bp, Bx, hB⟩ := hrel
    obtain ⟨qe0, qe1, qe2, qe3, qe4, qe5⟩ := v6_cells Be
    obtain ⟨qs0, qs1, qs2, qs3, qs4, qs5⟩ := v6_cells Bs
    obtain ⟨qp0, qp1, qp2⟩ := vec_cells Bp
    obtain ⟨qx0, qx1, qx2⟩ := vec_cells Bx
    rcases hi with rfl | rfl | rfl | rfl
    · go_wp2_with fail
      go_region_held3 (fun w' => (w'.cell? ⟨w.heap.size, 0, none⟩ = some (.int .i64 a0) ∧ w'.cell? ⟨w.heap.size, 1, none⟩ = some (.int .i64 a1) ∧ w'.cell? ⟨w.heap.size, 2, none⟩ = some (.int .i64 a2) ∧ w'.cell? ⟨w.heap.size, 3, none⟩ = some (.int .i64 b0) ∧ w'.cell? ⟨w.heap.size, 4, none⟩ = some (.int .i64 b1) ∧ w'.cell? ⟨w.heap.size, 5, none⟩ = some (.int .i64 b2)) ∧ (w'.cell? ⟨w.heap.size + 1, 0, none⟩ = some (.int .i64 v0) ∧ w'.cell? ⟨w.heap.size + 1, 1, none⟩ = some (.int .i64 v1) ∧ w'.cell? ⟨w.heap.size + 1, 2, none⟩ = some (.int .i64 v2) ∧ w'.cell? ⟨w.heap.size + 1, 3, none⟩ = some (.int .i64 z0) ∧ w'.cell? ⟨w.heap.size + 1, 4, none⟩ = some (.int .i64 z1) ∧ w'.cell? ⟨w.heap.size + 1, 5, none⟩ = some (.int .i64 z2)) ∧ V6At w' (w.heap.size) a0 a1 a2 b0 b1 b2 ∧ V6At w' (w.heap.size + 1) v0 v1 v2 z0 z1 z2 ∧ Vec3At w' (w.heap.size + 1 + 1) p0 p1 p2 ∧ Vec3At w' (nx) r0 r1 r2 ∧ Below w.heap.size w w')
        (first | (go_keep; done) | (((try dsimp only); repeat' apply And.intro) <;> (first | assumption | exact Below.drew (by assumption) | go_keep)) | (go_split_ands; exact ⟨v6_cells (Blk.below (b := w.heap.size) (by assumption) hbk (Blk.lt (b := w.heap.size) (by assumption))), v6_cells (Blk.below (b := w.heap.size + 1) (by assumption) hbk (Blk.lt (b := w.heap.size + 1) (by assumption))), Blk.below (b := w.heap.size) (by assumption) hbk (Blk.lt (b := w.heap.size) (by assumption)), Blk.below (b := w.heap.size + 1) (by assumption) hbk (Blk.lt (b := w.heap.size + 1) (by assumption)), Blk.below (b := w.heap.size + 1 + 1) (by assumption) hbk (Blk.lt (b := w.heap.size + 1 + 1) (by assumption)), Blk.below (b := nx) (by assumption) hbk (Blk.lt (b := nx) (by assumption)), Below.trans (by assumption) (hbk.mono (Below.size (by assumption)))⟩))
        ((first | (go_at_call 36; ((with_reducible refine (l0 _).mono ?_); rintro e wx ⟨rfl, hbk⟩))))
      all_goals
        rename_i hH
        clear Be Bs Bp Bx hB qe0 qe1 qe2 qe3 qe4 qe5 qs0 qs1 qs2 qs3 qs4 qs5 qp0 qp1 qp2 qx0 qx1 qx2
        obtain ⟨_, _, Be, Bs, Bp, Bx, hB⟩ := hH
        obtain ⟨qx0, qx1, qx2⟩ := vec_cells Bx
        have ALL := Lib.hid (And.intro Be (And.intro Bs (And.intro Bp (And.intro Bx hB))))
        clear Be Bs Bp Bx hB
        go_wp2_with fail
        go_roundw
        case rel => exact ⟨.inr (.inl rfl), ALL.out⟩
        case measure => decide
    · go_wp2_with fail
      go_region_held3 (fun w' => (w'.cell? ⟨w.heap.size, 0, none⟩ = some (.int .i64 a0) ∧ w'.cell? ⟨w.heap.size, 1, none⟩ = some (.int .i64 a1) ∧ w'.cell? ⟨w.heap.size, 2, none⟩ = some (.int .i64 a2) ∧ w'.cell? ⟨w.heap.size, 3, none⟩ = some (.int .i64 b0) ∧ w'.cell? ⟨w.heap.size, 4, none⟩ = some (.int .i64 b1) ∧ w'.cell? ⟨w.heap.size, 5, none⟩ = some (.int .i64 b2)) ∧ (w'.cell? ⟨w.heap.size + 1, 0, none⟩ = some (.int .i64 v0) ∧ w'.cell? ⟨w.heap.size + 1, 1, none⟩ = some (.int .i64 v1) ∧ w'.cell? ⟨w.heap.size + 1, 2, none⟩ = some (.int .i64 v2) ∧ w'.cell? ⟨w.heap.size + 1, 3, none⟩ = some (.int .i64 z0) ∧ w'.cell? ⟨w.heap.size + 1, 4, none⟩ = some (.int .i64 z1) ∧ w'.cell? ⟨w.heap.size + 1, 5, none⟩ = some (.int .i64 z2)) ∧ V6At w' (w.heap.size) a0 a1 a2 b0 b1 b2 ∧ V6At w' (w.heap.size + 1) v0 v1 v2 z0 z1 z2 ∧ Vec3At w' (w.heap.size + 1 + 1) p0 p1 p2 ∧ Vec3At w' (nx) r0 r1 r2 ∧ Below w.heap.size w w')
        (first | (go_keep; done) | (((try dsimp only); repeat' apply And.intro) <;> (first | assumption | exact Below.drew (by assumption) | go_keep)) | (go_split_ands; exact ⟨v6_cells (Blk.below (b := w.heap.size) (by assumption) hbk (Blk.lt (b := w.heap.size) (by assumption))), v6_cells (Blk.below (b := w.heap.size + 1) (by assumption) hbk (Blk.lt (b := w.heap.size + 1) (by assumption))), Blk.below (b := w.heap.size) (by assumption) hbk (Blk.lt (b := w.heap.size) (by assumption)), Blk.below (b := w.heap.size + 1) (by assumption) hbk (Blk.lt (b := w.heap.size + 1) (by assumption)), Blk.below (b := w.heap.size + 1 + 1) (by assumption) hbk (Blk.lt (b := w.heap.size + 1 + 1) (by assumption)), Blk.below (b := nx) (by assumption) hbk (Blk.lt (b := nx) (by assumption)), Below.trans (by assumption) (hbk.mono (Below.size (by assumption)))⟩))
        ((first | (go_at_call 36; ((with_reducible refine (l1 _).mono ?_); rintro e wx ⟨rfl, hbk⟩))))
      all_goals
        rename_i hH
        clear Be Bs Bp Bx hB qe0 qe1 qe2 qe3 qe4 qe5 qs0 qs1 qs2 qs3 qs4 qs5 qp0 qp1 qp2 qx0 qx1 qx2
        obtain ⟨_, _, Be, Bs, Bp, Bx, hB⟩ := hH
        obtain ⟨qx0, qx1, qx2⟩ := vec_cells Bx
        have ALL := Lib.hid (And.intro Be (And.intro Bs (And.intro Bp (And.intro Bx hB))))
        clear Be Bs Bp Bx hB
        go_wp2_with fail
        go_roundw
        case rel => exact ⟨.inr (.inr (.inl rfl)), ALL.out⟩
        case measure => decide
    · go_wp2_with fail
      go_region_held3 (fun w' => (w'.cell? ⟨w.heap.size, 0, none⟩ = some (.int .i64 a0) ∧ w'.cell? ⟨w.heap.size, 1, none⟩ = some (.int .i64 a1) ∧ w'.cell? ⟨w.heap.size, 2, none⟩ = some (.int .i64 a2) ∧ w'.cell? ⟨w.heap.size, 3, none⟩ = some (.int .i64 b0) ∧ w'.cell? ⟨w.heap.size, 4, none⟩ = some (.int .i64 b1) ∧ w'.cell? ⟨w.heap.size, 5, none⟩ = some (.int .i64 b2)) ∧ (w'.cell? ⟨w.heap.size + 1, 0, none⟩ = some (.int .i64 v0) ∧ w'.cell? ⟨w.heap.size + 1, 1, none⟩ = some (.int .i64 v1) ∧ w'.cell? ⟨w.heap.size + 1, 2, none⟩ = some (.int .i64 v2) ∧ w'.cell? ⟨w.heap.size + 1, 3, none⟩ = some (.int .i64 z0) ∧ w'.cell? ⟨w.heap.size + 1, 4, none⟩ = some (.int .i64 z1) ∧ w'.cell? ⟨w.heap.size + 1, 5, none⟩ = some (.int .i64 z2)) ∧ V6At w' (w.heap.size) a0 a1 a2 b0 b1 b2 ∧ V6At w' (w.heap.size + 1) v0 v1 v2 z0 z1 z2 ∧ Vec3At w' (w.heap.size + 1 + 1) p0 p1 p2 ∧ Vec3At w' (nx) r0 r1 r2 ∧ Below w.heap.size w w')
        (first | (go_keep; done) | (((try dsimp only); repeat' apply And.intro) <;> (first | assumption | exact Below.drew (by assumption) | go_keep)) | (go_split_ands; exact ⟨v6_cells (Blk.below (b := w.heap.size) (by assumption) hbk (Blk.lt (b := w.heap.size) (by assumption))), v6_cells (Blk.below (b := w.heap.size + 1) (by assumption) hbk (Blk.lt (b := w.heap.size + 1) (by assumption))), Blk.below (b := w.heap.size) (by assumption) hbk (Blk.lt (b := w.heap.size) (by assumption)), Blk.below (b := w.heap.size + 1) (by assumption) hbk (Blk.lt (b := w.heap.size + 1) (by assumption)), Blk.below (b := w.heap.size + 1 + 1) (by assumption) hbk (Blk.lt (b := w.heap.size + 1 + 1) (by assumption)), Blk.below (b := nx) (by assumption) hbk (Blk.lt (b := nx) (by assumption)), Below.trans (by assumption) (hbk.mono (Below.size (by assumption)))⟩))
        ((first | (go_at_call 36; ((with_reducible refine (l2 _).mono ?_); rintro e wx ⟨rfl, hbk⟩))))
      all_goals
        rename_i hH
        clear Be Bs Bp Bx hB qe0 qe1 qe2 qe3 qe4 qe5 qs0 qs1 qs2 qs3 qs4 qs5 qp0 qp1 qp2 qx0 qx1 qx2
        obtain ⟨_, _, Be, Bs, Bp, Bx, hB⟩ := hH
        obtain ⟨qx0, qx1, qx2⟩ := vec_cells Bx
        have ALL := Lib.hid (And.intro Be (And.intro Bs (And.intro Bp (And.intro Bx hB))))
        clear Be Bs Bp Bx hB
        go_wp2_with fail
        go_roundw
        case rel => exact ⟨.inr (.inr (.inr (rfl))), ALL.out⟩
        case measure => decide
    · have hsw := hB.size
      have ltx := Bx.lt
      have ltp := Bp.lt
      have lts := Bs.lt
      have Be := Be.alloc (.cells #[.int .i64 p2, .int .i64 v1, .int .i64 v2, .int .i64 0, .int .i64 z1, .int .i64 z2] 25)
      have Bx := Bx.alloc (.cells #[.int .i64 p2, .int .i64 v1, .int .i64 v2, .int .i64 0, .int .i64 z1, .int .i64 z2] 25)
      have Bo := Blk.new wr #[.int .i64 p2, .int .i64 v1, .int .i64 v2, .int .i64 0, .int .i64 z1, .int .i64 z2] 25
      have hB := hB.alloc hB.size (.cells #[.int .i64 p2, .int .i64 v1, .int .i64 v2, .int .i64 0, .int .i64 z1, .int .i64 z2] 25)
      obtain ⟨re0, re1, re2, re3, re4, re5⟩ := v6_cells Be
      obtain ⟨rx0, rx1, rx2⟩ := vec_cells Bx
      obtain ⟨qo0, qo1, qo2, qo3, qo4, qo5⟩ := v6_cells Bo
      clear l0 l1 l2
      go_wp2_with fail
      refine (c5 _).mono ?_; rintro e w5 ⟨rfl, hb⟩
      clear re0 re1 re2 re3 re4 re5 rx0 rx1 rx2 qe0 qe1 qe2 qe3 qe4 qe5 qx0 qx1 qx2 qo0 qo1 qo2 qo3 qo4 qo5
      have Be := Be.below hb Be.lt
      have Bx := Bx.below hb Bx.lt
      have Bo := Bo.below hb Bo.lt
      have hB := hB.trans (hb.mono hB.size)
      clear hb
      have Be := Be.alloc (.cells #[.int .i64 y0, .int .i64 r1, .int .i64 r2] 22)
      have Bx := Bx.alloc (.cells #[.int .i64 y0, .int .i64 r1, .int .i64 r2] 22)
      have Bo := Bo.alloc (.cells #[.int .i64 y0, .int .i64 r1, .int .i64 r2] 22)
      have hB := hB.alloc hB.size (.cells #[.int .i64 y0, .int .i64 r1, .int .i64 r2] 22)
      have By := Blk.new w5 #[.int .i64 y0, .int .i64 r1, .int .i64 r2] 22
      obtain ⟨qe0, qe1, qe2, qe3, qe4, qe5⟩ := v6_cells Be
      obtain ⟨qx0, qx1, qx2⟩ := vec_cells Bx
      obtain ⟨qo0, qo1, qo2, qo3, qo4, qo5⟩ := v6_cells Bo
      obtain ⟨qy0, qy1, qy2⟩ := vec_cells By
      go_wp2_with fail
      refine (alive04_f _).mono ?_; rintro e w6 ⟨rfl, hb⟩
      clear qx0 qx1 qx2 qy0 qy1 qy2
      have Bx := Bx.below hb Bx.lt
      have By := By.below hb By.lt
      have hB := hB.trans (hb.mono hB.size)
      clear hb
      obtain ⟨qx0, qx1, qx2⟩ := vec_cells Bx
      obtain ⟨qy0, qy1, qy2⟩ := vec_cells By
      go_wp2
      go_ret
      exact ⟨rfl, hB⟩

end Go.Proofs.Ytbefllijmbcpjaa
