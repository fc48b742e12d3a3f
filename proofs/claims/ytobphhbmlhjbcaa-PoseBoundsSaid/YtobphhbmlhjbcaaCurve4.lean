/- Places on a curve: where there are none; the document's (printed by gen/law04.py). -/
import Derived.Test.YtobphhbmlhjbcaaCurve3
namespace Go.Proofs.Ytobphhbmlhjbcaa
set_option linter.unusedVariables false
set_option linter.unusedSimpArgs false
open Go.RowKit

set_option maxRecDepth 100000 in
set_option maxHeartbeats 2000000 in
theorem cvec_bad (a0 a1 a2 v0 v1 v2 b0 b1 b2 z0 z1 z2 num den : Int) (h : fineB num den = false) (w : World) :
    Calls Try.prog 121 #[v3 a0 a1 a2, v3 v0 v1 v2, v3 b0 b1 b2, v3 z0 z1 z2, .int .i64 num, .int .i64 den] w fun e w' => e = .returned (.tuple #[v3 0 0 0, .int .i64 3]) ∧ Below w.heap.size w w' := by
  have c0 := cat_bad a0 v0 b0 z0 num den h
  clear h
  have Ba : Vec3At ((((((w.alloc (.cells #[.int .i64 a0, .int .i64 a1, .int .i64 a2] 42)).alloc (.cells #[.int .i64 v0, .int .i64 v1, .int .i64 v2] 42)).alloc (.cells #[.int .i64 b0, .int .i64 b1, .int .i64 b2] 42)).alloc (.cells #[.int .i64 z0, .int .i64 z1, .int .i64 z2] 42)).alloc (.cells #[.int .i64 0, .int .i64 0, .int .i64 0] 42)).alloc (.cells #[.int .i64 0, .int .i64 0, .int .i64 0] 42)) (w.heap.size) a0 a1 a2 := by simpa using ((((((Blk.new w #[.int .i64 a0, .int .i64 a1, .int .i64 a2] 42).alloc (.cells #[.int .i64 v0, .int .i64 v1, .int .i64 v2] 42)).alloc (.cells #[.int .i64 b0, .int .i64 b1, .int .i64 b2] 42)).alloc (.cells #[.int .i64 z0, .int .i64 z1, .int .i64 z2] 42)).alloc (.cells #[.int .i64 0, .int .i64 0, .int .i64 0] 42)).alloc (.cells #[.int .i64 0, .int .i64 0, .int .i64 0] 42))
  have Bv : Vec3At ((((((w.alloc (.cells #[.int .i64 a0, .int .i64 a1, .int .i64 a2] 42)).alloc (.cells #[.int .i64 v0, .int .i64 v1, .int .i64 v2] 42)).alloc (.cells #[.int .i64 b0, .int .i64 b1, .int .i64 b2] 42)).alloc (.cells #[.int .i64 z0, .int .i64 z1, .int .i64 z2] 42)).alloc (.cells #[.int .i64 0, .int .i64 0, .int .i64 0] 42)).alloc (.cells #[.int .i64 0, .int .i64 0, .int .i64 0] 42)) (w.heap.size + 1) v0 v1 v2 := by simpa using (((((Blk.new (w.alloc (.cells #[.int .i64 a0, .int .i64 a1, .int .i64 a2] 42)) #[.int .i64 v0, .int .i64 v1, .int .i64 v2] 42).alloc (.cells #[.int .i64 b0, .int .i64 b1, .int .i64 b2] 42)).alloc (.cells #[.int .i64 z0, .int .i64 z1, .int .i64 z2] 42)).alloc (.cells #[.int .i64 0, .int .i64 0, .int .i64 0] 42)).alloc (.cells #[.int .i64 0, .int .i64 0, .int .i64 0] 42))
  have Bb : Vec3At ((((((w.alloc (.cells #[.int .i64 a0, .int .i64 a1, .int .i64 a2] 42)).alloc (.cells #[.int .i64 v0, .int .i64 v1, .int .i64 v2] 42)).alloc (.cells #[.int .i64 b0, .int .i64 b1, .int .i64 b2] 42)).alloc (.cells #[.int .i64 z0, .int .i64 z1, .int .i64 z2] 42)).alloc (.cells #[.int .i64 0, .int .i64 0, .int .i64 0] 42)).alloc (.cells #[.int .i64 0, .int .i64 0, .int .i64 0] 42)) (w.heap.size + 1 + 1) b0 b1 b2 := by simpa using ((((Blk.new ((w.alloc (.cells #[.int .i64 a0, .int .i64 a1, .int .i64 a2] 42)).alloc (.cells #[.int .i64 v0, .int .i64 v1, .int .i64 v2] 42)) #[.int .i64 b0, .int .i64 b1, .int .i64 b2] 42).alloc (.cells #[.int .i64 z0, .int .i64 z1, .int .i64 z2] 42)).alloc (.cells #[.int .i64 0, .int .i64 0, .int .i64 0] 42)).alloc (.cells #[.int .i64 0, .int .i64 0, .int .i64 0] 42))
  have Bz : Vec3At ((((((w.alloc (.cells #[.int .i64 a0, .int .i64 a1, .int .i64 a2] 42)).alloc (.cells #[.int .i64 v0, .int .i64 v1, .int .i64 v2] 42)).alloc (.cells #[.int .i64 b0, .int .i64 b1, .int .i64 b2] 42)).alloc (.cells #[.int .i64 z0, .int .i64 z1, .int .i64 z2] 42)).alloc (.cells #[.int .i64 0, .int .i64 0, .int .i64 0] 42)).alloc (.cells #[.int .i64 0, .int .i64 0, .int .i64 0] 42)) (w.heap.size + 1 + 1 + 1) z0 z1 z2 := by simpa using (((Blk.new (((w.alloc (.cells #[.int .i64 a0, .int .i64 a1, .int .i64 a2] 42)).alloc (.cells #[.int .i64 v0, .int .i64 v1, .int .i64 v2] 42)).alloc (.cells #[.int .i64 b0, .int .i64 b1, .int .i64 b2] 42)) #[.int .i64 z0, .int .i64 z1, .int .i64 z2] 42).alloc (.cells #[.int .i64 0, .int .i64 0, .int .i64 0] 42)).alloc (.cells #[.int .i64 0, .int .i64 0, .int .i64 0] 42))
  have Br : Vec3At ((((((w.alloc (.cells #[.int .i64 a0, .int .i64 a1, .int .i64 a2] 42)).alloc (.cells #[.int .i64 v0, .int .i64 v1, .int .i64 v2] 42)).alloc (.cells #[.int .i64 b0, .int .i64 b1, .int .i64 b2] 42)).alloc (.cells #[.int .i64 z0, .int .i64 z1, .int .i64 z2] 42)).alloc (.cells #[.int .i64 0, .int .i64 0, .int .i64 0] 42)).alloc (.cells #[.int .i64 0, .int .i64 0, .int .i64 0] 42)) (w.heap.size + 1 + 1 + 1 + 1) 0 0 0 := by simpa using ((Blk.new ((((w.alloc (.cells #[.int .i64 a0, .int .i64 a1, .int .i64 a2] 42)).alloc (.cells #[.int .i64 v0, .int .i64 v1, .int .i64 v2] 42)).alloc (.cells #[.int .i64 b0, .int .i64 b1, .int .i64 b2] 42)).alloc (.cells #[.int .i64 z0, .int .i64 z1, .int .i64 z2] 42)) #[.int .i64 0, .int .i64 0, .int .i64 0] 42).alloc (.cells #[.int .i64 0, .int .i64 0, .int .i64 0] 42))
  have Bx : Vec3At ((((((w.alloc (.cells #[.int .i64 a0, .int .i64 a1, .int .i64 a2] 42)).alloc (.cells #[.int .i64 v0, .int .i64 v1, .int .i64 v2] 42)).alloc (.cells #[.int .i64 b0, .int .i64 b1, .int .i64 b2] 42)).alloc (.cells #[.int .i64 z0, .int .i64 z1, .int .i64 z2] 42)).alloc (.cells #[.int .i64 0, .int .i64 0, .int .i64 0] 42)).alloc (.cells #[.int .i64 0, .int .i64 0, .int .i64 0] 42)) (w.heap.size + 1 + 1 + 1 + 1 + 1) 0 0 0 := by simpa using (Blk.new (((((w.alloc (.cells #[.int .i64 a0, .int .i64 a1, .int .i64 a2] 42)).alloc (.cells #[.int .i64 v0, .int .i64 v1, .int .i64 v2] 42)).alloc (.cells #[.int .i64 b0, .int .i64 b1, .int .i64 b2] 42)).alloc (.cells #[.int .i64 z0, .int .i64 z1, .int .i64 z2] 42)).alloc (.cells #[.int .i64 0, .int .i64 0, .int .i64 0] 42)) #[.int .i64 0, .int .i64 0, .int .i64 0] 42)
  have hB : Below w.heap.size w ((((((w.alloc (.cells #[.int .i64 a0, .int .i64 a1, .int .i64 a2] 42)).alloc (.cells #[.int .i64 v0, .int .i64 v1, .int .i64 v2] 42)).alloc (.cells #[.int .i64 b0, .int .i64 b1, .int .i64 b2] 42)).alloc (.cells #[.int .i64 z0, .int .i64 z1, .int .i64 z2] 42)).alloc (.cells #[.int .i64 0, .int .i64 0, .int .i64 0] 42)).alloc (.cells #[.int .i64 0, .int .i64 0, .int .i64 0] 42)) := by (repeat (first | exact Below.refl _ _ | assumption | (refine Below.drew ?_) | (refine below_drewN ?_ _) | (refine Below.alloc ?_ (by simp <;> omega) _) | (refine Below.setCell ?_ (by simp <;> omega) _)))
  have START := Lib.hid (And.intro Ba (And.intro Bv (And.intro Bb (And.intro Bz (And.intro Br hB)))))
  clear Bx Ba Bv Bb Bz Br hB
  go_enter Try.func121, Try.ntmps121
  go_wp2_with fail
  go_loopw [18] (fun i wr => i = .int .i64 0 ∧ Vec3At wr (w.heap.size) a0 a1 a2 ∧ Vec3At wr (w.heap.size + 1) v0 v1 v2 ∧ Vec3At wr (w.heap.size + 1 + 1) b0 b1 b2 ∧ Vec3At wr (w.heap.size + 1 + 1 + 1) z0 z1 z2 ∧ Vec3At wr (w.heap.size + 1 + 1 + 1 + 1) 0 0 0 ∧ Below w.heap.size w wr) (fun i _ => 3 - (intOf i).toNat)
  case atStart => exact ⟨rfl, START.out⟩
  case round =>
    rename_i wr
    clear START
    obtain ⟨rfl, Ba, Bv, Bb, Bz, Br, hB⟩ := hrel
    obtain ⟨qa0, qa1, qa2⟩ := vec_cells Ba
    obtain ⟨qv0, qv1, qv2⟩ := vec_cells Bv
    obtain ⟨qb0, qb1, qb2⟩ := vec_cells Bb
    obtain ⟨qz0, qz1, qz2⟩ := vec_cells Bz
    obtain ⟨qr0, qr1, qr2⟩ := vec_cells Br
    obtain ⟨fr0, fr1, fr2⟩ := vec_free Br
    clear Ba Bv Bb Bz
    go_wp2_with fail
    go_quiet (first | (go_at_call 122; exact qsameV (c0 _)))
    clear c0
    go_wp2
    exact bodyPost_ret (v := .tuple #[v3 0 0 0, .int .i64 3]) (by simp [results, Try.results121, go_sem, *]) rfl ⟨rfl, by (repeat (first | exact Below.refl _ _ | assumption | (refine Below.drew ?_) | (refine below_drewN ?_ _) | (refine Below.alloc ?_ (by simp <;> omega) _) | (refine Below.setCell ?_ (by simp <;> omega) _)))⟩

set_option maxRecDepth 100000 in
set_option maxHeartbeats 2000000 in
theorem rcvec_f (a0 a1 a2 v0 v1 v2 b0 b1 b2 z0 z1 z2 num den : Int) (ha0 : I64 a0) (ha1 : I64 a1) (ha2 : I64 a2) (hv0 : I64 v0) (hv1 : I64 v1) (hv2 : I64 v2) (hb0 : I64 b0) (hb1 : I64 b1) (hb2 : I64 b2) (hz0 : I64 z0) (hz1 : I64 z1) (hz2 : I64 z2) (h : fineB num den = true) (w : World) :
    Calls Try.prog 38 #[v3 a0 a1 a2, v3 v0 v1 v2, v3 b0 b1 b2, v3 z0 z1 z2, .int .i64 num, .int .i64 den] w fun e w' => e = .returned (v3 (curveF a0 v0 b0 z0 num den) (curveF a1 v1 b1 z1 num den) (curveF a2 v2 b2 z2 num den)) ∧ Below w.heap.size w w' := by
  have c0 := rcurve_f a0 v0 b0 z0 num den ha0 hv0 hb0 hz0 h
  have c1 := rcurve_f a1 v1 b1 z1 num den ha1 hv1 hb1 hz1 h
  have c2 := rcurve_f a2 v2 b2 z2 num den ha2 hv2 hb2 hz2 h
  generalize curveF a0 v0 b0 z0 num den = r0 at *
  generalize curveF a1 v1 b1 z1 num den = r1 at *
  generalize curveF a2 v2 b2 z2 num den = r2 at *
  clear h ha0 ha1 ha2 hv0 hv1 hv2 hb0 hb1 hb2 hz0 hz1 hz2
  go_enter Try.func38, Try.ntmps38
  go_wp2_with fail
  (refine wp_region_tail 34 (by kernel_rfl) (by kernel_rfl) ?_; simp only [List.take_succ_cons, List.take_zero, List.drop_succ_cons, List.drop_zero]; (repeat still_step); (try refine wpStill_nil ?_))
  (still_call (still_of (c0 _)); (repeat still_step); (try refine wpStill_nil ?_))
  (still_call (still_of (c1 _)); (repeat still_step); (try refine wpStill_nil ?_))
  (still_call (still_of (c2 _)); (repeat still_step); (try refine wpStill_nil ?_))
  go_wp2
  exact bodyPost_ret (v := v3 r0 r1 r2) (by simp [results, Try.results38, go_sem]) rfl ⟨rfl, by (repeat (first | exact Below.refl _ _ | assumption | (refine Below.drew ?_) | (refine below_drewN ?_ _) | (refine Below.alloc ?_ (by simp <;> omega) _) | (refine Below.setCell ?_ (by simp <;> omega) _)))⟩

end Go.Proofs.Ytobphhbmlhjbcaa
