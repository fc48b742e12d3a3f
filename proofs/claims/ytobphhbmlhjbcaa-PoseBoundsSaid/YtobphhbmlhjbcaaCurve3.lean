/- The document's number on a curve; places on a curve (printed by gen/curve.py). -/
import Derived.Test.YtobphhbmlhjbcaaCurve2b
import Derived.Deep.RegionHeld3
import Derived.LoopTactic
namespace Go.Proofs.Ytobphhbmlhjbcaa
set_option linter.unusedVariables false
set_option linter.unusedSimpArgs false
open Go.RowKit

set_option maxHeartbeats 1000000 in
theorem rcurve_f (a v b z num den : Int) (ha : I64 a) (hv : I64 v) (hb : I64 b) (hz : I64 z) (h : fineB num den = true) (w : World) :
    Calls Try.prog 60 #[.int .i64 a, .int .i64 v, .int .i64 b, .int .i64 z, .int .i64 num, .int .i64 den] w fun e w' => e = .returned (.int .i64 (curveF a v b z num den)) ∧ w = w' := by
  have c := rpartn_f num den h
  obtain ⟨d1, d2, n1, n2⟩ := fineB_iff.1 h
  by_cases g0 : num = 0
  · have HE : Hid (curveF a v b z num den = a) := Lib.hid (by unfold curveF; rw [if_pos g0])
    generalize curveF a v b z num den = r at *
    subst g0
    clear h c
    go_enter Try.func60, Try.ntmps60
    go_wp2
    go_ret
    exact ⟨ret_int HE.out.symm, rfl⟩
  · by_cases g1 : num = den
    · have HE : Hid (curveF a v b z num den = b) := Lib.hid (by unfold curveF; rw [if_neg g0, if_pos g1])
      generalize curveF a v b z num den = r at *
      subst g1
      have e0 : (num == 0) = false := by simpa using g0
      clear h g0 c
      go_enter Try.func60, Try.ntmps60
      go_wp2
      go_ret
      exact ⟨ret_int HE.out.symm, rfl⟩
    · obtain ⟨u0, u1⟩ := partF_bounds h
      have HE : Hid (curveF a v b z num den = clampF (sum3F a (wayF (partF num den)) (subF b a) (firstF (partF num den)) (mulF v den) (lastF (partF num den)) (mulF z den)) a b) := Lib.hid (by unfold curveF; rw [if_neg g0, if_neg g1])
      have HS : Hid (sum3F a (wayF (partF num den)) (subF b a) (firstF (partF num den)) (mulF v den) (lastF (partF num den)) (mulF z den) = addF (addF (addF a (mulF (wayF (partF num den)) (subF b a))) (mulF (firstF (partF num den)) (mulF v den))) (mulF (lastF (partF num den)) (mulF z den))) := Lib.hid rfl
      rw [HS.out] at HE
      clear HS
      generalize curveF a v b z num den = r at *
      generalize partF num den = u at *
      have hden : I64 den := i64_of _ (by omega)
      have at1 := rcweights_f u u0 u1
      obtain ⟨_, _, _, _, s4, s5, s6, s7, s8, s9⟩ := weights_bounds u0 u1
      have x1 := rsub_f b a hb ha
      have x2 := rmul_f v den hv hden
      have x3 := rmul_f z den hz hden
      have y1 := rmul_f (wayF u) (subF b a) (i64_of _ (by omega)) (subF_i64 _ _)
      have y2 := rmul_f (firstF u) (mulF v den) (i64_of _ (by omega)) (mulF_i64 _ _)
      have y3 := rmul_f (lastF u) (mulF z den) (i64_of _ (by omega)) (mulF_i64 _ _)
      have n1 := radd_f a (mulF (wayF u) (subF b a)) ha (mulF_i64 _ _)
      have n2 := radd_f (addF a (mulF (wayF u) (subF b a))) (mulF (firstF u) (mulF v den)) (addF_i64 _ _) (mulF_i64 _ _)
      have n3 := radd_f (addF (addF a (mulF (wayF u) (subF b a))) (mulF (firstF u) (mulF v den))) (mulF (lastF u) (mulF z den)) (addF_i64 _ _) (mulF_i64 _ _)
      have cl := rclamp_f (addF (addF (addF a (mulF (wayF u) (subF b a))) (mulF (firstF u) (mulF v den))) (mulF (lastF u) (mulF z den))) a b
      generalize clampF (addF (addF (addF a (mulF (wayF u) (subF b a))) (mulF (firstF u) (mulF v den))) (mulF (lastF u) (mulF z den))) a b = rr at *
      generalize addF (addF (addF a (mulF (wayF u) (subF b a))) (mulF (firstF u) (mulF v den))) (mulF (lastF u) (mulF z den)) = m3 at *
      generalize addF (addF a (mulF (wayF u) (subF b a))) (mulF (firstF u) (mulF v den)) = m2 at *
      generalize addF a (mulF (wayF u) (subF b a)) = m1 at *
      generalize mulF (wayF u) (subF b a) = k1 at *
      generalize mulF (firstF u) (mulF v den) = k2 at *
      generalize mulF (lastF u) (mulF z den) = k3 at *
      generalize wayF u = f1 at *
      generalize firstF u = f2 at *
      generalize lastF u = f3 at *
      generalize subF b a = j1 at *
      generalize mulF v den = j2 at *
      generalize mulF z den = j3 at *
      have e0 : (num == 0) = false := by simpa using g0
      have e1 : (num == den) = false := by simpa using g1
      have c' := c
      clear h g0 g1 s4 s5 s6 s7 s8 s9 u0 u1 ha hv hb hz hden d1 d2 c
      go_enter Try.func60, Try.ntmps60
      go_wp2_with fail
      refine (c' _).mono ?_; rintro e w' ⟨rfl, rfl⟩
      go_wp2_with fail
      refine (at1 _).mono ?_; rintro e w' ⟨rfl, rfl⟩
      go_wp2_with fail
      refine (x1 _).mono ?_; rintro e w' ⟨rfl, rfl⟩
      go_wp2_with fail
      refine (y1 _).mono ?_; rintro e w' ⟨rfl, rfl⟩
      go_wp2_with fail
      refine (n1 _).mono ?_; rintro e w' ⟨rfl, rfl⟩
      go_wp2_with fail
      refine (x2 _).mono ?_; rintro e w' ⟨rfl, rfl⟩
      go_wp2_with fail
      refine (y2 _).mono ?_; rintro e w' ⟨rfl, rfl⟩
      go_wp2_with fail
      refine (n2 _).mono ?_; rintro e w' ⟨rfl, rfl⟩
      go_wp2_with fail
      refine (x3 _).mono ?_; rintro e w' ⟨rfl, rfl⟩
      go_wp2_with fail
      refine (y3 _).mono ?_; rintro e w' ⟨rfl, rfl⟩
      go_wp2_with fail
      refine (n3 _).mono ?_; rintro e w' ⟨rfl, rfl⟩
      go_wp2_with fail
      refine (cl _).mono ?_; rintro e w' ⟨rfl, rfl⟩
      go_wp2
      go_ret
      exact ⟨ret_int HE.out.symm, rfl⟩

set_option maxRecDepth 100000 in
set_option maxHeartbeats 4000000 in
theorem cvec_f (a0 a1 a2 v0 v1 v2 b0 b1 b2 z0 z1 z2 num den : Int) (ha0 : I64 a0) (ha1 : I64 a1) (ha2 : I64 a2) (hv0 : I64 v0) (hv1 : I64 v1) (hv2 : I64 v2) (hb0 : I64 b0) (hb1 : I64 b1) (hb2 : I64 b2) (hz0 : I64 z0) (hz1 : I64 z1) (hz2 : I64 z2) (h : fineB num den = true) (w : World) :
    Calls Try.prog 121 #[v3 a0 a1 a2, v3 v0 v1 v2, v3 b0 b1 b2, v3 z0 z1 z2, .int .i64 num, .int .i64 den] w fun e w' => e = .returned (.tuple #[v3 (curveF a0 v0 b0 z0 num den) (curveF a1 v1 b1 z1 num den) (curveF a2 v2 b2 z2 num den), .int .i64 0]) ∧ Below w.heap.size w w' := by
  have c0 := ccurve_f a0 v0 b0 z0 num den ha0 hv0 hb0 hz0 h
  have c1 := ccurve_f a1 v1 b1 z1 num den ha1 hv1 hb1 hz1 h
  have c2 := ccurve_f a2 v2 b2 z2 num den ha2 hv2 hb2 hz2 h
  generalize curveF a0 v0 b0 z0 num den = r0 at *
  generalize curveF a1 v1 b1 z1 num den = r1 at *
  generalize curveF a2 v2 b2 z2 num den = r2 at *
  clear h ha0 ha1 ha2 hv0 hv1 hv2 hb0 hb1 hb2 hz0 hz1 hz2
  have Ba : Vec3At ((((((w.alloc (.cells #[.int .i64 a0, .int .i64 a1, .int .i64 a2] 42)).alloc (.cells #[.int .i64 v0, .int .i64 v1, .int .i64 v2] 42)).alloc (.cells #[.int .i64 b0, .int .i64 b1, .int .i64 b2] 42)).alloc (.cells #[.int .i64 z0, .int .i64 z1, .int .i64 z2] 42)).alloc (.cells #[.int .i64 0, .int .i64 0, .int .i64 0] 42)).alloc (.cells #[.int .i64 0, .int .i64 0, .int .i64 0] 42)) (w.heap.size) a0 a1 a2 := by simpa using ((((((Blk.new w #[.int .i64 a0, .int .i64 a1, .int .i64 a2] 42).alloc (.cells #[.int .i64 v0, .int .i64 v1, .int .i64 v2] 42)).alloc (.cells #[.int .i64 b0, .int .i64 b1, .int .i64 b2] 42)).alloc (.cells #[.int .i64 z0, .int .i64 z1, .int .i64 z2] 42)).alloc (.cells #[.int .i64 0, .int .i64 0, .int .i64 0] 42)).alloc (.cells #[.int .i64 0, .int .i64 0, .int .i64 0] 42))
  have Bv : Vec3At ((((((w.alloc (.cells #[.int .i64 a0, .int .i64 a1, .int .i64 a2] 42)).alloc (.cells #[.int .i64 v0, .int .i64 v1, .int .i64 v2] 42)).alloc (.cells #[.int .i64 b0, .int .i64 b1, .int .i64 b2] 42)).alloc (.cells #[.int .i64 z0, .int .i64 z1, .int .i64 z2] 42)).alloc (.cells #[.int .i64 0, .int .i64 0, .int .i64 0] 42)).alloc (.cells #[.int .i64 0, .int .i64 0, .int .i64 0] 42)) (w.heap.size + 1) v0 v1 v2 := by simpa using (((((Blk.new (w.alloc (.cells #[.int .i64 a0, .int .i64 a1, .int .i64 a2] 42)) #[.int .i64 v0, .int .i64 v1, .int .i64 v2] 42).alloc (.cells #[.int .i64 b0, .int .i64 b1, .int .i64 b2] 42)).alloc (.cells #[.int .i64 z0, .int .i64 z1, .int .i64 z2] 42)).alloc (.cells #[.int .i64 0, .int .i64 0, .int .i64 0] 42)).alloc (.cells #[.int .i64 0, .int .i64 0, .int .i64 0] 42))
  have Bb : Vec3At ((((((w.alloc (.cells #[.int .i64 a0, .int .i64 a1, .int .i64 a2] 42)).alloc (.cells #[.int .i64 v0, .int .i64 v1, .int .i64 v2] 42)).alloc (.cells #[.int .i64 b0, .int .i64 b1, .int .i64 b2] 42)).alloc (.cells #[.int .i64 z0, .int .i64 z1, .int .i64 z2] 42)).alloc (.cells #[.int .i64 0, .int .i64 0, .int .i64 0] 42)).alloc (.cells #[.int .i64 0, .int .i64 0, .int .i64 0] 42)) (w.heap.size + 1 + 1) b0 b1 b2 := by simpa using ((((Blk.new ((w.alloc (.cells #[.int .i64 a0, .int .i64 a1, .int .i64 a2] 42)).alloc (.cells #[.int .i64 v0, .int .i64 v1, .int .i64 v2] 42)) #[.int .i64 b0, .int .i64 b1, .int .i64 b2] 42).alloc (.cells #[.int .i64 z0, .int .i64 z1, .int .i64 z2] 42)).alloc (.cells #[.int .i64 0, .int .i64 0, .int .i64 0] 42)).alloc (.cells #[.int .i64 0, .int .i64 0, .int .i64 0] 42))
  have Bz : Vec3At ((((((w.alloc (.cells #[.int .i64 a0, .int .i64 a1, .int .i64 a2] 42)).alloc (.cells #[.int .i64 v0, .int .i64 v1, .int .i64 v2] 42)).alloc (.cells #[.int .i64 b0, .int .i64 b1, .int .i64 b2] 42)).alloc (.cells #[.int .i64 z0, .int .i64 z1, .int .i64 z2] 42)).alloc (.cells #[.int .i64 0, .int .i64 0, .int .i64 0] 42)).alloc (.cells #[.int .i64 0, .int .i64 0, .int .i64 0] 42)) (w.heap.size + 1 + 1 + 1) z0 z1 z2 := by simpa using (((Blk.new (((w.alloc (.cells #[.int .i64 a0, .int .i64 a1, .int .i64 a2] 42)).alloc (.cells #[.int .i64 v0, .int .i64 v1, .int .i64 v2] 42)).alloc (.cells #[.int .i64 b0, .int .i64 b1, .int .i64 b2] 42)) #[.int .i64 z0, .int .i64 z1, .int .i64 z2] 42).alloc (.cells #[.int .i64 0, .int .i64 0, .int .i64 0] 42)).alloc (.cells #[.int .i64 0, .int .i64 0, .int .i64 0] 42))
  have Br : Vec3At ((((((w.alloc (.cells #[.int .i64 a0, .int .i64 a1, .int .i64 a2] 42)).alloc (.cells #[.int .i64 v0, .int .i64 v1, .int .i64 v2] 42)).alloc (.cells #[.int .i64 b0, .int .i64 b1, .int .i64 b2] 42)).alloc (.cells #[.int .i64 z0, .int .i64 z1, .int .i64 z2] 42)).alloc (.cells #[.int .i64 0, .int .i64 0, .int .i64 0] 42)).alloc (.cells #[.int .i64 0, .int .i64 0, .int .i64 0] 42)) (w.heap.size + 1 + 1 + 1 + 1) 0 0 0 := by simpa using ((Blk.new ((((w.alloc (.cells #[.int .i64 a0, .int .i64 a1, .int .i64 a2] 42)).alloc (.cells #[.int .i64 v0, .int .i64 v1, .int .i64 v2] 42)).alloc (.cells #[.int .i64 b0, .int .i64 b1, .int .i64 b2] 42)).alloc (.cells #[.int .i64 z0, .int .i64 z1, .int .i64 z2] 42)) #[.int .i64 0, .int .i64 0, .int .i64 0] 42).alloc (.cells #[.int .i64 0, .int .i64 0, .int .i64 0] 42))
  have Bx : Vec3At ((((((w.alloc (.cells #[.int .i64 a0, .int .i64 a1, .int .i64 a2] 42)).alloc (.cells #[.int .i64 v0, .int .i64 v1, .int .i64 v2] 42)).alloc (.cells #[.int .i64 b0, .int .i64 b1, .int .i64 b2] 42)).alloc (.cells #[.int .i64 z0, .int .i64 z1, .int .i64 z2] 42)).alloc (.cells #[.int .i64 0, .int .i64 0, .int .i64 0] 42)).alloc (.cells #[.int .i64 0, .int .i64 0, .int .i64 0] 42)) (w.heap.size + 1 + 1 + 1 + 1 + 1) 0 0 0 := by simpa using (Blk.new (((((w.alloc (.cells #[.int .i64 a0, .int .i64 a1, .int .i64 a2] 42)).alloc (.cells #[.int .i64 v0, .int .i64 v1, .int .i64 v2] 42)).alloc (.cells #[.int .i64 b0, .int .i64 b1, .int .i64 b2] 42)).alloc (.cells #[.int .i64 z0, .int .i64 z1, .int .i64 z2] 42)).alloc (.cells #[.int .i64 0, .int .i64 0, .int .i64 0] 42)) #[.int .i64 0, .int .i64 0, .int .i64 0] 42)
  have hB : Below w.heap.size w ((((((w.alloc (.cells #[.int .i64 a0, .int .i64 a1, .int .i64 a2] 42)).alloc (.cells #[.int .i64 v0, .int .i64 v1, .int .i64 v2] 42)).alloc (.cells #[.int .i64 b0, .int .i64 b1, .int .i64 b2] 42)).alloc (.cells #[.int .i64 z0, .int .i64 z1, .int .i64 z2] 42)).alloc (.cells #[.int .i64 0, .int .i64 0, .int .i64 0] 42)).alloc (.cells #[.int .i64 0, .int .i64 0, .int .i64 0] 42)) := by (repeat (first | exact Below.refl _ _ | assumption | (refine Below.drew ?_) | (refine below_drewN ?_ _) | (refine Below.alloc ?_ (by simp <;> omega) _) | (refine Below.setCell ?_ (by simp <;> omega) _)))
  have START := Lib.hid (And.intro Bx (And.intro Ba (And.intro Bv (And.intro Bb (And.intro Bz (And.intro Br hB))))))
  clear Bx Ba Bv Bb Bz Br hB
  go_enter Try.func121, Try.ntmps121
  go_wp2_with fail
  go_loopw [18] (fun i wr => ((i = .int .i64 0 ∧ Vec3At wr (w.heap.size + 1 + 1 + 1 + 1 + 1) 0 0 0) ∨ (i = .int .i64 1 ∧ Vec3At wr (w.heap.size + 1 + 1 + 1 + 1 + 1) r0 0 0) ∨ (i = .int .i64 2 ∧ Vec3At wr (w.heap.size + 1 + 1 + 1 + 1 + 1) r0 r1 0) ∨ (i = .int .i64 3 ∧ Vec3At wr (w.heap.size + 1 + 1 + 1 + 1 + 1) r0 r1 r2)) ∧ Vec3At wr (w.heap.size) a0 a1 a2 ∧ Vec3At wr (w.heap.size + 1) v0 v1 v2 ∧ Vec3At wr (w.heap.size + 1 + 1) b0 b1 b2 ∧ Vec3At wr (w.heap.size + 1 + 1 + 1) z0 z1 z2 ∧ Vec3At wr (w.heap.size + 1 + 1 + 1 + 1) 0 0 0 ∧ Below w.heap.size w wr) (fun i _ => 3 - (intOf i).toNat)
  case atStart => exact ⟨.inl ⟨rfl, START.out.1⟩, START.out.2⟩
  case round =>
    rename_i wr
    clear START
    obtain ⟨hi, Ba, Bv, Bb, Bz, Br, hB⟩ := hrel
    rcases hi with ⟨rfl, Bx⟩ | ⟨rfl, Bx⟩ | ⟨rfl, Bx⟩ | ⟨rfl, Bx⟩
    · obtain ⟨qa0, qa1, qa2⟩ := vec_cells Ba
      obtain ⟨qv0, qv1, qv2⟩ := vec_cells Bv
      obtain ⟨qb0, qb1, qb2⟩ := vec_cells Bb
      obtain ⟨qz0, qz1, qz2⟩ := vec_cells Bz
      go_wp2_with fail
      go_region_held3 (fun w' => (w'.cell? ⟨w.heap.size, 0, none⟩ = some (.int .i64 a0) ∧ w'.cell? ⟨w.heap.size, 1, none⟩ = some (.int .i64 a1) ∧ w'.cell? ⟨w.heap.size, 2, none⟩ = some (.int .i64 a2)) ∧ (w'.cell? ⟨w.heap.size + 1, 0, none⟩ = some (.int .i64 v0) ∧ w'.cell? ⟨w.heap.size + 1, 1, none⟩ = some (.int .i64 v1) ∧ w'.cell? ⟨w.heap.size + 1, 2, none⟩ = some (.int .i64 v2)) ∧ (w'.cell? ⟨w.heap.size + 1 + 1, 0, none⟩ = some (.int .i64 b0) ∧ w'.cell? ⟨w.heap.size + 1 + 1, 1, none⟩ = some (.int .i64 b1) ∧ w'.cell? ⟨w.heap.size + 1 + 1, 2, none⟩ = some (.int .i64 b2)) ∧ (w'.cell? ⟨w.heap.size + 1 + 1 + 1, 0, none⟩ = some (.int .i64 z0) ∧ w'.cell? ⟨w.heap.size + 1 + 1 + 1, 1, none⟩ = some (.int .i64 z1) ∧ w'.cell? ⟨w.heap.size + 1 + 1 + 1, 2, none⟩ = some (.int .i64 z2)) ∧ Vec3At w' (w.heap.size) a0 a1 a2 ∧ Vec3At w' (w.heap.size + 1) v0 v1 v2 ∧ Vec3At w' (w.heap.size + 1 + 1) b0 b1 b2 ∧ Vec3At w' (w.heap.size + 1 + 1 + 1) z0 z1 z2 ∧ Vec3At w' (w.heap.size + 1 + 1 + 1 + 1) 0 0 0 ∧ Vec3At w' (w.heap.size + 1 + 1 + 1 + 1 + 1) 0 0 0 ∧ Below w.heap.size w w')
        (first | (go_keep; done) | (((try dsimp only); repeat' apply And.intro) <;> (first | assumption | exact Below.drew (by assumption) | go_keep)) | (go_split_ands; exact ⟨vec_cells (Blk.below (b := w.heap.size) (by assumption) hbk (Blk.lt (b := w.heap.size) (by assumption))), vec_cells (Blk.below (b := w.heap.size + 1) (by assumption) hbk (Blk.lt (b := w.heap.size + 1) (by assumption))), vec_cells (Blk.below (b := w.heap.size + 1 + 1) (by assumption) hbk (Blk.lt (b := w.heap.size + 1 + 1) (by assumption))), vec_cells (Blk.below (b := w.heap.size + 1 + 1 + 1) (by assumption) hbk (Blk.lt (b := w.heap.size + 1 + 1 + 1) (by assumption))), Blk.below (b := w.heap.size) (by assumption) hbk (Blk.lt (b := w.heap.size) (by assumption)), Blk.below (b := w.heap.size + 1) (by assumption) hbk (Blk.lt (b := w.heap.size + 1) (by assumption)), Blk.below (b := w.heap.size + 1 + 1) (by assumption) hbk (Blk.lt (b := w.heap.size + 1 + 1) (by assumption)), Blk.below (b := w.heap.size + 1 + 1 + 1) (by assumption) hbk (Blk.lt (b := w.heap.size + 1 + 1 + 1) (by assumption)), Blk.below (b := w.heap.size + 1 + 1 + 1 + 1) (by assumption) hbk (Blk.lt (b := w.heap.size + 1 + 1 + 1 + 1) (by assumption)), Blk.below (b := w.heap.size + 1 + 1 + 1 + 1 + 1) (by assumption) hbk (Blk.lt (b := w.heap.size + 1 + 1 + 1 + 1 + 1) (by assumption)), Below.trans (by assumption) (hbk.mono (Below.size (by assumption)))⟩))
        ((first | (go_at_call 122; ((with_reducible refine (c0 _).mono ?_); rintro e wx ⟨rfl, hbk⟩))))
      all_goals
        rename_i hH
        clear Ba Bv Bb Bz Br Bx hB qa0 qa1 qa2 qv0 qv1 qv2 qb0 qb1 qb2 qz0 qz1 qz2
        obtain ⟨_, _, _, _, Ba, Bv, Bb, Bz, Br, Bx, hB⟩ := hH
        obtain ⟨qx0, qx1, qx2⟩ := vec_cells Bx
        obtain ⟨fx0, fx1, fx2⟩ := vec_free Bx
        have BX := Blk.set Bx 0 (.int .i64 r0)
        simp at BX
        have BA := Blk.far Ba (p := ⟨w.heap.size + 1 + 1 + 1 + 1 + 1, 0, none⟩) (by simp only [ne_eq]; omega) (.int .i64 r0)
        have BV := Blk.far Bv (p := ⟨w.heap.size + 1 + 1 + 1 + 1 + 1, 0, none⟩) (by simp only [ne_eq]; omega) (.int .i64 r0)
        have BB := Blk.far Bb (p := ⟨w.heap.size + 1 + 1 + 1 + 1 + 1, 0, none⟩) (by simp only [ne_eq]; omega) (.int .i64 r0)
        have BZ := Blk.far Bz (p := ⟨w.heap.size + 1 + 1 + 1 + 1 + 1, 0, none⟩) (by simp only [ne_eq]; omega) (.int .i64 r0)
        have BR := Blk.far Br (p := ⟨w.heap.size + 1 + 1 + 1 + 1 + 1, 0, none⟩) (by simp only [ne_eq]; omega) (.int .i64 r0)
        have HB := hB.setCell (p := ⟨w.heap.size + 1 + 1 + 1 + 1 + 1, 0, none⟩) (by show w.heap.size ≤ w.heap.size + 1 + 1 + 1 + 1 + 1; omega) (.int .i64 r0)
        have ALL := Lib.hid (And.intro BX (And.intro BA (And.intro BV (And.intro BB (And.intro BZ (And.intro BR HB))))))
        clear BX BA BV BB BZ BR HB Ba Bv Bb Bz Br Bx hB
        go_wp2_with fail
        go_roundw
        case rel => exact ⟨.inr (.inl ⟨rfl, ALL.out.1⟩), ALL.out.2⟩
        case measure => decide
    · obtain ⟨qa0, qa1, qa2⟩ := vec_cells Ba
      obtain ⟨qv0, qv1, qv2⟩ := vec_cells Bv
      obtain ⟨qb0, qb1, qb2⟩ := vec_cells Bb
      obtain ⟨qz0, qz1, qz2⟩ := vec_cells Bz
      go_wp2_with fail
      go_region_held3 (fun w' => (w'.cell? ⟨w.heap.size, 0, none⟩ = some (.int .i64 a0) ∧ w'.cell? ⟨w.heap.size, 1, none⟩ = some (.int .i64 a1) ∧ w'.cell? ⟨w.heap.size, 2, none⟩ = some (.int .i64 a2)) ∧ (w'.cell? ⟨w.heap.size + 1, 0, none⟩ = some (.int .i64 v0) ∧ w'.cell? ⟨w.heap.size + 1, 1, none⟩ = some (.int .i64 v1) ∧ w'.cell? ⟨w.heap.size + 1, 2, none⟩ = some (.int .i64 v2)) ∧ (w'.cell? ⟨w.heap.size + 1 + 1, 0, none⟩ = some (.int .i64 b0) ∧ w'.cell? ⟨w.heap.size + 1 + 1, 1, none⟩ = some (.int .i64 b1) ∧ w'.cell? ⟨w.heap.size + 1 + 1, 2, none⟩ = some (.int .i64 b2)) ∧ (w'.cell? ⟨w.heap.size + 1 + 1 + 1, 0, none⟩ = some (.int .i64 z0) ∧ w'.cell? ⟨w.heap.size + 1 + 1 + 1, 1, none⟩ = some (.int .i64 z1) ∧ w'.cell? ⟨w.heap.size + 1 + 1 + 1, 2, none⟩ = some (.int .i64 z2)) ∧ Vec3At w' (w.heap.size) a0 a1 a2 ∧ Vec3At w' (w.heap.size + 1) v0 v1 v2 ∧ Vec3At w' (w.heap.size + 1 + 1) b0 b1 b2 ∧ Vec3At w' (w.heap.size + 1 + 1 + 1) z0 z1 z2 ∧ Vec3At w' (w.heap.size + 1 + 1 + 1 + 1) 0 0 0 ∧ Vec3At w' (w.heap.size + 1 + 1 + 1 + 1 + 1) r0 0 0 ∧ Below w.heap.size w w')
        (first | (go_keep; done) | (((try dsimp only); repeat' apply And.intro) <;> (first | assumption | exact Below.drew (by assumption) | go_keep)) | (go_split_ands; exact ⟨vec_cells (Blk.below (b := w.heap.size) (by assumption) hbk (Blk.lt (b := w.heap.size) (by assumption))), vec_cells (Blk.below (b := w.heap.size + 1) (by assumption) hbk (Blk.lt (b := w.heap.size + 1) (by assumption))), vec_cells (Blk.below (b := w.heap.size + 1 + 1) (by assumption) hbk (Blk.lt (b := w.heap.size + 1 + 1) (by assumption))), vec_cells (Blk.below (b := w.heap.size + 1 + 1 + 1) (by assumption) hbk (Blk.lt (b := w.heap.size + 1 + 1 + 1) (by assumption))), Blk.below (b := w.heap.size) (by assumption) hbk (Blk.lt (b := w.heap.size) (by assumption)), Blk.below (b := w.heap.size + 1) (by assumption) hbk (Blk.lt (b := w.heap.size + 1) (by assumption)), Blk.below (b := w.heap.size + 1 + 1) (by assumption) hbk (Blk.lt (b := w.heap.size + 1 + 1) (by assumption)), Blk.below (b := w.heap.size + 1 + 1 + 1) (by assumption) hbk (Blk.lt (b := w.heap.size + 1 + 1 + 1) (by assumption)), Blk.below (b := w.heap.size + 1 + 1 + 1 + 1) (by assumption) hbk (Blk.lt (b := w.heap.size + 1 + 1 + 1 + 1) (by assumption)), Blk.below (b := w.heap.size + 1 + 1 + 1 + 1 + 1) (by assumption) hbk (Blk.lt (b := w.heap.size + 1 + 1 + 1 + 1 + 1) (by assumption)), Below.trans (by assumption) (hbk.mono (Below.size (by assumption)))⟩))
        ((first | (go_at_call 122; ((with_reducible refine (c1 _).mono ?_); rintro e wx ⟨rfl, hbk⟩))))
      all_goals
        rename_i hH
        clear Ba Bv Bb Bz Br Bx hB qa0 qa1 qa2 qv0 qv1 qv2 qb0 qb1 qb2 qz0 qz1 qz2
        obtain ⟨_, _, _, _, Ba, Bv, Bb, Bz, Br, Bx, hB⟩ := hH
        obtain ⟨qx0, qx1, qx2⟩ := vec_cells Bx
        obtain ⟨fx0, fx1, fx2⟩ := vec_free Bx
        have BX := Blk.set Bx 1 (.int .i64 r1)
        simp at BX
        have BA := Blk.far Ba (p := ⟨w.heap.size + 1 + 1 + 1 + 1 + 1, 1, none⟩) (by simp only [ne_eq]; omega) (.int .i64 r1)
        have BV := Blk.far Bv (p := ⟨w.heap.size + 1 + 1 + 1 + 1 + 1, 1, none⟩) (by simp only [ne_eq]; omega) (.int .i64 r1)
        have BB := Blk.far Bb (p := ⟨w.heap.size + 1 + 1 + 1 + 1 + 1, 1, none⟩) (by simp only [ne_eq]; omega) (.int .i64 r1)
        have BZ := Blk.far Bz (p := ⟨w.heap.size + 1 + 1 + 1 + 1 + 1, 1, none⟩) (by simp only [ne_eq]; omega) (.int .i64 r1)
        have BR := Blk.far Br (p := ⟨w.heap.size + 1 + 1 + 1 + 1 + 1, 1, none⟩) (by simp only [ne_eq]; omega) (.int .i64 r1)
        have HB := hB.setCell (p := ⟨w.heap.size + 1 + 1 + 1 + 1 + 1, 1, none⟩) (by show w.heap.size ≤ w.heap.size + 1 + 1 + 1 + 1 + 1; omega) (.int .i64 r1)
        have ALL := Lib.hid (And.intro BX (And.intro BA (And.intro BV (And.intro BB (And.intro BZ (And.intro BR HB))))))
        clear BX BA BV BB BZ BR HB Ba Bv Bb Bz Br Bx hB
        go_wp2_with fail
        go_roundw
        case rel => exact ⟨.inr (.inr (.inl ⟨rfl, ALL.out.1⟩)), ALL.out.2⟩
        case measure => decide
    · obtain ⟨qa0, qa1, qa2⟩ := vec_cells Ba
      obtain ⟨qv0, qv1, qv2⟩ := vec_cells Bv
      obtain ⟨qb0, qb1, qb2⟩ := vec_cells Bb
      obtain ⟨qz0, qz1, qz2⟩ := vec_cells Bz
      go_wp2_with fail
      go_region_held3 (fun w' => (w'.cell? ⟨w.heap.size, 0, none⟩ = some (.int .i64 a0) ∧ w'.cell? ⟨w.heap.size, 1, none⟩ = some (.int .i64 a1) ∧ w'.cell? ⟨w.heap.size, 2, none⟩ = some (.int .i64 a2)) ∧ (w'.cell? ⟨w.heap.size + 1, 0, none⟩ = some (.int .i64 v0) ∧ w'.cell? ⟨w.heap.size + 1, 1, none⟩ = some (.int .i64 v1) ∧ w'.cell? ⟨w.heap.size + 1, 2, none⟩ = some (.int .i64 v2)) ∧ (w'.cell? ⟨w.heap.size + 1 + 1, 0, none⟩ = some (.int .i64 b0) ∧ w'.cell? ⟨w.heap.size + 1 + 1, 1, none⟩ = some (.int .i64 b1) ∧ w'.cell? ⟨w.heap.size + 1 + 1, 2, none⟩ = some (.int .i64 b2)) ∧ (w'.cell? ⟨w.heap.size + 1 + 1 + 1, 0, none⟩ = some (.int .i64 z0) ∧ w'.cell? ⟨w.heap.size + 1 + 1 + 1, 1, none⟩ = some (.int .i64 z1) ∧ w'.cell? ⟨w.heap.size + 1 + 1 + 1, 2, none⟩ = some (.int .i64 z2)) ∧ Vec3At w' (w.heap.size) a0 a1 a2 ∧ Vec3At w' (w.heap.size + 1) v0 v1 v2 ∧ Vec3At w' (w.heap.size + 1 + 1) b0 b1 b2 ∧ Vec3At w' (w.heap.size + 1 + 1 + 1) z0 z1 z2 ∧ Vec3At w' (w.heap.size + 1 + 1 + 1 + 1) 0 0 0 ∧ Vec3At w' (w.heap.size + 1 + 1 + 1 + 1 + 1) r0 r1 0 ∧ Below w.heap.size w w')
        (first | (go_keep; done) | (((try dsimp only); repeat' apply And.intro) <;> (first | assumption | exact Below.drew (by assumption) | go_keep)) | (go_split_ands; exact ⟨vec_cells (Blk.below (b := w.heap.size) (by assumption) hbk (Blk.lt (b := w.heap.size) (by assumption))), vec_cells (Blk.below (b := w.heap.size + 1) (by assumption) hbk (Blk.lt (b := w.heap.size + 1) (by assumption))), vec_cells (Blk.below (b := w.heap.size + 1 + 1) (by assumption) hbk (Blk.lt (b := w.heap.size + 1 + 1) (by assumption))), vec_cells (Blk.below (b := w.heap.size + 1 + 1 + 1) (by assumption) hbk (Blk.lt (b := w.heap.size + 1 + 1 + 1) (by assumption))), Blk.below (b := w.heap.size) (by assumption) hbk (Blk.lt (b := w.heap.size) (by assumption)), Blk.below (b := w.heap.size + 1) (by assumption) hbk (Blk.lt (b := w.heap.size + 1) (by assumption)), Blk.below (b := w.heap.size + 1 + 1) (by assumption) hbk (Blk.lt (b := w.heap.size + 1 + 1) (by assumption)), Blk.below (b := w.heap.size + 1 + 1 + 1) (by assumption) hbk (Blk.lt (b := w.heap.size + 1 + 1 + 1) (by assumption)), Blk.below (b := w.heap.size + 1 + 1 + 1 + 1) (by assumption) hbk (Blk.lt (b := w.heap.size + 1 + 1 + 1 + 1) (by assumption)), Blk.below (b := w.heap.size + 1 + 1 + 1 + 1 + 1) (by assumption) hbk (Blk.lt (b := w.heap.size + 1 + 1 + 1 + 1 + 1) (by assumption)), Below.trans (by assumption) (hbk.mono (Below.size (by assumption)))⟩))
        ((first | (go_at_call 122; ((with_reducible refine (c2 _).mono ?_); rintro e wx ⟨rfl, hbk⟩))))
      all_goals
        rename_i hH
        clear Ba Bv Bb Bz Br Bx hB qa0 qa1 qa2 qv0 qv1 qv2 qb0 qb1 qb2 qz0 qz1 qz2
        obtain ⟨_, _, _, _, Ba, Bv, Bb, Bz, Br, Bx, hB⟩ := hH
        obtain ⟨qx0, qx1, qx2⟩ := vec_cells Bx
        obtain ⟨fx0, fx1, fx2⟩ := vec_free Bx
        have BX := Blk.set Bx 2 (.int .i64 r2)
        simp at BX
        have BA := Blk.far Ba (p := ⟨w.heap.size + 1 + 1 + 1 + 1 + 1, 2, none⟩) (by simp only [ne_eq]; omega) (.int .i64 r2)
        have BV := Blk.far Bv (p := ⟨w.heap.size + 1 + 1 + 1 + 1 + 1, 2, none⟩) (by simp only [ne_eq]; omega) (.int .i64 r2)
        have BB := Blk.far Bb (p := ⟨w.heap.size + 1 + 1 + 1 + 1 + 1, 2, none⟩) (by simp only [ne_eq]; omega) (.int .i64 r2)
        have BZ := Blk.far Bz (p := ⟨w.heap.size + 1 + 1 + 1 + 1 + 1, 2, none⟩) (by simp only [ne_eq]; omega) (.int .i64 r2)
        have BR := Blk.far Br (p := ⟨w.heap.size + 1 + 1 + 1 + 1 + 1, 2, none⟩) (by simp only [ne_eq]; omega) (.int .i64 r2)
        have HB := hB.setCell (p := ⟨w.heap.size + 1 + 1 + 1 + 1 + 1, 2, none⟩) (by show w.heap.size ≤ w.heap.size + 1 + 1 + 1 + 1 + 1; omega) (.int .i64 r2)
        have ALL := Lib.hid (And.intro BX (And.intro BA (And.intro BV (And.intro BB (And.intro BZ (And.intro BR HB))))))
        clear BX BA BV BB BZ BR HB Ba Bv Bb Bz Br Bx hB
        go_wp2_with fail
        go_roundw
        case rel => exact ⟨.inr (.inr (.inr (⟨rfl, ALL.out.1⟩))), ALL.out.2⟩
        case measure => decide
    · obtain ⟨qx0, qx1, qx2⟩ := vec_cells Bx
      obtain ⟨fx0, fx1, fx2⟩ := vec_free Bx
      obtain ⟨qr0, qr1, qr2⟩ := vec_cells Br
      obtain ⟨fr0, fr1, fr2⟩ := vec_free Br
      clear c0 c1 c2
      go_wp2
      exact bodyPost_ret (v := .tuple #[v3 r0 r1 r2, .int .i64 0]) (by simp [results, Try.results121, go_sem, *]) rfl ⟨rfl, by (repeat (first | exact Below.refl _ _ | assumption | (refine Below.drew ?_) | (refine below_drewN ?_ _) | (refine Below.alloc ?_ (by simp <;> omega) _) | (refine Below.setCell ?_ (by simp <;> omega) _)))⟩

end Go.Proofs.Ytobphhbmlhjbcaa
