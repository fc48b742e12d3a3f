/- The law VecStays, walked: it returns true (printed by gen/law02.py). -/
import Derived.Test.YtbefllijmbcpjaaLaw02d
namespace Go.Proofs.Ytbefllijmbcpjaa
set_option linter.unusedVariables false
set_option linter.unusedSimpArgs false
open Go.RowKit

theorem addF_stay {a : Int} (h : I64 a) (v : Int) : addF a (mulF v 0) = a := by rw [mulF_zero, addF_zero h]
theorem addF_none {a : Int} (h : I64 a) (t : Int) : addF a (mulF 0 t) = a := by rw [mulF_comm, mulF_zero, addF_zero h]

set_option maxRecDepth 100000 in
set_option maxHeartbeats 2000000 in
theorem vecStays_walk (a0 a1 a2 v0 v1 v2 u0 u1 u2 t : Int) (h0 : I64 a0) (h1 : I64 a1) (h2 : I64 a2) (k0 : I64 v0) (k1 : I64 v1) (k2 : I64 v2) (l0 : I64 u0) (l1 : I64 u1) (l2 : I64 u2) (ht : I64 t) (w : World) :
    Calls Try.prog 4 #[v3 a0 a1 a2, .agg #[.int .i64 v0, .int .i64 v1, .int .i64 v2, .int .i64 u0, .int .i64 u1, .int .i64 u2], .int .i64 t] w fun e w' => e = .returned (.bool true) ∧ Below w.heap.size w w' := by
  have c1 := vgo_f a0 a1 a2 v0 v1 v2 0 h0 h1 h2 k0 k1 k2 (i64_of _ (by omega))
  rw [addF_stay h0, addF_stay h1, addF_stay h2] at c1
  have c2 := vgo_f a0 a1 a2 0 0 0 t h0 h1 h2 (i64_of _ (by omega)) (i64_of _ (by omega)) (i64_of _ (by omega)) ht
  rw [addF_none h0, addF_none h1, addF_none h2] at c2
  have c3 := vgo_f a0 a1 a2 v0 v1 v2 t h0 h1 h2 k0 k1 k2 ht
  have c4 := vgo_f a0 a1 a2 v0 u1 u2 t h0 h1 h2 k0 l1 l2 ht
  have E1 : Hid (v1 = u1 → addF a1 (mulF v1 t) = addF a1 (mulF u1 t)) := Lib.hid (by rintro rfl; rfl)
  have E2 : Hid (v2 = u2 → addF a2 (mulF v2 t) = addF a2 (mulF u2 t)) := Lib.hid (by rintro rfl; rfl)
  generalize addF a0 (mulF v0 t) = x0 at *
  generalize addF a1 (mulF v1 t) = x1 at *
  generalize addF a2 (mulF v2 t) = x2 at *
  generalize addF a1 (mulF u1 t) = y1 at *
  generalize addF a2 (mulF u2 t) = y2 at *
  clear h0 h1 h2 k0 k1 k2 l0 l1 l2 ht
  go_enter Try.func4, Try.ntmps4
  go_wp2_with fail
  go_region
  · have BA : Vec3At ((((w.alloc (.cells #[.int .i64 a0, .int .i64 a1, .int .i64 a2] 22)).alloc (.cells #[.int .i64 v0, .int .i64 v1, .int .i64 v2, .int .i64 u0, .int .i64 u1, .int .i64 u2] 25)).alloc (.cells #[.int .i64 v0, .int .i64 v1, .int .i64 v2] 22)).alloc (.cells #[.int .i64 u0, .int .i64 u1, .int .i64 u2] 22)).drew w.heap.size a0 a1 a2 := ((((Blk.new w #[.int .i64 a0, .int .i64 a1, .int .i64 a2] 22).alloc _).alloc _).alloc _).draws 1
    have BV : Vec3At ((((w.alloc (.cells #[.int .i64 a0, .int .i64 a1, .int .i64 a2] 22)).alloc (.cells #[.int .i64 v0, .int .i64 v1, .int .i64 v2, .int .i64 u0, .int .i64 u1, .int .i64 u2] 25)).alloc (.cells #[.int .i64 v0, .int .i64 v1, .int .i64 v2] 22)).alloc (.cells #[.int .i64 u0, .int .i64 u1, .int .i64 u2] 22)).drew (w.heap.size + 1 + 1) v0 v1 v2 := by
      have e := ((Blk.new ((w.alloc (.cells #[.int .i64 a0, .int .i64 a1, .int .i64 a2] 22)).alloc (.cells #[.int .i64 v0, .int .i64 v1, .int .i64 v2, .int .i64 u0, .int .i64 u1, .int .i64 u2] 25)) #[.int .i64 v0, .int .i64 v1, .int .i64 v2] 22).alloc (.cells #[.int .i64 u0, .int .i64 u1, .int .i64 u2] 22))
      simp at e
      exact e.draws 1
    have BU : Vec3At ((((w.alloc (.cells #[.int .i64 a0, .int .i64 a1, .int .i64 a2] 22)).alloc (.cells #[.int .i64 v0, .int .i64 v1, .int .i64 v2, .int .i64 u0, .int .i64 u1, .int .i64 u2] 25)).alloc (.cells #[.int .i64 v0, .int .i64 v1, .int .i64 v2] 22)).alloc (.cells #[.int .i64 u0, .int .i64 u1, .int .i64 u2] 22)).drew (w.heap.size + 1 + 1 + 1) u0 u1 u2 := by
      have e := (Blk.new (((w.alloc (.cells #[.int .i64 a0, .int .i64 a1, .int .i64 a2] 22)).alloc (.cells #[.int .i64 v0, .int .i64 v1, .int .i64 v2, .int .i64 u0, .int .i64 u1, .int .i64 u2] 25)).alloc (.cells #[.int .i64 v0, .int .i64 v1, .int .i64 v2] 22)) #[.int .i64 u0, .int .i64 u1, .int .i64 u2] 22)
      simp at e
      exact e.draws 1
    have hB : Below w.heap.size w ((((w.alloc (.cells #[.int .i64 a0, .int .i64 a1, .int .i64 a2] 22)).alloc (.cells #[.int .i64 v0, .int .i64 v1, .int .i64 v2, .int .i64 u0, .int .i64 u1, .int .i64 u2] 25)).alloc (.cells #[.int .i64 v0, .int .i64 v1, .int .i64 v2] 22)).alloc (.cells #[.int .i64 u0, .int .i64 u1, .int .i64 u2] 22)).drew := by (repeat (first | exact Below.refl _ _ | assumption | (refine Below.drew ?_) | (refine below_drewN ?_ _) | (refine Below.alloc ?_ (by simp <;> omega) _) | (refine Below.setCell ?_ (by simp <;> omega) _)))
    obtain ⟨qa0, qa1, qa2⟩ := vec_cells BA
    obtain ⟨qv0, qv1, qv2⟩ := vec_cells BV
    obtain ⟨qu0, qu1, qu2⟩ := vec_cells BU
    go_wp2_with fail
    go_region_held3 (fun w' => (w'.cell? ⟨w.heap.size, 0, none⟩ = some (.int .i64 a0) ∧ w'.cell? ⟨w.heap.size, 1, none⟩ = some (.int .i64 a1) ∧ w'.cell? ⟨w.heap.size, 2, none⟩ = some (.int .i64 a2)) ∧ (w'.cell? ⟨w.heap.size + 1 + 1, 0, none⟩ = some (.int .i64 v0) ∧ w'.cell? ⟨w.heap.size + 1 + 1, 1, none⟩ = some (.int .i64 v1) ∧ w'.cell? ⟨w.heap.size + 1 + 1, 2, none⟩ = some (.int .i64 v2)) ∧ (w'.cell? ⟨w.heap.size + 1 + 1 + 1, 0, none⟩ = some (.int .i64 u0) ∧ w'.cell? ⟨w.heap.size + 1 + 1 + 1, 1, none⟩ = some (.int .i64 u1) ∧ w'.cell? ⟨w.heap.size + 1 + 1 + 1, 2, none⟩ = some (.int .i64 u2)) ∧ Vec3At w' (w.heap.size) a0 a1 a2 ∧ Vec3At w' (w.heap.size + 1 + 1) v0 v1 v2 ∧ Vec3At w' (w.heap.size + 1 + 1 + 1) u0 u1 u2 ∧ Below w.heap.size w w')
      (first | (go_keep; done) | (((try dsimp only); repeat' apply And.intro) <;> (first | assumption | exact Below.drew (by assumption) | go_keep)) | (go_split_ands; exact ⟨vec_cells (Blk.below (b := w.heap.size) (by assumption) hbk (Blk.lt (b := w.heap.size) (by assumption))), vec_cells (Blk.below (b := w.heap.size + 1 + 1) (by assumption) hbk (Blk.lt (b := w.heap.size + 1 + 1) (by assumption))), vec_cells (Blk.below (b := w.heap.size + 1 + 1 + 1) (by assumption) hbk (Blk.lt (b := w.heap.size + 1 + 1 + 1) (by assumption))), Blk.below (b := w.heap.size) (by assumption) hbk (Blk.lt (b := w.heap.size) (by assumption)), Blk.below (b := w.heap.size + 1 + 1) (by assumption) hbk (Blk.lt (b := w.heap.size + 1 + 1) (by assumption)), Blk.below (b := w.heap.size + 1 + 1 + 1) (by assumption) hbk (Blk.lt (b := w.heap.size + 1 + 1 + 1) (by assumption)), Below.trans (by assumption) (hbk.mono (Below.size (by assumption)))⟩))
      ((first | (go_at_call 17; ((with_reducible refine (c1 _).mono ?_); rintro e wx ⟨rfl, hbk⟩)) | (go_at_call 17; ((with_reducible refine (c2 _).mono ?_); rintro e wx ⟨rfl, hbk⟩))))
    all_goals
      rename_i hH
      clear BA BV BU hB qa0 qa1 qa2 qv0 qv1 qv2 qu0 qu1 qu2
      obtain ⟨⟨qa0, qa1, qa2⟩, ⟨qv0, qv1, qv2⟩, ⟨qu0, qu1, qu2⟩, BA, BV, BU, hB⟩ := hH
      go_wp2_with fail
      refine (c3 _).mono ?_; rintro e w4 ⟨rfl, hb⟩
      have hB := (hB.trans (hb.mono hB.size))
      have hB := hB.alloc hB.size (.cells #[.int .i64 x0, .int .i64 x1, .int .i64 x2] 22)
      have BA := (BA.below hb BA.lt).alloc (.cells #[.int .i64 x0, .int .i64 x1, .int .i64 x2] 22)
      have BV := (BV.below hb BV.lt).alloc (.cells #[.int .i64 x0, .int .i64 x1, .int .i64 x2] 22)
      have BU := (BU.below hb BU.lt).alloc (.cells #[.int .i64 x0, .int .i64 x1, .int .i64 x2] 22)
      have BX := Blk.new w4 #[.int .i64 x0, .int .i64 x1, .int .i64 x2] 22
      clear hb qa0 qa1 qa2 qv0 qv1 qv2 qu0 qu1 qu2
      obtain ⟨qa0, qa1, qa2⟩ := vec_cells BA
      obtain ⟨qv0, qv1, qv2⟩ := vec_cells BV
      obtain ⟨qu0, qu1, qu2⟩ := vec_cells BU
      have lt4 := BA.lt
      have BA := BA.alloc (.cells #[.int .i64 v0, .int .i64 u1, .int .i64 u2] 22)
      have BV := BV.alloc (.cells #[.int .i64 v0, .int .i64 u1, .int .i64 u2] 22)
      have BU := BU.alloc (.cells #[.int .i64 v0, .int .i64 u1, .int .i64 u2] 22)
      have BX := BX.alloc (.cells #[.int .i64 v0, .int .i64 u1, .int .i64 u2] 22)
      have hB := hB.alloc hB.size (.cells #[.int .i64 v0, .int .i64 u1, .int .i64 u2] 22)
      obtain ⟨ra0, ra1, ra2⟩ := vec_cells BA
      go_wp2_with fail
      refine (c4 _).mono ?_; rintro e w6 ⟨rfl, hb⟩
      have hB := (hB.trans (hb.mono hB.size))
      have hB := hB.alloc hB.size (.cells #[.int .i64 x0, .int .i64 y1, .int .i64 y2] 22)
      have BV := (BV.below hb BV.lt).alloc (.cells #[.int .i64 x0, .int .i64 y1, .int .i64 y2] 22)
      have BU := (BU.below hb BU.lt).alloc (.cells #[.int .i64 x0, .int .i64 y1, .int .i64 y2] 22)
      have BX := (BX.below hb BX.lt).alloc (.cells #[.int .i64 x0, .int .i64 y1, .int .i64 y2] 22)
      have BY := Blk.new w6 #[.int .i64 x0, .int .i64 y1, .int .i64 y2] 22
      clear hb qa0 qa1 qa2 qv0 qv1 qv2 qu0 qu1 qu2 ra0 ra1 ra2 BA lt4
      go_wp2_with fail
      refine (alive02_f _).mono ?_; rintro e w7 ⟨rfl, hb⟩
      have hZ : Below w.heap.size w w7 := hB.trans (hb.mono hB.size)
      have BV := BV.below hb BV.lt
      have BU := BU.below hb BU.lt
      have BX := BX.below hb BX.lt
      have BY := BY.below hb BY.lt
      clear hb
      obtain ⟨qv0, qv1, qv2⟩ := vec_cells BV
      obtain ⟨qu0, qu1, qu2⟩ := vec_cells BU
      obtain ⟨qx0, qx1, qx2⟩ := vec_cells BX
      obtain ⟨qy0, qy1, qy2⟩ := vec_cells BY
      clear c1 c2 c3 c4 BV BU BX BY
      by_cases e1 : v1 = u1 <;> by_cases e2 : v2 = u2
      · have f1 := E1.out e1; have f2 := E2.out e2
        subst e1; subst e2; subst f1; subst f2
        go_wp2
        go_ret
        exact ⟨rfl, hZ⟩
      · have f1 := E1.out e1
        have g2 : (v2 == u2) = false := by simpa using e2
        subst e1; subst f1
        go_wp2
        go_ret
        exact ⟨rfl, hZ⟩
      · have f2 := E2.out e2
        have g1 : (v1 == u1) = false := by simpa using e1
        subst e2; subst f2
        go_wp2
        go_ret
        exact ⟨rfl, hZ⟩
      · have g1 : (v1 == u1) = false := by simpa using e1
        have g2 : (v2 == u2) = false := by simpa using e2
        go_wp2
        go_ret
        exact ⟨rfl, hZ⟩
  · have BA : Vec3At ((((w.alloc (.cells #[.int .i64 a0, .int .i64 a1, .int .i64 a2] 22)).alloc (.cells #[.int .i64 v0, .int .i64 v1, .int .i64 v2, .int .i64 u0, .int .i64 u1, .int .i64 u2] 25)).alloc (.cells #[.int .i64 u0, .int .i64 u1, .int .i64 u2] 22)).alloc (.cells #[.int .i64 v0, .int .i64 v1, .int .i64 v2] 22)).drew w.heap.size a0 a1 a2 := ((((Blk.new w #[.int .i64 a0, .int .i64 a1, .int .i64 a2] 22).alloc _).alloc _).alloc _).draws 1
    have BV : Vec3At ((((w.alloc (.cells #[.int .i64 a0, .int .i64 a1, .int .i64 a2] 22)).alloc (.cells #[.int .i64 v0, .int .i64 v1, .int .i64 v2, .int .i64 u0, .int .i64 u1, .int .i64 u2] 25)).alloc (.cells #[.int .i64 u0, .int .i64 u1, .int .i64 u2] 22)).alloc (.cells #[.int .i64 v0, .int .i64 v1, .int .i64 v2] 22)).drew (w.heap.size + 1 + 1 + 1) v0 v1 v2 := by
      have e := (Blk.new (((w.alloc (.cells #[.int .i64 a0, .int .i64 a1, .int .i64 a2] 22)).alloc (.cells #[.int .i64 v0, .int .i64 v1, .int .i64 v2, .int .i64 u0, .int .i64 u1, .int .i64 u2] 25)).alloc (.cells #[.int .i64 u0, .int .i64 u1, .int .i64 u2] 22)) #[.int .i64 v0, .int .i64 v1, .int .i64 v2] 22)
      simp at e
      exact e.draws 1
    have BU : Vec3At ((((w.alloc (.cells #[.int .i64 a0, .int .i64 a1, .int .i64 a2] 22)).alloc (.cells #[.int .i64 v0, .int .i64 v1, .int .i64 v2, .int .i64 u0, .int .i64 u1, .int .i64 u2] 25)).alloc (.cells #[.int .i64 u0, .int .i64 u1, .int .i64 u2] 22)).alloc (.cells #[.int .i64 v0, .int .i64 v1, .int .i64 v2] 22)).drew (w.heap.size + 1 + 1) u0 u1 u2 := by
      have e := ((Blk.new ((w.alloc (.cells #[.int .i64 a0, .int .i64 a1, .int .i64 a2] 22)).alloc (.cells #[.int .i64 v0, .int .i64 v1, .int .i64 v2, .int .i64 u0, .int .i64 u1, .int .i64 u2] 25)) #[.int .i64 u0, .int .i64 u1, .int .i64 u2] 22).alloc (.cells #[.int .i64 v0, .int .i64 v1, .int .i64 v2] 22))
      simp at e
      exact e.draws 1
    have hB : Below w.heap.size w ((((w.alloc (.cells #[.int .i64 a0, .int .i64 a1, .int .i64 a2] 22)).alloc (.cells #[.int .i64 v0, .int .i64 v1, .int .i64 v2, .int .i64 u0, .int .i64 u1, .int .i64 u2] 25)).alloc (.cells #[.int .i64 u0, .int .i64 u1, .int .i64 u2] 22)).alloc (.cells #[.int .i64 v0, .int .i64 v1, .int .i64 v2] 22)).drew := by (repeat (first | exact Below.refl _ _ | assumption | (refine Below.drew ?_) | (refine below_drewN ?_ _) | (refine Below.alloc ?_ (by simp <;> omega) _) | (refine Below.setCell ?_ (by simp <;> omega) _)))
    obtain ⟨qa0, qa1, qa2⟩ := vec_cells BA
    obtain ⟨qv0, qv1, qv2⟩ := vec_cells BV
    obtain ⟨qu0, qu1, qu2⟩ := vec_cells BU
    go_wp2_with fail
    go_region_held3 (fun w' => (w'.cell? ⟨w.heap.size, 0, none⟩ = some (.int .i64 a0) ∧ w'.cell? ⟨w.heap.size, 1, none⟩ = some (.int .i64 a1) ∧ w'.cell? ⟨w.heap.size, 2, none⟩ = some (.int .i64 a2)) ∧ (w'.cell? ⟨w.heap.size + 1 + 1 + 1, 0, none⟩ = some (.int .i64 v0) ∧ w'.cell? ⟨w.heap.size + 1 + 1 + 1, 1, none⟩ = some (.int .i64 v1) ∧ w'.cell? ⟨w.heap.size + 1 + 1 + 1, 2, none⟩ = some (.int .i64 v2)) ∧ (w'.cell? ⟨w.heap.size + 1 + 1, 0, none⟩ = some (.int .i64 u0) ∧ w'.cell? ⟨w.heap.size + 1 + 1, 1, none⟩ = some (.int .i64 u1) ∧ w'.cell? ⟨w.heap.size + 1 + 1, 2, none⟩ = some (.int .i64 u2)) ∧ Vec3At w' (w.heap.size) a0 a1 a2 ∧ Vec3At w' (w.heap.size + 1 + 1 + 1) v0 v1 v2 ∧ Vec3At w' (w.heap.size + 1 + 1) u0 u1 u2 ∧ Below w.heap.size w w')
      (first | (go_keep; done) | (((try dsimp only); repeat' apply And.intro) <;> (first | assumption | exact Below.drew (by assumption) | go_keep)) | (go_split_ands; exact ⟨vec_cells (Blk.below (b := w.heap.size) (by assumption) hbk (Blk.lt (b := w.heap.size) (by assumption))), vec_cells (Blk.below (b := w.heap.size + 1 + 1 + 1) (by assumption) hbk (Blk.lt (b := w.heap.size + 1 + 1 + 1) (by assumption))), vec_cells (Blk.below (b := w.heap.size + 1 + 1) (by assumption) hbk (Blk.lt (b := w.heap.size + 1 + 1) (by assumption))), Blk.below (b := w.heap.size) (by assumption) hbk (Blk.lt (b := w.heap.size) (by assumption)), Blk.below (b := w.heap.size + 1 + 1 + 1) (by assumption) hbk (Blk.lt (b := w.heap.size + 1 + 1 + 1) (by assumption)), Blk.below (b := w.heap.size + 1 + 1) (by assumption) hbk (Blk.lt (b := w.heap.size + 1 + 1) (by assumption)), Below.trans (by assumption) (hbk.mono (Below.size (by assumption)))⟩))
      ((first | (go_at_call 17; ((with_reducible refine (c1 _).mono ?_); rintro e wx ⟨rfl, hbk⟩)) | (go_at_call 17; ((with_reducible refine (c2 _).mono ?_); rintro e wx ⟨rfl, hbk⟩))))
    all_goals
      rename_i hH
      clear BA BV BU hB qa0 qa1 qa2 qv0 qv1 qv2 qu0 qu1 qu2
      obtain ⟨⟨qa0, qa1, qa2⟩, ⟨qv0, qv1, qv2⟩, ⟨qu0, qu1, qu2⟩, BA, BV, BU, hB⟩ := hH
      go_wp2_with fail
      refine (c3 _).mono ?_; rintro e w4 ⟨rfl, hb⟩
      have hB := (hB.trans (hb.mono hB.size))
      have hB := hB.alloc hB.size (.cells #[.int .i64 x0, .int .i64 x1, .int .i64 x2] 22)
      have BA := (BA.below hb BA.lt).alloc (.cells #[.int .i64 x0, .int .i64 x1, .int .i64 x2] 22)
      have BV := (BV.below hb BV.lt).alloc (.cells #[.int .i64 x0, .int .i64 x1, .int .i64 x2] 22)
      have BU := (BU.below hb BU.lt).alloc (.cells #[.int .i64 x0, .int .i64 x1, .int .i64 x2] 22)
      have BX := Blk.new w4 #[.int .i64 x0, .int .i64 x1, .int .i64 x2] 22
      clear hb qa0 qa1 qa2 qv0 qv1 qv2 qu0 qu1 qu2
      obtain ⟨qa0, qa1, qa2⟩ := vec_cells BA
      obtain ⟨qv0, qv1, qv2⟩ := vec_cells BV
      obtain ⟨qu0, qu1, qu2⟩ := vec_cells BU
      have lt4 := BA.lt
      have BA := BA.alloc (.cells #[.int .i64 v0, .int .i64 u1, .int .i64 u2] 22)
      have BV := BV.alloc (.cells #[.int .i64 v0, .int .i64 u1, .int .i64 u2] 22)
      have BU := BU.alloc (.cells #[.int .i64 v0, .int .i64 u1, .int .i64 u2] 22)
      have BX := BX.alloc (.cells #[.int .i64 v0, .int .i64 u1, .int .i64 u2] 22)
      have hB := hB.alloc hB.size (.cells #[.int .i64 v0, .int .i64 u1, .int .i64 u2] 22)
      obtain ⟨ra0, ra1, ra2⟩ := vec_cells BA
      go_wp2_with fail
      refine (c4 _).mono ?_; rintro e w6 ⟨rfl, hb⟩
      have hB := (hB.trans (hb.mono hB.size))
      have hB := hB.alloc hB.size (.cells #[.int .i64 x0, .int .i64 y1, .int .i64 y2] 22)
      have BV := (BV.below hb BV.lt).alloc (.cells #[.int .i64 x0, .int .i64 y1, .int .i64 y2] 22)
      have BU := (BU.below hb BU.lt).alloc (.cells #[.int .i64 x0, .int .i64 y1, .int .i64 y2] 22)
      have BX := (BX.below hb BX.lt).alloc (.cells #[.int .i64 x0, .int .i64 y1, .int .i64 y2] 22)
      have BY := Blk.new w6 #[.int .i64 x0, .int .i64 y1, .int .i64 y2] 22
      clear hb qa0 qa1 qa2 qv0 qv1 qv2 qu0 qu1 qu2 ra0 ra1 ra2 BA lt4
      go_wp2_with fail
      refine (alive02_f _).mono ?_; rintro e w7 ⟨rfl, hb⟩
      have hZ : Below w.heap.size w w7 := hB.trans (hb.mono hB.size)
      have BV := BV.below hb BV.lt
      have BU := BU.below hb BU.lt
      have BX := BX.below hb BX.lt
      have BY := BY.below hb BY.lt
      clear hb
      obtain ⟨qv0, qv1, qv2⟩ := vec_cells BV
      obtain ⟨qu0, qu1, qu2⟩ := vec_cells BU
      obtain ⟨qx0, qx1, qx2⟩ := vec_cells BX
      obtain ⟨qy0, qy1, qy2⟩ := vec_cells BY
      clear c1 c2 c3 c4 BV BU BX BY
      by_cases e1 : v1 = u1 <;> by_cases e2 : v2 = u2
      · have f1 := E1.out e1; have f2 := E2.out e2
        subst e1; subst e2; subst f1; subst f2
        go_wp2
        go_ret
        exact ⟨rfl, hZ⟩
      · have f1 := E1.out e1
        have g2 : (v2 == u2) = false := by simpa using e2
        subst e1; subst f1
        go_wp2
        go_ret
        exact ⟨rfl, hZ⟩
      · have f2 := E2.out e2
        have g1 : (v1 == u1) = false := by simpa using e1
        subst e2; subst f2
        go_wp2
        go_ret
        exact ⟨rfl, hZ⟩
      · have g1 : (v1 == u1) = false := by simpa using e1
        have g2 : (v2 == u2) = false := by simpa using e2
        go_wp2
        go_ret
        exact ⟨rfl, hZ⟩

end Go.Proofs.Ytbefllijmbcpjaa
