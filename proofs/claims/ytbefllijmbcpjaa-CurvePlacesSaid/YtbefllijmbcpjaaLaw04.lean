/- The laws CurveWeights, CurveNumbers and CurveEnds, walked: each returns true (printed by gen/law04.py). -/
import Derived.Test.YtbefllijmbcpjaaCurve4
namespace Go.Proofs.Ytbefllijmbcpjaa
set_option linter.unusedVariables false
set_option linter.unusedSimpArgs false
open Go.RowKit

theorem curveWeights_walk (u : Int) (hu : I64 u) (w : World) :
    Calls Try.prog 9 #[.int .i64 u] w fun e w' => e = .returned (.bool true) ∧ Below w.heap.size w w' := by
  by_cases h0 : u < 0
  · have c := cweights_bad u (.inl h0)
    go_enter Try.func9, Try.ntmps9
    go_wp2_with fail
    refine (c _).mono ?_; rintro e w' ⟨rfl, rfl⟩
    go_wp2_with fail
    refine (alive04_f _).mono ?_; rintro e w1 ⟨rfl, hb⟩
    go_wp2
    go_ret
    exact ⟨rfl, hb⟩
  · by_cases h1 : 65536 < u
    · have c := cweights_bad u (.inr h1)
      have g0 : decide (u < 0) = false := decide_eq_false h0
      go_enter Try.func9, Try.ntmps9
      go_wp2_with fail
      refine (c _).mono ?_; rintro e w' ⟨rfl, rfl⟩
      go_wp2_with fail
      refine (alive04_f _).mono ?_; rintro e w1 ⟨rfl, hb⟩
      go_wp2
      go_ret
      exact ⟨rfl, hb⟩
    · have k0 : 0 ≤ u := by omega
      have k1 : u ≤ 65536 := by omega
      have c := cweights_f u k0 k1
      have r := rcweights_f u k0 k1
      obtain ⟨_, _, _, _, s4, s5, s6, s7, s8, s9⟩ := weights_bounds k0 k1
      have g0 : decide (u < 0) = false := decide_eq_false h0
      have g1 : decide (65536 < u) = false := decide_eq_false h1
      generalize wayF u = x at *
      generalize firstF u = y at *
      generalize lastF u = z at *
      have d0 : decide (0 ≤ x) = true := decide_eq_true s4
      have d1 : decide (x ≤ 65536) = true := decide_eq_true s5
      have d2 : decide (0 ≤ y) = true := decide_eq_true s6
      have d3 : decide (z ≤ 0) = true := decide_eq_true s8
      clear h0 h1 hu s9 s7
      go_enter Try.func9, Try.ntmps9
      go_wp2_with fail
      refine (c _).mono ?_; rintro e w1 ⟨rfl, hb⟩
      have HB := Lib.hid hb
      clear hb
      go_wp2_with fail
      refine (r _).mono ?_; rintro e w' ⟨rfl, rfl⟩
      go_wp2_with fail
      refine (alive04_f _).mono ?_; rintro e w2 ⟨rfl, hb⟩
      have HB2 : Hid (Below w.heap.size w w2) := Lib.hid (HB.out.trans (hb.mono HB.out.size))
      clear hb
      go_wp2
      go_ret
      exact ⟨rfl, HB2.out⟩

set_option maxRecDepth 100000 in
set_option maxHeartbeats 1000000 in
theorem curveNumbers_walk (a b v z num den : Int) (ha : I64 a) (hb : I64 b) (hv : I64 v) (hz : I64 z) (_ : I64 num) (_ : I64 den) (w : World) :
    Calls Try.prog 10 #[.agg #[.int .i64 a, .int .i64 b], .agg #[.int .i64 v, .int .i64 z], .agg #[.int .i64 num, .int .i64 den]] w fun e w' => e = .returned (.bool true) ∧ Below w.heap.size w w' := by
  have fn := rfine_f num den
  have Ba : Q2At (((w.alloc (.cells #[.int .i64 a, .int .i64 b] 32)).alloc (.cells #[.int .i64 v, .int .i64 z] 32)).alloc (.cells #[.int .i64 num, .int .i64 den] 32)) (w.heap.size) a b := by simpa using (((Blk.new w #[.int .i64 a, .int .i64 b] 32).alloc (.cells #[.int .i64 v, .int .i64 z] 32)).alloc (.cells #[.int .i64 num, .int .i64 den] 32))
  have Bv : Q2At (((w.alloc (.cells #[.int .i64 a, .int .i64 b] 32)).alloc (.cells #[.int .i64 v, .int .i64 z] 32)).alloc (.cells #[.int .i64 num, .int .i64 den] 32)) (w.heap.size + 1) v z := by simpa using ((Blk.new (w.alloc (.cells #[.int .i64 a, .int .i64 b] 32)) #[.int .i64 v, .int .i64 z] 32).alloc (.cells #[.int .i64 num, .int .i64 den] 32))
  have Bp : Q2At (((w.alloc (.cells #[.int .i64 a, .int .i64 b] 32)).alloc (.cells #[.int .i64 v, .int .i64 z] 32)).alloc (.cells #[.int .i64 num, .int .i64 den] 32)) (w.heap.size + 1 + 1) num den := by simpa using (Blk.new ((w.alloc (.cells #[.int .i64 a, .int .i64 b] 32)).alloc (.cells #[.int .i64 v, .int .i64 z] 32)) #[.int .i64 num, .int .i64 den] 32)
  have hB : Below w.heap.size w (((w.alloc (.cells #[.int .i64 a, .int .i64 b] 32)).alloc (.cells #[.int .i64 v, .int .i64 z] 32)).alloc (.cells #[.int .i64 num, .int .i64 den] 32)) := by (repeat (first | exact Below.refl _ _ | assumption | (refine Below.drew ?_) | (refine below_drewN ?_ _) | (refine Below.alloc ?_ (by simp <;> omega) _) | (refine Below.setCell ?_ (by simp <;> omega) _)))
  cases hf : fineB num den
  · have c := cat_bad a v b z num den hf
    rw [hf] at fn
    clear hf ha hb hv hz
    obtain ⟨qa0, qa1⟩ := q2_cells Ba
    obtain ⟨qv0, qv1⟩ := q2_cells Bv
    obtain ⟨qp0, qp1⟩ := q2_cells Bp
    go_enter Try.func10, Try.ntmps10
    go_wp2_with fail
    refine (c _).mono ?_; rintro e w' ⟨rfl, rfl⟩
    go_wp2_with fail
    refine (fn _).mono ?_; rintro e w' ⟨rfl, rfl⟩
    go_wp2_with fail
    refine (alive04_f _).mono ?_; rintro e w1 ⟨rfl, hb⟩
    have Ba := Ba.below hb Ba.lt
    have Bv := Bv.below hb Bv.lt
    have Bp := Bp.below hb Bp.lt
    have hB := hB.trans (hb.mono hB.size)
    clear hb qa0 qa1 qv0 qv1 qp0 qp1
    obtain ⟨qa0, qa1⟩ := q2_cells Ba
    obtain ⟨qv0, qv1⟩ := q2_cells Bv
    obtain ⟨qp0, qp1⟩ := q2_cells Bp
    go_wp2
    go_ret
    exact ⟨rfl, hB⟩
  · have c := ccurve_f a v b z num den ha hv hb hz hf
    have r := rcurve_f a v b z num den ha hv hb hz hf
    have bt := @curveF_between a v b z num den
    rw [hf] at fn
    generalize curveF a v b z num den = n at *
    have d0 : decide (min a b ≤ n) = true := decide_eq_true bt.1
    have d1 : decide (n ≤ max a b) = true := decide_eq_true bt.2
    clear hf ha hb hv hz bt
    obtain ⟨qa0, qa1⟩ := q2_cells Ba
    obtain ⟨qv0, qv1⟩ := q2_cells Bv
    obtain ⟨qp0, qp1⟩ := q2_cells Bp
    go_enter Try.func10, Try.ntmps10
    go_wp2_with fail
    refine (c _).mono ?_; rintro e w1 ⟨rfl, hb⟩
    have Ba := Ba.below hb Ba.lt
    have Bv := Bv.below hb Bv.lt
    have Bp := Bp.below hb Bp.lt
    have hB := hB.trans (hb.mono hB.size)
    clear hb qa0 qa1 qv0 qv1 qp0 qp1
    obtain ⟨qa0, qa1⟩ := q2_cells Ba
    obtain ⟨qv0, qv1⟩ := q2_cells Bv
    obtain ⟨qp0, qp1⟩ := q2_cells Bp
    go_wp2_with fail
    refine (fn _).mono ?_; rintro e w' ⟨rfl, rfl⟩
    go_wp2_with fail
    refine (alive04_f _).mono ?_; rintro e w2 ⟨rfl, hb⟩
    have Ba := Ba.below hb Ba.lt
    have Bv := Bv.below hb Bv.lt
    have Bp := Bp.below hb Bp.lt
    have hB := hB.trans (hb.mono hB.size)
    clear hb qa0 qa1 qv0 qv1 qp0 qp1
    obtain ⟨qa0, qa1⟩ := q2_cells Ba
    obtain ⟨qv0, qv1⟩ := q2_cells Bv
    obtain ⟨qp0, qp1⟩ := q2_cells Bp
    go_wp2_with fail
    refine (r _).mono ?_; rintro e w' ⟨rfl, rfl⟩
    go_wp2
    go_ret
    exact ⟨rfl, hB⟩

theorem num_walkC (p d : Int) (h1 : 1 ≤ d) : ∃ q, IntKind.u64.wrap p = q ∧ 0 ≤ q ∧ q ≤ 18446744073709551615 ∧ q % (d + 1) = numF p d := by
  refine ⟨_, rfl, ?_⟩
  unfold numF
  rw [IntKind.wrap_u64]
  omega

set_option maxRecDepth 100000 in
set_option maxHeartbeats 1000000 in
theorem curveEnds_walk (a b v z p0 p1 : Int) (ha : I64 a) (hb : I64 b) (hv : I64 v) (hz : I64 z) (_ : I64 p0) (_ : I64 p1) (w : World) :
    Calls Try.prog 11 #[.agg #[.int .i64 a, .int .i64 b], .agg #[.int .i64 v, .int .i64 z], .agg #[.int .i64 p0, .int .i64 p1]] w fun e w' => e = .returned (.bool true) ∧ Below w.heap.size w w' := by
  obtain ⟨q1, e1⟩ : ∃ q, IntKind.u64.wrap p1 = q := ⟨_, rfl⟩
  have f1 : p1 % 18446744073709551616 = q1 := by rw [← IntKind.wrap_u64]; exact e1
  have g1 : 0 ≤ q1 ∧ q1 ≤ 18446744073709551615 := by omega
  obtain ⟨g1, g2⟩ := g1
  clear f1
  obtain ⟨d, hd⟩ : ∃ d, q1 % 4611686018427387904 = d := ⟨_, rfl⟩
  have g3 : 0 ≤ d ∧ d ≤ 4611686018427387903 := by omega
  obtain ⟨g3, g4⟩ := g3
  have d1 : 1 ≤ d + 1 := by omega
  have d2 : d + 1 ≤ 4611686018427387904 := by omega
  obtain ⟨q0, e3, q3, q4, e4⟩ := num_walkC p0 (d + 1) d1
  obtain ⟨n1, n2⟩ := numF_bounds (n := p0) d1
  generalize numF p0 (d + 1) = n at *
  have hf : fineB n (d + 1) = true := fineB_iff.2 ⟨d1, d2, n1, n2⟩
  have f0 : fineB 0 (d + 1) = true := fineB_iff.2 ⟨d1, d2, by omega, by omega⟩
  have fa : fineB (d + 1) (d + 1) = true := fineB_iff.2 ⟨d1, d2, by omega, by omega⟩
  have c1 := ccurve_f a v b z 0 (d + 1) ha hv hb hz f0
  rw [curveF_zero] at c1
  have c2 := ccurve_f a v b z (d + 1) (d + 1) ha hv hb hz fa
  rw [curveF_all (by omega)] at c2
  have c3 := ccurve_f a v a z n (d + 1) ha hv ha hz hf
  rw [curveF_flat] at c3
  have Ba : Q2At (((w.alloc (.cells #[.int .i64 a, .int .i64 b] 32)).alloc (.cells #[.int .i64 v, .int .i64 z] 32)).alloc (.cells #[.int .i64 p0, .int .i64 p1] 32)) (w.heap.size) a b := by simpa using (((Blk.new w #[.int .i64 a, .int .i64 b] 32).alloc (.cells #[.int .i64 v, .int .i64 z] 32)).alloc (.cells #[.int .i64 p0, .int .i64 p1] 32))
  have Bv : Q2At (((w.alloc (.cells #[.int .i64 a, .int .i64 b] 32)).alloc (.cells #[.int .i64 v, .int .i64 z] 32)).alloc (.cells #[.int .i64 p0, .int .i64 p1] 32)) (w.heap.size + 1) v z := by simpa using ((Blk.new (w.alloc (.cells #[.int .i64 a, .int .i64 b] 32)) #[.int .i64 v, .int .i64 z] 32).alloc (.cells #[.int .i64 p0, .int .i64 p1] 32))
  have Bp : Q2At (((w.alloc (.cells #[.int .i64 a, .int .i64 b] 32)).alloc (.cells #[.int .i64 v, .int .i64 z] 32)).alloc (.cells #[.int .i64 p0, .int .i64 p1] 32)) (w.heap.size + 1 + 1) p0 p1 := by simpa using (Blk.new ((w.alloc (.cells #[.int .i64 a, .int .i64 b] 32)).alloc (.cells #[.int .i64 v, .int .i64 z] 32)) #[.int .i64 p0, .int .i64 p1] 32)
  have hB : Below w.heap.size w (((w.alloc (.cells #[.int .i64 a, .int .i64 b] 32)).alloc (.cells #[.int .i64 v, .int .i64 z] 32)).alloc (.cells #[.int .i64 p0, .int .i64 p1] 32)) := by (repeat (first | exact Below.refl _ _ | assumption | (refine Below.drew ?_) | (refine below_drewN ?_ _) | (refine Below.alloc ?_ (by simp <;> omega) _) | (refine Below.setCell ?_ (by simp <;> omega) _)))
  clear hf f0 fa ha hb hv hz
  obtain ⟨qa0, qa1⟩ := q2_cells Ba
  obtain ⟨qv0, qv1⟩ := q2_cells Bv
  obtain ⟨qp0, qp1⟩ := q2_cells Bp
  go_enter Try.func11, Try.ntmps11
  go_wp2_with fail
  refine (c1 _).mono ?_; rintro e w1 ⟨rfl, hb⟩
  have Ba := Ba.below hb Ba.lt
  have Bv := Bv.below hb Bv.lt
  have Bp := Bp.below hb Bp.lt
  have hB := hB.trans (hb.mono hB.size)
  clear hb qa0 qa1 qv0 qv1 qp0 qp1
  obtain ⟨qa0, qa1⟩ := q2_cells Ba
  obtain ⟨qv0, qv1⟩ := q2_cells Bv
  obtain ⟨qp0, qp1⟩ := q2_cells Bp
  go_wp2_with fail
  refine (c2 _).mono ?_; rintro e w2 ⟨rfl, hb⟩
  have Ba := Ba.below hb Ba.lt
  have Bv := Bv.below hb Bv.lt
  have Bp := Bp.below hb Bp.lt
  have hB := hB.trans (hb.mono hB.size)
  clear hb qa0 qa1 qv0 qv1 qp0 qp1
  obtain ⟨qa0, qa1⟩ := q2_cells Ba
  obtain ⟨qv0, qv1⟩ := q2_cells Bv
  obtain ⟨qp0, qp1⟩ := q2_cells Bp
  go_wp2_with fail
  refine (c3 _).mono ?_; rintro e w3 ⟨rfl, hb⟩
  have Ba := Ba.below hb Ba.lt
  have Bv := Bv.below hb Bv.lt
  have Bp := Bp.below hb Bp.lt
  have hB := hB.trans (hb.mono hB.size)
  clear hb qa0 qa1 qv0 qv1 qp0 qp1
  obtain ⟨qa0, qa1⟩ := q2_cells Ba
  obtain ⟨qv0, qv1⟩ := q2_cells Bv
  obtain ⟨qp0, qp1⟩ := q2_cells Bp
  go_wp2_with fail
  refine (alive04_f _).mono ?_; rintro e w4 ⟨rfl, hb⟩
  have Ba := Ba.below hb Ba.lt
  have Bv := Bv.below hb Bv.lt
  have Bp := Bp.below hb Bp.lt
  have hB := hB.trans (hb.mono hB.size)
  clear hb qa0 qa1 qv0 qv1 qp0 qp1
  obtain ⟨qa0, qa1⟩ := q2_cells Ba
  obtain ⟨qv0, qv1⟩ := q2_cells Bv
  obtain ⟨qp0, qp1⟩ := q2_cells Bp
  go_wp2
  go_ret
  exact ⟨rfl, hB⟩

end Go.Proofs.Ytbefllijmbcpjaa
