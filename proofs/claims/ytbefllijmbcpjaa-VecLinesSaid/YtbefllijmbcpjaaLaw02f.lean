/- The law VecLines, walked: it returns true (printed by gen/law02.py). -/
import Derived.Test.YtbefllijmbcpjaaLaw02d
import Derived.LoopTactic
namespace Go.Proofs.Ytbefllijmbcpjaa
set_option linter.unusedVariables false
set_option linter.unusedSimpArgs false
open Go.RowKit

theorem num_walkV (p d : Int) (h1 : 1 ≤ d) : ∃ q, IntKind.u64.wrap p = q ∧ 0 ≤ q ∧ q ≤ 18446744073709551615 ∧ q % (d + 1) = numF p d := by
  refine ⟨_, rfl, ?_⟩
  unfold numF
  rw [IntKind.wrap_u64]
  omega
theorem lerp_back {a b n D : Int} (hD : 0 < D) : lerpF b a (D - n) D = lerpF a b n D := by
  unfold lerpF
  have : (a - b) * (D - n) = (b - a) * n + D * (a - b) := by
    rw [Int.mul_sub, Int.mul_comm D, show (b - a) = -(a - b) by omega, Int.neg_mul]; omega
  rw [this, Int.add_mul_ediv_left _ _ (by omega)]
  omega
theorem nearF_mono {x y h d : Int} (hd : h ≤ d) (k : nearF x y h = true) : nearF x y d = true := by
  unfold nearF at *
  have := of_decide_eq_true k
  exact decide_eq_true (by omega)
theorem vnearF_mono {a0 a1 a2 b0 b1 b2 h d : Int} (h0 : 0 ≤ h) (hd : h ≤ d) (k : vnearF a0 a1 a2 b0 b1 b2 h = true) : vnearF a0 a1 a2 b0 b1 b2 d = true := by
  unfold vnearF at *
  simp only [Bool.and_eq_true] at k
  obtain ⟨_, ⟨k0, k1⟩, k2⟩ := k
  rw [nearF_mono hd k0, nearF_mono hd k1, nearF_mono hd k2]
  simp; omega

set_option maxRecDepth 100000 in
set_option maxHeartbeats 2000000 in
theorem vecLines_walk (a0 a1 a2 b0 b1 b2 p0 p1 p2 : Int) (h0 : I64 a0) (h1 : I64 a1) (h2 : I64 a2) (k0 : I64 b0) (k1 : I64 b1) (k2 : I64 b2) (_ : I64 p0) (_ : I64 p1) (hp2 : I64 p2) (w : World) :
    Calls Try.prog 8 #[v3 a0 a1 a2, v3 b0 b1 b2, v3 p0 p1 p2] w fun e w' => e = .returned (.bool true) ∧ Below w.heap.size w w' := by
  obtain ⟨q1, e1⟩ : ∃ q, IntKind.u64.wrap p1 = q := ⟨_, rfl⟩
  have f1 : p1 % 18446744073709551616 = q1 := by rw [← IntKind.wrap_u64]; exact e1
  have g1 : 0 ≤ q1 ∧ q1 ≤ 18446744073709551615 := by omega
  obtain ⟨g1, g2⟩ := g1
  clear f1
  obtain ⟨d, hd⟩ : ∃ d, q1 % 4611686018427387904 = d := ⟨_, rfl⟩
  have g3 : 0 ≤ d ∧ d ≤ 4611686018427387903 := by omega
  obtain ⟨g3, g4⟩ := g3
  have d1 : 1 ≤ d + 1 := by omega
  have d2 : d + 1 ≤ 4611686018427387904 := by omega
  obtain ⟨q0, e3, q3, q4, e4⟩ := num_walkV p0 (d + 1) d1
  obtain ⟨n1, n2⟩ := numF_bounds (n := p0) d1
  generalize numF p0 (d + 1) = n at *
  have hf : fineB n (d + 1) = true := fineB_iff.2 ⟨d1, d2, n1, n2⟩
  have hg : fineB (d + 1 - n) (d + 1) = true := fineB_iff.2 ⟨d1, d2, by omega, by omega⟩
  obtain ⟨m, hm⟩ : ∃ m, max 0 p2 = m := ⟨_, rfl⟩
  obtain ⟨h, hh⟩ : ∃ h, m.tdiv 2 = h := ⟨_, rfl⟩
  have m0 : 0 ≤ m ∧ m ≤ 9223372036854775807 := by unfold I64 at hp2; omega
  have m1 : 0 ≤ h ∧ h ≤ m := by rw [← hh, Int.tdiv_eq_ediv_of_nonneg m0.1]; omega
  obtain ⟨m0, m2⟩ := m0
  obtain ⟨m1, m3⟩ := m1
  have c1 := vlerp_f a0 a1 a2 b0 b1 b2 n (d + 1) h0 h1 h2 k0 k1 k2 hf
  have c2 := vlerp_f b0 b1 b2 a0 a1 a2 (d + 1 - n) (d + 1) k0 k1 k2 h0 h1 h2 hg
  rw [lerp_back (by omega), lerp_back (by omega), lerp_back (by omega)] at c2
  have c3 := vbetw_f (lerpF a0 b0 n (d + 1)) (lerpF a1 b1 n (d + 1)) (lerpF a2 b2 n (d + 1)) a0 a1 a2 b0 b1 b2
  rw [vbetwF_lerp hf] at c3
  have c5 := vnear_f (lerpF a0 b0 n (d + 1)) (lerpF a1 b1 n (d + 1)) (lerpF a2 b2 n (d + 1)) (lerpF a0 b0 n (d + 1)) (lerpF a1 b1 n (d + 1)) (lerpF a2 b2 n (d + 1)) 1 (lerpF_i64 h0 k0 hf) (lerpF_i64 h1 k1 hf) (lerpF_i64 h2 k2 hf) (lerpF_i64 h0 k0 hf) (lerpF_i64 h1 k1 hf) (lerpF_i64 h2 k2 hf) (i64_of _ (by omega))
  rw [vnearF_self _ _ _ _ (by omega)] at c5
  have l0 := lerp_f a0 b0 n (d + 1) h0 k0 hf
  have l1 := lerp_f a1 b1 n (d + 1) h1 k1 hf
  have l2 := lerp_f a2 b2 n (d + 1) h2 k2 hf
  have c6 := vnear_f a0 a1 a2 b0 b1 b2 h h0 h1 h2 k0 k1 k2 (i64_of _ (by omega))
  have c7 := vnear_f a0 a1 a2 b0 b1 b2 m h0 h1 h2 k0 k1 k2 (i64_of _ (by omega))
  have MO := Lib.hid (@vnearF_mono a0 a1 a2 b0 b1 b2 h m m1 m3)
  generalize vnearF a0 a1 a2 b0 b1 b2 h = r at *
  generalize vnearF a0 a1 a2 b0 b1 b2 m = s at *
  generalize lerpF a0 b0 n (d + 1) = x0 at *
  generalize lerpF a1 b1 n (d + 1) = x1 at *
  generalize lerpF a2 b2 n (d + 1) = x2 at *
  clear h0 h1 h2 k0 k1 k2 hp2 hf hg
  have ws : wrap64 (d + 1 - n) = d + 1 - n := by unfold wrap64; omega
  have Ba : Vec3At (((w.alloc (.cells #[.int .i64 a0, .int .i64 a1, .int .i64 a2] 22)).alloc (.cells #[.int .i64 b0, .int .i64 b1, .int .i64 b2] 22)).alloc (.cells #[.int .i64 p0, .int .i64 p1, .int .i64 p2] 22)) (w.heap.size) a0 a1 a2 := by simpa using (((Blk.new w #[.int .i64 a0, .int .i64 a1, .int .i64 a2] 22).alloc (.cells #[.int .i64 b0, .int .i64 b1, .int .i64 b2] 22)).alloc (.cells #[.int .i64 p0, .int .i64 p1, .int .i64 p2] 22))
  have Bb : Vec3At (((w.alloc (.cells #[.int .i64 a0, .int .i64 a1, .int .i64 a2] 22)).alloc (.cells #[.int .i64 b0, .int .i64 b1, .int .i64 b2] 22)).alloc (.cells #[.int .i64 p0, .int .i64 p1, .int .i64 p2] 22)) (w.heap.size + 1) b0 b1 b2 := by simpa using ((Blk.new (w.alloc (.cells #[.int .i64 a0, .int .i64 a1, .int .i64 a2] 22)) #[.int .i64 b0, .int .i64 b1, .int .i64 b2] 22).alloc (.cells #[.int .i64 p0, .int .i64 p1, .int .i64 p2] 22))
  have Bp : Vec3At (((w.alloc (.cells #[.int .i64 a0, .int .i64 a1, .int .i64 a2] 22)).alloc (.cells #[.int .i64 b0, .int .i64 b1, .int .i64 b2] 22)).alloc (.cells #[.int .i64 p0, .int .i64 p1, .int .i64 p2] 22)) (w.heap.size + 1 + 1) p0 p1 p2 := by simpa using (Blk.new ((w.alloc (.cells #[.int .i64 a0, .int .i64 a1, .int .i64 a2] 22)).alloc (.cells #[.int .i64 b0, .int .i64 b1, .int .i64 b2] 22)) #[.int .i64 p0, .int .i64 p1, .int .i64 p2] 22)
  have hB : Below w.heap.size w (((w.alloc (.cells #[.int .i64 a0, .int .i64 a1, .int .i64 a2] 22)).alloc (.cells #[.int .i64 b0, .int .i64 b1, .int .i64 b2] 22)).alloc (.cells #[.int .i64 p0, .int .i64 p1, .int .i64 p2] 22)) := by (repeat (first | exact Below.refl _ _ | assumption | (refine Below.drew ?_) | (refine below_drewN ?_ _) | (refine Below.alloc ?_ (by simp <;> omega) _) | (refine Below.setCell ?_ (by simp <;> omega) _)))
  obtain ⟨qa0, qa1, qa2⟩ := vec_cells Ba
  obtain ⟨qb0, qb1, qb2⟩ := vec_cells Bb
  obtain ⟨qp0, qp1, qp2⟩ := vec_cells Bp
  · go_enter Try.func8, Try.ntmps8
    go_wp2_with fail
    refine (c1 _).mono ?_; rintro e w1 ⟨rfl, hb⟩
    clear qa0 qa1 qa2 qb0 qb1 qb2 qp0 qp1 qp2
    have hB := hB.trans (hb.mono hB.size)
    have Ba := Ba.below hb Ba.lt
    have Bb := Bb.below hb Bb.lt
    have Bp := Bp.below hb Bp.lt
    have hB := hB.alloc hB.size (.cells #[.int .i64 x0, .int .i64 x1, .int .i64 x2] 22)
    have Ba := Ba.alloc (.cells #[.int .i64 x0, .int .i64 x1, .int .i64 x2] 22)
    have Bb := Bb.alloc (.cells #[.int .i64 x0, .int .i64 x1, .int .i64 x2] 22)
    have Bp := Bp.alloc (.cells #[.int .i64 x0, .int .i64 x1, .int .i64 x2] 22)
    have Bx := Blk.new w1 #[.int .i64 x0, .int .i64 x1, .int .i64 x2] 22
    clear hb
    obtain ⟨qa0, qa1, qa2⟩ := vec_cells Ba
    obtain ⟨qb0, qb1, qb2⟩ := vec_cells Bb
    obtain ⟨qp0, qp1, qp2⟩ := vec_cells Bp
    obtain ⟨qx0, qx1, qx2⟩ := vec_cells Bx
    go_wp2_with fail
    refine (c2 _).mono ?_; rintro e w2 ⟨rfl, hb⟩
    clear qa0 qa1 qa2 qb0 qb1 qb2 qp0 qp1 qp2 qx0 qx1 qx2
    have hB := hB.trans (hb.mono hB.size)
    have Ba := Ba.below hb Ba.lt
    have Bb := Bb.below hb Bb.lt
    have Bp := Bp.below hb Bp.lt
    have Bx := Bx.below hb Bx.lt
    have hB := hB.alloc hB.size (.cells #[.int .i64 x0, .int .i64 x1, .int .i64 x2] 22)
    have Ba := Ba.alloc (.cells #[.int .i64 x0, .int .i64 x1, .int .i64 x2] 22)
    have Bb := Bb.alloc (.cells #[.int .i64 x0, .int .i64 x1, .int .i64 x2] 22)
    have Bp := Bp.alloc (.cells #[.int .i64 x0, .int .i64 x1, .int .i64 x2] 22)
    have Bx := Bx.alloc (.cells #[.int .i64 x0, .int .i64 x1, .int .i64 x2] 22)
    have By := Blk.new w2 #[.int .i64 x0, .int .i64 x1, .int .i64 x2] 22
    clear hb
    obtain ⟨qa0, qa1, qa2⟩ := vec_cells Ba
    obtain ⟨qb0, qb1, qb2⟩ := vec_cells Bb
    obtain ⟨qp0, qp1, qp2⟩ := vec_cells Bp
    obtain ⟨qx0, qx1, qx2⟩ := vec_cells Bx
    obtain ⟨qy0, qy1, qy2⟩ := vec_cells By
    go_wp2_with fail
    refine (c3 _).mono ?_; rintro e w3 ⟨rfl, hb⟩
    clear qa0 qa1 qa2 qb0 qb1 qb2 qp0 qp1 qp2 qx0 qx1 qx2 qy0 qy1 qy2
    have hB := hB.trans (hb.mono hB.size)
    have Ba := Ba.below hb Ba.lt
    have Bb := Bb.below hb Bb.lt
    have Bp := Bp.below hb Bp.lt
    have Bx := Bx.below hb Bx.lt
    have By := By.below hb By.lt
    clear hb
    obtain ⟨qa0, qa1, qa2⟩ := vec_cells Ba
    obtain ⟨qb0, qb1, qb2⟩ := vec_cells Bb
    obtain ⟨qp0, qp1, qp2⟩ := vec_cells Bp
    obtain ⟨qx0, qx1, qx2⟩ := vec_cells Bx
    obtain ⟨qy0, qy1, qy2⟩ := vec_cells By
    go_wp2_with fail
    refine (c3 _).mono ?_; rintro e w4 ⟨rfl, hb⟩
    clear qa0 qa1 qa2 qb0 qb1 qb2 qp0 qp1 qp2 qx0 qx1 qx2 qy0 qy1 qy2
    have hB := hB.trans (hb.mono hB.size)
    have Ba := Ba.below hb Ba.lt
    have Bb := Bb.below hb Bb.lt
    have Bp := Bp.below hb Bp.lt
    have Bx := Bx.below hb Bx.lt
    have By := By.below hb By.lt
    clear hb
    obtain ⟨qa0, qa1, qa2⟩ := vec_cells Ba
    obtain ⟨qb0, qb1, qb2⟩ := vec_cells Bb
    obtain ⟨qp0, qp1, qp2⟩ := vec_cells Bp
    obtain ⟨qx0, qx1, qx2⟩ := vec_cells Bx
    obtain ⟨qy0, qy1, qy2⟩ := vec_cells By
    go_wp2_with fail
    refine (c5 _).mono ?_; rintro e w5 ⟨rfl, hb⟩
    clear qa0 qa1 qa2 qb0 qb1 qb2 qp0 qp1 qp2 qx0 qx1 qx2 qy0 qy1 qy2
    have hB := hB.trans (hb.mono hB.size)
    have Ba := Ba.below hb Ba.lt
    have Bb := Bb.below hb Bb.lt
    have Bp := Bp.below hb Bp.lt
    have Bx := Bx.below hb Bx.lt
    have By := By.below hb By.lt
    clear hb
    obtain ⟨qa0, qa1, qa2⟩ := vec_cells Ba
    obtain ⟨qb0, qb1, qb2⟩ := vec_cells Bb
    obtain ⟨qp0, qp1, qp2⟩ := vec_cells Bp
    obtain ⟨qx0, qx1, qx2⟩ := vec_cells Bx
    obtain ⟨qy0, qy1, qy2⟩ := vec_cells By
    clear qa0 qa1 qa2 qb0 qb1 qb2 qp0 qp1 qp2 qx0 qx1 qx2 qy0 qy1 qy2
    clear By
    obtain ⟨nx, hnx⟩ : ∃ nx, w1.heap.size = nx := ⟨_, rfl⟩
    rw [hnx] at Bx
    have BX := Lib.hid Bx; have BA := Lib.hid Ba; have BB := Lib.hid Bb; have BP := Lib.hid Bp; have HB := Lib.hid hB
    clear Bx Ba Bb Bp hB c1 c2 c3 c5
    go_wp2_with fail
    go_loopw [75] (fun i wr => (i = .int .i64 0 ∨ i = .int .i64 1 ∨ i = .int .i64 2 ∨ i = .int .i64 3) ∧ Vec3At wr w.heap.size a0 a1 a2 ∧ Vec3At wr (w.heap.size + 1) b0 b1 b2 ∧ Vec3At wr (w.heap.size + 1 + 1) p0 p1 p2 ∧ Vec3At wr nx x0 x1 x2 ∧ Below w.heap.size w wr) (fun i _ => 3 - (intOf i).toNat)
    case atStart => exact ⟨.inl rfl, BA.out, BB.out, BP.out, BX.out, HB.out⟩
    case round =>
      rename_i wr
      obtain ⟨hi, Ba, Bb, Bp, Bx, hB⟩ := hrel
      obtain ⟨qa0, qa1, qa2⟩ := vec_cells Ba
      obtain ⟨qb0, qb1, qb2⟩ := vec_cells Bb
      obtain ⟨qp0, qp1, qp2⟩ := vec_cells Bp
      obtain ⟨qx0, qx1, qx2⟩ := vec_cells Bx
      rcases hi with rfl | rfl | rfl | rfl
      · go_wp2_with fail
        go_quiet (first | (go_at_call 32; exact Calls.quiet_of (l0 _)))
        go_wp2_with fail
        go_roundw
        case rel => exact ⟨.inr (.inl rfl), Ba.draws nq, Bb.draws nq, Bp.draws nq, Bx.draws nq, below_drewN hB nq⟩
        case measure => decide
      · go_wp2_with fail
        go_quiet (first | (go_at_call 32; exact Calls.quiet_of (l1 _)))
        go_wp2_with fail
        go_roundw
        case rel => exact ⟨.inr (.inr (.inl rfl)), Ba.draws nq, Bb.draws nq, Bp.draws nq, Bx.draws nq, below_drewN hB nq⟩
        case measure => decide
      · go_wp2_with fail
        go_quiet (first | (go_at_call 32; exact Calls.quiet_of (l2 _)))
        go_wp2_with fail
        go_roundw
        case rel => exact ⟨.inr (.inr (.inr rfl)), Ba.draws nq, Bb.draws nq, Bp.draws nq, Bx.draws nq, below_drewN hB nq⟩
        case measure => decide
      · go_wp2_with fail
        refine (alive02_f _).mono ?_; rintro e w6 ⟨rfl, hb⟩
        have hB := hB.trans (hb.mono hB.size)
        have Ba := Ba.below hb Ba.lt
        have Bb := Bb.below hb Bb.lt
        clear hb qa0 qa1 qa2 qb0 qb1 qb2 qp0 qp1 qp2 qx0 qx1 qx2
        obtain ⟨qa0, qa1, qa2⟩ := vec_cells Ba
        obtain ⟨qb0, qb1, qb2⟩ := vec_cells Bb
        cases r
        · go_wp2_with fail
          refine (c6 _).mono ?_; rintro e w7 ⟨rfl, hb⟩
          have hZ : Below w.heap.size w w7 := hB.trans (hb.mono hB.size)
          clear hb qa0 qa1 qa2 qb0 qb1 qb2
          go_wp2
          go_ret
          exact ⟨rfl, hZ⟩
        · have hs := MO.out rfl
          subst hs
          go_wp2_with fail
          refine (c6 _).mono ?_; rintro e w7 ⟨rfl, hb⟩
          have hZ : Below w.heap.size w w7 := hB.trans (hb.mono hB.size)
          have Ba := Ba.below hb Ba.lt
          have Bb := Bb.below hb Bb.lt
          clear hb qa0 qa1 qa2 qb0 qb1 qb2
          obtain ⟨qa0, qa1, qa2⟩ := vec_cells Ba
          obtain ⟨qb0, qb1, qb2⟩ := vec_cells Bb
          go_wp2_with fail
          refine (c7 _).mono ?_; rintro e w8 ⟨rfl, hb⟩
          have hY : Below w.heap.size w w8 := hZ.trans (hb.mono hZ.size)
          clear hb qa0 qa1 qa2 qb0 qb1 qb2
          go_wp2
          go_ret
          exact ⟨rfl, hY⟩

end Go.Proofs.Ytbefllijmbcpjaa
