/- The laws of layer 1 that take a row of numbers, walked: each returns true. -/
import Derived.Test.YtikihmhbdggbnaaLaw01
import Derived.Deep.QuietTactic
import Derived.BigQuiet
namespace Go.Proofs.Ytikihmhbdggbnaa
set_option linter.unusedVariables false
set_option linter.unusedSimpArgs false
open Go.RowKit

theorem fine_f (p0 p1 : Int) (w : World) :
    Calls Try.prog 13 #[.agg #[.int .i64 p0, .int .i64 p1]] w fun e w' => e = .returned (.tuple #[.int .i64 (numF p0 (denF p1)), .int .i64 (denF p1)]) ∧ w' = w.alloc (.cells #[.int .i64 p0, .int .i64 p1] 25) := by
  obtain ⟨q0, e0⟩ : ∃ q, IntKind.u64.wrap p0 = q := ⟨_, rfl⟩
  obtain ⟨q1, e1⟩ : ∃ q, IntKind.u64.wrap p1 = q := ⟨_, rfl⟩
  have f0 : p0 % 18446744073709551616 = q0 := by rw [← IntKind.wrap_u64]; exact e0
  have f1 : p1 % 18446744073709551616 = q1 := by rw [← IntKind.wrap_u64]; exact e1
  have b0 : 0 ≤ q0 ∧ q0 ≤ 18446744073709551615 := by omega
  have b1 : 0 ≤ q1 ∧ q1 ≤ 18446744073709551615 := by omega
  obtain ⟨b2, b3⟩ := b0
  obtain ⟨b4, b5⟩ := b1
  have HE : Hid (denF p1 = q1 % 4611686018427387904 + 1) := Lib.hid (by unfold denF; rw [f1])
  obtain ⟨d, hd⟩ : ∃ d, q1 % 4611686018427387904 = d := ⟨_, rfl⟩
  have b6 : 0 ≤ d ∧ d ≤ 4611686018427387903 := by omega
  obtain ⟨b7, b8⟩ := b6
  rw [hd] at HE
  have HN : Hid (numF p0 (denF p1) = q0 % (d + 1 + 1)) := Lib.hid (by rw [HE.out]; unfold numF; rw [f0])
  have hn := numF_bounds (n := p0) (den := d + 1) (by omega)
  rw [show numF p0 (d + 1) = q0 % (d + 1 + 1) by unfold numF; rw [f0]] at hn
  obtain ⟨n, hn2⟩ : ∃ n, q0 % (d + 1 + 1) = n := ⟨_, rfl⟩
  rw [hn2] at hn HN
  obtain ⟨n1, n2⟩ := hn
  rw [HE.out, show numF p0 (d + 1) = n by rw [← HN.out, HE.out]]
  clear f0 f1 HE HN
  go_enter Try.func13, Try.ntmps13
  go_wp2
  go_ret2
  exact ⟨rfl, rfl⟩

theorem fixLerps_walk (a b p0 p1 : Int) (ha : I64 a) (hb : I64 b) (h0 : I64 p0) (h1 : I64 p1) (w : World) :
    Calls Try.prog 5 #[.int .i64 a, .int .i64 b, .agg #[.int .i64 p0, .int .i64 p1]] w fun e w' => e = .returned (.bool true) ∧ Below w.heap.size w w' := by
  have f1 := rfine_f p0 p1
  cases hf : fineB p0 p1
  · have l1 := lerp_bad a b p0 p1 hf
    have l2 := partn_bad p0 p1 hf
    rw [hf] at f1
    clear hf
    go_enter Try.func5, Try.ntmps5
    go_wp2_with fail
    refine (l1 _).mono ?_; rintro e w' ⟨rfl, rfl⟩
    go_wp2_with fail
    refine (l2 _).mono ?_; rintro e w' ⟨rfl, rfl⟩
    go_wp2_with fail
    refine (f1 _).mono ?_; rintro e w' ⟨rfl, rfl⟩
    go_wp2_with fail
    refine (alive_f _).mono ?_; rintro e w' ⟨rfl, kd4, rfl⟩
    go_wp2
    go_ret
    exact ⟨rfl, below_drewN ((Below.refl _ _).alloc (Nat.le_refl _) _) _⟩
  · have l1 := lerp_f a b p0 p1 ha hb hf
    have l2 := partn_f p0 p1 hf
    have r1 := rlerp_f a b p0 p1 ha hb hf
    have r2 := rpartn_f p0 p1 hf
    rw [hf] at f1
    clear hf
    go_enter Try.func5, Try.ntmps5
    go_wp2_with fail
    refine (l1 _).mono ?_; rintro e w' ⟨rfl, kd5, rfl⟩
    go_wp2_with fail
    refine (l2 _).mono ?_; rintro e w' ⟨rfl, kd6, rfl⟩
    go_wp2_with fail
    refine (f1 _).mono ?_; rintro e w' ⟨rfl, rfl⟩
    go_wp2_with fail
    refine (alive_f _).mono ?_; rintro e w' ⟨rfl, kd8, rfl⟩
    go_wp2_with fail
    refine (r1 _).mono ?_; rintro e w' ⟨rfl, rfl⟩
    go_wp2_with fail
    refine (r2 _).mono ?_; rintro e w' ⟨rfl, rfl⟩
    go_wp2
    go_ret
    exact ⟨rfl, below_drewN ((Below.refl _ _).alloc (Nat.le_refl _) _) _⟩

/-- what a part of whatever number comes to in the walk -/
theorem num_walk (p d : Int) (h1 : 1 ≤ d) : ∃ q, IntKind.u64.wrap p = q ∧ 0 ≤ q ∧ q ≤ 18446744073709551615 ∧ q % (d + 1) = numF p d := by
  refine ⟨p % 18446744073709551616, IntKind.wrap_u64 p, by omega, by omega, rfl⟩

set_option maxHeartbeats 1000000 in
theorem fixBetween_walk (a b p0 p1 p2 : Int) (ha : I64 a) (hb : I64 b) (h0 : I64 p0) (h1 : I64 p1) (h2 : I64 p2) (w : World) :
    Calls Try.prog 3 #[.int .i64 a, .int .i64 b, .agg #[.int .i64 p0, .int .i64 p1, .int .i64 p2]] w fun e w' => e = .returned (.bool true) ∧ Below w.heap.size w w' := by
  have f := fine_f p0 p1
  obtain ⟨d1, d2⟩ := denF_bounds p1
  obtain ⟨d, hd⟩ : ∃ d, denF p1 = d := ⟨_, rfl⟩
  rw [hd] at f d1 d2
  obtain ⟨n1, n2⟩ := numF_bounds (n := p0) d1
  obtain ⟨m1, m2⟩ := numF_bounds (n := p2) d1
  have l1 := lerp_f a b (numF p0 d) d ha hb (fineF d1 d2)
  have l2 := lerp_f a b (numF p2 d) d ha hb (fineF d1 d2)
  have l3 := lerp_f a b 0 d ha hb (fineB_iff.2 ⟨d1, d2, by omega, by omega⟩)
  have l4 := lerp_f a b d d ha hb (fineB_iff.2 ⟨d1, d2, by omega, by omega⟩)
  rw [lerpF_zero] at l3
  rw [lerpF_all d1] at l4
  obtain ⟨q2, e2, q3, q4, e3⟩ := num_walk p2 d d1
  have bx := lerpF_between (a := a) (b := b) (fineF (n := p0) d1 d2)
  have up1 := @lerpF_up a b (numF p0 d) (numF p2 d) d
  have up2 := @lerpF_up a b (numF p2 d) (numF p0 d) d
  have dn1 := @lerpF_down a b (numF p0 d) (numF p2 d) d
  have dn2 := @lerpF_down a b (numF p2 d) (numF p0 d) d
  generalize numF p0 d = n at *
  generalize numF p2 d = m at *
  generalize lerpF a b n d = x at *
  generalize lerpF a b m d = y at *
  obtain ⟨bx1, bx2⟩ := bx
  clear hd
  have dp : 0 < d := by omega
  obtain ⟨ha1, ha2⟩ := ha
  obtain ⟨hb1, hb2⟩ := hb
  by_cases hnm : m < n
  · by_cases hab : a ≤ b
    · have o := up2 hab dp (by omega)
      clear up1 up2 dn1 dn2
      go_enter Try.func3, Try.ntmps3
      go_wp2_with fail
      refine (f _).mono ?_; rintro e w' ⟨rfl, rfl⟩
      go_wp2_with fail
      refine (l1 _).mono ?_; rintro e w' ⟨rfl, kd11, rfl⟩
      go_wp2_with fail
      refine (l2 _).mono ?_; rintro e w' ⟨rfl, kd12, rfl⟩
      go_wp2_with fail
      refine (l3 _).mono ?_; rintro e w' ⟨rfl, kd13, rfl⟩
      go_wp2_with fail
      refine (l4 _).mono ?_; rintro e w' ⟨rfl, kd14, rfl⟩
      go_wp2_with fail
      refine (alive_f _).mono ?_; rintro e w' ⟨rfl, kd15, rfl⟩
      go_wp2
      go_ret
      exact ⟨rfl, below_drewN (((Below.refl _ _).alloc (Nat.le_refl _) _).alloc (by simp) _) _⟩
    · have o := dn2 (by omega) dp (by omega)
      clear up1 up2 dn1 dn2
      go_enter Try.func3, Try.ntmps3
      go_wp2_with fail
      refine (f _).mono ?_; rintro e w' ⟨rfl, rfl⟩
      go_wp2_with fail
      refine (l1 _).mono ?_; rintro e w' ⟨rfl, kd16, rfl⟩
      go_wp2_with fail
      refine (l2 _).mono ?_; rintro e w' ⟨rfl, kd17, rfl⟩
      go_wp2_with fail
      refine (l3 _).mono ?_; rintro e w' ⟨rfl, kd18, rfl⟩
      go_wp2_with fail
      refine (l4 _).mono ?_; rintro e w' ⟨rfl, kd19, rfl⟩
      go_wp2_with fail
      refine (alive_f _).mono ?_; rintro e w' ⟨rfl, kd20, rfl⟩
      go_wp2
      go_ret
      exact ⟨rfl, below_drewN (((Below.refl _ _).alloc (Nat.le_refl _) _).alloc (by simp) _) _⟩
  · by_cases hab : a ≤ b
    · have o := up1 hab dp (by omega)
      clear up1 up2 dn1 dn2
      go_enter Try.func3, Try.ntmps3
      go_wp2_with fail
      refine (f _).mono ?_; rintro e w' ⟨rfl, rfl⟩
      go_wp2_with fail
      refine (l1 _).mono ?_; rintro e w' ⟨rfl, kd21, rfl⟩
      go_wp2_with fail
      refine (l2 _).mono ?_; rintro e w' ⟨rfl, kd22, rfl⟩
      go_wp2_with fail
      refine (l3 _).mono ?_; rintro e w' ⟨rfl, kd23, rfl⟩
      go_wp2_with fail
      refine (l4 _).mono ?_; rintro e w' ⟨rfl, kd24, rfl⟩
      go_wp2_with fail
      refine (alive_f _).mono ?_; rintro e w' ⟨rfl, kd25, rfl⟩
      go_wp2
      go_ret
      exact ⟨rfl, below_drewN (((Below.refl _ _).alloc (Nat.le_refl _) _).alloc (by simp) _) _⟩
    · have o := dn1 (by omega) dp (by omega)
      clear up1 up2 dn1 dn2
      go_enter Try.func3, Try.ntmps3
      go_wp2_with fail
      refine (f _).mono ?_; rintro e w' ⟨rfl, rfl⟩
      go_wp2_with fail
      refine (l1 _).mono ?_; rintro e w' ⟨rfl, kd26, rfl⟩
      go_wp2_with fail
      refine (l2 _).mono ?_; rintro e w' ⟨rfl, kd27, rfl⟩
      go_wp2_with fail
      refine (l3 _).mono ?_; rintro e w' ⟨rfl, kd28, rfl⟩
      go_wp2_with fail
      refine (l4 _).mono ?_; rintro e w' ⟨rfl, kd29, rfl⟩
      go_wp2_with fail
      refine (alive_f _).mono ?_; rintro e w' ⟨rfl, kd30, rfl⟩
      go_wp2
      go_ret
      exact ⟨rfl, below_drewN (((Below.refl _ _).alloc (Nat.le_refl _) _).alloc (by simp) _) _⟩

set_option maxHeartbeats 1000000 in
theorem fixParts_walk (p0 p1 p2 : Int) (h0 : I64 p0) (h1 : I64 p1) (h2 : I64 p2) (w : World) :
    Calls Try.prog 6 #[.agg #[.int .i64 p0, .int .i64 p1], .int .i64 p2] w fun e w' => e = .returned (.bool true) ∧ Below w.heap.size w w' := by
  obtain ⟨q2, e2⟩ : ∃ q, IntKind.u64.wrap p2 = q := ⟨_, rfl⟩
  have f2 : p2 % 18446744073709551616 = q2 := by rw [← IntKind.wrap_u64]; exact e2
  have b2 : 0 ≤ q2 ∧ q2 ≤ 18446744073709551615 := by omega
  obtain ⟨b3, b4⟩ := b2
  clear f2
  obtain ⟨d, hd⟩ : ∃ d, q2 % 4611686018427387904 = d := ⟨_, rfl⟩
  have b5 : 0 ≤ d ∧ d ≤ 4611686018427387903 := by omega
  obtain ⟨b7, b8⟩ := b5
  have d1 : 1 ≤ d + 1 := by omega
  have d2 : d + 1 ≤ 4611686018427387904 := by omega
  obtain ⟨q0, e3, q3, q4, e4⟩ := num_walk p0 (d + 1) d1
  obtain ⟨q1, e5, q5, q6, e6⟩ := num_walk p1 (d + 1) d1
  obtain ⟨n1, n2⟩ := numF_bounds (n := p0) d1
  obtain ⟨m1, m2⟩ := numF_bounds (n := p1) d1
  have l1 := partn_f (numF p0 (d + 1)) (d + 1) (fineF d1 d2)
  have l2 := partn_f (numF p1 (d + 1)) (d + 1) (fineF d1 d2)
  have l3 := lerp_f 0 65536 (numF p0 (d + 1)) (d + 1) i64_lit i64_lit (fineF d1 d2)
  rw [partF_lerp] at l3
  have l4 := partn_f (d + 1 - numF p0 (d + 1)) (d + 1) (fineB_iff.2 ⟨d1, d2, by omega, by omega⟩)
  obtain ⟨x1, x2⟩ := partF_bounds (fineF (n := p0) d1 d2)
  obtain ⟨y1, y2⟩ := partF_bounds (fineF (n := p1) d1 d2)
  have z := partF_bounds (num := d + 1 - numF p0 (d + 1)) (den := d + 1) (fineB_iff.2 ⟨d1, d2, by omega, by omega⟩)
  obtain ⟨z1, z2⟩ := z
  have r := part_rest (a := numF p0 (d + 1)) (den := d + 1) (by omega)
  have up1 : numF p0 (d + 1) ≤ numF p1 (d + 1) → partF (numF p0 (d + 1)) (d + 1) ≤ partF (numF p1 (d + 1)) (d + 1) := fun h => part_mono (n := 65536) (by omega) (by omega) h
  have up2 : numF p1 (d + 1) ≤ numF p0 (d + 1) → partF (numF p1 (d + 1)) (d + 1) ≤ partF (numF p0 (d + 1)) (d + 1) := fun h => part_mono (n := 65536) (by omega) (by omega) h
  generalize numF p0 (d + 1) = n at *
  generalize numF p1 (d + 1) = m at *
  generalize partF n (d + 1) = x at *
  generalize partF m (d + 1) = y at *
  generalize partF (d + 1 - n) (d + 1) = v at *
  have hr : (x + v == 65536) = true ∨ (x + v == 65536) = false ∧ (x + v == 65535) = true := by
    rcases r with h | h
    · left; simp; omega
    · right; simp; omega
  clear r
  by_cases hnm : n ≤ m
  · have o := up1 hnm
    clear up1 up2
    rcases hr with hr | ⟨hr1, hr2⟩
    all_goals
      go_enter Try.func6, Try.ntmps6
      go_wp2_with fail
      go_quiet (fail)
      go_wp2_with fail
      refine (l1 _).mono ?_; rintro e w' ⟨rfl, kd31, rfl⟩
      go_wp2_with fail
      refine (l2 _).mono ?_; rintro e w' ⟨rfl, kd32, rfl⟩
      go_wp2_with fail
      refine (l3 _).mono ?_; rintro e w' ⟨rfl, kd33, rfl⟩
      go_wp2_with fail
      refine (l4 _).mono ?_; rintro e w' ⟨rfl, kd34, rfl⟩
      go_wp2_with fail
      refine (alive_f _).mono ?_; rintro e w' ⟨rfl, kd35, rfl⟩
      go_wp2
      go_ret
      exact ⟨rfl, below_drewN ((Below.refl _ _).alloc (Nat.le_refl _) _) _⟩
  · have o := up2 (by omega)
    clear up1 up2
    rcases hr with hr | ⟨hr1, hr2⟩
    all_goals
      go_enter Try.func6, Try.ntmps6
      go_wp2_with fail
      go_quiet (fail)
      go_wp2_with fail
      refine (l1 _).mono ?_; rintro e w' ⟨rfl, kd36, rfl⟩
      go_wp2_with fail
      refine (l2 _).mono ?_; rintro e w' ⟨rfl, kd37, rfl⟩
      go_wp2_with fail
      refine (l3 _).mono ?_; rintro e w' ⟨rfl, kd38, rfl⟩
      go_wp2_with fail
      refine (l4 _).mono ?_; rintro e w' ⟨rfl, kd39, rfl⟩
      go_wp2_with fail
      refine (alive_f _).mono ?_; rintro e w' ⟨rfl, kd40, rfl⟩
      go_wp2
      go_ret
      exact ⟨rfl, below_drewN ((Below.refl _ _).alloc (Nat.le_refl _) _) _⟩

end Go.Proofs.Ytikihmhbdggbnaa
