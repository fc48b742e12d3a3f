/- Two laws of layer 3 with a function of their own, walked: each returns true. -/
import Derived.Test.YtfhpadbfaacneaaLaw03
namespace Go.Proofs.Ytfhpadbfaacneaa
set_option linter.unusedVariables false
set_option linter.unusedSimpArgs false
open Go.RowKit

theorem size1_f (d : Int) (h : -32768 ≤ d) (h2 : d ≤ 32768) (w : World) :
    Calls Try.prog 20 #[.int .i64 d] w fun e w' => e = .returned (.int .i64 (max d (-d))) ∧ w = w' := by
  go_enter Try.func20, Try.ntmps20
  go_wp2
  all_goals
    go_ret
    refine ⟨ret_int ?_, rfl⟩
    try omega

theorem size2_f (d : Int) (h : -32768 ≤ d) (h2 : d ≤ 32768) (w : World) :
    Calls Try.prog 21 #[.int .i64 d] w fun e w' => e = .returned (.int .i64 (max d (-d))) ∧ w = w' := by
  go_enter Try.func21, Try.ntmps21
  go_wp2
  all_goals
    go_ret
    refine ⟨ret_int ?_, rfl⟩
    try omega

theorem angleShort_walk (x a b : Int) (hx : U16 x) (ha : U16 a) (hb : U16 b) (w : World) :
    Calls Try.prog 8 #[.int .u16 x, .int .u16 a, .int .u16 b] w fun e w' => e = .returned (.bool true) ∧ Below w.heap.size w w' := by
  have h1 := betw_f x a b hx ha hb
  cases hB : betwF x a b
  · rw [hB] at h1
    have n1 : (x != a) = true := by
      rw [bne_iff_ne]; intro h; rw [h, betw_first] at hB; exact absurd hB (by decide)
    have n2 : (x != b) = true := by
      rw [bne_iff_ne]; intro h; rw [h, betw_last] at hB; exact absurd hB (by decide)
    clear hB
    go_enter Try.func8, Try.ntmps8
    go_wp2_with fail
    refine (h1 _).mono ?_; rintro e w' ⟨rfl, rfl⟩
    go_wp2_with fail
    refine (alive_f _).mono ?_; rintro e w' ⟨rfl, kd2, rfl⟩
    go_wp2
    go_ret
    exact ⟨rfl, below_dr _ _⟩
  · rw [hB] at h1
    obtain ⟨c1, c2⟩ := betw_true hB
    clear hB
    have d1 := diff_f a x ha hx
    have d2 := diff_f a b ha hb
    obtain ⟨e1, e2⟩ := diffF_bounds a b
    obtain ⟨e3, e4⟩ := diffF_bounds a x
    have s1 := size1_f (diffF a x) e3 (by omega)
    have s2 := size1_f (diffF a b) e1 (by omega)
    have hz := fun h => @diff_zero a x ha hx h
    have le : max (diffF a x) (-diffF a x) ≤ max (diffF a b) (-diffF a b) := by omega
    have HZ : Hid (diffF a b = 0 → x = a) := Lib.hid (fun h => hz (by omega))
    clear hz c1 c2
    generalize max (diffF a x) (-diffF a x) = p at *
    generalize max (diffF a b) (-diffF a b) = q at *
    generalize diffF a x = y at *
    generalize diffF a b = z at *
    by_cases h0 : z = 0
    · obtain rfl := HZ.out h0
      have h0' : (z != 0) = false := by simpa using h0
      clear h0
      go_enter Try.func8, Try.ntmps8
      go_wp2_with fail
      refine (h1 _).mono ?_; rintro e w' ⟨rfl, rfl⟩
      go_wp2_with fail
      refine (alive_f _).mono ?_; rintro e w' ⟨rfl, kd4, rfl⟩
      go_wp2_with fail
      refine (d1 _).mono ?_; rintro e w' ⟨rfl, rfl⟩
      go_wp2_with fail
      refine (s1 _).mono ?_; rintro e w' ⟨rfl, rfl⟩
      go_wp2_with fail
      refine (d2 _).mono ?_; rintro e w' ⟨rfl, rfl⟩
      go_wp2_with fail
      refine (s2 _).mono ?_; rintro e w' ⟨rfl, rfl⟩
      go_wp2_with fail
      refine (d2 _).mono ?_; rintro e w' ⟨rfl, rfl⟩
      go_wp2
      go_ret
      exact ⟨rfl, below_dr _ _⟩
    · have h0' : (z != 0) = true := by simpa using h0
      clear h0
      go_enter Try.func8, Try.ntmps8
      go_wp2_with fail
      refine (h1 _).mono ?_; rintro e w' ⟨rfl, rfl⟩
      go_wp2_with fail
      refine (alive_f _).mono ?_; rintro e w' ⟨rfl, kd11, rfl⟩
      go_wp2_with fail
      refine (d1 _).mono ?_; rintro e w' ⟨rfl, rfl⟩
      go_wp2_with fail
      refine (s1 _).mono ?_; rintro e w' ⟨rfl, rfl⟩
      go_wp2_with fail
      refine (d2 _).mono ?_; rintro e w' ⟨rfl, rfl⟩
      go_wp2_with fail
      refine (s2 _).mono ?_; rintro e w' ⟨rfl, rfl⟩
      go_wp2_with fail
      refine (d2 _).mono ?_; rintro e w' ⟨rfl, rfl⟩
      go_wp2
      go_ret
      exact ⟨rfl, below_dr _ _⟩

/-- what a part of whatever number comes to in the walk -/
theorem num_walk (p d : Int) (h1 : 1 ≤ d) : ∃ q, IntKind.u64.wrap p = q ∧ 0 ≤ q ∧ q ≤ 18446744073709551615 ∧ q % (d + 1) = numF p d := by
  refine ⟨p % 18446744073709551616, IntKind.wrap_u64 p, by omega, by omega, rfl⟩

theorem way_less {z p q den : Int} (hd : 0 < den) (h0 : 0 ≤ p) (h : p ≤ q) : max (lerpF 0 z p den) (-lerpF 0 z p den) ≤ max (lerpF 0 z q den) (-lerpF 0 z q den) := by
  rcases Int.le_total 0 z with hz | hz
  · have := lerpF_up (a := 0) (b := z) hz hd h
    have h2 := lerpF_up (a := 0) (b := z) hz hd h0
    rw [lerpF_zero] at h2
    omega
  · have := lerpF_down (a := 0) (b := z) hz hd h
    have h2 := lerpF_down (a := 0) (b := z) hz hd h0
    rw [lerpF_zero] at h2
    omega

theorem alerpF_zero {a b den : Int} (ha : U16 a) : alerpF a b 0 den = a := by
  obtain ⟨a1, a2⟩ := ha
  unfold alerpF; rw [lerpF_zero]; unfold turnF; omega
theorem alerpF_all {a b den : Int} (hb : U16 b) (h : 1 ≤ den) : alerpF a b den den = b := by
  unfold alerpF; rw [lerpF_all h, turn_diff hb]

set_option maxHeartbeats 1000000 in
theorem angleHalves_walk (a b p0 p1 p2 : Int) (ha : U16 a) (hb : U16 b) (h0 : I64 p0) (h1 : I64 p1) (h2 : I64 p2) (w : World) :
    Calls Try.prog 9 #[.int .u16 a, .int .u16 b, .agg #[.int .i64 p0, .int .i64 p1, .int .i64 p2]] w fun e w' => e = .returned (.bool true) ∧ Below w.heap.size w w' := by
  obtain ⟨q2, e2⟩ : ∃ q, IntKind.u64.wrap p2 = q := ⟨_, rfl⟩
  have f2 : p2 % 18446744073709551616 = q2 := by rw [← IntKind.wrap_u64]; exact e2
  have b2 : 0 ≤ q2 ∧ q2 ≤ 18446744073709551615 := by omega
  obtain ⟨b3, b4⟩ := b2
  clear f2
  obtain ⟨d, hd⟩ : ∃ d, q2 % 4611686018427387904 = d := ⟨_, rfl⟩
  have b5 : 0 ≤ d ∧ d ≤ 4611686018427387903 := by omega
  obtain ⟨b7, b8⟩ := b5
  have d1 : 1 ≤ d + 1 := by omega
  have d2 : d + 1 ≤ 4611686018427387904 := by omega
  obtain ⟨q0, e3, q3, q4, e4⟩ := num_walk p0 (d + 1) d1
  obtain ⟨q1, e5, q5, q6, e6⟩ := num_walk p1 (d + 1) d1
  obtain ⟨n1, n2⟩ := numF_bounds (n := p0) d1
  obtain ⟨m1, m2⟩ := numF_bounds (n := p1) d1
  generalize numF p0 (d + 1) = n at *
  generalize numF p1 (d + 1) = m at *
  obtain ⟨lo, hlo⟩ : ∃ lo, min n m = lo := ⟨_, rfl⟩
  obtain ⟨hi, hhi⟩ : ∃ hi, max n m = hi := ⟨_, rfl⟩
  have o1 : 0 ≤ lo := by omega
  have o2 : lo ≤ hi := by omega
  have o3 : hi ≤ d + 1 := by omega
  have g1 : fineB lo (d + 1) = true := fineB_iff.2 ⟨d1, d2, by omega, by omega⟩
  have g2 : fineB hi (d + 1) = true := fineB_iff.2 ⟨d1, d2, by omega, by omega⟩
  have l1 := alerp_f a b lo (d + 1) ha hb g1
  have l2 := alerp_f a b hi (d + 1) ha hb g2
  have l3 := alerp_f a b 0 (d + 1) ha hb (fineB_iff.2 ⟨d1, d2, by omega, by omega⟩)
  rw [alerpF_zero ha] at l3
  have l4 := alerp_f a b (d + 1) (d + 1) ha hb (fineB_iff.2 ⟨d1, d2, by omega, by omega⟩)
  rw [alerpF_all hb d1] at l4
  have v1 := diff_f a (alerpF a b lo (d + 1)) ha (alerpF_u16 _ _ _ _)
  have v2 := diff_f a (alerpF a b hi (d + 1)) ha (alerpF_u16 _ _ _ _)
  obtain ⟨u1, u2⟩ := diffF_bounds a (alerpF a b lo (d + 1))
  obtain ⟨u3, u4⟩ := diffF_bounds a (alerpF a b hi (d + 1))
  have s1 := size2_f (diffF a (alerpF a b lo (d + 1))) u1 (by omega)
  have s2 := size2_f (diffF a (alerpF a b hi (d + 1))) u3 (by omega)
  have le := way_less (z := diffF a b) (p := lo) (q := hi) (den := d + 1) (by omega) o1 o2
  rw [← alerp_diff g1, ← alerp_diff g2] at le
  have bt := betw_f (alerpF a b lo (d + 1)) a b (alerpF_u16 _ _ _ _) ha hb
  rw [alerp_betw g1] at bt
  clear g1 g2
  generalize max (diffF a (alerpF a b lo (d + 1))) (-diffF a (alerpF a b lo (d + 1))) = s at *
  generalize max (diffF a (alerpF a b hi (d + 1))) (-diffF a (alerpF a b hi (d + 1))) = t at *
  generalize diffF a (alerpF a b lo (d + 1)) = da at *
  generalize diffF a (alerpF a b hi (d + 1)) = db at *
  generalize alerpF a b lo (d + 1) = x at *
  generalize alerpF a b hi (d + 1) = y at *
  go_enter Try.func9, Try.ntmps9
  go_wp2_with fail
  go_quiet (fail)
  go_wp2_with fail
  refine (l1 _).mono ?_; rintro e w' ⟨rfl, kd17, rfl⟩
  go_wp2_with fail
  refine (l2 _).mono ?_; rintro e w' ⟨rfl, kd18, rfl⟩
  go_wp2_with fail
  refine (l3 _).mono ?_; rintro e w' ⟨rfl, kd19, rfl⟩
  go_wp2_with fail
  refine (l4 _).mono ?_; rintro e w' ⟨rfl, kd20, rfl⟩
  go_wp2_with fail
  refine (alive_f _).mono ?_; rintro e w' ⟨rfl, kd21, rfl⟩
  go_wp2_with fail
  refine (v1 _).mono ?_; rintro e w' ⟨rfl, rfl⟩
  go_wp2_with fail
  refine (s1 _).mono ?_; rintro e w' ⟨rfl, rfl⟩
  go_wp2_with fail
  refine (v2 _).mono ?_; rintro e w' ⟨rfl, rfl⟩
  go_wp2_with fail
  refine (s2 _).mono ?_; rintro e w' ⟨rfl, rfl⟩
  go_wp2_with fail
  refine (bt _).mono ?_; rintro e w' ⟨rfl, rfl⟩
  go_wp2
  go_ret
  exact ⟨rfl, below_drewN ((Below.refl _ _).alloc (Nat.le_refl _) _) _⟩

end Go.Proofs.Ytfhpadbfaacneaa
