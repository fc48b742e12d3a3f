/- Plain laws of the numbers of the game. -/
import Derived.Test.YtobphhbmlhjbcaaNum
namespace Go.Proofs.Ytobphhbmlhjbcaa
set_option linter.unusedVariables false
set_option linter.unusedSimpArgs false

theorem sat_mono {x y : Int} (h : x ≤ y) : sat x ≤ sat y := by unfold sat; omega
theorem addF_comm (a b : Int) : addF a b = addF b a := by unfold addF; rw [Int.add_comm]
theorem mulF_comm (a b : Int) : mulF a b = mulF b a := by unfold mulF; rw [Int.mul_comm]
theorem addF_zero {a : Int} (h : I64 a) : addF a 0 = a := by unfold addF; rw [Int.add_zero, sat_of h]
theorem mulF_one {a : Int} (h : I64 a) : mulF a 65536 = a := by unfold mulF; rw [Int.mul_ediv_cancel _ (by decide), sat_of h]
theorem divF_one {a : Int} (h : I64 a) : divF a 65536 = a := by
  unfold divF; rw [if_neg (by decide), if_pos (by decide), Int.mul_ediv_cancel _ (by decide), sat_of h]
theorem subF_self (a : Int) : subF a a = 0 := by unfold subF sat; omega
theorem mulF_zero (a : Int) : mulF a 0 = 0 := by unfold mulF; rw [Int.mul_zero]; decide
theorem sub_add_back {a b : Int} (ha : I64 a) (h1 : subF a b ≠ 9223372036854775807) (h2 : subF a b ≠ -9223372036854775808) : addF (subF a b) b = a := by
  unfold I64 addF subF sat at *; omega
theorem neg_neg_back {a : Int} (ha : I64 a) (h : a ≠ -9223372036854775808) : negF (negF a) = a := by
  unfold I64 negF sat at *; omega

theorem addF_mono {a b c : Int} (h : a ≤ b) : addF a c ≤ addF b c := sat_mono (by omega)
theorem subF_mono {a b c : Int} (h : a ≤ b) : subF a c ≤ subF b c := sat_mono (by omega)
theorem mulF_mono {a b k : Int} (h : a ≤ b) (hk : 0 ≤ k) : mulF a k ≤ mulF b k :=
  sat_mono (Int.ediv_le_ediv (by decide) (Int.mul_le_mul_of_nonneg_right h hk))
theorem divF_mono {a b k : Int} (h : a ≤ b) (hk : 0 < k) : divF a k ≤ divF b k := by
  unfold divF; rw [if_neg (by omega), if_pos hk, if_neg (by omega), if_pos hk]
  exact sat_mono (Int.ediv_le_ediv hk (by omega))

theorem clampF_between {x a b : Int} : min a b ≤ clampF x a b ∧ clampF x a b ≤ max a b := by unfold clampF; omega
theorem clampF_again {x a b : Int} : clampF (clampF x a b) b a = clampF x a b := by unfold clampF; omega

theorem prod32 {x y : Int} (hx : -2147483648 ≤ x) (hx' : x ≤ 2147483648) (hy : -4294967296 ≤ y) (hy' : y ≤ 4294967296) : -9223372036854775808 ≤ x * y ∧ x * y ≤ 9223372036854775808 := by
  have h1 : x.natAbs * y.natAbs ≤ 2147483648 * 4294967296 := Nat.mul_le_mul (by omega) (by omega)
  rw [← Int.natAbs_mul] at h1
  omega

theorem mul_small {x y : Int} (hx : -2147483648 ≤ x) (hx' : x ≤ 2147483648) (hy : -4294967296 ≤ y) (hy' : y ≤ 4294967296) : mulF x y = x * y / 65536 := by
  have := prod32 hx hx' hy hy'
  unfold mulF sat; omega

theorem turn_mul {x y : Int} (hx : -2147483648 ≤ x) (hx' : x ≤ 2147483648) (hy : -4294967296 ≤ y) (hy' : y ≤ 4294967296) :
    (mulF x y + mulF (-x) y = 0 ∨ mulF x y + mulF (-x) y = -1) ∧ mulF (-x) (-y) = mulF x y ∧ -140737488355328 ≤ mulF x y ∧ mulF x y ≤ 140737488355328 ∧ -140737488355328 ≤ mulF (-x) y ∧ mulF (-x) y ≤ 140737488355328 := by
  have hp := prod32 hx hx' hy hy'
  rw [mul_small hx hx' hy hy', mul_small (x := -x) (by omega) (by omega) hy hy', mul_small (x := -x) (y := -y) (by omega) (by omega) (by omega) (by omega), Int.neg_mul_neg, Int.neg_mul]
  omega

theorem divF_small {x y : Int} (hx : -2147483648 ≤ x) (hx' : x ≤ 2147483648) (hy : 0 < y) : divF x y = x * 65536 / y ∧ -140737488355328 ≤ x * 65536 / y ∧ x * 65536 / y ≤ 140737488355328 := by
  have h2 := ediv_mul_bounds (x * 65536) y hy
  have h3 : x * 65536 / y ≤ 140737488355328 := by
    have : x * 65536 / y < 140737488355329 := (Int.ediv_lt_iff_lt_mul hy).2 (by omega)
    omega
  have h4 : -140737488355328 ≤ x * 65536 / y := (Int.le_ediv_iff_mul_le hy).2 (by omega)
  refine ⟨?_, h4, h3⟩
  unfold divF sat
  rw [if_neg (by omega), if_pos hy]
  omega

theorem divF_neg (x y : Int) (hy : y ≠ 0) : divF (-x) (-y) = divF x y := by
  unfold divF
  rw [if_neg (by omega), if_neg hy]
  rcases Int.lt_or_le 0 y with h | h
  · rw [if_neg (by omega), if_pos h, Int.neg_neg, Int.neg_neg]
  · rw [if_pos (by omega), if_neg (by omega)]

theorem floor_turn (n d : Int) (hd : 0 < d) : n / d + (-n) / d = 0 ∨ n / d + (-n) / d = -1 := by
  have h1 := ediv_mul_bounds n d hd
  have h2 := ediv_mul_bounds (-n) d hd
  have h3 : (n / d + (-n) / d) * d ≤ 0 := by rw [Int.add_mul]; omega
  have h4 : 0 < (n / d + (-n) / d + 2) * d := by rw [Int.add_mul, Int.add_mul]; omega
  generalize n / d + (-n) / d = s at *
  rcases Int.lt_or_le 0 s with h | h
  · have := Int.mul_pos h hd; omega
  · rcases Int.lt_or_le s (-1) with h' | h'
    · have : (s + 2) * d ≤ 0 := Int.mul_nonpos_of_nonpos_of_nonneg (by omega) (by omega)
      omega
    · omega

theorem turn_div {x y : Int} (hx : -2147483648 ≤ x) (hx' : x ≤ 2147483648) (hy : y ≠ 0) :
    (divF x y + divF x (-y) = 0 ∨ divF x y + divF x (-y) = -1) ∧ -140737488355328 ≤ divF x y ∧ divF x y ≤ 140737488355328 ∧ -140737488355328 ≤ divF x (-y) ∧ divF x (-y) ≤ 140737488355328 := by
  rcases Int.lt_or_le 0 y with h | h
  · obtain ⟨e1, l1, u1⟩ := divF_small (x := x) (y := y) hx hx' h
    obtain ⟨e2, l2, u2⟩ := divF_small (x := -x) (y := y) (by omega) (by omega) h
    have e3 : divF x (-y) = divF (-x) y := by have := divF_neg (-x) y hy; rwa [Int.neg_neg] at this
    rw [e3, e1, e2]
    have := floor_turn (x * 65536) y h
    rw [← Int.neg_mul] at this
    exact ⟨this, l1, u1, l2, u2⟩
  · obtain ⟨e1, l1, u1⟩ := divF_small (x := x) (y := -y) hx hx' (by omega)
    obtain ⟨e2, l2, u2⟩ := divF_small (x := -x) (y := -y) (by omega) (by omega) (by omega)
    have e3 : divF x y = divF (-x) (-y) := (divF_neg x y hy).symm
    rw [e3, e1, e2]
    have := floor_turn (x * 65536) (-y) (by omega)
    rw [← Int.neg_mul, Int.add_comm] at this
    exact ⟨this, l2, u2, l1, u1⟩

theorem div_back {x y : Int} (hx : -2147483648 ≤ x) (hx' : x ≤ 2147483647) (hy : 0 < y) (hy' : y ≤ 4294967295) :
    mulF (divF x y) y ≤ x ∧ x - mulF (divF x y) y ≤ y / 65536 + 1 := by
  obtain ⟨e1, l1, u1⟩ := divF_small (x := x) (y := y) hx (by omega) hy
  have h2 := ediv_mul_bounds (x * 65536) y hy
  rw [e1]
  generalize x * 65536 / y = q at *
  unfold mulF sat
  omega

/-- a measure of whatever number -/
def denF (d : Int) : Int := d % 18446744073709551616 % 4611686018427387904 + 1
/-- a part of it -/
def numF (n den : Int) : Int := n % 18446744073709551616 % (den + 1)
theorem denF_bounds (d : Int) : 1 ≤ denF d ∧ denF d ≤ 4611686018427387904 := by unfold denF; omega
theorem numF_bounds {n den : Int} (h : 1 ≤ den) : 0 ≤ numF n den ∧ numF n den ≤ den := by
  unfold numF
  have h1 := Int.emod_nonneg (n % 18446744073709551616) (show den + 1 ≠ 0 by omega)
  have h2 := Int.emod_lt_of_pos (n % 18446744073709551616) (show 0 < den + 1 by omega)
  omega
theorem fineF {n den : Int} (h : 1 ≤ den) (h2 : den ≤ 4611686018427387904) : fineB (numF n den) den = true :=
  fineB_iff.2 ⟨h, h2, (numF_bounds h).1, (numF_bounds h).2⟩

theorem lerpF_zero (a b den : Int) : lerpF a b 0 den = a := by unfold lerpF; simp
theorem lerpF_all {a b den : Int} (h : 1 ≤ den) : lerpF a b den den = b := by
  unfold lerpF; rw [Int.mul_ediv_cancel _ (by omega)]; omega
theorem part_mono {n p q den : Int} (hn : 0 ≤ n) (hd : 0 < den) (h : p ≤ q) : n * p / den ≤ n * q / den :=
  Int.ediv_le_ediv hd (Int.mul_le_mul_of_nonneg_left h hn)
theorem part_anti {n p q den : Int} (hn : n ≤ 0) (hd : 0 < den) (h : p ≤ q) : n * q / den ≤ n * p / den :=
  Int.ediv_le_ediv hd (Int.mul_le_mul_of_nonpos_left hn h)
theorem lerpF_up {a b p q den : Int} (hab : a ≤ b) (hd : 0 < den) (h : p ≤ q) : lerpF a b p den ≤ lerpF a b q den := by
  unfold lerpF; have := part_mono (n := b - a) (by omega) hd h; omega
theorem lerpF_down {a b p q den : Int} (hab : b ≤ a) (hd : 0 < den) (h : p ≤ q) : lerpF a b q den ≤ lerpF a b p den := by
  unfold lerpF; have := part_anti (n := b - a) (by omega) hd h; omega

theorem part_rest {a den : Int} (hd : 0 < den) : partF a den + partF (den - a) den = 65536 ∨ partF a den + partF (den - a) den = 65535 := by
  have h := floor_turn (65536 * a) den hd
  unfold partF
  rw [Int.mul_sub, show 65536 * den - 65536 * a = -(65536 * a) + 65536 * den by omega, Int.add_mul_ediv_right _ _ (by omega)]
  omega
theorem partF_lerp (a den : Int) : lerpF 0 65536 a den = partF a den := by unfold lerpF partF; simp
end Go.Proofs.Ytobphhbmlhjbcaa
