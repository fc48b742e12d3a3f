/- The walks of package fix that multiply and divide: each call comes to the number that Num.lean names; of the world no more than draws. -/
import Derived.Test.YtobphhbmlhjbcaaDiv64
namespace Go.Proofs.Ytobphhbmlhjbcaa
set_option linter.unusedVariables false
set_option linter.unusedSimpArgs false
open Go.RowKit

theorem abs_i64 {a : Int} (h : I64 a) : U64 (a.natAbs : Int) := by unfold I64 at h; unfold U64; omega

theorem sign_mul (a b : Int) : a * b = if decide (a < 0) = decide (b < 0) then (a.natAbs : Int) * (b.natAbs : Int) else -((a.natAbs : Int) * (b.natAbs : Int)) := by
  rcases Int.lt_or_le a 0 with ha | ha <;> rcases Int.lt_or_le b 0 with hb | hb
  · rw [show (a.natAbs : Int) = -a by omega, show (b.natAbs : Int) = -b by omega]
    simp [ha, hb, Int.neg_mul, Int.mul_neg]
  · rw [show (a.natAbs : Int) = -a by omega, show (b.natAbs : Int) = b by omega]
    simp [ha, Int.not_lt.2 hb, Int.neg_mul]
  · rw [show (a.natAbs : Int) = a by omega, show (b.natAbs : Int) = -b by omega]
    simp [hb, Int.not_lt.2 ha, Int.mul_neg]
  · rw [show (a.natAbs : Int) = a by omega, show (b.natAbs : Int) = b by omega]
    simp [Int.not_lt.2 ha, Int.not_lt.2 hb]

theorem or48 (h l : Int) (h0 : 0 ≤ h) (h1 : h < 65536) (l0 : 0 ≤ l) (l1 : l < 18446744073709551616) :
    bits .or .u64 (IntKind.u64.wrap (h * 281474976710656)) (l / 65536) = h * 281474976710656 + l / 65536 := by
  obtain ⟨h, rfl⟩ := Int.eq_ofNat_of_zero_le h0
  obtain ⟨l, rfl⟩ := Int.eq_ofNat_of_zero_le l0
  rw [show (h : Int) * 281474976710656 = ((h * 281474976710656 : Nat) : Int) by omega, M64.wrapN _ (by omega), show (l : Int) / 65536 = ((l / 65536 : Nat) : Int) by omega,
    bits_or_u64_nat _ _ (by omega) (by omega)]
  have := nat_or h (l / 65536) 48 (by omega)
  rw [show (2 : Nat) ^ 48 = 281474976710656 from rfl] at this
  rw [this]
  omega

theorem mul_stop {a b P : Int} (hP : (a.natAbs : Int) * (b.natAbs : Int) = P) (h0 : 0 ≤ P) (h : (P / 18446744073709551616 / 65536 != 0) = true) :
    stopF (!decide (a < 0) == decide (b < 0)) = mulF a b := by
  have h' : P / 18446744073709551616 / 65536 ≠ 0 := by simpa using h
  unfold mulF sat stopF
  rw [sign_mul a b, hP]
  by_cases c : decide (a < 0) = decide (b < 0)
  · rw [if_pos c, c]; simp; omega
  · rw [if_neg c]
    have : (!decide (a < 0) == decide (b < 0)) = true := by
      cases h1 : decide (a < 0) <;> cases h2 : decide (b < 0) <;> simp_all
    rw [if_pos this]; omega

theorem mul_go {a b P : Int} (hP : (a.natAbs : Int) * (b.natAbs : Int) = P) (h0 : 0 ≤ P) (h : (P / 18446744073709551616 / 65536 != 0) = false) :
    floorF (bits .or .u64 (IntKind.u64.wrap (P / 18446744073709551616 * 281474976710656)) (P % 18446744073709551616 / 65536)) (IntKind.u64.wrap (P % 18446744073709551616 * 281474976710656) != 0) (!decide (a < 0) == decide (b < 0)) = mulF a b ∧
      U64 (bits .or .u64 (IntKind.u64.wrap (P / 18446744073709551616 * 281474976710656)) (P % 18446744073709551616 / 65536)) := by
  have h' : P / 18446744073709551616 / 65536 = 0 := by simpa using h
  rw [or48 _ _ (by omega) (by omega) (by omega) (by omega)]
  refine ⟨?_, by unfold U64; omega⟩
  have hm : (IntKind.u64.wrap (P % 18446744073709551616 * 281474976710656) != 0) = decide (P % 65536 ≠ 0) := by
    rw [IntKind.wrap_u64, Bool.eq_iff_iff]
    simp only [bne_iff_ne, ne_eq, decide_eq_true_eq]
    omega
  rw [hm]
  unfold floorF mulF
  rw [sign_mul a b, hP]
  by_cases c : decide (a < 0) = decide (b < 0)
  · have : (!decide (a < 0) == decide (b < 0)) = false := by rw [c]; simp
    rw [if_pos c, this, if_neg (by simp)]
    congr 1; omega
  · have : (!decide (a < 0) == decide (b < 0)) = true := by
      cases h1 : decide (a < 0) <;> cases h2 : decide (b < 0) <;> simp_all
    rw [if_neg c, this, if_pos rfl]
    congr 1
    by_cases d : P % 65536 ≠ 0
    · rw [if_pos (by simpa using d)]; omega
    · rw [if_neg (by simpa using d)]; omega

theorem mul_f (a b : Int) (ha0 : I64 a) (hb0 : I64 b) (w : World) :
    Calls Try.prog 67 #[.int .i64 a, .int .i64 b] w fun e w' => e = .returned (.int .i64 (mulF a b)) ∧ w = w' := by
  have ca := size_f a ha0
  have cb := size_f b hb0
  have hm := mul64_f (a.natAbs : Int) b.natAbs (abs_i64 ha0) (abs_i64 hb0)
  obtain ⟨P, hP⟩ : ∃ P, (a.natAbs : Int) * (b.natAbs : Int) = P := ⟨_, rfl⟩
  have h0 : 0 ≤ P := by rw [← hP]; exact Int.mul_nonneg (by omega) (by omega)
  have hu : P / 18446744073709551616 ≤ 18446744073709551615 := by
    have h1 := (abs_i64 ha0).2
    have h2 : (b.natAbs : Int) ≤ 18446744073709551616 := by have := (abs_i64 hb0).2; omega
    have h3 : P ≤ 18446744073709551615 * 18446744073709551616 := by rw [← hP]; exact Int.mul_le_mul h1 h2 (by omega) (by omega)
    omega
  rw [hP] at hm
  have HP := Lib.hid hP; clear hP
  go_enter Try.func67, Try.ntmps67
  go_wp2_with fail
  refine (ca _).mono ?_; rintro e w' ⟨rfl, rfl⟩
  go_wp2_with fail
  refine (cb _).mono ?_; rintro e w' ⟨rfl, rfl⟩
  go_wp2_with fail
  refine (hm _).mono ?_; rintro e w' ⟨rfl, rfl⟩
  go_wp2_with fail
  · have hc : (P / 18446744073709551616 / 65536 != 0) = true := by assumption
    refine (stop_f _ _).mono ?_; rintro e w' ⟨rfl, rfl⟩
    have HE := Lib.hid (mul_stop HP.out h0 hc)
    go_wp2
    go_ret
    exact ⟨ret_int HE.out, rfl⟩
  · have hc : (P / 18446744073709551616 / 65536 != 0) = false := by assumption
    have hg := mul_go HP.out h0 hc
    refine (floor_f _ _ _ hg.2 _).mono ?_; rintro e w' ⟨rfl, rfl⟩
    have HE := Lib.hid hg.1
    clear hg
    go_wp2
    go_ret
    exact ⟨ret_int HE.out, rfl⟩

theorem clamp_f (x a b : Int) (w : World) :
    Calls Try.prog 75 #[.int .i64 x, .int .i64 a, .int .i64 b] w fun e w' => e = .returned (.int .i64 (clampF x a b)) ∧ w = w' := by
  go_enter Try.func75, Try.ntmps75
  go_wp2_with fail
  all_goals
    refine (clamp64_f _ _ _ _).mono ?_; rintro e w' ⟨rfl, rfl⟩
    go_wp2
    all_goals
      go_ret
      refine ⟨ret_int ?_, rfl⟩
      unfold clampF
      omega

theorem neg_ediv (x d : Int) (hd : 0 < d) : (-x) / d = -(x / d + (if x % d ≠ 0 then 1 else 0)) := by
  have h1 := Int.mul_ediv_add_emod x d
  have h2 := Int.emod_nonneg x (show d ≠ 0 by omega)
  have h3 := Int.emod_lt_of_pos x hd
  rw [Int.mul_comm] at h1
  generalize x / d = q at *
  by_cases h : x % d ≠ 0
  · rw [if_pos h]
    refine ediv_eq_of hd ?_ ?_
    · rw [Int.neg_mul, Int.add_mul]; omega
    · rw [Int.neg_mul, Int.add_mul]; omega
  · rw [if_neg h]
    refine ediv_eq_of hd ?_ ?_
    · rw [Int.neg_mul, Int.add_mul]; omega
    · rw [Int.neg_mul, Int.add_mul]; omega

theorem div_wide (n : Int) (h0 : 0 ≤ n) (h1 : n ≤ 9223372036854775808) :
    n / 281474976710656 * 18446744073709551616 + IntKind.u64.wrap (n * 65536) = n * 65536 := by
  rw [IntKind.wrap_u64]; omega

theorem div_stop {a b : Int} (hb : b ≠ 0) (h : (b.natAbs : Int) ≤ a.natAbs / 281474976710656) :
    stopF (!decide (a < 0) == decide (b < 0)) = divF a b := by
  have hh : (18446744073709551616 : Int) * b.natAbs ≤ a.natAbs * 65536 := by omega
  have key : (18446744073709551616 : Int) ≤ (a.natAbs : Int) * 65536 / b.natAbs := (Int.le_ediv_iff_mul_le (by omega)).2 hh
  have key2 := neg_ediv ((a.natAbs : Int) * 65536) b.natAbs (by omega)
  generalize hq : (a.natAbs : Int) * 65536 / b.natAbs = q at *
  unfold divF
  rw [if_neg hb]
  rcases Int.lt_or_le a 0 with ha | ha <;> rcases Int.lt_or_le b 0 with hb' | hb'
  · rw [if_neg (by omega), show (-a : Int) * 65536 = a.natAbs * 65536 by omega, show (-b : Int) = b.natAbs by omega, hq]
    simp [ha, hb', stopF, sat]; omega
  · rw [if_pos (by omega), show (a : Int) * 65536 = -(a.natAbs * 65536) by omega, show ((-(↑a.natAbs * 65536)) / b : Int) = (-(↑a.natAbs * 65536)) / (b.natAbs : Int) by congr 1; omega, key2]
    simp [ha, Int.not_lt.2 hb', stopF, sat]; omega
  · rw [if_neg (by omega), show (-a : Int) * 65536 = -(a.natAbs * 65536) by omega, show (-b : Int) = b.natAbs by omega, key2]
    simp [Int.not_lt.2 ha, hb', stopF, sat]; omega
  · rw [if_pos (by omega), show (a : Int) * 65536 = a.natAbs * 65536 by omega, show ((↑a.natAbs * 65536) / b : Int) = (↑a.natAbs * 65536) / (b.natAbs : Int) by congr 1; omega, hq]
    simp [Int.not_lt.2 ha, Int.not_lt.2 hb', stopF, sat]; omega

theorem div_go {a b : Int} (hb : b ≠ 0) :
    floorF ((a.natAbs : Int) * 65536 / b.natAbs) ((a.natAbs : Int) * 65536 % b.natAbs != 0) (!decide (a < 0) == decide (b < 0)) = divF a b := by
  have key2 := neg_ediv ((a.natAbs : Int) * 65536) b.natAbs (by omega)
  have hm : ((a.natAbs : Int) * 65536 % b.natAbs != 0) = decide ((a.natAbs : Int) * 65536 % b.natAbs ≠ 0) := by
    rw [Bool.eq_iff_iff]; simp only [bne_iff_ne, ne_eq, decide_eq_true_eq]
  rw [hm]
  unfold divF
  rw [if_neg hb]
  rcases Int.lt_or_le a 0 with ha | ha <;> rcases Int.lt_or_le b 0 with hb' | hb'
  · rw [if_neg (by omega), show (-a : Int) * 65536 = a.natAbs * 65536 by omega, show (-b : Int) = b.natAbs by omega]
    simp [ha, hb', floorF]
  · rw [if_pos (by omega), show (a : Int) * 65536 = -(a.natAbs * 65536) by omega, show ((-(↑a.natAbs * 65536)) / b : Int) = (-(↑a.natAbs * 65536)) / (b.natAbs : Int) by congr 1; omega, key2]
    simp [ha, Int.not_lt.2 hb', floorF]
  · rw [if_neg (by omega), show (-a : Int) * 65536 = -(a.natAbs * 65536) by omega, show (-b : Int) = b.natAbs by omega, key2]
    simp [Int.not_lt.2 ha, hb', floorF]
  · rw [if_pos (by omega), show (a : Int) * 65536 = a.natAbs * 65536 by omega, show ((↑a.natAbs * 65536) / b : Int) = (↑a.natAbs * 65536) / (b.natAbs : Int) by congr 1; omega]
    simp [Int.not_lt.2 ha, Int.not_lt.2 hb', floorF]

/-- a part of a size: the floor, and whether a rest is left -/
theorem part_f (n num den : Int) (hn : U64 n) (h1 : 1 ≤ den) (h2 : den ≤ 4611686018427387904) (h3 : 0 ≤ num) (h4 : num ≤ den) (w : World) :
    Calls Try.prog 81 #[.int .u64 n, .int .i64 num, .int .i64 den] w fun e w' => e = .returned (.tuple #[.int .u64 (n * num / den), .bool (n * num % den != 0)]) ∧ ∃ k, w' = w.drewN k := by
  obtain ⟨n1, n2⟩ := hn
  have hm := mul64_f n num ⟨n1, n2⟩ ⟨h3, by omega⟩
  obtain ⟨P, hP⟩ : ∃ P, n * num = P := ⟨_, rfl⟩
  rw [hP] at hm ⊢
  have p0 : 0 ≤ P := by rw [← hP]; exact Int.mul_nonneg n1 h3
  have p1 : P / 18446744073709551616 < den := by
    rw [Int.ediv_lt_iff_lt_mul (by omega), ← hP]
    have : n * num ≤ 18446744073709551615 * den := Int.mul_le_mul n2 h4 h3 (by omega)
    omega
  have hd := div64_f (P / 18446744073709551616) (P % 18446744073709551616) den (by omega) p1 (by omega) (by omega) (by omega)
  rw [show P / 18446744073709551616 * 18446744073709551616 + P % 18446744073709551616 = P by omega] at hd
  clear hP
  go_enter Try.func81, Try.ntmps81
  go_wp2_with fail
  refine (hm _).mono ?_; rintro e w' ⟨rfl, rfl⟩
  go_wp2_with fail
  refine (hd _).mono ?_; rintro e w' ⟨rfl, k, rfl⟩
  go_wp2
  go_ret2
  exact ⟨rfl, k, rfl⟩

/-- what is wrong with a part -/
def chkF (num den : Int) : Int := if fineB num den then 0 else 3

theorem check_f (num den : Int) (w : World) :
    Calls Try.prog 80 #[.int .i64 num, .int .i64 den] w fun e w' => e = .returned (.int .i64 (chkF num den)) ∧ w = w' := by
  by_cases h1 : den < 1
  · have HE : Hid (chkF num den = 3) := Lib.hid (by unfold chkF fineB; rw [if_neg (by simp; omega)])
    go_enter Try.func80, Try.ntmps80
    go_wp2
    go_ret
    exact ⟨ret_int HE.out.symm, rfl⟩
  by_cases h2 : 4611686018427387904 < den
  · have HE : Hid (chkF num den = 3) := Lib.hid (by unfold chkF fineB; rw [if_neg (by simp; omega)])
    go_enter Try.func80, Try.ntmps80
    go_wp2
    go_ret
    exact ⟨ret_int HE.out.symm, rfl⟩
  have hc := clamp64_f num 0 den
  by_cases h3 : 0 ≤ num ∧ num ≤ den
  · have HE : Hid (chkF num den = 0) := Lib.hid (by unfold chkF fineB; rw [if_pos (by simp; omega)])
    rw [show min (max num 0) den = num by omega] at hc
    clear h3
    go_enter Try.func80, Try.ntmps80
    go_wp2_with fail
    refine (hc _).mono ?_; rintro e w' ⟨rfl, rfl⟩
    go_wp2
    go_ret
    exact ⟨ret_int HE.out.symm, rfl⟩
  · have HE : Hid (chkF num den = 3) := Lib.hid (by unfold chkF fineB; rw [if_neg (by simp; omega)])
    obtain ⟨c, hcc⟩ : ∃ c, min (max num 0) den = c := ⟨_, rfl⟩
    rw [hcc] at hc
    have hne : (num != c) = true := by rw [bne_iff_ne]; omega
    clear h3 hcc
    go_enter Try.func80, Try.ntmps80
    go_wp2_with fail
    refine (hc _).mono ?_; rintro e w' ⟨rfl, rfl⟩
    go_wp2
    go_ret
    exact ⟨ret_int HE.out.symm, rfl⟩

theorem lerp_bad (a b num den : Int) (h : fineB num den = false) (w : World) :
    Calls Try.prog 56 #[.int .i64 a, .int .i64 b, .int .i64 num, .int .i64 den] w fun e w' => e = .returned (.tuple #[.int .i64 0, .int .i64 3]) ∧ w = w' := by
  have hc := check_f num den
  rw [show chkF num den = 3 by unfold chkF; rw [h]; rfl] at hc
  clear h
  go_enter Try.func56, Try.ntmps56
  go_wp2_with fail
  refine (hc _).mono ?_; rintro e w' ⟨rfl, rfl⟩
  go_wp2
  go_ret2
  exact ⟨rfl, rfl⟩

theorem partn_bad (num den : Int) (h : fineB num den = false) (w : World) :
    Calls Try.prog 123 #[.int .i64 num, .int .i64 den] w fun e w' => e = .returned (.tuple #[.int .i64 0, .int .i64 3]) ∧ w = w' := by
  have hc := check_f num den
  rw [show chkF num den = 3 by unfold chkF; rw [h]; rfl] at hc
  clear h
  go_enter Try.func123, Try.ntmps123
  go_wp2_with fail
  refine (hc _).mono ?_; rintro e w' ⟨rfl, rfl⟩
  go_wp2
  go_ret2
  exact ⟨rfl, rfl⟩

theorem partn_f (num den : Int) (h : fineB num den = true) (w : World) :
    Calls Try.prog 123 #[.int .i64 num, .int .i64 den] w fun e w' => e = .returned (.tuple #[.int .i64 (partF num den), .int .i64 0]) ∧ ∃ k, w' = w.drewN k := by
  have hc := check_f num den
  rw [show chkF num den = 0 by unfold chkF; rw [h]; rfl] at hc
  obtain ⟨h1, h2, h3, h4⟩ := fineB_iff.1 h
  have hp := part_f 65536 num den (by unfold U64; omega) h1 h2 h3 h4
  obtain ⟨b1, b2⟩ := partF_bounds h
  rw [show 65536 * num / den = partF num den from rfl] at hp
  clear h
  go_enter Try.func123, Try.ntmps123
  go_wp2_with fail
  refine (hc _).mono ?_; rintro e w' ⟨rfl, rfl⟩
  go_wp2_with fail
  refine (hp _).mono ?_; rintro e w' ⟨rfl, k, rfl⟩
  go_wp2
  go_ret2
  exact ⟨rfl, k, rfl⟩

set_option maxHeartbeats 400000 in
theorem lerp_f (a b num den : Int) (ha0 : I64 a) (hb0 : I64 b) (h : fineB num den = true) (w : World) :
    Calls Try.prog 56 #[.int .i64 a, .int .i64 b, .int .i64 num, .int .i64 den] w fun e w' => e = .returned (.tuple #[.int .i64 (lerpF a b num den), .int .i64 0]) ∧ ∃ k, w' = w.drewN k := by
  have hc := check_f num den
  rw [show chkF num den = 0 by unfold chkF; rw [h]; rfl] at hc
  obtain ⟨h1, h2, h3, h4⟩ := fineB_iff.1 h
  obtain ⟨a1, a2⟩ := ha0
  obtain ⟨b1, b2⟩ := hb0
  clear h
  by_cases hab : a ≤ b
  · have hp := part_f (b - a) num den (by unfold U64; omega) h1 h2 h3 h4
    have hq := part_le (n := b - a) (num := num) (den := den) (by omega) (by omega) h3 h4
    have HE : Hid (lerpF a b num den = a + (b - a) * num / den) := Lib.hid rfl
    generalize (b - a) * num = P at *
    generalize P / den = q at *
    obtain ⟨q1, q2⟩ := hq
    go_enter Try.func56, Try.ntmps56
    go_wp2_with fail
    refine (hc _).mono ?_; rintro e w' ⟨rfl, rfl⟩
    go_wp2_with fail
    rw [show IntKind.u64.wrap (wrap64 (b - a)) = b - a by rw [IntKind.wrap_u64]; unfold wrap64; omega]
    refine (hp _).mono ?_; rintro e w' ⟨rfl, k, rfl⟩
    go_wp2
    go_ret2
    refine ⟨?_, k, rfl⟩
    rw [HE.out]
    have : wrap64 (a + wrap64 q) = a + q := by unfold wrap64; omega
    rw [← this]
    rfl
  · have hp := part_f (a - b) num den (by unfold U64; omega) h1 h2 h3 h4
    have hq := part_le (n := a - b) (num := num) (den := den) (by omega) (by omega) h3 h4
    have hr := Int.mul_ediv_add_emod ((a - b) * num) den
    have hr0 := Int.emod_nonneg ((a - b) * num) (show den ≠ 0 by omega)
    have hle : (a - b) * num ≤ (a - b) * den := Int.mul_le_mul_of_nonneg_left h4 (by omega)
    have key : (a - b) * num % den ≠ 0 → (a - b) * num / den + 1 ≤ a - b := by
      intro hne
      have : (a - b) * num / den < a - b := (Int.ediv_lt_iff_lt_mul (by omega)).2 (by
        rcases Int.lt_or_le ((a - b) * num) ((a - b) * den) with h | h
        · exact h
        · have e : (a - b) * num = (a - b) * den := by omega
          rw [e, Int.mul_emod_left] at hne
          exact absurd rfl hne)
      omega
    have HE : Hid (lerpF a b num den = a - ((a - b) * num / den + (if (a - b) * num % den ≠ 0 then 1 else 0))) := by
      refine Lib.hid ?_
      unfold lerpF
      rw [show (b - a) * num = -((a - b) * num) by rw [← Int.neg_mul]; congr 1; omega, neg_ediv _ _ (by omega)]
      omega
    clear hr hr0 hle
    generalize (a - b) * num = P at *
    generalize P / den = q at *
    obtain ⟨q1, q2⟩ := hq
    by_cases hm : P % den ≠ 0
    · have key := key hm
      have hm' : (P % den != 0) = true := by rw [bne_iff_ne]; exact hm
      rw [hm'] at hp
      have HE : Hid (lerpF a b num den = a - (q + 1)) := Lib.hid (by rw [HE.out, if_pos hm])
      clear hm hm'
      go_enter Try.func56, Try.ntmps56
      go_wp2_with fail
      refine (hc _).mono ?_; rintro e w' ⟨rfl, rfl⟩
      go_wp2_with fail
      rw [show IntKind.u64.wrap (wrap64 (a - b)) = a - b by rw [IntKind.wrap_u64]; unfold wrap64; omega]
      refine (hp _).mono ?_; rintro e w' ⟨rfl, k, rfl⟩
      go_wp2
      go_ret2
      refine ⟨?_, k, rfl⟩
      rw [HE.out]
      have : wrap64 (a - wrap64 (q + 1)) = a - (q + 1) := by unfold wrap64; omega
      rw [← this]
      rfl
    · have hm' : (P % den != 0) = false := by rw [bne_eq_false_iff_eq]; omega
      rw [hm'] at hp
      have HE : Hid (lerpF a b num den = a - q) := Lib.hid (by rw [HE.out, if_neg hm]; omega)
      clear hm hm' key
      go_enter Try.func56, Try.ntmps56
      go_wp2_with fail
      refine (hc _).mono ?_; rintro e w' ⟨rfl, rfl⟩
      go_wp2_with fail
      rw [show IntKind.u64.wrap (wrap64 (a - b)) = a - b by rw [IntKind.wrap_u64]; unfold wrap64; omega]
      refine (hp _).mono ?_; rintro e w' ⟨rfl, k, rfl⟩
      go_wp2
      go_ret2
      refine ⟨?_, k, rfl⟩
      rw [HE.out]
      have : wrap64 (a - wrap64 q) = a - q := by unfold wrap64; omega
      rw [← this]
      rfl

end Go.Proofs.Ytobphhbmlhjbcaa
