/- The walks of package fix that multiply and divide: each call comes to the number that Num.lean names; of the world no more than draws. -/
import Derived.Test.YtbpbkdpjolcofaaDiv64
namespace Go.Proofs.Ytbpbkdpjolcofaa
set_option linter.unusedVariables false
set_option linter.unusedSimpArgs false
open Go.RowKit

theorem abs_i64 {a : Int} (h : I64 a) : U64 (a.natAbs : Int) := by unfold I64 at h; unfold U64; omega

theorem sign_mul (a b : Int) : a * b = if decide (a < 0) = decide (b < 0) then (a.natAbs : Int) * (b.natAbs : Int) else -((a.natAbs : Int) * (b.natAbs : Int)) := by
  rcases Int.lt_or_le a 0 with ha | ha <;> rcases Int.lt_or_le b 0 with hb | hb
  · rw [show (a.natAbs : Int) = -a by omega, show (b.natAbs : Int) = -b by omega]
    simp [ha, hb, Int.neg_mul, Int.mul_neg]
  · rw [show (a.natAbs : Int) = -a by omega, show (b.natAbs : Int) = b by omega]
    simp [ha, Int.not_lt.2 hb, Int.neg_mul]
  · rw [show (a.natAbs : Int) = a by omega, show (b.natAbs : Int) = -b by omega]
    simp [hb, Int.not_lt.2 ha, Int.mul_neg]
  · rw [show (a.natAbs : Int) = a by omega, show (b.natAbs : Int) = b by omega]
    simp [Int.not_lt.2 ha, Int.not_lt.2 hb]

theorem or48 (h l : Int) (h0 : 0 ≤ h) (h1 : h < 65536) (l0 : 0 ≤ l) (l1 : l < 18446744073709551616) :
    bits .or .u64 (IntKind.u64.wrap (h * 281474976710656)) (l / 65536) = h * 281474976710656 + l / 65536 := by
  obtain ⟨h, rfl⟩ := Int.eq_ofNat_of_zero_le h0
  obtain ⟨l, rfl⟩ := Int.eq_ofNat_of_zero_le l0
  rw [show (h : Int) * 281474976710656 = ((h * 281474976710656 : Nat) : Int) by omega, M64.wrapN _ (by omega), show (l : Int) / 65536 = ((l / 65536 : Nat) : Int) by omega,
    bits_or_u64_nat _ _ (by omega) (by omega)]
  have := nat_or h (l / 65536) 48 (by omega)
  rw [show (2 : Nat) ^ 48 = 281474976710656 from rfl] at this
  rw [this]
  omega

theorem mul_stop {a b P : Int} (hP : (a.natAbs : Int) * (b.natAbs : Int) = P) (h0 : 0 ≤ P) (h : (P / 18446744073709551616 / 65536 != 0) = true) :
    stopF (!decide (a < 0) == decide (b < 0)) = mulF a b := by
  have h' : P / 18446744073709551616 / 65536 ≠ 0 := by simpa using h
  unfold mulF sat stopF
  rw [sign_mul a b, hP]
  by_cases c : decide (a < 0) = decide (b < 0)
  · rw [if_pos c, c]; simp; omega
  · rw [if_neg c]
    have : (!decide (a < 0) == decide (b < 0)) = true := by
      cases h1 : decide (a < 0) <;> cases h2 : decide (b < 0) <;> simp_all
    rw [if_pos this]; omega

theorem mul_go {a b P : Int} (hP : (a.natAbs : Int) * (b.natAbs : Int) = P) (h0 : 0 ≤ P) (h : (P / 18446744073709551616 / 65536 != 0) = false) :
    floorF (bits .or .u64 (IntKind.u64.wrap (P / 18446744073709551616 * 281474976710656)) (P % 18446744073709551616 / 65536)) (IntKind.u64.wrap (P % 18446744073709551616 * 281474976710656) != 0) (!decide (a < 0) == decide (b < 0)) = mulF a b ∧
      U64 (bits .or .u64 (IntKind.u64.wrap (P / 18446744073709551616 * 281474976710656)) (P % 18446744073709551616 / 65536)) := by
  have h' : P / 18446744073709551616 / 65536 = 0 := by simpa using h
  rw [or48 _ _ (by omega) (by omega) (by omega) (by omega)]
  refine ⟨?_, by unfold U64; omega⟩
  have hm : (IntKind.u64.wrap (P % 18446744073709551616 * 281474976710656) != 0) = decide (P % 65536 ≠ 0) := by
    rw [IntKind.wrap_u64, Bool.eq_iff_iff]
    simp only [bne_iff_ne, ne_eq, decide_eq_true_eq]
    omega
  rw [hm]
  unfold floorF mulF
  rw [sign_mul a b, hP]
  by_cases c : decide (a < 0) = decide (b < 0)
  · have : (!decide (a < 0) == decide (b < 0)) = false := by rw [c]; simp
    rw [if_pos c, this, if_neg (by simp)]
    congr 1; omega
  · have : (!decide (a < 0) == decide (b < 0)) = true := by
      cases h1 : decide (a < 0) <;> cases h2 : decide (b < 0) <;> simp_all
    rw [if_neg c, this, if_pos rfl]
    congr 1
    by_cases d : P % 65536 ≠ 0
    · rw [if_pos (by simpa using d)]; omega
    · rw [if_neg (by simpa using d)]; omega

theorem mul_f (a b : Int) (ha0 : I64 a) (hb0 : I64 b) (w : World) :
    Calls Try.prog 46 #[.int .i64 a, .int .i64 b] w fun e w' => e = .returned (.int .i64 (mulF a b)) ∧ w = w' := by
  have ca := size_f a ha0
  have cb := size_f b hb0
  have hm := mul64_f (a.natAbs : Int) b.natAbs (abs_i64 ha0) (abs_i64 hb0)
  obtain ⟨P, hP⟩ : ∃ P, (a.natAbs : Int) * (b.natAbs : Int) = P := ⟨_, rfl⟩
  have h0 : 0 ≤ P := by rw [← hP]; exact Int.mul_nonneg (by omega) (by omega)
  have hu : P / 18446744073709551616 ≤ 18446744073709551615 := by
    have h1 := (abs_i64 ha0).2
    have h2 : (b.natAbs : Int) ≤ 18446744073709551616 := by have := (abs_i64 hb0).2; omega
    have h3 : P ≤ 18446744073709551615 * 18446744073709551616 := by rw [← hP]; exact Int.mul_le_mul h1 h2 (by omega) (by omega)
    omega
  rw [hP] at hm
  have HP := Lib.hid hP; clear hP
  go_enter Try.func46, Try.ntmps46
  go_wp2_with fail
  refine (ca _).mono ?_; rintro e w' ⟨rfl, rfl⟩
  go_wp2_with fail
  refine (cb _).mono ?_; rintro e w' ⟨rfl, rfl⟩
  go_wp2_with fail
  refine (hm _).mono ?_; rintro e w' ⟨rfl, rfl⟩
  go_wp2_with fail
  · have hc : (P / 18446744073709551616 / 65536 != 0) = true := by assumption
    refine (stop_f _ _).mono ?_; rintro e w' ⟨rfl, rfl⟩
    have HE := Lib.hid (mul_stop HP.out h0 hc)
    go_wp2
    go_ret
    exact ⟨ret_int HE.out, rfl⟩
  · have hc : (P / 18446744073709551616 / 65536 != 0) = false := by assumption
    have hg := mul_go HP.out h0 hc
    refine (floor_f _ _ _ hg.2 _).mono ?_; rintro e w' ⟨rfl, rfl⟩
    have HE := Lib.hid hg.1
    clear hg
    go_wp2
    go_ret
    exact ⟨ret_int HE.out, rfl⟩

theorem clamp_f (x a b : Int) (w : World) :
    Calls Try.prog 45 #[.int .i64 x, .int .i64 a, .int .i64 b] w fun e w' => e = .returned (.int .i64 (clampF x a b)) ∧ w = w' := by
  go_enter Try.func45, Try.ntmps45
  go_wp2_with fail
  all_goals
    refine (clamp64_f _ _ _ _).mono ?_; rintro e w' ⟨rfl, rfl⟩
    go_wp2
    all_goals
      go_ret
      refine ⟨ret_int ?_, rfl⟩
      unfold clampF
      omega

theorem neg_ediv (x d : Int) (hd : 0 < d) : (-x) / d = -(x / d + (if x % d ≠ 0 then 1 else 0)) := by
  have h1 := Int.mul_ediv_add_emod x d
  have h2 := Int.emod_nonneg x (show d ≠ 0 by omega)
  have h3 := Int.emod_lt_of_pos x hd
  rw [Int.mul_comm] at h1
  generalize x / d = q at *
  by_cases h : x % d ≠ 0
  · rw [if_pos h]
    refine ediv_eq_of hd ?_ ?_
    · rw [Int.neg_mul, Int.add_mul]; omega
    · rw [Int.neg_mul, Int.add_mul]; omega
  · rw [if_neg h]
    refine ediv_eq_of hd ?_ ?_
    · rw [Int.neg_mul, Int.add_mul]; omega
    · rw [Int.neg_mul, Int.add_mul]; omega

theorem div_wide (n : Int) (h0 : 0 ≤ n) (h1 : n ≤ 9223372036854775808) :
    n / 281474976710656 * 18446744073709551616 + IntKind.u64.wrap (n * 65536) = n * 65536 := by
  rw [IntKind.wrap_u64]; omega

theorem div_stop {a b : Int} (hb : b ≠ 0) (h : (b.natAbs : Int) ≤ a.natAbs / 281474976710656) :
    stopF (!decide (a < 0) == decide (b < 0)) = divF a b := by
  have hh : (18446744073709551616 : Int) * b.natAbs ≤ a.natAbs * 65536 := by omega
  have key : (18446744073709551616 : Int) ≤ (a.natAbs : Int) * 65536 / b.natAbs := (Int.le_ediv_iff_mul_le (by omega)).2 hh
  have key2 := neg_ediv ((a.natAbs : Int) * 65536) b.natAbs (by omega)
  generalize hq : (a.natAbs : Int) * 65536 / b.natAbs = q at *
  unfold divF
  rw [if_neg hb]
  rcases Int.lt_or_le a 0 with ha | ha <;> rcases Int.lt_or_le b 0 with hb' | hb'
  · rw [if_neg (by omega), show (-a : Int) * 65536 = a.natAbs * 65536 by omega, show (-b : Int) = b.natAbs by omega, hq]
    simp [ha, hb', stopF, sat]; omega
  · rw [if_pos (by omega), show (a : Int) * 65536 = -(a.natAbs * 65536) by omega, show ((-(↑a.natAbs * 65536)) / b : Int) = (-(↑a.natAbs * 65536)) / (b.natAbs : Int) by congr 1; omega, key2]
    simp [ha, Int.not_lt.2 hb', stopF, sat]; omega
  · rw [if_neg (by omega), show (-a : Int) * 65536 = -(a.natAbs * 65536) by omega, show (-b : Int) = b.natAbs by omega, key2]
    simp [Int.not_lt.2 ha, hb', stopF, sat]; omega
  · rw [if_pos (by omega), show (a : Int) * 65536 = a.natAbs * 65536 by omega, show ((↑a.natAbs * 65536) / b : Int) = (↑a.natAbs * 65536) / (b.natAbs : Int) by congr 1; omega, hq]
    simp [Int.not_lt.2 ha, Int.not_lt.2 hb', stopF, sat]; omega

theorem div_go {a b : Int} (hb : b ≠ 0) :
    floorF ((a.natAbs : Int) * 65536 / b.natAbs) ((a.natAbs : Int) * 65536 % b.natAbs != 0) (!decide (a < 0) == decide (b < 0)) = divF a b := by
  have key2 := neg_ediv ((a.natAbs : Int) * 65536) b.natAbs (by omega)
  have hm : ((a.natAbs : Int) * 65536 % b.natAbs != 0) = decide ((a.natAbs : Int) * 65536 % b.natAbs ≠ 0) := by
    rw [Bool.eq_iff_iff]; simp only [bne_iff_ne, ne_eq, decide_eq_true_eq]
  rw [hm]
  unfold divF
  rw [if_neg hb]
  rcases Int.lt_or_le a 0 with ha | ha <;> rcases Int.lt_or_le b 0 with hb' | hb'
  · rw [if_neg (by omega), show (-a : Int) * 65536 = a.natAbs * 65536 by omega, show (-b : Int) = b.natAbs by omega]
    simp [ha, hb', floorF]
  · rw [if_pos (by omega), show (a : Int) * 65536 = -(a.natAbs * 65536) by omega, show ((-(↑a.natAbs * 65536)) / b : Int) = (-(↑a.natAbs * 65536)) / (b.natAbs : Int) by congr 1; omega, key2]
    simp [ha, Int.not_lt.2 hb', floorF]
  · rw [if_neg (by omega), show (-a : Int) * 65536 = -(a.natAbs * 65536) by omega, show (-b : Int) = b.natAbs by omega, key2]
    simp [Int.not_lt.2 ha, hb', floorF]
  · rw [if_pos (by omega), show (a : Int) * 65536 = a.natAbs * 65536 by omega, show ((↑a.natAbs * 65536) / b : Int) = (↑a.natAbs * 65536) / (b.natAbs : Int) by congr 1; omega]
    simp [Int.not_lt.2 ha, Int.not_lt.2 hb', floorF]

/-- what is wrong with a part -/
def chkF (num den : Int) : Int := if fineB num den then 0 else 3

end Go.Proofs.Ytbpbkdpjolcofaa
