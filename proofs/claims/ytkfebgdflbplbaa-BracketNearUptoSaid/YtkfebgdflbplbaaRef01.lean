/- The walks of the reference of layer 1, but for its two long loops. -/
import Derived.Test.YtkfebgdflbplbaaFix2
namespace Go.Proofs.Ytkfebgdflbplbaa
set_option linter.unusedVariables false
set_option linter.unusedSimpArgs false
open Go.RowKit

theorem ret2_int {k l : IntKind} {a b c d : Int} (h : a = c) (h2 : b = d) : Ending.returned (.tuple #[.int k a, .int l b]) = .returned (.tuple #[.int k c, .int l d]) := by rw [h, h2]

theorem radd_f (a b : Int) (ha0 : I64 a) (hb0 : I64 b) (w : World) :
    Calls Try.prog 28 #[.int .i64 a, .int .i64 b] w fun e w' => e = .returned (.int .i64 (addF a b)) ∧ w = w' := by
  obtain ⟨ha, ha'⟩ := ha0
  obtain ⟨hb, hb'⟩ := hb0
  go_enter Try.func28, Try.ntmps28
  go_wp2
  all_goals
    go_ret
    refine ⟨ret_int ?_, rfl⟩
    (try simp at *)
    unfold addF sat
    (try unfold wrap64 at *)
    omega

theorem rsub_f (a b : Int) (ha0 : I64 a) (hb0 : I64 b) (w : World) :
    Calls Try.prog 23 #[.int .i64 a, .int .i64 b] w fun e w' => e = .returned (.int .i64 (subF a b)) ∧ w = w' := by
  have ha1 := ha0
  obtain ⟨ha, ha'⟩ := ha0
  obtain ⟨hb, hb'⟩ := hb0
  by_cases hm : b = -9223372036854775808
  · subst hm
    go_enter Try.func23, Try.ntmps23
    go_wp2
    all_goals
      go_ret
      refine ⟨ret_int ?_, rfl⟩
      (try simp at *)
      unfold subF sat
      (try unfold wrap64 at *)
      omega
  · have c0 : (b == -9223372036854775808) = false := beq_eq_false_iff_ne.2 hm
    have hr := radd_f a (-b) ha1 (by unfold I64; omega)
    rw [show addF a (-b) = subF a b by unfold addF subF; congr 1] at hr
    have hbl : -9223372036854775807 ≤ b := by omega
    clear hm
    go_enter Try.func23, Try.ntmps23
    go_wp2_with fail
    refine (hr _).mono ?_; rintro e w' ⟨rfl, rfl⟩
    go_wp2
    go_ret
    exact ⟨rfl, rfl⟩

/-- the reference's last step -/
def signedF (n : Int) (over minus more : Bool) : Int :=
  if over then stopF minus else floorF n more minus

theorem sign_ways {a b P : Int} (hP : (a.natAbs : Int) * (b.natAbs : Int) = P) :
    ((a < 0 ↔ b < 0) → a * b = P) ∧ (¬(a < 0 ↔ b < 0) → a * b = -P) ∧ (a = 0 ∨ b = 0 → P = 0 ∧ a * b = 0) := by
  have h := sign_mul a b
  rw [hP] at h
  refine ⟨fun c => ?_, fun c => ?_, fun c => ?_⟩
  · rw [h, if_pos (by simpa using c)]
  · rw [h, if_neg (by simpa using c)]
  · refine ⟨?_, ?_⟩
    · rw [← hP, Int.mul_eq_zero]; omega
    · rw [Int.mul_eq_zero]; exact c

theorem rmul_fin {a b P : Int} {m : Bool} (h0 : 0 ≤ P) (h1 : m = true → a * b = -P) (h2 : m = false → a * b = P) :
    signedF (P % 18446744073709551616 / 65536 + P / 18446744073709551616 % 65536 * 281474976710656) (decide (65536 ≤ P / 18446744073709551616)) m (P % 65536 != 0) = mulF a b := by
  have hm : (P % 65536 != 0) = decide (P % 65536 ≠ 0) := by
    rw [Bool.eq_iff_iff]; simp only [bne_iff_ne, ne_eq, decide_eq_true_eq]
  rw [hm]
  unfold signedF floorF mulF stopF sat
  cases m
  · rw [h2 rfl]
    by_cases c : 65536 ≤ P / 18446744073709551616
    · simp [c]; omega
    · simp [c]; omega
  · rw [h1 rfl]
    by_cases c : 65536 ≤ P / 18446744073709551616
    · simp [c]; omega
    · simp [c]; omega

/-- the first i bits of a number of 64, noughts behind them -/
def topBits (A i : Nat) : Nat := if i ≤ 64 then A / 2 ^ (64 - i) else A * 2 ^ (i - 64)

theorem topBits_zero {A : Nat} (h : A < 18446744073709551616) : topBits A 0 = 0 := by
  unfold topBits; simp; omega
theorem topBits_64 {A : Nat} : topBits A 64 = A := by
  unfold topBits; simp
theorem topBits_80 {A : Nat} : topBits A 80 = A * 65536 := by
  unfold topBits; simp
theorem topBits_succ {A i : Nat} (hi : i < 64) : topBits A (i + 1) = 2 * topBits A i + A * 2 ^ i % 18446744073709551616 / 9223372036854775808 := by
  unfold topBits
  rw [if_pos (by omega), if_pos (by omega)]
  obtain ⟨j, hj⟩ : ∃ j, j = 63 - i := ⟨_, rfl⟩
  rw [show 64 - (i + 1) = j by omega, show 64 - i = j + 1 by omega, Nat.pow_succ]
  have hp : 0 < 2 ^ j := Nat.two_pow_pos j
  have hq : 0 < 2 ^ i := Nat.two_pow_pos i
  have e1 : 2 ^ j * 2 * 2 ^ i = 18446744073709551616 := by
    rw [← Nat.pow_succ, ← Nat.pow_add, show j + 1 + i = 64 by omega]
  have e2 : 2 ^ j * 2 ^ i = 9223372036854775808 := by
    rw [← Nat.pow_add, show j + i = 63 by omega]
  have d := Nat.div_add_mod A (2 ^ j * 2)
  have m := Nat.mod_lt A (show 0 < 2 ^ j * 2 by omega)
  generalize A / (2 ^ j * 2) = t at *
  generalize A % (2 ^ j * 2) = ρ at *
  have m2 : ρ * 2 ^ i < 18446744073709551616 := by
    rw [← e1]; exact Nat.mul_lt_mul_of_pos_right m hq
  have k1 : A * 2 ^ i % 18446744073709551616 = ρ * 2 ^ i := by
    rw [← d, Nat.add_mul, Nat.mul_right_comm (2 ^ j * 2) t (2 ^ i), e1, Nat.add_comm, Nat.add_mul_mod_self_left, Nat.mod_eq_of_lt m2]
  rw [k1, ← e2, Nat.mul_div_mul_right _ _ hq, ← d, Nat.mul_assoc, Nat.mul_add_div hp]
theorem topBits_late {A i : Nat} (hi : 64 ≤ i) : topBits A (i + 1) = 2 * topBits A i := by
  unfold topBits
  rw [if_neg (by omega)]
  by_cases h : i = 64
  · subst h; simp; omega
  · rw [if_neg (by omega), show i + 1 - 64 = (i - 64) + 1 by omega, Nat.pow_succ]
    rw [← Nat.mul_assoc, Nat.mul_comm]

end Go.Proofs.Ytkfebgdflbplbaa
