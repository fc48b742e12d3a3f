/- The walks of the reference of layer 1, but for its two long loops. -/
import Derived.Test.YtobphhbmlhjbcaaFix2
namespace Go.Proofs.Ytobphhbmlhjbcaa
set_option linter.unusedVariables false
set_option linter.unusedSimpArgs false
open Go.RowKit

theorem ret2_int {k l : IntKind} {a b c d : Int} (h : a = c) (h2 : b = d) : Ending.returned (.tuple #[.int k a, .int l b]) = .returned (.tuple #[.int k c, .int l d]) := by rw [h, h2]

theorem rsize_f (a : Int) (ha0 : I64 a) (w : World) :
    Calls Try.prog 99 #[.int .i64 a] w fun e w' => e = .returned (.int .u64 a.natAbs) ∧ w = w' := by
  obtain ⟨ha, ha'⟩ := ha0
  go_enter Try.func99, Try.ntmps99
  go_wp2
  all_goals
    go_ret
    refine ⟨ret_int ?_, rfl⟩
    (try simp only [IntKind.wrap_u64] at *)
    omega

theorem radd_f (a b : Int) (ha0 : I64 a) (hb0 : I64 b) (w : World) :
    Calls Try.prog 86 #[.int .i64 a, .int .i64 b] w fun e w' => e = .returned (.int .i64 (addF a b)) ∧ w = w' := by
  obtain ⟨ha, ha'⟩ := ha0
  obtain ⟨hb, hb'⟩ := hb0
  go_enter Try.func86, Try.ntmps86
  go_wp2
  all_goals
    go_ret
    refine ⟨ret_int ?_, rfl⟩
    (try simp at *)
    unfold addF sat
    (try unfold wrap64 at *)
    omega

theorem rsub_f (a b : Int) (ha0 : I64 a) (hb0 : I64 b) (w : World) :
    Calls Try.prog 68 #[.int .i64 a, .int .i64 b] w fun e w' => e = .returned (.int .i64 (subF a b)) ∧ w = w' := by
  have ha1 := ha0
  obtain ⟨ha, ha'⟩ := ha0
  obtain ⟨hb, hb'⟩ := hb0
  by_cases hm : b = -9223372036854775808
  · subst hm
    go_enter Try.func68, Try.ntmps68
    go_wp2
    all_goals
      go_ret
      refine ⟨ret_int ?_, rfl⟩
      (try simp at *)
      unfold subF sat
      (try unfold wrap64 at *)
      omega
  · have c0 : (b == -9223372036854775808) = false := beq_eq_false_iff_ne.2 hm
    have hr := radd_f a (-b) ha1 (by unfold I64; omega)
    rw [show addF a (-b) = subF a b by unfold addF subF; congr 1] at hr
    have hbl : -9223372036854775807 ≤ b := by omega
    clear hm
    go_enter Try.func68, Try.ntmps68
    go_wp2_with fail
    refine (hr _).mono ?_; rintro e w' ⟨rfl, rfl⟩
    go_wp2
    go_ret
    exact ⟨rfl, rfl⟩

/-- the reference's last step -/
def signedF (n : Int) (over minus more : Bool) : Int :=
  if over then stopF minus else floorF n more minus

theorem signed_f (n : Int) (over minus more : Bool) (hn : U64 n) (w : World) :
    Calls Try.prog 100 #[.int .u64 n, .bool over, .bool minus, .bool more] w fun e w' => e = .returned (.int .i64 (signedF n over minus more)) ∧ w = w' := by
  obtain ⟨hn1, hn2⟩ := hn
  cases over <;> cases minus <;> cases more
  all_goals
    go_enter Try.func100, Try.ntmps100
    go_wp2
    all_goals
      go_ret
      refine ⟨ret_int ?_, rfl⟩
      (try simp only [beq_iff_eq, beq_eq_false_iff_ne, ne_eq] at *)
      (try simp only [IntKind.wrap_u64] at *)
      unfold signedF floorF sat stopF
      (try unfold wrap64)
      simp
      try omega

theorem times_f (x y : Int) (hx0 : U64 x) (hy0 : U64 y) (w : World) :
    Calls Try.prog 98 #[.int .u64 x, .int .u64 y] w fun e w' => e = .returned (.tuple #[.int .u64 (x * y / 18446744073709551616), .int .u64 (x * y % 18446744073709551616)]) ∧ w = w' := by
  obtain ⟨hx, hx'⟩ := hx0
  obtain ⟨hy, hy'⟩ := hy0
  obtain ⟨a, ea⟩ : ∃ a, x / 4294967296 = a := ⟨_, rfl⟩
  obtain ⟨b, eb⟩ : ∃ b, x % 4294967296 = b := ⟨_, rfl⟩
  obtain ⟨c, ec⟩ : ∃ c, y / 4294967296 = c := ⟨_, rfl⟩
  obtain ⟨d, ed⟩ : ∃ d, y % 4294967296 = d := ⟨_, rfl⟩
  have ba : 0 ≤ a ∧ a ≤ 4294967295 := by omega
  have bb : 0 ≤ b ∧ b ≤ 4294967295 := by omega
  have bc : 0 ≤ c ∧ c ≤ 4294967295 := by omega
  have bd : 0 ≤ d ∧ d ≤ 4294967295 := by omega
  have pr : ∀ {p q : Int}, 0 ≤ p ∧ p ≤ 4294967295 → 0 ≤ q ∧ q ≤ 4294967295 → 0 ≤ p * q ∧ p * q ≤ 18446744065119617025 := fun {p q} h1 h2 =>
    ⟨Int.mul_nonneg h1.1 h2.1, by have := Int.mul_le_mul h1.2 h2.2 h2.1 (by omega : (0 : Int) ≤ 4294967295); simpa using this⟩
  have ex : x * y = a * c * 18446744073709551616 + (a * d + b * c) * 4294967296 + b * d := by
    have e1 : x = a * 4294967296 + b := by omega
    have e2 : y = c * 4294967296 + d := by omega
    rw [e1, e2]; grind
  obtain ⟨p1, p2⟩ := pr ba bc
  obtain ⟨q1, q2⟩ := pr ba bd
  obtain ⟨r1, r2⟩ := pr bb bc
  obtain ⟨s1, s2⟩ := pr bb bd
  have fp : IntKind.u64.wrap (a * c) = a * c := by rw [IntKind.wrap_u64]; omega
  have fq : IntKind.u64.wrap (a * d) = a * d := by rw [IntKind.wrap_u64]; omega
  have fr : IntKind.u64.wrap (b * c) = b * c := by rw [IntKind.wrap_u64]; omega
  have fs : IntKind.u64.wrap (b * d) = b * d := by rw [IntKind.wrap_u64]; omega
  obtain ⟨p, ep⟩ : ∃ p, a * c = p := ⟨_, rfl⟩
  obtain ⟨q, eq⟩ : ∃ q, a * d = q := ⟨_, rfl⟩
  obtain ⟨r, er⟩ : ∃ r, b * c = r := ⟨_, rfl⟩
  obtain ⟨s, es⟩ : ∃ s, b * d = s := ⟨_, rfl⟩
  rw [ep] at fp p1 p2 ex
  rw [eq] at fq q1 q2 ex
  rw [er] at fr r1 r2 ex
  rw [es] at fs s1 s2 ex
  have EX := Lib.hid ex
  clear ex pr ba bb bc bd
  go_enter Try.func98, Try.ntmps98
  go_wp2
  go_ret2
  refine ⟨?_, rfl⟩
  rw [EX.out]
  clear ea eb ec ed fp fq fr fs ep eq er es
  refine ret2_int ?_ ?_
  · omega
  · omega

theorem sign_ways {a b P : Int} (hP : (a.natAbs : Int) * (b.natAbs : Int) = P) :
    ((a < 0 ↔ b < 0) → a * b = P) ∧ (¬(a < 0 ↔ b < 0) → a * b = -P) ∧ (a = 0 ∨ b = 0 → P = 0 ∧ a * b = 0) := by
  have h := sign_mul a b
  rw [hP] at h
  refine ⟨fun c => ?_, fun c => ?_, fun c => ?_⟩
  · rw [h, if_pos (by simpa using c)]
  · rw [h, if_neg (by simpa using c)]
  · refine ⟨?_, ?_⟩
    · rw [← hP, Int.mul_eq_zero]; omega
    · rw [Int.mul_eq_zero]; exact c

theorem rmul_fin {a b P : Int} {m : Bool} (h0 : 0 ≤ P) (h1 : m = true → a * b = -P) (h2 : m = false → a * b = P) :
    signedF (P % 18446744073709551616 / 65536 + P / 18446744073709551616 % 65536 * 281474976710656) (decide (65536 ≤ P / 18446744073709551616)) m (P % 65536 != 0) = mulF a b := by
  have hm : (P % 65536 != 0) = decide (P % 65536 ≠ 0) := by
    rw [Bool.eq_iff_iff]; simp only [bne_iff_ne, ne_eq, decide_eq_true_eq]
  rw [hm]
  unfold signedF floorF mulF stopF sat
  cases m
  · rw [h2 rfl]
    by_cases c : 65536 ≤ P / 18446744073709551616
    · simp [c]; omega
    · simp [c]; omega
  · rw [h1 rfl]
    by_cases c : 65536 ≤ P / 18446744073709551616
    · simp [c]; omega
    · simp [c]; omega

theorem rmul_f (a b : Int) (ha0 : I64 a) (hb0 : I64 b) (w : World) :
    Calls Try.prog 87 #[.int .i64 a, .int .i64 b] w fun e w' => e = .returned (.int .i64 (mulF a b)) ∧ w = w' := by
  have ca := rsize_f a ha0
  have cb := rsize_f b hb0
  have hm := times_f (a.natAbs : Int) b.natAbs (abs_i64 ha0) (abs_i64 hb0)
  obtain ⟨P, hP⟩ : ∃ P, (a.natAbs : Int) * (b.natAbs : Int) = P := ⟨_, rfl⟩
  have h0 : 0 ≤ P := by rw [← hP]; exact Int.mul_nonneg (by omega) (by omega)
  have hu : P / 18446744073709551616 ≤ 18446744073709551615 := by
    have h1 := (abs_i64 ha0).2
    have h2 : (b.natAbs : Int) ≤ 18446744073709551616 := by have := (abs_i64 hb0).2; omega
    have h3 : P ≤ 18446744073709551615 * 18446744073709551616 := by rw [← hP]; exact Int.mul_le_mul h1 h2 (by omega) (by omega)
    omega
  have HS := Lib.hid (sign_ways hP)
  rw [hP] at hm
  have HP := Lib.hid hP; clear hP
  by_cases a0 : a < 0
  · go_enter Try.func87, Try.ntmps87
    go_wp2_with fail
    refine (ca _).mono ?_; rintro e w' ⟨rfl, rfl⟩
    go_wp2_with fail
    refine (cb _).mono ?_; rintro e w' ⟨rfl, rfl⟩
    go_wp2_with fail
    refine (hm _).mono ?_; rintro e w' ⟨rfl, rfl⟩
    go_wp2_with fail
    all_goals
      refine (signed_f _ _ _ _ (by unfold U64; omega) _).mono ?_; rintro e w' ⟨rfl, rfl⟩
      go_wp2
      go_ret
      refine ⟨ret_int (rmul_fin h0 ?_ ?_), rfl⟩
      · intro h; have := HS.out; simp at h; try (generalize a * b = X at *; omega)
      · intro h; have := HS.out; simp at h; try (generalize a * b = X at *; omega)
  · by_cases a1 : 0 < a
    all_goals
      go_enter Try.func87, Try.ntmps87
      go_wp2_with fail
      refine (ca _).mono ?_; rintro e w' ⟨rfl, rfl⟩
      go_wp2_with fail
      refine (cb _).mono ?_; rintro e w' ⟨rfl, rfl⟩
      go_wp2_with fail
      refine (hm _).mono ?_; rintro e w' ⟨rfl, rfl⟩
      go_wp2_with fail
      all_goals
        refine (signed_f _ _ _ _ (by unfold U64; omega) _).mono ?_; rintro e w' ⟨rfl, rfl⟩
        go_wp2
        go_ret
        refine ⟨ret_int (rmul_fin h0 ?_ ?_), rfl⟩
        · intro h; have := HS.out; simp at h; try (generalize a * b = X at *; omega)
        · intro h; have := HS.out; simp at h; try (generalize a * b = X at *; omega)

/-- the first i bits of a number of 64, noughts behind them -/
def topBits (A i : Nat) : Nat := if i ≤ 64 then A / 2 ^ (64 - i) else A * 2 ^ (i - 64)

theorem topBits_zero {A : Nat} (h : A < 18446744073709551616) : topBits A 0 = 0 := by
  unfold topBits; simp; omega
theorem topBits_64 {A : Nat} : topBits A 64 = A := by
  unfold topBits; simp
theorem topBits_80 {A : Nat} : topBits A 80 = A * 65536 := by
  unfold topBits; simp
theorem topBits_succ {A i : Nat} (hi : i < 64) : topBits A (i + 1) = 2 * topBits A i + A * 2 ^ i % 18446744073709551616 / 9223372036854775808 := by
  unfold topBits
  rw [if_pos (by omega), if_pos (by omega)]
  obtain ⟨j, hj⟩ : ∃ j, j = 63 - i := ⟨_, rfl⟩
  rw [show 64 - (i + 1) = j by omega, show 64 - i = j + 1 by omega, Nat.pow_succ]
  have hp : 0 < 2 ^ j := Nat.two_pow_pos j
  have hq : 0 < 2 ^ i := Nat.two_pow_pos i
  have e1 : 2 ^ j * 2 * 2 ^ i = 18446744073709551616 := by
    rw [← Nat.pow_succ, ← Nat.pow_add, show j + 1 + i = 64 by omega]
  have e2 : 2 ^ j * 2 ^ i = 9223372036854775808 := by
    rw [← Nat.pow_add, show j + i = 63 by omega]
  have d := Nat.div_add_mod A (2 ^ j * 2)
  have m := Nat.mod_lt A (show 0 < 2 ^ j * 2 by omega)
  generalize A / (2 ^ j * 2) = t at *
  generalize A % (2 ^ j * 2) = ρ at *
  have m2 : ρ * 2 ^ i < 18446744073709551616 := by
    rw [← e1]; exact Nat.mul_lt_mul_of_pos_right m hq
  have k1 : A * 2 ^ i % 18446744073709551616 = ρ * 2 ^ i := by
    rw [← d, Nat.add_mul, Nat.mul_right_comm (2 ^ j * 2) t (2 ^ i), e1, Nat.add_comm, Nat.add_mul_mod_self_left, Nat.mod_eq_of_lt m2]
  rw [k1, ← e2, Nat.mul_div_mul_right _ _ hq, ← d, Nat.mul_assoc, Nat.mul_add_div hp]
theorem topBits_late {A i : Nat} (hi : 64 ≤ i) : topBits A (i + 1) = 2 * topBits A i := by
  unfold topBits
  rw [if_neg (by omega)]
  by_cases h : i = 64
  · subst h; simp; omega
  · rw [if_neg (by omega), show i + 1 - 64 = (i - 64) + 1 by omega, Nat.pow_succ]
    rw [← Nat.mul_assoc, Nat.mul_comm]

end Go.Proofs.Ytobphhbmlhjbcaa
