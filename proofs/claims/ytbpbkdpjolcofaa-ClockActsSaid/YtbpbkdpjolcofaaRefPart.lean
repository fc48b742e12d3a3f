/- The walks of the reference of layer 1: its part, bit by bit, and what leans on it. -/
import Derived.Test.YtbpbkdpjolcofaaRefLoops
namespace Go.Proofs.Ytbpbkdpjolcofaa
set_option linter.unusedVariables false
set_option linter.unusedSimpArgs false
open Go.RowKit

/-- the part of a size, k bits done -/
def PartI (N k : Nat) (num den n q r : Int) : Prop :=
  ∃ n0 : Nat, n = n0 ∧ n0 < 18446744073709551616 ∧ (k ≤ 64 → n0 = N * 2 ^ k % 18446744073709551616) ∧ q * den + r = topBits N k * num ∧ 0 ≤ r ∧ r < den ∧ 0 ≤ q
/-- a round's rest is being taken -/
def RestI (C den q r : Int) : Prop := q * den + r = C ∧ 0 ≤ r ∧ 0 ≤ q

theorem partI_start {N : Nat} {num den : Int} (hN : N < 18446744073709551616) (hd : 0 < den) : PartI N 0 num den N 0 0 := by
  refine ⟨N, rfl, hN, fun _ => by simp; omega, ?_, by omega, hd, by omega⟩
  rw [topBits_zero hN]; simp

theorem topBits_lt {N k : Nat} (hN : N < 18446744073709551616) (hk : k ≤ 64) : topBits N k < 18446744073709551616 := by
  unfold topBits
  rw [if_pos hk]
  exact Nat.lt_of_le_of_lt (Nat.div_le_self _ _) hN

theorem quot_small {N k : Nat} {num den q r : Int} (hN : N < 18446744073709551616) (hk : k ≤ 64) (h1 : 1 ≤ den) (h4 : num ≤ den)
    (h : q * den + r = topBits N k * num) (hr : 0 ≤ r) : q ≤ 18446744073709551615 := by
  have ht := topBits_lt hN hk
  rcases Int.lt_or_le 18446744073709551615 q with hq | hq
  · have e1 : (topBits N k : Int) * num ≤ topBits N k * den := Int.mul_le_mul_of_nonneg_left h4 (by omega)
    have e2 : 18446744073709551616 * den ≤ q * den := Int.mul_le_mul_of_nonneg_right (by omega) (by omega)
    have e3 : (topBits N k : Int) * den ≤ 18446744073709551615 * den := Int.mul_le_mul_of_nonneg_right (by omega) (by omega)
    omega
  · exact hq

theorem rest_start {N k : Nat} {num den n q r : Int} (h : PartI N k num den n q r) (hk : k < 64) :
    RestI (topBits N (k + 1) * num) den (2 * q) (2 * r + (if 9223372036854775808 ≤ n then num else 0)) ∨ num < 0 := by
  obtain ⟨n0, rfl, h1, h2, h3, h4, h5, h6⟩ := h
  rcases Int.lt_or_le num 0 with hm | hm
  · exact .inr hm
  · refine .inl ⟨?_, ?_, by omega⟩
    · obtain ⟨t1, t2, t3⟩ := top_next h2 h1
      rw [t1, if_pos hk, Int.natCast_add, Int.natCast_mul, Int.add_mul, Int.mul_assoc, Int.mul_assoc, ← h3]
      by_cases hb : 9223372036854775808 ≤ (n0 : Int)
      · rw [if_pos hb, show n0 / 9223372036854775808 = 1 by omega]; simp; omega
      · rw [if_neg hb, show n0 / 9223372036854775808 = 0 by omega]; simp; omega
    · split <;> omega

theorem rest_more {C den q r : Int} (h : RestI C den q r) (hr : den ≤ r) : RestI C den (q + 1) (r - den) := by
  obtain ⟨h1, h2, h3⟩ := h
  exact ⟨by rw [Int.add_mul]; omega, by omega, by omega⟩

theorem rest_end {N k : Nat} {num den n q r q' r' n' : Int} (h : PartI N k num den n q r) (hk : k < 64)
    (hr : RestI (topBits N (k + 1) * num) den q' r') (hd : r' < den) (hn : n' = n * 2 % 18446744073709551616) : PartI N (k + 1) num den n' q' r' := by
  obtain ⟨n0, rfl, h1, h2, h3, h4, h5, h6⟩ := h
  obtain ⟨t1, t2, t3⟩ := top_next h2 h1
  obtain ⟨r1, r2, r3⟩ := hr
  exact ⟨n0 * 2 % 18446744073709551616, by omega, by omega, fun _ => t2 hk, r1, r2, hd, r3⟩

theorem part_fin {N : Nat} {num den n q r : Int} (h : PartI N 64 num den n q r) (hd : 0 < den) :
    (N : Int) * num / den = q ∧ (N : Int) * num % den = r := by
  obtain ⟨n0, rfl, h1, h2, h3, h4, h5, h6⟩ := h
  rw [topBits_64] at h3
  have e : (N : Int) * num / den = q := ediv_eq_of hd (by omega) (by omega)
  refine ⟨e, ?_⟩
  have h8 := Int.mul_ediv_add_emod ((N : Int) * num) den
  rw [e, Int.mul_comm] at h8
  omega

theorem rclamp_f (x a b : Int) (w : World) :
    Calls Try.prog 69 #[.int .i64 x, .int .i64 a, .int .i64 b] w fun e w' => e = .returned (.int .i64 (clampF x a b)) ∧ w = w' := by
  have flat : ∀ a b : Int, a ≤ b → ∀ w : World, Calls Try.prog 69 #[.int .i64 x, .int .i64 a, .int .i64 b] w fun e w' => e = .returned (.int .i64 (clampF x a b)) ∧ w = w' := by
    intro a b hab w
    go_enter Try.func69, Try.ntmps69
    go_wp2
    all_goals
      go_ret
      refine ⟨ret_int ?_, rfl⟩
      unfold clampF
      omega
  by_cases hab : a ≤ b
  · exact flat a b hab w
  · have hf := flat b a (by omega)
    rw [show clampF x b a = clampF x a b by unfold clampF; omega] at hf
    clear flat
    go_enter Try.func69, Try.ntmps69
    go_wp2_with fail
    refine (hf _).mono ?_; rintro e w' ⟨rfl, rfl⟩
    go_wp2
    go_ret
    exact ⟨rfl, rfl⟩

end Go.Proofs.Ytbpbkdpjolcofaa
