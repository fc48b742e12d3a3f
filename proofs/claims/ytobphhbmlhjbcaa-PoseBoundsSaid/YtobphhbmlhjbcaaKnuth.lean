/- The long division of 128 bits by 64, digit by digit: plain numbers alone. -/
import Derived.Test.YtobphhbmlhjbcaaNum
namespace Go.Proofs.Ytobphhbmlhjbcaa
set_option linter.unusedVariables false
set_option linter.unusedSimpArgs false

/-- a guess of a digit, with its rest: not too small, and nearly right -/
def Dig (u v y1 y0 q r : Int) : Prop :=
  q * y1 + r = u ∧ 0 ≤ r ∧ r < 4294967296 ∧ u * 4294967296 + v < (q + 1) * (y1 * 4294967296 + y0) ∧ 0 ≤ q ∧ q ≤ 4294967297
/-- the digit -/
def Got (u v y1 y0 q : Int) : Prop :=
  q * (y1 * 4294967296 + y0) ≤ u * 4294967296 + v ∧ u * 4294967296 + v < (q + 1) * (y1 * 4294967296 + y0)
/-- what the digits are of -/
structure Nm (u v y1 y0 : Int) : Prop where
  y1l : 2147483648 ≤ y1
  y1u : y1 < 4294967296
  y0l : 0 ≤ y0
  y0u : y0 < 4294967296
  vl : 0 ≤ v
  vu : v < 4294967296
  ul : 0 ≤ u
  uu : u < y1 * 4294967296 + y0

theorem dig_start {u v y1 y0 : Int} (h : Nm u v y1 y0) : Dig u v y1 y0 (u / y1) (u - u / y1 * y1) := by
  obtain ⟨a, b, c, d, e, f, g, i⟩ := h
  have h1 := ediv_mul_bounds u y1 (by omega)
  have h2 : 0 ≤ u / y1 := Int.ediv_nonneg g (by omega)
  have h3 : u / y1 ≤ 4294967297 := by
    have : u / y1 < 4294967298 := (Int.ediv_lt_iff_lt_mul (by omega)).2 (by omega)
    omega
  generalize u / y1 = q at *
  refine ⟨by omega, by omega, by omega, ?_, h2, h3⟩
  have h4 : 0 ≤ (q + 1) * y0 := Int.mul_nonneg (by omega) c
  rw [Int.mul_add, ← Int.mul_assoc, Int.add_mul q 1 y1]
  omega

theorem dig_more {u v y1 y0 q r : Int} (h : Nm u v y1 y0) (hd : Dig u v y1 y0 q r) (hc : 4294967296 ≤ q ∨ 4294967296 * r + v < q * y0) :
    u * 4294967296 + v < q * (y1 * 4294967296 + y0) ∧ 1 ≤ q := by
  obtain ⟨a, b, c, d, e, f, g, i⟩ := h
  obtain ⟨d1, d2, d3, d4, d5, d6⟩ := hd
  have key : u * 4294967296 + v < q * (y1 * 4294967296 + y0) := by
    rcases hc with hc | hc
    · have : 4294967296 * (y1 * 4294967296 + y0) ≤ q * (y1 * 4294967296 + y0) := Int.mul_le_mul_of_nonneg_right hc (by omega)
      omega
    · rw [Int.mul_add, ← Int.mul_assoc]
      omega
  refine ⟨key, ?_⟩
  rcases Int.lt_or_le q 1 with hq | hq
  · have hq0 : q = 0 := by omega
    subst hq0
    omega
  · exact hq

theorem dig_on {u v y1 y0 q r : Int} (h : Nm u v y1 y0) (hd : Dig u v y1 y0 q r) (hc : 4294967296 ≤ q ∨ 4294967296 * r + v < q * y0) (hr : r + y1 < 4294967296) :
    Dig u v y1 y0 (q - 1) (r + y1) := by
  obtain ⟨k1, k2⟩ := dig_more h hd hc
  obtain ⟨a, b, c, d, e, f, g, i⟩ := h
  obtain ⟨d1, d2, d3, d4, d5, d6⟩ := hd
  refine ⟨by rw [Int.sub_mul]; omega, by omega, by omega, ?_, by omega, by omega⟩
  rw [show q - 1 + 1 = q by omega]
  exact k1

theorem dig_break {u v y1 y0 q r : Int} (h : Nm u v y1 y0) (hd : Dig u v y1 y0 q r) (hc : 4294967296 ≤ q ∨ 4294967296 * r + v < q * y0) (hr : 4294967296 ≤ r + y1) :
    Got u v y1 y0 (q - 1) := by
  obtain ⟨k1, k2⟩ := dig_more h hd hc
  obtain ⟨a, b, c, d, e, f, g, i⟩ := h
  obtain ⟨d1, d2, d3, d4, d5, d6⟩ := hd
  refine ⟨?_, by rw [show q - 1 + 1 = q by omega]; exact k1⟩
  have h1 : (q - 1) * y0 ≤ 4294967296 * y0 := Int.mul_le_mul_of_nonneg_right (by omega) c
  rw [Int.mul_add, ← Int.mul_assoc, Int.sub_mul q 1 y1]
  omega

theorem dig_stop {u v y1 y0 q r : Int} (_h : Nm u v y1 y0) (hd : Dig u v y1 y0 q r) (hc : q * y0 ≤ 4294967296 * r + v) :
    Got u v y1 y0 q := by
  obtain ⟨d1, d2, d3, d4, d5, d6⟩ := hd
  refine ⟨?_, d4⟩
  rw [Int.mul_add, ← Int.mul_assoc]
  omega

theorem got_small {u v y1 y0 q : Int} (h : Nm u v y1 y0) (hg : Got u v y1 y0 q) : 0 ≤ q ∧ q < 4294967296 := by
  obtain ⟨a, b, c, d, e, f, g, i⟩ := h
  obtain ⟨g1, g2⟩ := hg
  constructor
  · rcases Int.lt_or_le q 0 with hq | hq
    · have : (q + 1) * (y1 * 4294967296 + y0) ≤ 0 := Int.mul_nonpos_of_nonpos_of_nonneg (by omega) (by omega)
      omega
    · exact hq
  · rcases Int.lt_or_le q 4294967296 with hq | hq
    · exact hq
    · have : 4294967296 * (y1 * 4294967296 + y0) ≤ q * (y1 * 4294967296 + y0) := Int.mul_le_mul_of_nonneg_right hq (by omega)
      omega

/-- the rest behind a digit, as the machine reckons it -/
theorem got_rest {u v y1 y0 q Y : Int} (hg : Got u v y1 y0 q) (hY : y1 * 4294967296 + y0 = Y) (hY1 : Y ≤ 18446744073709551616) :
    ((u * 4294967296 % 18446744073709551616 + v) % 18446744073709551616 - q * Y % 18446744073709551616) % 18446744073709551616 = u * 4294967296 + v - q * Y ∧ 0 ≤ u * 4294967296 + v - q * Y ∧ u * 4294967296 + v - q * Y < Y := by
  obtain ⟨g1, g2⟩ := hg
  rw [hY] at g1 g2
  rw [Int.add_mul] at g2
  generalize q * Y = p at *
  omega

end Go.Proofs.Ytobphhbmlhjbcaa
