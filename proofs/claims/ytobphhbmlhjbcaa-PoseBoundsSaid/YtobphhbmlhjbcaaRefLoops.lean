/- The walks of the reference of layer 1: what it does bit by bit comes to the same numbers. -/
import Derived.Test.YtobphhbmlhjbcaaRef01
namespace Go.Proofs.Ytobphhbmlhjbcaa
set_option linter.unusedVariables false
set_option linter.unusedSimpArgs false
open Go.RowKit

/-- the division, k bits done -/
def DivInv (A d k n q r : Nat) (over : Bool) : Prop :=
  n < 18446744073709551616 ∧ (k ≤ 64 → n = A * 2 ^ k % 18446744073709551616) ∧ r = topBits A k % d ∧ q < 18446744073709551616 ∧
    (over = false → q = topBits A k / d) ∧ (over = true → 18446744073709551616 ≤ topBits A k / d)

theorem div_split {T d b : Nat} (hd : 0 < d) (hb : b ≤ 1) :
    (d ≤ 2 * (T % d) + b → (2 * T + b) / d = 2 * (T / d) + 1 ∧ (2 * T + b) % d = 2 * (T % d) + b - d) ∧
    (2 * (T % d) + b < d → (2 * T + b) / d = 2 * (T / d) ∧ (2 * T + b) % d = 2 * (T % d) + b) := by
  have h1 := Nat.div_add_mod T d
  have h2 := Nat.mod_lt T hd
  generalize T / d = Q at *
  generalize T % d = r at *
  constructor
  · intro h
    have e : 2 * T + b = d * (2 * Q + 1) + (2 * r + b - d) := by
      rw [Nat.mul_add, ← h1, Nat.mul_left_comm d 2 Q]; omega
    rw [e, Nat.mul_add_div hd, Nat.mul_add_mod, Nat.div_eq_of_lt (by omega), Nat.mod_eq_of_lt (by omega)]
    exact ⟨by omega, rfl⟩
  · intro h
    have e : 2 * T + b = d * (2 * Q) + (2 * r + b) := by
      rw [← h1, Nat.mul_left_comm d 2 Q]; omega
    rw [e, Nat.mul_add_div hd, Nat.mul_add_mod, Nat.div_eq_of_lt (by omega), Nat.mod_eq_of_lt (by omega)]
    exact ⟨by omega, rfl⟩

theorem top_next {A k n : Nat} (hn : k ≤ 64 → n = A * 2 ^ k % 18446744073709551616) (hn1 : n < 18446744073709551616) :
    topBits A (k + 1) = 2 * topBits A k + (if k < 64 then n / 9223372036854775808 else 0) ∧ (k < 64 → n * 2 % 18446744073709551616 = A * 2 ^ (k + 1) % 18446744073709551616) ∧ (if k < 64 then n / 9223372036854775808 else 0) ≤ 1 := by
  refine ⟨?_, ?_, ?_⟩
  · by_cases h : k < 64
    · rw [if_pos h, topBits_succ h, hn (by omega)]
    · rw [if_neg h, topBits_late (by omega)]; rfl
  · intro h
    rw [hn (by omega), Nat.pow_succ, ← Nat.mul_assoc]
    omega
  · split <;> omega

theorem div_step {A d k n q r bit n' : Nat} {over : Bool} (hi : DivInv A d k n q r over) (hd : 0 < d)
    (hb : bit = if k < 64 then n / 9223372036854775808 else 0) (hn : n' = if k < 64 then n * 2 % 18446744073709551616 else n) :
    (d ≤ 2 * r + bit → DivInv A d (k + 1) n' (q * 2 % 18446744073709551616 + 1) (2 * r + bit - d) (over || decide (9223372036854775808 ≤ q))) ∧
    (2 * r + bit < d → DivInv A d (k + 1) n' (q * 2 % 18446744073709551616) (2 * r + bit) (over || decide (9223372036854775808 ≤ q))) := by
  obtain ⟨h1, h2, h3, h4, h5, h6⟩ := hi
  obtain ⟨t1, t2, t3⟩ := top_next h2 h1
  rw [← hb] at t1 t3
  obtain ⟨s1, s2⟩ := div_split (T := topBits A k) hd t3
  rw [← t1, ← h3] at s1 s2
  have hn1 : n' < 18446744073709551616 := by rw [hn]; split <;> omega
  have hn2 : k + 1 ≤ 64 → n' = A * 2 ^ (k + 1) % 18446744073709551616 := by
    intro h; rw [hn, if_pos (by omega)]; exact t2 (by omega)
  constructor
  · intro h
    obtain ⟨e1, e2⟩ := s1 h
    refine ⟨hn1, hn2, e2.symm, by omega, fun ho => ?_, fun ho => ?_⟩
    · simp only [Bool.or_eq_false_iff, decide_eq_false_iff_not] at ho
      have := h5 ho.1
      rw [e1, ← this]; omega
    · rw [e1]
      simp only [Bool.or_eq_true, decide_eq_true_eq] at ho
      cases over
      · have := h5 rfl
        have hq : 9223372036854775808 ≤ q := by simpa using ho
        omega
      · have := h6 rfl; omega
  · intro h
    obtain ⟨e1, e2⟩ := s2 h
    refine ⟨hn1, hn2, e2.symm, by omega, fun ho => ?_, fun ho => ?_⟩
    · simp only [Bool.or_eq_false_iff, decide_eq_false_iff_not] at ho
      have := h5 ho.1
      rw [e1, ← this]; omega
    · rw [e1]
      simp only [Bool.or_eq_true, decide_eq_true_eq] at ho
      cases over
      · have := h5 rfl
        have hq : 9223372036854775808 ≤ q := by simpa using ho
        omega
      · have := h6 rfl; omega

theorem rdiv_fin {a b : Int} {n q r : Nat} {over m : Bool} (hb : b ≠ 0) (hi : DivInv a.natAbs b.natAbs 80 n q r over)
    (hm : a ≠ 0 → m = (!decide (a < 0) == decide (b < 0))) (hm0 : a = 0 → m = false) :
    signedF q over m ((r : Int) != 0) = divF a b := by
  obtain ⟨h1, h2, h3, h4, h5, h6⟩ := hi
  rw [topBits_80] at h3 h5 h6
  have hg := div_go (a := a) hb
  have e1 : (a.natAbs : Int) * 65536 / b.natAbs = ((a.natAbs * 65536 / b.natAbs : Nat) : Int) := by rw [Int.natCast_ediv, Int.natCast_mul]; rfl
  have e2 : (a.natAbs : Int) * 65536 % b.natAbs = (r : Int) := by rw [h3, Int.natCast_emod, Int.natCast_mul]; rfl
  rw [e1, e2] at hg
  rw [← hg]
  by_cases ha : a = 0
  · have hr0 : r = 0 := by rw [h3, ha]; simp
    have hq0 : a.natAbs * 65536 / b.natAbs = 0 := by rw [ha]; simp
    have ho : over = false := by
      cases over
      · rfl
      · have := h6 rfl; omega
    have := h5 ho
    rw [hm0 ha, ho, hq0, hr0, this, hq0]
    unfold signedF floorF sat; simp
  · rw [← hm ha]
    unfold signedF
    cases over
    · rw [h5 rfl]; simp
    · have := h6 rfl
      simp only [if_true]
      generalize a.natAbs * 65536 / b.natAbs = Q at *
      unfold stopF floorF sat
      cases m
      · simp; omega
      · simp
        split <;> omega

theorem div_start {A d : Nat} (hA : A < 18446744073709551616) (hd : 0 < d) : DivInv A d 0 A 0 0 false := by
  have h := topBits_zero hA
  refine ⟨hA, fun _ => by simp; omega, by rw [h]; simp, by omega, fun _ => by rw [h]; simp, fun h => by simp at h⟩

/-- the same of whole numbers -/
def DivI (A d k : Nat) (n q r : Int) (over : Bool) : Prop := ∃ n0 q0 r0 : Nat, n = n0 ∧ q = q0 ∧ r = r0 ∧ DivInv A d k n0 q0 r0 over

theorem divI_bounds {A d k : Nat} {n q r : Int} {over : Bool} (h : DivI A d k n q r over) (hd : 0 < d) :
    0 ≤ n ∧ n ≤ 18446744073709551615 ∧ 0 ≤ q ∧ q ≤ 18446744073709551615 ∧ 0 ≤ r ∧ r < d := by
  obtain ⟨n0, q0, r0, rfl, rfl, rfl, h1, h2, h3, h4, h5, h6⟩ := h
  have := Nat.mod_lt (topBits A k) hd
  omega

theorem divI_yes {A d k : Nat} {n q r bit n' q' r' : Int} {over o' : Bool} (h : DivI A d k n q r over) (hd : 0 < d)
    (hb : bit = if k < 64 then n / 9223372036854775808 else 0) (hn : n' = if k < 64 then n * 2 % 18446744073709551616 else n) (hs : (d : Int) ≤ 2 * r + bit)
    (hq : q' = q * 2 % 18446744073709551616 + 1) (hr : r' = 2 * r + bit - d) (ho : o' = (over || decide (9223372036854775808 ≤ q))) : DivI A d (k + 1) n' q' r' o' := by
  obtain ⟨n0, q0, r0, rfl, rfl, rfl, hi⟩ := h
  have hs1 := (div_step (bit := if k < 64 then n0 / 9223372036854775808 else 0) (n' := if k < 64 then n0 * 2 % 18446744073709551616 else n0) hi hd rfl rfl).1 (by
    split at hb <;> split <;> omega)
  rw [show decide (9223372036854775808 ≤ q0) = decide (9223372036854775808 ≤ (q0 : Int)) by rw [decide_eq_decide]; omega, ← ho] at hs1
  refine ⟨_, _, _, ?_, ?_, ?_, hs1⟩
  · rw [hn]; split <;> omega
  · rw [hq]; omega
  · rw [hr, hb]; split at hb <;> split <;> omega

theorem divI_no {A d k : Nat} {n q r bit n' q' r' : Int} {over o' : Bool} (h : DivI A d k n q r over) (hd : 0 < d)
    (hb : bit = if k < 64 then n / 9223372036854775808 else 0) (hn : n' = if k < 64 then n * 2 % 18446744073709551616 else n) (hs : 2 * r + bit < (d : Int))
    (hq : q' = q * 2 % 18446744073709551616) (hr : r' = 2 * r + bit) (ho : o' = (over || decide (9223372036854775808 ≤ q))) : DivI A d (k + 1) n' q' r' o' := by
  obtain ⟨n0, q0, r0, rfl, rfl, rfl, hi⟩ := h
  have hs1 := (div_step (bit := if k < 64 then n0 / 9223372036854775808 else 0) (n' := if k < 64 then n0 * 2 % 18446744073709551616 else n0) hi hd rfl rfl).2 (by
    split at hb <;> split <;> omega)
  rw [show decide (9223372036854775808 ≤ q0) = decide (9223372036854775808 ≤ (q0 : Int)) by rw [decide_eq_decide]; omega, ← ho] at hs1
  refine ⟨_, _, _, ?_, ?_, ?_, hs1⟩
  · rw [hn]; split <;> omega
  · rw [hq]; omega
  · rw [hr, hb]; split at hb <;> split <;> omega

theorem divI_fin {a b n q r : Int} {over m : Bool} (hb : b ≠ 0) (h : DivI a.natAbs b.natAbs 80 n q r over)
    (hm : a ≠ 0 → m = (!decide (a < 0) == decide (b < 0))) (hm0 : a = 0 → m = false) :
    signedF q over m (r != 0) = divF a b := by
  obtain ⟨n0, q0, r0, rfl, rfl, rfl, hi⟩ := h
  exact rdiv_fin hb hi hm hm0

end Go.Proofs.Ytobphhbmlhjbcaa
