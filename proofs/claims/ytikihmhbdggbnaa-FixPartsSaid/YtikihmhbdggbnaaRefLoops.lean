/- The walks of the reference of layer 1: what it does bit by bit comes to the same numbers. -/
import Derived.Test.YtikihmhbdggbnaaRef01
namespace Go.Proofs.Ytikihmhbdggbnaa
set_option linter.unusedVariables false
set_option linter.unusedSimpArgs false
open Go.RowKit

/-- the division, k bits done -/
def DivInv (A d k n q r : Nat) (over : Bool) : Prop :=
  n < 18446744073709551616 ∧ (k ≤ 64 → n = A * 2 ^ k % 18446744073709551616) ∧ r = topBits A k % d ∧ q < 18446744073709551616 ∧
    (over = false → q = topBits A k / d) ∧ (over = true → 18446744073709551616 ≤ topBits A k / d)

theorem div_split {T d b : Nat} (hd : 0 < d) (hb : b ≤ 1) :
    (d ≤ 2 * (T % d) + b → (2 * T + b) / d = 2 * (T / d) + 1 ∧ (2 * T + b) % d = 2 * (T % d) + b - d) ∧
    (2 * (T % d) + b < d → (2 * T + b) / d = 2 * (T / d) ∧ (2 * T + b) % d = 2 * (T % d) + b) := by
  have h1 := Nat.div_add_mod T d
  have h2 := Nat.mod_lt T hd
  generalize T / d = Q at *
  generalize T % d = r at *
  constructor
  · intro h
    have e : 2 * T + b = d * (2 * Q + 1) + (2 * r + b - d) := by
      rw [Nat.mul_add, ← h1, Nat.mul_left_comm d 2 Q]; omega
    rw [e, Nat.mul_add_div hd, Nat.mul_add_mod, Nat.div_eq_of_lt (by omega), Nat.mod_eq_of_lt (by omega)]
    exact ⟨by omega, rfl⟩
  · intro h
    have e : 2 * T + b = d * (2 * Q) + (2 * r + b) := by
      rw [← h1, Nat.mul_left_comm d 2 Q]; omega
    rw [e, Nat.mul_add_div hd, Nat.mul_add_mod, Nat.div_eq_of_lt (by omega), Nat.mod_eq_of_lt (by omega)]
    exact ⟨by omega, rfl⟩

theorem top_next {A k n : Nat} (hn : k ≤ 64 → n = A * 2 ^ k % 18446744073709551616) (hn1 : n < 18446744073709551616) :
    topBits A (k + 1) = 2 * topBits A k + (if k < 64 then n / 9223372036854775808 else 0) ∧ (k < 64 → n * 2 % 18446744073709551616 = A * 2 ^ (k + 1) % 18446744073709551616) ∧ (if k < 64 then n / 9223372036854775808 else 0) ≤ 1 := by
  refine ⟨?_, ?_, ?_⟩
  · by_cases h : k < 64
    · rw [if_pos h, topBits_succ h, hn (by omega)]
    · rw [if_neg h, topBits_late (by omega)]; rfl
  · intro h
    rw [hn (by omega), Nat.pow_succ, ← Nat.mul_assoc]
    omega
  · split <;> omega

theorem div_step {A d k n q r bit n' : Nat} {over : Bool} (hi : DivInv A d k n q r over) (hd : 0 < d)
    (hb : bit = if k < 64 then n / 9223372036854775808 else 0) (hn : n' = if k < 64 then n * 2 % 18446744073709551616 else n) :
    (d ≤ 2 * r + bit → DivInv A d (k + 1) n' (q * 2 % 18446744073709551616 + 1) (2 * r + bit - d) (over || decide (9223372036854775808 ≤ q))) ∧
    (2 * r + bit < d → DivInv A d (k + 1) n' (q * 2 % 18446744073709551616) (2 * r + bit) (over || decide (9223372036854775808 ≤ q))) := by
  obtain ⟨h1, h2, h3, h4, h5, h6⟩ := hi
  obtain ⟨t1, t2, t3⟩ := top_next h2 h1
  rw [← hb] at t1 t3
  obtain ⟨s1, s2⟩ := div_split (T := topBits A k) hd t3
  rw [← t1, ← h3] at s1 s2
  have hn1 : n' < 18446744073709551616 := by rw [hn]; split <;> omega
  have hn2 : k + 1 ≤ 64 → n' = A * 2 ^ (k + 1) % 18446744073709551616 := by
    intro h; rw [hn, if_pos (by omega)]; exact t2 (by omega)
  constructor
  · intro h
    obtain ⟨e1, e2⟩ := s1 h
    refine ⟨hn1, hn2, e2.symm, by omega, fun ho => ?_, fun ho => ?_⟩
    · simp only [Bool.or_eq_false_iff, decide_eq_false_iff_not] at ho
      have := h5 ho.1
      rw [e1, ← this]; omega
    · rw [e1]
      simp only [Bool.or_eq_true, decide_eq_true_eq] at ho
      cases over
      · have := h5 rfl
        have hq : 9223372036854775808 ≤ q := by simpa using ho
        omega
      · have := h6 rfl; omega
  · intro h
    obtain ⟨e1, e2⟩ := s2 h
    refine ⟨hn1, hn2, e2.symm, by omega, fun ho => ?_, fun ho => ?_⟩
    · simp only [Bool.or_eq_false_iff, decide_eq_false_iff_not] at ho
      have := h5 ho.1
      rw [e1, ← this]; omega
    · rw [e1]
      simp only [Bool.or_eq_true, decide_eq_true_eq] at ho
      cases over
      · have := h5 rfl
        have hq : 9223372036854775808 ≤ q := by simpa using ho
        omega
      · have := h6 rfl; omega

theorem rdiv_fin {a b : Int} {n q r : Nat} {over m : Bool} (hb : b ≠ 0) (hi : DivInv a.natAbs b.natAbs 80 n q r over)
    (hm : a ≠ 0 → m = (!decide (a < 0) == decide (b < 0))) (hm0 : a = 0 → m = false) :
    signedF q over m ((r : Int) != 0) = divF a b := by
  obtain ⟨h1, h2, h3, h4, h5, h6⟩ := hi
  rw [topBits_80] at h3 h5 h6
  have hg := div_go (a := a) hb
  have e1 : (a.natAbs : Int) * 65536 / b.natAbs = ((a.natAbs * 65536 / b.natAbs : Nat) : Int) := by rw [Int.natCast_ediv, Int.natCast_mul]; rfl
  have e2 : (a.natAbs : Int) * 65536 % b.natAbs = (r : Int) := by rw [h3, Int.natCast_emod, Int.natCast_mul]; rfl
  rw [e1, e2] at hg
  rw [← hg]
  by_cases ha : a = 0
  · have hr0 : r = 0 := by rw [h3, ha]; simp
    have hq0 : a.natAbs * 65536 / b.natAbs = 0 := by rw [ha]; simp
    have ho : over = false := by
      cases over
      · rfl
      · have := h6 rfl; omega
    have := h5 ho
    rw [hm0 ha, ho, hq0, hr0, this, hq0]
    unfold signedF floorF sat; simp
  · rw [← hm ha]
    unfold signedF
    cases over
    · rw [h5 rfl]; simp
    · have := h6 rfl
      simp only [if_true]
      generalize a.natAbs * 65536 / b.natAbs = Q at *
      unfold stopF floorF sat
      cases m
      · simp; omega
      · simp
        split <;> omega

theorem div_start {A d : Nat} (hA : A < 18446744073709551616) (hd : 0 < d) : DivInv A d 0 A 0 0 false := by
  have h := topBits_zero hA
  refine ⟨hA, fun _ => by simp; omega, by rw [h]; simp, by omega, fun _ => by rw [h]; simp, fun h => by simp at h⟩

/-- the same of whole numbers -/
def DivI (A d k : Nat) (n q r : Int) (over : Bool) : Prop := ∃ n0 q0 r0 : Nat, n = n0 ∧ q = q0 ∧ r = r0 ∧ DivInv A d k n0 q0 r0 over

theorem divI_bounds {A d k : Nat} {n q r : Int} {over : Bool} (h : DivI A d k n q r over) (hd : 0 < d) :
    0 ≤ n ∧ n ≤ 18446744073709551615 ∧ 0 ≤ q ∧ q ≤ 18446744073709551615 ∧ 0 ≤ r ∧ r < d := by
  obtain ⟨n0, q0, r0, rfl, rfl, rfl, h1, h2, h3, h4, h5, h6⟩ := h
  have := Nat.mod_lt (topBits A k) hd
  omega

theorem divI_yes {A d k : Nat} {n q r bit n' q' r' : Int} {over o' : Bool} (h : DivI A d k n q r over) (hd : 0 < d)
    (hb : bit = if k < 64 then n / 9223372036854775808 else 0) (hn : n' = if k < 64 then n * 2 % 18446744073709551616 else n) (hs : (d : Int) ≤ 2 * r + bit)
    (hq : q' = q * 2 % 18446744073709551616 + 1) (hr : r' = 2 * r + bit - d) (ho : o' = (over || decide (9223372036854775808 ≤ q))) : DivI A d (k + 1) n' q' r' o' := by
  obtain ⟨n0, q0, r0, rfl, rfl, rfl, hi⟩ := h
  have hs1 := (div_step (bit := if k < 64 then n0 / 9223372036854775808 else 0) (n' := if k < 64 then n0 * 2 % 18446744073709551616 else n0) hi hd rfl rfl).1 (by
    split at hb <;> split <;> omega)
  rw [show decide (9223372036854775808 ≤ q0) = decide (9223372036854775808 ≤ (q0 : Int)) by rw [decide_eq_decide]; omega, ← ho] at hs1
  refine ⟨_, _, _, ?_, ?_, ?_, hs1⟩
  · rw [hn]; split <;> omega
  · rw [hq]; omega
  · rw [hr, hb]; split at hb <;> split <;> omega

theorem divI_no {A d k : Nat} {n q r bit n' q' r' : Int} {over o' : Bool} (h : DivI A d k n q r over) (hd : 0 < d)
    (hb : bit = if k < 64 then n / 9223372036854775808 else 0) (hn : n' = if k < 64 then n * 2 % 18446744073709551616 else n) (hs : 2 * r + bit < (d : Int))
    (hq : q' = q * 2 % 18446744073709551616) (hr : r' = 2 * r + bit) (ho : o' = (over || decide (9223372036854775808 ≤ q))) : DivI A d (k + 1) n' q' r' o' := by
  obtain ⟨n0, q0, r0, rfl, rfl, rfl, hi⟩ := h
  have hs1 := (div_step (bit := if k < 64 then n0 / 9223372036854775808 else 0) (n' := if k < 64 then n0 * 2 % 18446744073709551616 else n0) hi hd rfl rfl).2 (by
    split at hb <;> split <;> omega)
  rw [show decide (9223372036854775808 ≤ q0) = decide (9223372036854775808 ≤ (q0 : Int)) by rw [decide_eq_decide]; omega, ← ho] at hs1
  refine ⟨_, _, _, ?_, ?_, ?_, hs1⟩
  · rw [hn]; split <;> omega
  · rw [hq]; omega
  · rw [hr, hb]; split at hb <;> split <;> omega

theorem divI_fin {a b n q r : Int} {over m : Bool} (hb : b ≠ 0) (h : DivI a.natAbs b.natAbs 80 n q r over)
    (hm : a ≠ 0 → m = (!decide (a < 0) == decide (b < 0))) (hm0 : a = 0 → m = false) :
    signedF q over m (r != 0) = divF a b := by
  obtain ⟨n0, q0, r0, rfl, rfl, rfl, hi⟩ := h
  exact rdiv_fin hb hi hm hm0

set_option maxHeartbeats 1000000 in
theorem rdiv_f (a b : Int) (ha0 : I64 a) (hb0 : I64 b) (w : World) :
    Calls Try.prog 31 #[.int .i64 a, .int .i64 b] w fun e w' => e = .returned (.int .i64 (divF a b)) ∧ w = w' := by
  by_cases hb : b = 0
  · subst hb
    go_enter Try.func31, Try.ntmps31
    go_wp2
    all_goals
      go_ret
      refine ⟨ret_int ?_, rfl⟩
      unfold divF
      rw [if_pos rfl]
      omega
  have c0 : (b == 0) = false := beq_eq_false_iff_ne.2 hb
  have ca := rsize_f a ha0
  have cb := rsize_f b hb0
  obtain ⟨A, eA⟩ : ∃ A, a.natAbs = A := ⟨_, rfl⟩
  obtain ⟨d, ed⟩ : ∃ d, b.natAbs = d := ⟨_, rfl⟩
  have bA : (A : Int) ≤ 9223372036854775808 := by unfold I64 at ha0; omega
  have bd : (d : Int) ≤ 9223372036854775808 := by unfold I64 at hb0; omega
  have d0 : 0 < d := by omega
  have hA : A < 18446744073709551616 := by omega
  have HS := Lib.hid (div_start hA d0)
  have HF := Lib.hid (@divI_fin a b · · · · · hb)
  rw [eA] at ca
  rw [ed] at cb
  have HA := Lib.hid eA
  have HD := Lib.hid ed
  have D0 := Lib.hid d0
  obtain ⟨D, hD⟩ : ∃ D : Int, (d : Int) = D := ⟨_, rfl⟩
  have dl : 0 < D := by omega
  rw [hD] at cb bd
  have HD2 := Lib.hid hD
  clear eA ed hb hA bA d0 hD
  go_enter Try.func31, Try.ntmps31
  go_wp2_with fail
  refine (cb _).mono ?_; rintro e w' ⟨rfl, rfl⟩
  go_wp2_with fail
  refine (ca _).mono ?_; rintro e w' ⟨rfl, rfl⟩
  go_wp2_with fail
  go_loop [6, 7, 8, 9, 10] (fun n q r o i => ∃ k : Nat, k ≤ 80 ∧ i = .int .i64 k ∧ ∃ n0 q0 r0 : Int, ∃ o0 : Bool, n = .int .u64 n0 ∧ q = .int .u64 q0 ∧ r = .int .u64 r0 ∧ o = .bool o0 ∧ DivI A d k n0 q0 r0 o0) (fun _ _ _ _ i => 80 - (intOf i).toNat)
  case atStart => exact ⟨0, by omega, rfl, _, 0, 0, false, rfl, rfl, rfl, rfl, _, 0, 0, rfl, rfl, rfl, HS.out⟩
  case round =>
    obtain ⟨k, hk, rfl, n, q, r, o, rfl, rfl, rfl, rfl, hi⟩ := hrel
    obtain ⟨n1, n2, q1, q2, r1, r2⟩ := divI_bounds hi D0.out
    rw [HD2.out] at r2
    have HI := Lib.hid hi
    clear hi
    by_cases hlt : (k : Int) < 80
    · by_cases h64 : (k : Int) < 64
      · have k64 : k < 64 := by omega
        by_cases hq1 : (9223372036854775808 : Int) ≤ q <;> by_cases hs : D ≤ 2 * r + n / 9223372036854775808
        all_goals
          go_wp2
          go_round
          case rel =>
            refine ⟨k + 1, by omega, by go_num, _, _, _, _, rfl, rfl, rfl, rfl, ?_⟩
            first
            | (refine divI_yes (bit := n / 9223372036854775808) HI.out D0.out (by rw [if_pos k64]) (by rw [if_pos k64, IntKind.wrap_u64]) (by rw [HD2.out]; omega) (by simp only [IntKind.wrap_u64]; omega) (by rw [HD2.out]; omega) (by simp [hq1]); done)
            | (refine divI_yes (bit := n / 9223372036854775808) HI.out D0.out (by rw [if_pos k64]) (by rw [if_pos k64, IntKind.wrap_u64]) (by rw [HD2.out]; omega) (by omega) (by rw [HD2.out]; omega) (by simp [hq1]); done)
            | (refine divI_no (bit := n / 9223372036854775808) HI.out D0.out (by rw [if_pos k64]) (by rw [if_pos k64, IntKind.wrap_u64]) (by rw [HD2.out]; omega) (by simp only [IntKind.wrap_u64]) (by omega) (by simp [hq1]); done)
            | (refine divI_no (bit := n / 9223372036854775808) HI.out D0.out (by rw [if_pos k64]) (by rw [if_pos k64, IntKind.wrap_u64]) (by rw [HD2.out]; omega) (by omega) (by omega) (by simp [hq1]); done)
          case measure => simp [intOf]; omega
      · have k64 : ¬ k < 64 := by omega
        by_cases hq1 : (9223372036854775808 : Int) ≤ q <;> by_cases hs : D ≤ 2 * r
        all_goals
          go_wp2
          go_round
          case rel =>
            refine ⟨k + 1, by omega, by go_num, _, _, _, _, rfl, rfl, rfl, rfl, ?_⟩
            first
            | (refine divI_yes (bit := 0) HI.out D0.out (by rw [if_neg k64]) (by rw [if_neg k64]) (by rw [HD2.out]; omega) (by simp only [IntKind.wrap_u64]; omega) (by rw [HD2.out]; omega) (by simp [hq1]); done)
            | (refine divI_yes (bit := 0) HI.out D0.out (by rw [if_neg k64]) (by rw [if_neg k64]) (by rw [HD2.out]; omega) (by omega) (by rw [HD2.out]; omega) (by simp [hq1]); done)
            | (refine divI_no (bit := 0) HI.out D0.out (by rw [if_neg k64]) (by rw [if_neg k64]) (by rw [HD2.out]; omega) (by simp only [IntKind.wrap_u64]) (by omega) (by simp [hq1]); done)
            | (refine divI_no (bit := 0) HI.out D0.out (by rw [if_neg k64]) (by rw [if_neg k64]) (by rw [HD2.out]; omega) (by omega) (by omega) (by simp [hq1]); done)
          case measure => simp [intOf]; omega
    · have hk80 : k = 80 := by omega
      rw [hk80, ← HA.out, ← HD.out] at HI
      have HI2 := HI.out
      have HI := Lib.hid HI2
      clear HI2
      clear hk80
      go_wp2_with fail
      · refine (signed_f _ _ _ _ (by unfold U64; omega) _).mono ?_; rintro e w' ⟨rfl, rfl⟩
        have HE := Lib.hid (HF.out _ _ _ _ false HI.out (fun ha => by simp; assumption) (fun _ => rfl))
        go_wp2
        go_ret
        exact ⟨ret_int HE.out, rfl⟩
      · refine (signed_f _ _ _ _ (by unfold U64; omega) _).mono ?_; rintro e w' ⟨rfl, rfl⟩
        have HE := Lib.hid (HF.out _ _ _ _ (!decide (a < 0) == decide (b < 0) && a != 0) HI.out (fun ha => by simp [ha]) (fun ha => by simp [ha]))
        go_wp2
        go_ret
        exact ⟨ret_int HE.out, rfl⟩

end Go.Proofs.Ytikihmhbdggbnaa
