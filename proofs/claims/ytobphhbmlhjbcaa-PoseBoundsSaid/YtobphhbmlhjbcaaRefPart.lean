/- The walks of the reference of layer 1: its part, bit by bit, and what leans on it. -/
import Derived.Test.YtobphhbmlhjbcaaRefLoops
namespace Go.Proofs.Ytobphhbmlhjbcaa
set_option linter.unusedVariables false
set_option linter.unusedSimpArgs false
open Go.RowKit

/-- the part of a size, k bits done -/
def PartI (N k : Nat) (num den n q r : Int) : Prop :=
  ∃ n0 : Nat, n = n0 ∧ n0 < 18446744073709551616 ∧ (k ≤ 64 → n0 = N * 2 ^ k % 18446744073709551616) ∧ q * den + r = topBits N k * num ∧ 0 ≤ r ∧ r < den ∧ 0 ≤ q
/-- a round's rest is being taken -/
def RestI (C den q r : Int) : Prop := q * den + r = C ∧ 0 ≤ r ∧ 0 ≤ q

theorem partI_start {N : Nat} {num den : Int} (hN : N < 18446744073709551616) (hd : 0 < den) : PartI N 0 num den N 0 0 := by
  refine ⟨N, rfl, hN, fun _ => by simp; omega, ?_, by omega, hd, by omega⟩
  rw [topBits_zero hN]; simp

theorem topBits_lt {N k : Nat} (hN : N < 18446744073709551616) (hk : k ≤ 64) : topBits N k < 18446744073709551616 := by
  unfold topBits
  rw [if_pos hk]
  exact Nat.lt_of_le_of_lt (Nat.div_le_self _ _) hN

theorem quot_small {N k : Nat} {num den q r : Int} (hN : N < 18446744073709551616) (hk : k ≤ 64) (h1 : 1 ≤ den) (h4 : num ≤ den)
    (h : q * den + r = topBits N k * num) (hr : 0 ≤ r) : q ≤ 18446744073709551615 := by
  have ht := topBits_lt hN hk
  rcases Int.lt_or_le 18446744073709551615 q with hq | hq
  · have e1 : (topBits N k : Int) * num ≤ topBits N k * den := Int.mul_le_mul_of_nonneg_left h4 (by omega)
    have e2 : 18446744073709551616 * den ≤ q * den := Int.mul_le_mul_of_nonneg_right (by omega) (by omega)
    have e3 : (topBits N k : Int) * den ≤ 18446744073709551615 * den := Int.mul_le_mul_of_nonneg_right (by omega) (by omega)
    omega
  · exact hq

theorem rest_start {N k : Nat} {num den n q r : Int} (h : PartI N k num den n q r) (hk : k < 64) :
    RestI (topBits N (k + 1) * num) den (2 * q) (2 * r + (if 9223372036854775808 ≤ n then num else 0)) ∨ num < 0 := by
  obtain ⟨n0, rfl, h1, h2, h3, h4, h5, h6⟩ := h
  rcases Int.lt_or_le num 0 with hm | hm
  · exact .inr hm
  · refine .inl ⟨?_, ?_, by omega⟩
    · obtain ⟨t1, t2, t3⟩ := top_next h2 h1
      rw [t1, if_pos hk, Int.natCast_add, Int.natCast_mul, Int.add_mul, Int.mul_assoc, Int.mul_assoc, ← h3]
      by_cases hb : 9223372036854775808 ≤ (n0 : Int)
      · rw [if_pos hb, show n0 / 9223372036854775808 = 1 by omega]; simp; omega
      · rw [if_neg hb, show n0 / 9223372036854775808 = 0 by omega]; simp; omega
    · split <;> omega

theorem rest_more {C den q r : Int} (h : RestI C den q r) (hr : den ≤ r) : RestI C den (q + 1) (r - den) := by
  obtain ⟨h1, h2, h3⟩ := h
  exact ⟨by rw [Int.add_mul]; omega, by omega, by omega⟩

theorem rest_end {N k : Nat} {num den n q r q' r' n' : Int} (h : PartI N k num den n q r) (hk : k < 64)
    (hr : RestI (topBits N (k + 1) * num) den q' r') (hd : r' < den) (hn : n' = n * 2 % 18446744073709551616) : PartI N (k + 1) num den n' q' r' := by
  obtain ⟨n0, rfl, h1, h2, h3, h4, h5, h6⟩ := h
  obtain ⟨t1, t2, t3⟩ := top_next h2 h1
  obtain ⟨r1, r2, r3⟩ := hr
  exact ⟨n0 * 2 % 18446744073709551616, by omega, by omega, fun _ => t2 hk, r1, r2, hd, r3⟩

theorem part_fin {N : Nat} {num den n q r : Int} (h : PartI N 64 num den n q r) (hd : 0 < den) :
    (N : Int) * num / den = q ∧ (N : Int) * num % den = r := by
  obtain ⟨n0, rfl, h1, h2, h3, h4, h5, h6⟩ := h
  rw [topBits_64] at h3
  have e : (N : Int) * num / den = q := ediv_eq_of hd (by omega) (by omega)
  refine ⟨e, ?_⟩
  have h8 := Int.mul_ediv_add_emod ((N : Int) * num) den
  rw [e, Int.mul_comm] at h8
  omega

set_option maxHeartbeats 1000000 in
theorem rpart_f (N num den : Int) (hn : U64 N) (h1 : 1 ≤ den) (h2 : den ≤ 4611686018427387904) (h3 : 0 ≤ num) (h4 : num ≤ den) (w : World) :
    Calls Try.prog 83 #[.int .u64 N, .int .u64 num, .int .u64 den] w fun e w' => e = .returned (.tuple #[.int .u64 (N * num / den), .bool (N * num % den != 0)]) ∧ w = w' := by
  obtain ⟨n1, n2⟩ := hn
  obtain ⟨M, rfl⟩ := Int.eq_ofNat_of_zero_le n1
  have hM : M < 18446744073709551616 := by omega
  have HS := Lib.hid (@partI_start M num den hM (by omega))
  have HQ := Lib.hid (@quot_small M · num den · · hM · h1 h4)
  obtain ⟨N, hN⟩ : ∃ N : Int, (M : Int) = N := ⟨_, rfl⟩
  rw [hN] at n1 n2
  have HN := Lib.hid hN
  rw [hN]
  clear hN hM
  go_enter Try.func83, Try.ntmps83
  go_wp2_with fail
  go_loop [0, 8, 9, 10] (fun n q r i => ∃ k : Nat, k ≤ 64 ∧ i = .int .i64 k ∧ ∃ n0 q0 r0 : Int, n = .int .u64 n0 ∧ q = .int .u64 q0 ∧ r = .int .u64 r0 ∧ PartI M k num den n0 q0 r0) (fun _ _ _ i => 64 - (intOf i).toNat)
  case atStart => exact ⟨0, by omega, rfl, N, 0, 0, rfl, rfl, rfl, by have := HS.out; rw [HN.out] at this; exact this⟩
  case round =>
    obtain ⟨k, hk, rfl, n, q, r, rfl, rfl, rfl, hi⟩ := hrel
    have hb : 0 ≤ n ∧ n ≤ 18446744073709551615 := by obtain ⟨n0, rfl, h, _⟩ := hi; omega
    have hr : 0 ≤ r ∧ r < den := by obtain ⟨n0, rfl, _, _, _, h1, h2, _⟩ := hi; omega
    have hq0 : 0 ≤ q := by obtain ⟨n0, rfl, _, _, _, h1, h2, h3⟩ := hi; exact h3
    obtain ⟨hb1, hb2⟩ := hb
    obtain ⟨hr1, hr2⟩ := hr
    have HI := Lib.hid hi
    clear hi
    by_cases hlt : (k : Int) < 64
    · have k64 : k < 64 := by omega
      have hst := (rest_start HI.out k64).resolve_right (by omega)
      have hq2 := HQ.out (k + 1) (2 * q) _ (by omega) hst.1 hst.2.1
      have HR := Lib.hid hst
      clear hst
      by_cases hbit : (9223372036854775808 : Int) ≤ n
      · have HR' : Hid (RestI (topBits M (k + 1) * num) den (q * 2) (r * 2 + num)) := Lib.hid (by have := HR.out; rw [if_pos hbit] at this; rw [Int.mul_comm q, Int.mul_comm r]; exact this)
        clear HR
        go_wp2
        go_loop [9, 8] (fun r q => ∃ q0 r0 : Int, q = .int .u64 q0 ∧ r = .int .u64 r0 ∧ r0 ≤ 13835058055282163712 ∧ RestI (topBits M (k + 1) * num) den q0 r0) (fun r _ => (intOf r).toNat)
        case atStart => exact ⟨_, _, rfl, rfl, by omega, HR'.out⟩
        case round =>
          obtain ⟨q0, r0, rfl, rfl, hr3, hr4⟩ := hrel
          have hr5 := hr4.2.1
          have hr6 := hr4.2.2
          have hr7 := HQ.out (k + 1) q0 r0 (by omega) hr4.1 hr5
          have HR2 := Lib.hid hr4
          clear hr4
          by_cases hd : den ≤ r0
          · have hm := rest_more HR2.out hd
            have hr8 := HQ.out (k + 1) (q0 + 1) (r0 - den) (by omega) hm.1 hm.2.1
            have HM := Lib.hid hm
            clear hm
            go_wp2
            go_round
            case rel => exact ⟨_, _, rfl, rfl, by omega, HM.out⟩
            case measure => simp [intOf]; omega
          · have HE := Lib.hid (rest_end HI.out k64 HR2.out (by omega) rfl)
            go_wp2
            go_round
            case rel => exact ⟨k + 1, by omega, by go_num, _, _, _, by rw [IntKind.wrap_u64], rfl, rfl, HE.out⟩
            case measure => simp [intOf]; omega
      · have HR' : Hid (RestI (topBits M (k + 1) * num) den (q * 2) (r * 2)) := Lib.hid (by have := HR.out; rw [if_neg hbit, Int.add_zero] at this; rw [Int.mul_comm q, Int.mul_comm r]; exact this)
        clear HR
        go_wp2
        go_loop [9, 8] (fun r q => ∃ q0 r0 : Int, q = .int .u64 q0 ∧ r = .int .u64 r0 ∧ r0 ≤ 13835058055282163712 ∧ RestI (topBits M (k + 1) * num) den q0 r0) (fun r _ => (intOf r).toNat)
        case atStart => exact ⟨_, _, rfl, rfl, by omega, HR'.out⟩
        case round =>
          obtain ⟨q0, r0, rfl, rfl, hr3, hr4⟩ := hrel
          have hr5 := hr4.2.1
          have hr6 := hr4.2.2
          have hr7 := HQ.out (k + 1) q0 r0 (by omega) hr4.1 hr5
          have HR2 := Lib.hid hr4
          clear hr4
          by_cases hd : den ≤ r0
          · have hm := rest_more HR2.out hd
            have hr8 := HQ.out (k + 1) (q0 + 1) (r0 - den) (by omega) hm.1 hm.2.1
            have HM := Lib.hid hm
            clear hm
            go_wp2
            go_round
            case rel => exact ⟨_, _, rfl, rfl, by omega, HM.out⟩
            case measure => simp [intOf]; omega
          · have HE := Lib.hid (rest_end HI.out k64 HR2.out (by omega) rfl)
            go_wp2
            go_round
            case rel => exact ⟨k + 1, by omega, by go_num, _, _, _, by first | rfl | rw [IntKind.wrap_u64] | (congr 1; omega), rfl, rfl, by first | exact HE.out | (have := HE.out; rw [show n * 2 % 18446744073709551616 = n * 2 by omega] at this; exact this)⟩
            case measure => simp [intOf]; omega
    · have hk64 : k = 64 := by omega
      rw [hk64] at HI
      have hf := part_fin HI.out (by omega)
      have HF := Lib.hid hf
      clear hf hk64
      go_wp2
      go_ret2
      refine ⟨?_, rfl⟩
      rw [← HN.out, HF.out.1, HF.out.2]
      rfl

theorem rclamp_f (x a b : Int) (w : World) :
    Calls Try.prog 88 #[.int .i64 x, .int .i64 a, .int .i64 b] w fun e w' => e = .returned (.int .i64 (clampF x a b)) ∧ w = w' := by
  have flat : ∀ a b : Int, a ≤ b → ∀ w : World, Calls Try.prog 88 #[.int .i64 x, .int .i64 a, .int .i64 b] w fun e w' => e = .returned (.int .i64 (clampF x a b)) ∧ w = w' := by
    intro a b hab w
    go_enter Try.func88, Try.ntmps88
    go_wp2
    all_goals
      go_ret
      refine ⟨ret_int ?_, rfl⟩
      unfold clampF
      omega
  by_cases hab : a ≤ b
  · exact flat a b hab w
  · have hf := flat b a (by omega)
    rw [show clampF x b a = clampF x a b by unfold clampF; omega] at hf
    clear flat
    go_enter Try.func88, Try.ntmps88
    go_wp2_with fail
    refine (hf _).mono ?_; rintro e w' ⟨rfl, rfl⟩
    go_wp2
    go_ret
    exact ⟨rfl, rfl⟩

theorem rpartn_f (num den : Int) (h : fineB num den = true) (w : World) :
    Calls Try.prog 85 #[.int .i64 num, .int .i64 den] w fun e w' => e = .returned (.int .i64 (partF num den)) ∧ w = w' := by
  obtain ⟨h1, h2, h3, h4⟩ := fineB_iff.1 h
  have hp := rpart_f 65536 num den (by unfold U64; omega) h1 h2 h3 h4
  obtain ⟨b1, b2⟩ := partF_bounds h
  rw [show 65536 * num / den = partF num den from rfl] at hp
  clear h
  go_enter Try.func85, Try.ntmps85
  go_wp2_with fail
  refine (hp _).mono ?_; rintro e w' ⟨rfl, rfl⟩
  go_wp2
  go_ret
  exact ⟨rfl, rfl⟩

set_option maxHeartbeats 400000 in
theorem rlerp_f (a b num den : Int) (ha0 : I64 a) (hb0 : I64 b) (h : fineB num den = true) (w : World) :
    Calls Try.prog 59 #[.int .i64 a, .int .i64 b, .int .i64 num, .int .i64 den] w fun e w' => e = .returned (.int .i64 (lerpF a b num den)) ∧ w = w' := by
  obtain ⟨h1, h2, h3, h4⟩ := fineB_iff.1 h
  obtain ⟨a1, a2⟩ := ha0
  obtain ⟨b1, b2⟩ := hb0
  clear h
  by_cases hab : a ≤ b
  · have hp := rpart_f (b - a) num den (by unfold U64; omega) h1 h2 h3 h4
    have hq := part_le (n := b - a) (num := num) (den := den) (by omega) (by omega) h3 h4
    have HE : Hid (lerpF a b num den = a + (b - a) * num / den) := Lib.hid rfl
    generalize (b - a) * num = P at *
    generalize P / den = q at *
    obtain ⟨q1, q2⟩ := hq
    go_enter Try.func59, Try.ntmps59
    go_wp2_with fail
    rw [show IntKind.u64.wrap (IntKind.u64.wrap b - IntKind.u64.wrap a) = b - a by simp only [IntKind.wrap_u64]; omega]
    refine (hp _).mono ?_; rintro e w' ⟨rfl, rfl⟩
    go_wp2
    go_ret
    refine ⟨ret_int ?_, rfl⟩
    rw [HE.out]
    (try simp only [IntKind.wrap_u64])
    (try unfold wrap64)
    omega
  · have hp := rpart_f (a - b) num den (by unfold U64; omega) h1 h2 h3 h4
    have hq := part_le (n := a - b) (num := num) (den := den) (by omega) (by omega) h3 h4
    have hr := Int.mul_ediv_add_emod ((a - b) * num) den
    have hr0 := Int.emod_nonneg ((a - b) * num) (show den ≠ 0 by omega)
    have hle : (a - b) * num ≤ (a - b) * den := Int.mul_le_mul_of_nonneg_left h4 (by omega)
    have key : (a - b) * num % den ≠ 0 → (a - b) * num / den + 1 ≤ a - b := by
      intro hne
      have : (a - b) * num / den < a - b := (Int.ediv_lt_iff_lt_mul (by omega)).2 (by
        rcases Int.lt_or_le ((a - b) * num) ((a - b) * den) with h | h
        · exact h
        · have e : (a - b) * num = (a - b) * den := by omega
          rw [e, Int.mul_emod_left] at hne
          exact absurd rfl hne)
      omega
    have HE : Hid (lerpF a b num den = a - ((a - b) * num / den + (if (a - b) * num % den ≠ 0 then 1 else 0))) := by
      refine Lib.hid ?_
      unfold lerpF
      rw [show (b - a) * num = -((a - b) * num) by rw [← Int.neg_mul]; congr 1; omega, neg_ediv _ _ (by omega)]
      omega
    clear hr hr0 hle
    generalize (a - b) * num = P at *
    generalize P / den = q at *
    obtain ⟨q1, q2⟩ := hq
    by_cases hm : P % den ≠ 0
    · have key := key hm
      have hm' : (P % den != 0) = true := by rw [bne_iff_ne]; exact hm
      rw [hm'] at hp
      have HE : Hid (lerpF a b num den = a - (q + 1)) := Lib.hid (by rw [HE.out, if_pos hm])
      clear hm hm'
      go_enter Try.func59, Try.ntmps59
      go_wp2_with fail
      rw [show IntKind.u64.wrap (IntKind.u64.wrap a - IntKind.u64.wrap b) = a - b by simp only [IntKind.wrap_u64]; omega]
      refine (hp _).mono ?_; rintro e w' ⟨rfl, rfl⟩
      go_wp2
      go_ret
      refine ⟨ret_int ?_, rfl⟩
      rw [HE.out]
      (try simp only [IntKind.wrap_u64])
      (try unfold wrap64)
      omega
    · have hm' : (P % den != 0) = false := by rw [bne_eq_false_iff_eq]; omega
      rw [hm'] at hp
      have HE : Hid (lerpF a b num den = a - q) := Lib.hid (by rw [HE.out, if_neg hm]; omega)
      clear hm hm' key
      go_enter Try.func59, Try.ntmps59
      go_wp2_with fail
      rw [show IntKind.u64.wrap (IntKind.u64.wrap a - IntKind.u64.wrap b) = a - b by simp only [IntKind.wrap_u64]; omega]
      refine (hp _).mono ?_; rintro e w' ⟨rfl, rfl⟩
      go_wp2
      go_ret
      refine ⟨ret_int ?_, rfl⟩
      rw [HE.out]
      (try simp only [IntKind.wrap_u64])
      (try unfold wrap64)
      omega

end Go.Proofs.Ytobphhbmlhjbcaa
