/- math/bits.Div64: the quotient and the rest of 128 bits by 64, where the quotient has room; the world stays. -/
import Derived.Test.YtobphhbmlhjbcaaFix
import Derived.Test.YtobphhbmlhjbcaaKnuth
import Derived.Test.YtobphhbmlhjbcaaLen64
import Derived.Deep.DeepCutAuto
import Derived.Deep.CutBlock
namespace Go.Proofs.Ytobphhbmlhjbcaa
set_option linter.unusedVariables false
set_option linter.unusedSimpArgs false
open Go.RowKit

theorem bitLen_near : ∀ (n x : Nat), n ≤ 64 → x < 2 ^ n → x < 2 ^ Lib.bitLen x ∧ (x ≠ 0 → 2 ^ Lib.bitLen x ≤ 2 * x) ∧ Lib.bitLen x ≤ n
  | 0, x, _, h => by
    have : x = 0 := by simpa using h
    subst this
    exact ⟨by decide, fun h => absurd rfl h, by decide⟩
  | n + 1, x, hn, h => by
    by_cases h0 : x = 0
    · subst h0
      exact ⟨by decide, fun h => absurd rfl h, by have : Lib.bitLen 0 = 0 := by decide
                                                  omega⟩
    · have h64 : x < 2 ^ 64 := Nat.lt_of_lt_of_le h (Nat.pow_le_pow_right (by omega) hn)
      rw [Lib.bitLen_half x h0 h64, Nat.add_comm 1, Nat.pow_succ]
      obtain ⟨a, b, c⟩ := bitLen_near n (x / 2) (by omega) (by rw [Nat.pow_succ] at h; omega)
      refine ⟨by omega, fun _ => ?_, by omega⟩
      by_cases h1 : x / 2 = 0
      · rw [h1]
        have : Lib.bitLen 0 = 0 := by decide
        rw [this]
        omega
      · have := b h1
        omega

/-- how far a divisor is to be moved up -/
theorem up_far (x : Nat) (h0 : 1 ≤ x) (h1 : x < 18446744073709551616) :
    ∃ s : Nat, s ≤ 63 ∧ Lib.bitLen x = 64 - s ∧ 9223372036854775808 ≤ x * 2 ^ s ∧ x * 2 ^ s < 18446744073709551616 := by
  obtain ⟨a, b, c⟩ := bitLen_near 64 x (by omega) h1
  have b := b (by omega)
  have hb1 : 1 ≤ Lib.bitLen x := by
    rcases Nat.eq_zero_or_pos (Lib.bitLen x) with h | h
    · rw [h] at a; omega
    · exact h
  refine ⟨64 - Lib.bitLen x, by omega, by omega, ?_, ?_⟩
  · have h2 : 2 ^ Lib.bitLen x * 2 ^ (64 - Lib.bitLen x) ≤ 2 * x * 2 ^ (64 - Lib.bitLen x) := Nat.mul_le_mul_right _ b
    rw [← Nat.pow_add, show Lib.bitLen x + (64 - Lib.bitLen x) = 64 by omega, Nat.mul_assoc] at h2
    omega
  · have h2 : x * 2 ^ (64 - Lib.bitLen x) < 2 ^ Lib.bitLen x * 2 ^ (64 - Lib.bitLen x) := Nat.mul_lt_mul_of_pos_right a (Nat.two_pow_pos _)
    rw [← Nat.pow_add, show Lib.bitLen x + (64 - Lib.bitLen x) = 64 by omega] at h2
    exact h2

theorem lz_f (x : Nat) (s : Nat) (hs : s ≤ 63) (hb : Lib.bitLen x = 64 - s) (h1 : x < 18446744073709551616) (w : World) :
    Calls Try.prog 101 #[.int .u64 x] w fun e w' => e = .returned (.int .i64 s) ∧ w = w' := by
  have HB := Lib.hid hb; clear hb
  have hx0 : (0 : Int) ≤ (x : Int) := by omega
  have hx1 : (x : Int) ≤ 18446744073709551615 := by omega
  have hc := len64_f x hx0 hx1
  go_enter Try.func101, Try.ntmps101
  go_wp2_with (go_at_call 102; refine (hc _).mono ?_; rintro e w' ⟨rfl, rfl⟩)
  go_ret
  refine ⟨ret_int ?_, rfl⟩
  rw [HB.out]
  unfold wrap64
  omega
/-! the digits -/
theorem wrap_dig {u v y1 y0 q r : Int} (h : Nm u v y1 y0) (hd : Dig u v y1 y0 q r) :
    IntKind.u64.wrap (IntKind.u64.wrap (4294967296 * r) + v) = 4294967296 * r + v ∧ (q < 4294967296 → IntKind.u64.wrap (q * y0) = q * y0) ∧ IntKind.u64.wrap (r + y1) = r + y1 ∧ (1 ≤ q → IntKind.u64.wrap (q - 1) = q - 1) := by
  obtain ⟨a, b, c, d, e, f, g, i⟩ := h
  obtain ⟨d1, d2, d3, d4, d5, d6⟩ := hd
  simp only [IntKind.wrap_u64]
  refine ⟨by omega, fun hq => ?_, by omega, fun _ => by omega⟩
  have h1 : 0 ≤ q * y0 := Int.mul_nonneg d5 c
  have h2 : q * y0 ≤ 4294967296 * y0 := Int.mul_le_mul_of_nonneg_right (by omega) c
  omega
theorem wrap_start {u y1 : Int} (hu : 0 ≤ u) (hu1 : u ≤ 18446744073709551615) (hy : 0 < y1) : IntKind.u64.wrap (u - IntKind.u64.wrap (u / y1 * y1)) = u - u / y1 * y1 := by
  have h1 := ediv_mul_bounds u y1 hy
  have h2 : 0 ≤ u / y1 * y1 := Int.mul_nonneg (Int.ediv_nonneg hu (by omega)) (by omega)
  simp only [IntKind.wrap_u64]
  omega
theorem cond_plain {u v y1 y0 q r : Int} (h : Nm u v y1 y0) (hd : Dig u v y1 y0 q r)
    (hc : 4294967296 ≤ q ∨ IntKind.u64.wrap (IntKind.u64.wrap (4294967296 * r) + v) < IntKind.u64.wrap (q * y0)) : 4294967296 ≤ q ∨ 4294967296 * r + v < q * y0 := by
  obtain ⟨w1, w2, w3, w4⟩ := wrap_dig h hd
  rcases hc with hc | hc
  · exact .inl hc
  · rcases Int.lt_or_le q 4294967296 with hq | hq
    · rw [w1, w2 hq] at hc; exact .inr hc
    · exact .inl hq

/-- the digit is told -/
def GotS (u v y1 y0 : Int) (q : Value) : Prop := ∃ a : Int, q = .int .u64 a ∧ Got u v y1 y0 a

theorem way_break {u v y1 y0 q r : Int} (h : Nm u v y1 y0) (hd : Dig u v y1 y0 q r)
    (hc : 4294967296 ≤ q ∨ IntKind.u64.wrap (IntKind.u64.wrap (4294967296 * r) + v) < IntKind.u64.wrap (q * y0)) (hr : 4294967296 ≤ IntKind.u64.wrap (r + y1)) :
    GotS u v y1 y0 (.int .u64 (IntKind.u64.wrap (q - 1))) := by
  have hc' := cond_plain h hd hc
  obtain ⟨w1, w2, w3, w4⟩ := wrap_dig h hd
  rw [w4 (dig_more h hd hc').2]
  rw [w3] at hr
  exact ⟨_, rfl, dig_break h hd hc' hr⟩
theorem way_stop {u v y1 y0 q r : Int} (h : Nm u v y1 y0) (hd : Dig u v y1 y0 q r) (hq : q < 4294967296)
    (hc : IntKind.u64.wrap (q * y0) ≤ IntKind.u64.wrap (IntKind.u64.wrap (4294967296 * r) + v)) :
    GotS u v y1 y0 (.int .u64 q) := by
  obtain ⟨w1, w2, w3, w4⟩ := wrap_dig h hd
  rw [w1, w2 hq] at hc
  exact ⟨_, rfl, dig_stop h hd hc⟩
theorem way_on {u v y1 y0 q r : Int} (h : Nm u v y1 y0) (hd : Dig u v y1 y0 q r)
    (hc : 4294967296 ≤ q ∨ IntKind.u64.wrap (IntKind.u64.wrap (4294967296 * r) + v) < IntKind.u64.wrap (q * y0)) (hr : IntKind.u64.wrap (r + y1) < 4294967296) :
    (∃ a b : Int, Value.int .u64 (IntKind.u64.wrap (q - 1)) = .int .u64 a ∧ Value.int .u64 (IntKind.u64.wrap (r + y1)) = .int .u64 b ∧ Dig u v y1 y0 a b) ∧ (IntKind.u64.wrap (q - 1)).toNat < q.toNat := by
  have hc' := cond_plain h hd hc
  obtain ⟨w1, w2, w3, w4⟩ := wrap_dig h hd
  have hm := (dig_more h hd hc').2
  rw [w4 hm]
  rw [w3] at hr ⊢
  exact ⟨⟨_, _, rfl, rfl, dig_on h hd hc' hr⟩, by omega⟩

/-- what the two digits come to -/
theorem digits_all {U L l1 l0 y1 y0 Y q1 q0 V hi lo y : Int} {s : Nat} (g1 : Got U l1 y1 y0 q1) (g0 : Got V l0 y1 y0 q0)
    (hY : y1 * 4294967296 + y0 = Y) (hV : V = U * 4294967296 + l1 - q1 * Y) (hL : l1 * 4294967296 + l0 = L)
    (hU : U * 18446744073709551616 + L = (hi * 18446744073709551616 + lo) * 2 ^ s) (hy : Y = y * 2 ^ s) (hy0 : 0 < y) :
    q1 * 4294967296 + q0 = (hi * 18446744073709551616 + lo) / y ∧ (V * 4294967296 + l0 - q0 * Y) / 2 ^ s = (hi * 18446744073709551616 + lo) % y := by
  obtain ⟨a1, b1⟩ := g1
  obtain ⟨a0, b0⟩ := g0
  rw [hY] at a1 b1 a0 b0
  have hp : (0 : Int) < 2 ^ s := by
    have : (0 : Nat) < 2 ^ s := Nat.two_pow_pos s
    have h2 : ((2 ^ s : Nat) : Int) = (2 : Int) ^ s := by push_cast; rfl
    omega
  generalize (2 : Int) ^ s = p at *
  generalize hN : hi * 18446744073709551616 + lo = N at *
  have e1 : N * p = (q1 * 4294967296 + q0) * Y + (V * 4294967296 + l0 - q0 * Y) := by
    rw [← hU, ← hL, hV]; grind
  have e2 : V * 4294967296 + l0 - q0 * Y = (N - (q1 * 4294967296 + q0) * y) * p := by
    rw [hy] at e1 ⊢; grind
  generalize hR : V * 4294967296 + l0 - q0 * Y = R at *
  generalize hQ : q1 * 4294967296 + q0 = Q at *
  have r0 : 0 ≤ R := by omega
  have r1 : R < y * p := by rw [Int.add_mul] at b0; omega
  rw [e2] at r0 r1
  have s0 : 0 ≤ N - Q * y := by
    rcases Int.lt_or_le (N - Q * y) 0 with h | h
    · have := Int.mul_neg_of_neg_of_pos h hp; omega
    · exact h
  have s1 : N - Q * y < y := Int.lt_of_mul_lt_mul_right r1 (by omega)
  have hq : N / y = Q := ediv_eq_of hy0 (by omega) (by omega)
  refine ⟨hq.symm, ?_⟩
  rw [e2, Int.mul_ediv_cancel _ (by omega)]
  have h5 := Int.mul_ediv_add_emod N y
  rw [hq, Int.mul_comm] at h5
  omega

set_option maxRecDepth 100000 in
set_option maxHeartbeats 2000000 in
theorem div64_walk (hi lo y Y U L y1 y0 l1 l0 : Int) (s : Nat) (h0 : 1 ≤ hi) (h1 : hi < y) (h2 : y ≤ 18446744073709551615) (h3 : 0 ≤ lo) (h4 : lo ≤ 18446744073709551615) (w : World)
    (hs : s ≤ 63) (hz : ∀ w, Calls Try.prog 101 #[.int .u64 y] w fun e w' => e = .returned (.int .i64 s) ∧ w = w')
    (n1 : Nm U l1 y1 y0) (n0 : 0 ≤ l0 ∧ l0 < 4294967296)
    (eY : IntKind.u64.wrap (y * 2 ^ s) = Y) (eU : bits .or .u64 (IntKind.u64.wrap (hi * 2 ^ s)) (lo / 2 ^ (64 - s)) = U) (eL : IntKind.u64.wrap (lo * 2 ^ s) = L)
    (e1 : Y / 4294967296 = y1) (e0 : bits .and .u64 Y 4294967295 = y0) (e2 : L / 4294967296 = l1) (e3 : bits .and .u64 L 4294967295 = l0)
    (hY : Hid (y1 * 4294967296 + y0 = Y)) (hL : Hid (l1 * 4294967296 + l0 = L)) (hU : Hid (U * 18446744073709551616 + L = (hi * 18446744073709551616 + lo) * 2 ^ s)) (hy : Hid (Y = y * 2 ^ s)) :
    Calls Try.prog 97 #[.int .u64 hi, .int .u64 lo, .int .u64 y] w fun e w' => e = .returned (.tuple #[.int .u64 ((hi * 18446744073709551616 + lo) / y), .int .u64 ((hi * 18446744073709551616 + lo) % y)]) ∧ w = w' := by
  have c0 : (y == 0) = false := beq_eq_false_iff_ne.2 (by omega)
  have c1 : (hi == 0) = false := beq_eq_false_iff_ne.2 (by omega)
  have c2 : decide (y ≤ hi) = false := by simp; omega
  have HZ := Lib.hid hz; clear hz
  have N1 := Lib.hid n1
  obtain ⟨a, b, c, d, e, f, g, i⟩ := n1
  have u1 : U ≤ 18446744073709551615 := by omega
  have hYs : Y ≤ 18446744073709551615 ∧ 0 < Y := by have := hY.out; omega
  go_enter Try.func97, Try.ntmps97
  go_upto_block 0 with (go_at_call 101; refine (HZ.out _).mono ?_; rintro e w' ⟨rfl, rfl⟩)
  go_cut [15] (fun q wc => GotS U l1 y1 y0 q ∧ w = wc)
  case first =>
    go_wp2_with fail
    go_loop [15, 16] (fun q r => ∃ a b : Int, q = .int .u64 a ∧ r = .int .u64 b ∧ Dig U l1 y1 y0 a b) (fun q _ => (intOf q).toNat)
    case atStart => exact ⟨_, _, rfl, rfl, by rw [wrap_start g u1 (by omega)]; exact dig_start N1.out⟩
    case round =>
      obtain ⟨a, b, rfl, rfl, hd⟩ := hrel
      go_wp2
      · go_meet
        case rel => exact ⟨way_break N1.out hd (by assumption) (by assumption), rfl⟩
      · exact way_on N1.out hd (by assumption) (by assumption)
      · have hm : a < 4294967296 ∧ IntKind.u64.wrap (a * y0) ≤ IntKind.u64.wrap (IntKind.u64.wrap (4294967296 * b) + l1) := by assumption
        go_meet
        case rel => exact ⟨way_stop N1.out hd hm.1 hm.2, rfl⟩
      · go_meet
        case rel => exact ⟨way_break N1.out hd (.inl (by assumption)) (by assumption), rfl⟩
      · exact way_on N1.out hd (.inl (by omega)) (by assumption)
  case rest =>
    obtain ⟨⟨q1, rfl, hq1⟩, rfl⟩ := hcut
    obtain ⟨hq1l, hq1u⟩ := got_small N1.out hq1
    obtain ⟨v1, v2, v3⟩ := got_rest hq1 hY.out (by omega)
    obtain ⟨V, hV⟩ : ∃ V, V = U * 4294967296 + l1 - q1 * Y := ⟨_, rfl⟩
    rw [← hV] at v1 v2 v3
    have HV := Lib.hid hV; clear hV
    have e4 : IntKind.u64.wrap (IntKind.u64.wrap (IntKind.u64.wrap (U * 4294967296) + l1) - IntKind.u64.wrap (q1 * Y)) = V := by
      simp only [IntKind.wrap_u64]; exact v1
    clear v1
    have N0 : Nm V l0 y1 y0 := ⟨a, b, c, d, n0.1, n0.2, v2, by have := hY.out; omega⟩
    have N0' := Lib.hid N0; clear N0
    have v4 : V ≤ 18446744073709551615 := by omega
    go_upto_block 2 with fail
    go_cut [18] (fun q wc => GotS V l0 y1 y0 q ∧ w = wc)
    case first =>
      go_wp2_with fail
      go_loop [18, 16] (fun q r => ∃ a b : Int, q = .int .u64 a ∧ r = .int .u64 b ∧ Dig V l0 y1 y0 a b) (fun q _ => (intOf q).toNat)
      case atStart => exact ⟨_, _, rfl, rfl, by rw [wrap_start v2 v4 (by omega)]; exact dig_start N0'.out⟩
      case round =>
        obtain ⟨a, b, rfl, rfl, hd⟩ := hrel
        go_wp2
        · go_meet
          case rel => exact ⟨way_break N0'.out hd (by assumption) (by assumption), rfl⟩
        · exact way_on N0'.out hd (by assumption) (by assumption)
        · have hm : a < 4294967296 ∧ IntKind.u64.wrap (a * y0) ≤ IntKind.u64.wrap (IntKind.u64.wrap (4294967296 * b) + l0) := by assumption
          go_meet
          case rel => exact ⟨way_stop N0'.out hd hm.1 hm.2, rfl⟩
        · go_meet
          case rel => exact ⟨way_break N0'.out hd (.inl (by assumption)) (by assumption), rfl⟩
        · exact way_on N0'.out hd (.inl (by omega)) (by assumption)
    case rest =>
      obtain ⟨⟨q0, rfl, hq0⟩, rfl⟩ := hcut
      obtain ⟨hq0l, hq0u⟩ := got_small N0'.out hq0
      obtain ⟨r1, r2, r3⟩ := got_rest hq0 hY.out (by omega)
      obtain ⟨f1, f2⟩ := digits_all hq1 hq0 hY.out HV.out hL.out hU.out hy.out (by omega)
      have F1 := Lib.hid f1; have F2 := Lib.hid f2; have R1 := Lib.hid r1
      clear f1 f2 r1
      go_wp2
      go_ret2
      refine ⟨?_, rfl⟩
      rw [← F1.out, ← F2.out, ← R1.out]
      simp only [IntKind.wrap_u64]
      rfl

theorem nat_or (h l s : Nat) (hl : l < 2 ^ s) : h * 2 ^ s ||| l = h * 2 ^ s + l := by
  have := Nat.shiftLeft_add_eq_or_of_lt hl h
  rw [Nat.shiftLeft_eq] at this
  exact this.symm

/-- the division, for numbers as they are -/
theorem div64_nat (hi lo y : Nat) (h0 : 1 ≤ hi) (h1 : hi < y) (h2 : y < 18446744073709551616) (h4 : lo < 18446744073709551616) (w : World) :
    Calls Try.prog 97 #[.int .u64 hi, .int .u64 lo, .int .u64 y] w fun e w' => e = .returned (.tuple #[.int .u64 (((hi : Int) * 18446744073709551616 + lo) / y), .int .u64 (((hi : Int) * 18446744073709551616 + lo) % y)]) ∧ w = w' := by
  obtain ⟨s, hs, hb, ya, yb⟩ := up_far y (by omega) h2
  have hp : 0 < 2 ^ s := Nat.two_pow_pos s
  have hpp : 2 ^ (64 - s) * 2 ^ s = 18446744073709551616 := by rw [← Nat.pow_add, show 64 - s + s = 64 by omega]
  have k1 : lo * 2 ^ s / 18446744073709551616 = lo / 2 ^ (64 - s) := by rw [← hpp, Nat.mul_div_mul_right _ _ hp]
  have k2 : lo / 2 ^ (64 - s) < 2 ^ s := by
    rw [Nat.div_lt_iff_lt_mul (Nat.two_pow_pos _), Nat.mul_comm, hpp]; exact h4
  have k3 : hi * 2 ^ s + 2 ^ s ≤ y * 2 ^ s := by rw [← Nat.succ_mul]; exact Nat.mul_le_mul_right _ h1
  have k4 : (hi * 18446744073709551616 + lo) * 2 ^ s = hi * 2 ^ s * 18446744073709551616 + lo * 2 ^ s := by
    rw [Nat.add_mul, Nat.mul_right_comm]
  have cY : (y : Int) * 2 ^ s = ((y * 2 ^ s : Nat) : Int) := by push_cast; rfl
  have cH : (hi : Int) * 2 ^ s = ((hi * 2 ^ s : Nat) : Int) := by push_cast; rfl
  have cL : (lo : Int) * 2 ^ s = ((lo * 2 ^ s : Nat) : Int) := by push_cast; rfl
  have cD : (lo : Int) / 2 ^ (64 - s) = ((lo / 2 ^ (64 - s) : Nat) : Int) := by push_cast; rfl
  have cN : ((hi : Int) * 18446744073709551616 + lo) * 2 ^ s = (((hi * 18446744073709551616 + lo) * 2 ^ s : Nat) : Int) := by
    rw [Int.natCast_mul, Int.natCast_add, Int.natCast_mul, Int.natCast_pow]; rfl
  have kor := nat_or hi (lo / 2 ^ (64 - s)) s k2
  have kd := Nat.div_add_mod (lo * 2 ^ s) 18446744073709551616
  refine div64_walk hi lo y ((y * 2 ^ s : Nat) : Int) ((hi * 2 ^ s + lo / 2 ^ (64 - s) : Nat) : Int) ((lo * 2 ^ s % 18446744073709551616 : Nat) : Int)
    ((y * 2 ^ s / 4294967296 : Nat) : Int) ((y * 2 ^ s % 4294967296 : Nat) : Int) ((lo * 2 ^ s % 18446744073709551616 / 4294967296 : Nat) : Int) ((lo * 2 ^ s % 18446744073709551616 % 4294967296 : Nat) : Int)
    s (by omega) (by omega) (by omega) (by omega) (by omega) w hs (fun w => lz_f y s hs hb h2 w) ?_ (by omega) ?_ ?_ ?_ ?_ ?_ ?_ ?_ (Lib.hid ?_) (Lib.hid ?_) (Lib.hid ?_) (Lib.hid ?_)
  · constructor <;> omega
  · rw [cY, IntKind.wrap_u64]; omega
  · rw [cH, cD, M64.wrapN _ (by omega), bits_or_u64_nat _ _ (by omega) (by omega), kor]
  · rw [cL, IntKind.wrap_u64]; omega
  · omega
  · exact M64.maskN _ yb
  · omega
  · exact M64.maskN _ (by omega)
  · omega
  · omega
  · rw [cN, k4]; omega
  · exact cY.symm

theorem div64_f (hi lo y : Int) (h0 : 0 ≤ hi) (h1 : hi < y) (h2 : y ≤ 18446744073709551615) (h3 : 0 ≤ lo) (h4 : lo ≤ 18446744073709551615) (w : World) :
    Calls Try.prog 97 #[.int .u64 hi, .int .u64 lo, .int .u64 y] w fun e w' => e = .returned (.tuple #[.int .u64 ((hi * 18446744073709551616 + lo) / y), .int .u64 ((hi * 18446744073709551616 + lo) % y)]) ∧ ∃ n, w' = w.drewN n := by
  rcases Int.lt_or_le 0 hi with hh | hh
  · obtain ⟨hi, rfl⟩ := Int.eq_ofNat_of_zero_le h0
    obtain ⟨lo, rfl⟩ := Int.eq_ofNat_of_zero_le h3
    obtain ⟨y, rfl⟩ := Int.eq_ofNat_of_zero_le (show 0 ≤ y by omega)
    refine (div64_nat hi lo y (by omega) (by omega) (by omega) (by omega) w).mono ?_
    rintro e w' ⟨rfl, rfl⟩
    exact ⟨rfl, 0, rfl⟩
  · obtain rfl : hi = 0 := by omega
    have c0 : (y == 0) = false := beq_eq_false_iff_ne.2 (by omega)
    have c2 : decide (y ≤ 0) = false := by simp; omega
    rw [show (0 : Int) * 18446744073709551616 + lo = lo by omega]
    go_enter Try.func97, Try.ntmps97
    go_wp2
    go_region
    all_goals
      go_wp2
      go_ret2
      exact ⟨rfl, 1, rfl⟩
end Go.Proofs.Ytobphhbmlhjbcaa
