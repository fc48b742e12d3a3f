/- Angles that go round, walked: the way, what is turned, a part of the way, whether one stands on it. -/
import Derived.Test.YtobphhbmlhjbcaaRefPart
import Derived.Test.YtobphhbmlhjbcaaNum2
namespace Go.Proofs.Ytobphhbmlhjbcaa
set_option linter.unusedVariables false
set_option linter.unusedSimpArgs false
open Go.RowKit

/-- an angle -/
def U16 (a : Int) : Prop := 0 ≤ a ∧ a ≤ 65535
/-- the shortest way -/
def diffF (a b : Int) : Int := (b - a + 32768) % 65536 - 32768
/-- turned by so much -/
def turnF (a n : Int) : Int := (a + n) % 65536
def betwF (x a b : Int) : Bool := decide (min 0 (diffF a b) ≤ diffF a x ∧ diffF a x ≤ max 0 (diffF a b))
/-- a part of the way -/
def alerpF (a b num den : Int) : Int := turnF a (lerpF 0 (diffF a b) num den)

theorem diffF_bounds (a b : Int) : -32768 ≤ diffF a b ∧ diffF a b ≤ 32767 := by unfold diffF; omega
theorem turnF_u16 (a n : Int) : U16 (turnF a n) := by unfold U16 turnF; omega
theorem u16_lit {a : Int} (h : 0 ≤ a := by omega) (h2 : a ≤ 65535 := by omega) : U16 a := ⟨h, h2⟩
theorem i64_ofA {a : Int} (h : -9223372036854775808 ≤ a := by omega) (h2 : a ≤ 9223372036854775807 := by omega) : I64 a := ⟨h, h2⟩
theorem way_bounds {a b num den : Int} (h : fineB num den = true) : -32768 ≤ lerpF 0 (diffF a b) num den ∧ lerpF 0 (diffF a b) num den ≤ 32767 := by
  have := diffF_bounds a b
  have := lerpF_between (a := 0) (b := diffF a b) h
  omega

theorem wrap_i16 (n : Int) : IntKind.i16.wrap n = (n + 32768) % 65536 - 32768 := by
  simp [IntKind.wrap, IntKind.bits, IntKind.signed]
  omega

theorem ret_bool {a b : Bool} (h : a = b) : Ending.returned (.bool a) = .returned (.bool b) := by rw [h]

theorem to_f (a b : Int) (ha : U16 a) (hb : U16 b) (w : World) :
    Calls Try.prog 76 #[.int .u16 a, .int .u16 b] w fun e w' => e = .returned (.int .i64 (diffF a b)) ∧ w = w' := by
  obtain ⟨a1, a2⟩ := ha
  obtain ⟨b1, b2⟩ := hb
  go_enter Try.func76, Try.ntmps76
  go_wp2
  go_ret
  refine ⟨ret_int ?_, rfl⟩
  unfold diffF
  (try unfold wrap64)
  (try simp only [IntKind.wrap_u16, wrap_i16])
  omega

theorem diff_f (a b : Int) (ha : U16 a) (hb : U16 b) (w : World) :
    Calls Try.prog 48 #[.int .u16 a, .int .u16 b] w fun e w' => e = .returned (.int .i64 (diffF a b)) ∧ w = w' := by
  have h := to_f a b ha hb
  go_enter Try.func48, Try.ntmps48
  go_wp2_with fail
  refine (h _).mono ?_; rintro e w' ⟨rfl, rfl⟩
  go_wp2
  go_ret
  exact ⟨rfl, rfl⟩

theorem by_f (a n : Int) (ha : U16 a) (hn : I64 n) (w : World) :
    Calls Try.prog 82 #[.int .u16 a, .int .i64 n] w fun e w' => e = .returned (.int .u16 (turnF a n)) ∧ w = w' := by
  obtain ⟨a1, a2⟩ := ha
  obtain ⟨b1, b2⟩ := hn
  go_enter Try.func82, Try.ntmps82
  go_wp2
  go_ret
  refine ⟨ret_int ?_, rfl⟩
  unfold turnF
  (try simp only [IntKind.wrap_u16])
  omega

theorem turn_f (a n : Int) (ha : U16 a) (hn : I64 n) (w : World) :
    Calls Try.prog 57 #[.int .u16 a, .int .i64 n] w fun e w' => e = .returned (.int .u16 (turnF a n)) ∧ w = w' := by
  have h := by_f a n ha hn
  go_enter Try.func57, Try.ntmps57
  go_wp2_with fail
  refine (h _).mono ?_; rintro e w' ⟨rfl, rfl⟩
  go_wp2
  go_ret
  exact ⟨rfl, rfl⟩

theorem alerp_f (a b num den : Int) (ha : U16 a) (hb : U16 b) (h : fineB num den = true) (w : World) :
    Calls Try.prog 33 #[.int .u16 a, .int .u16 b, .int .i64 num, .int .i64 den] w fun e w' => e = .returned (.tuple #[.int .u16 (alerpF a b num den), .int .i64 0]) ∧ ∃ n, w' = w.drewN n := by
  have d := diff_f a b ha hb
  obtain ⟨d1, d2⟩ := diffF_bounds a b
  have l := lerp_f 0 (diffF a b) num den i64_ofA i64_ofA h
  obtain ⟨w1, w2⟩ := way_bounds (a := a) (b := b) h
  have t := turn_f a (lerpF 0 (diffF a b) num den) ha i64_ofA
  rw [show turnF a (lerpF 0 (diffF a b) num den) = alerpF a b num den from rfl] at t
  generalize lerpF 0 (diffF a b) num den = z at *
  generalize diffF a b = y at *
  clear h
  go_enter Try.func33, Try.ntmps33
  go_wp2_with fail
  refine (d _).mono ?_; rintro e w' ⟨rfl, rfl⟩
  go_wp2_with fail
  refine (l _).mono ?_; rintro e w' ⟨rfl, kd4, rfl⟩
  go_wp2_with fail
  refine (t _).mono ?_; rintro e w' ⟨rfl, rfl⟩
  go_wp2
  go_ret2
  exact ⟨rfl, _, rfl⟩

theorem alerp_bad (a b num den : Int) (ha : U16 a) (hb : U16 b) (h : fineB num den = false) (w : World) :
    Calls Try.prog 33 #[.int .u16 a, .int .u16 b, .int .i64 num, .int .i64 den] w fun e w' => e = .returned (.tuple #[.int .u16 0, .int .i64 3]) ∧ w = w' := by
  have d := diff_f a b ha hb
  obtain ⟨d1, d2⟩ := diffF_bounds a b
  have l := lerp_bad 0 (diffF a b) num den h
  generalize diffF a b = y at *
  clear h
  go_enter Try.func33, Try.ntmps33
  go_wp2_with fail
  refine (d _).mono ?_; rintro e w' ⟨rfl, rfl⟩
  go_wp2_with fail
  refine (l _).mono ?_; rintro e w' ⟨rfl, rfl⟩
  go_wp2
  go_ret2
  exact ⟨rfl, rfl⟩

theorem betw_f (x a b : Int) (hx : U16 x) (ha : U16 a) (hb : U16 b) (w : World) :
    Calls Try.prog 23 #[.int .u16 x, .int .u16 a, .int .u16 b] w fun e w' => e = .returned (.bool (betwF x a b)) ∧ w = w' := by
  have d := diff_f a b ha hb
  have e := diff_f a x ha hx
  obtain ⟨d1, d2⟩ := diffF_bounds a b
  obtain ⟨e1, e2⟩ := diffF_bounds a x
  have HB : Hid (betwF x a b = decide (min 0 (diffF a b) ≤ diffF a x ∧ diffF a x ≤ max 0 (diffF a b))) := Lib.hid rfl
  generalize diffF a b = p at *
  generalize diffF a x = q at *
  obtain ⟨lo, hlo⟩ : ∃ lo, min 0 p = lo := ⟨_, rfl⟩
  obtain ⟨hi, hhi⟩ : ∃ hi, max 0 p = hi := ⟨_, rfl⟩
  rw [hlo, hhi] at HB
  have hB := HB.out
  clear HB
  cases hb : betwF x a b
  · rw [hb] at hB
    have hB2 : ¬(lo ≤ q ∧ q ≤ hi) := of_decide_eq_false hB.symm
    clear hB hb
    by_cases c1 : lo ≤ q
    · have c2 : hi < q := by omega
      clear hB2
      go_enter Try.func23, Try.ntmps23
      go_wp2_with fail
      refine (d _).mono ?_; rintro e w' ⟨rfl, rfl⟩
      go_wp2_with fail
      refine (e _).mono ?_; rintro e w' ⟨rfl, rfl⟩
      go_wp2
      go_ret
      refine ⟨ret_bool ?_, rfl⟩
      first | rfl | (simp; omega)
    · clear hB2
      go_enter Try.func23, Try.ntmps23
      go_wp2_with fail
      refine (d _).mono ?_; rintro e w' ⟨rfl, rfl⟩
      go_wp2_with fail
      refine (e _).mono ?_; rintro e w' ⟨rfl, rfl⟩
      go_wp2
      go_ret
      refine ⟨ret_bool ?_, rfl⟩
      first | rfl | (simp; omega)
  · rw [hb] at hB
    obtain ⟨c1, c2⟩ := of_decide_eq_true hB.symm
    clear hB hb
    go_enter Try.func23, Try.ntmps23
    go_wp2_with fail
    refine (d _).mono ?_; rintro e w' ⟨rfl, rfl⟩
    go_wp2_with fail
    refine (e _).mono ?_; rintro e w' ⟨rfl, rfl⟩
    go_wp2
    go_ret
    refine ⟨ret_bool ?_, rfl⟩
    first | rfl | (simp; omega)

theorem rdiff_f (a b : Int) (ha : U16 a) (hb : U16 b) (w : World) :
    Calls Try.prog 62 #[.int .u16 a, .int .u16 b] w fun e w' => e = .returned (.int .i64 (diffF a b)) ∧ w = w' := by
  obtain ⟨a1, a2⟩ := ha
  obtain ⟨b1, b2⟩ := hb
  go_enter Try.func62, Try.ntmps62
  go_wp2
  all_goals
    go_ret
    refine ⟨ret_int ?_, rfl⟩
    unfold diffF
    (try unfold wrap64)
    omega

theorem rturn_f (a n : Int) (ha : U16 a) (hn : I64 n) (w : World) :
    Calls Try.prog 61 #[.int .u16 a, .int .i64 n] w fun e w' => e = .returned (.int .u16 (turnF a n)) ∧ w = w' := by
  obtain ⟨a1, a2⟩ := ha
  obtain ⟨b1, b2⟩ := hn
  obtain ⟨m, hm⟩ : ∃ m, n.tmod 65536 = m := ⟨_, rfl⟩
  have hm1 : -65535 ≤ m ∧ m ≤ 65535 ∧ (m - n) % 65536 = 0 := by
    rcases Int.lt_or_le n 0 with h | h
    · have h2 := Int.tmod_eq_emod_of_nonneg (a := -n) (b := 65536) (by omega)
      rw [Int.neg_tmod, hm] at h2
      omega
    · rw [Int.tmod_eq_emod_of_nonneg h] at hm
      omega
  obtain ⟨m1, m2, m3⟩ := hm1
  have M3 := Lib.hid m3
  clear m3
  obtain ⟨k, hk⟩ : ∃ k, (a + m).tmod 65536 = k := ⟨_, rfl⟩
  have hk1 : -65535 ≤ k ∧ k ≤ 65535 ∧ (k - (a + m)) % 65536 = 0 := by
    rcases Int.lt_or_le (a + m) 0 with h | h
    · have h2 := Int.tmod_eq_emod_of_nonneg (a := -(a + m)) (b := 65536) (by omega)
      rw [Int.neg_tmod, hk] at h2
      omega
    · rw [Int.tmod_eq_emod_of_nonneg h] at hk
      omega
  obtain ⟨k1, k2, k3⟩ := hk1
  have K3 := Lib.hid k3
  clear k3
  go_enter Try.func61, Try.ntmps61
  go_wp2
  all_goals
    go_ret
    refine ⟨ret_int ?_, rfl⟩
    unfold turnF
    (try unfold wrap64)
    (try simp only [IntKind.wrap_u16])
    have := M3.out
    have := K3.out
    omega

theorem rlerpA_f (a b num den : Int) (ha : U16 a) (hb : U16 b) (h : fineB num den = true) (w : World) :
    Calls Try.prog 39 #[.int .u16 a, .int .u16 b, .int .i64 num, .int .i64 den] w fun e w' => e = .returned (.int .u16 (alerpF a b num den)) ∧ w = w' := by
  have d := rdiff_f a b ha hb
  obtain ⟨d1, d2⟩ := diffF_bounds a b
  have l := rlerp_f 0 (diffF a b) num den i64_ofA i64_ofA h
  obtain ⟨w1, w2⟩ := way_bounds (a := a) (b := b) h
  have t := rturn_f a (lerpF 0 (diffF a b) num den) ha i64_ofA
  rw [show turnF a (lerpF 0 (diffF a b) num den) = alerpF a b num den from rfl] at t
  generalize lerpF 0 (diffF a b) num den = z at *
  generalize diffF a b = y at *
  clear h
  go_enter Try.func39, Try.ntmps39
  go_wp2_with fail
  refine (d _).mono ?_; rintro e w' ⟨rfl, rfl⟩
  go_wp2_with fail
  refine (l _).mono ?_; rintro e w' ⟨rfl, rfl⟩
  go_wp2_with fail
  refine (t _).mono ?_; rintro e w' ⟨rfl, rfl⟩
  go_wp2
  go_ret
  exact ⟨rfl, rfl⟩

end Go.Proofs.Ytobphhbmlhjbcaa
