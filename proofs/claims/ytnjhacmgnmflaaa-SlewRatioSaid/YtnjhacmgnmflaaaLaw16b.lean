/- More laws of layer 16, walked: each returns true. -/
import Derived.Test.YtnjhacmgnmflaaaLaw16
import Derived.Deep.DeepCutAuto
namespace Go.Proofs.Ytnjhacmgnmflaaa
set_option linter.unusedVariables false
set_option linter.unusedSimpArgs false
open Go.RowKit

theorem roomF_small {a num den : Int} (a0 : 0 ≤ a) (a1 : a ≤ 8589934592) (n0 : 1 ≤ num) (n1 : num ≤ 1000) (d0 : 1 ≤ den) :
    roomF a num den = a * num / den + 1 ∧ 0 ≤ a * num / den ∧ a * num / den ≤ 8589934592000 := by
  have h0 : 0 ≤ a * num := Int.mul_nonneg a0 (by omega)
  have h1 : a * num ≤ 8589934592 * 1000 := Int.mul_le_mul a1 n1 (by omega) (by omega)
  have h2 : 0 ≤ a * num / den := Int.ediv_nonneg h0 (by omega)
  have h3 : a * num / den ≤ a * num := Int.ediv_le_self _ h0
  refine ⟨?_, h2, by omega⟩
  unfold roomF
  rw [show max 0 a = a by omega]
  omega

theorem ediv_sum (A B d : Int) (hd : 0 < d) : A / d + B / d ≤ (A + B) / d ∧ (A + B) / d ≤ A / d + B / d + 1 := by
  have h1 := ediv_mul_bounds A d hd
  have h2 := ediv_mul_bounds B d hd
  have h3 := ediv_mul_bounds (A + B) d hd
  generalize A / d = p at *
  generalize B / d = q at *
  generalize (A + B) / d = r at *
  have e1 : (p + q) * d = p * d + q * d := Int.add_mul _ _ _
  have e2 : (p + q + 1) * d = p * d + q * d + d := by rw [Int.add_mul, Int.add_mul]; omega
  constructor
  · rcases Int.lt_or_le r (p + q) with h | h
    · have : (r + 1) * d ≤ (p + q) * d := Int.mul_le_mul_of_nonneg_right (by omega) (by omega)
      rw [Int.add_mul] at this; omega
    · exact h
  · rcases Int.lt_or_le (p + q + 1) r with h | h
    · have : (p + q + 1 + 1) * d ≤ r * d := Int.mul_le_mul_of_nonneg_right (by omega) (by omega)
      rw [Int.add_mul, e2] at this; omega
    · exact h

theorem room_sum {a b num den : Int} (a0 : 0 ≤ a) (a1 : a ≤ 4294967295) (b0 : 0 ≤ b) (b1 : b ≤ 4294967295) (n0 : 1 ≤ num) (n1 : num ≤ 1000) (d0 : 1 ≤ den) :
    roomF (a + b) num den ≤ roomF a num den + roomF b num den ∧ roomF a num den + roomF b num den ≤ roomF (a + b) num den + 1 ∧ 1 ≤ roomF a num den ∧ 1 ≤ roomF b num den ∧ roomF a num den ≤ 8589934592001 ∧ roomF b num den ≤ 8589934592001 ∧ roomF (a + b) num den ≤ 8589934592001 ∧ 1 ≤ roomF (a + b) num den := by
  obtain ⟨h1, h2, h3⟩ := roomF_small (a := a) a0 (by omega) n0 n1 d0
  obtain ⟨k1, k2, k3⟩ := roomF_small (a := b) b0 (by omega) n0 n1 d0
  obtain ⟨l1, l2, l3⟩ := roomF_small (a := a + b) (by omega) (by omega) n0 n1 d0
  have := ediv_sum (a * num) (b * num) den (by omega)
  rw [← Int.add_mul] at this
  rw [h1, k1, l1]
  omega

theorem u16_tmod {n : Int} (h0 : 0 ≤ n) : 0 ≤ n.tmod 1000 ∧ n.tmod 1000 ≤ 999 := by
  rw [Int.tmod_eq_emod_of_nonneg h0]; omega

theorem ratio_of {a b : Int} (h : 1 ≤ a) (h1 : a ≤ 1048576) (h2 : 1 ≤ b) (h3 : b ≤ 1048576) : ratioB a b = true := ratioB_iff.2 ⟨h, h1, h2, h3⟩

theorem slewSums_walk (a b n0 n1 : Int) (ha : 0 ≤ a ∧ a ≤ 4294967295) (hb : 0 ≤ b ∧ b ≤ 4294967295) (h0 : 0 ≤ n0 ∧ n0 ≤ 65535) (h1 : 0 ≤ n1 ∧ n1 ≤ 65535) (w : World) :
    Calls Try.prog 11 #[.int .u32 a, .int .u32 b, .agg #[.int .u16 n0, .int .u16 n1]] w fun e w' => e = .returned (.bool true) ∧ Below w.heap.size w w' := by
  obtain ⟨a1, a2⟩ := ha
  obtain ⟨b1, b2⟩ := hb
  obtain ⟨p1, p2⟩ := u16_tmod h0.1
  obtain ⟨q1, q2⟩ := u16_tmod h1.1
  obtain ⟨p, hp⟩ : ∃ p, n0.tmod 1000 = p := ⟨_, rfl⟩
  obtain ⟨q, hq⟩ : ∃ q, n1.tmod 1000 = q := ⟨_, rfl⟩
  rw [hp] at p1 p2
  rw [hq] at q1 q2
  have hr : ratioB (1 + p) (1 + q) = true := ratio_of (by omega) (by omega) (by omega) (by omega)
  have x := room_f a (1 + p) (1 + q) (.of (by omega)) hr
  have y := room_f b (1 + p) (1 + q) (.of (by omega)) hr
  have z := room_f (a + b) (1 + p) (1 + q) (.of (by omega)) hr
  obtain ⟨s1, s2, s3, s4, s5, s6, s7, s8⟩ := room_sum (num := 1 + p) (den := 1 + q) a1 a2 b1 b2 (by omega) (by omega) (by omega)
  generalize roomF (a + b) (1 + p) (1 + q) = rz at *
  generalize roomF a (1 + p) (1 + q) = rx at *
  generalize roomF b (1 + p) (1 + q) = ry at *
  clear hr h0 h1
  go_enter Try.func11, Try.ntmps11
  go_wp2_with fail
  go_quiet (fail)
  go_wp2_with fail
  refine (x _).mono ?_; rintro e w' ⟨rfl, k1, rfl⟩
  go_wp2_with fail
  refine (y _).mono ?_; rintro e w' ⟨rfl, k2, rfl⟩
  go_wp2_with fail
  refine (z _).mono ?_; rintro e w' ⟨rfl, k3, rfl⟩
  go_wp2_with fail
  refine (alive16_f _).mono ?_; rintro e w5 ⟨rfl, hb5⟩
  have HB : Hid (Below w.heap.size w w5) := Lib.hid (Below.trans (by (repeat (first | exact Below.refl _ _ | assumption | (refine Below.drew ?_) | (refine below_drewN ?_ _) | (refine Below.alloc ?_ (by simp <;> omega) _) | (refine Below.setCell ?_ (by simp <;> omega) _)))) (hb5.mono (by simp <;> omega)))
  clear hb5
  go_wp2
  go_ret
  exact ⟨rfl, HB.out⟩

theorem roomF_mono {a b num den : Int} (h : a ≤ b) (hn : 0 ≤ num) (hd : 0 < den) : roomF a num den ≤ roomF b num den := by
  have : max 0 a * num / den ≤ max 0 b * num / den := Int.ediv_le_ediv hd (Int.mul_le_mul_of_nonneg_right (by omega) hn)
  unfold roomF; omega
theorem roomF_seven {a num den : Int} (hd : 0 < den) : roomF a (7 * num) (7 * den) = roomF a num den := by
  unfold roomF
  rw [show max 0 a * (7 * num) = 7 * (max 0 a * num) by rw [Int.mul_left_comm], Int.mul_ediv_mul_of_pos _ _ (by omega)]
theorem roomF_one {a den : Int} (ha : 0 ≤ a) (ha1 : a ≤ 9223372036854775807) (hd : 0 < den) : roomF a den den = addF a 1 := by
  unfold roomF addF sat
  rw [Int.mul_ediv_cancel _ (by omega)]
  omega

theorem slewRatio_walk (a b n0 n1 : Int) (ha : I64 a) (hb : I64 b) (h0 : 0 ≤ n0 ∧ n0 ≤ 65535) (h1 : 0 ≤ n1 ∧ n1 ≤ 65535) (w : World) :
    Calls Try.prog 10 #[.int .i64 a, .int .i64 b, .agg #[.int .u16 n0, .int .u16 n1]] w fun e w' => e = .returned (.bool true) ∧ Below w.heap.size w w' := by
  obtain ⟨a1, a2⟩ := ha
  obtain ⟨b1, b2⟩ := hb
  obtain ⟨p1, p2⟩ := u16_tmod h0.1
  obtain ⟨q1, q2⟩ := u16_tmod h1.1
  obtain ⟨p, hp⟩ : ∃ p, n0.tmod 1000 = p := ⟨_, rfl⟩
  obtain ⟨q, hq⟩ : ∃ q, n1.tmod 1000 = q := ⟨_, rfl⟩
  rw [hp] at p1 p2
  rw [hq] at q1 q2
  obtain ⟨lo, hlo⟩ : ∃ lo, max 0 (min a b) = lo := ⟨_, rfl⟩
  obtain ⟨hi, hhi⟩ : ∃ hi, max (max 0 a) b = hi := ⟨_, rfl⟩
  have l0 : 0 ≤ lo ∧ lo ≤ 9223372036854775807 ∧ lo ≤ hi ∧ hi ≤ 9223372036854775807 := by omega
  obtain ⟨l1, l2, l3, l4⟩ := l0
  have hr : ratioB (1 + p) (1 + q) = true := ratio_of (by omega) (by omega) (by omega) (by omega)
  have x := room_f lo (1 + p) (1 + q) (.of (by omega)) hr
  have y := room_f hi (1 + p) (1 + q) (.of (by omega)) hr
  have z := room_f hi (7 * (1 + p)) (7 * (1 + q)) (.of (by omega)) (ratio_of (by omega) (by omega) (by omega) (by omega))
  rw [roomF_seven (by omega)] at z
  have v := room_f lo (1 + q) (1 + q) (.of (by omega)) (ratio_of (by omega) (by omega) (by omega) (by omega))
  rw [roomF_one (by omega) (by omega) (by omega)] at v
  have ad := add_f lo 1 (.of (by omega)) (.of (by omega))
  have s1 := roomF_mono (num := 1 + p) (den := 1 + q) l3 (by omega) (by omega)
  have s2 := (roomF_bounds (adv := lo) (num := 1 + p) (den := 1 + q) (by omega) (by omega)).1
  generalize addF lo 1 = al at *
  generalize roomF lo (1 + p) (1 + q) = rx at *
  generalize roomF hi (1 + p) (1 + q) = ry at *
  have y : ∀ h, h = hi → ∀ w, Calls Try.prog 25 #[.int .i64 h, .int .i64 (1 + p), .int .i64 (1 + q)] w fun e w' => e = .returned (.tuple #[.int .i64 ry, .int .i64 0]) ∧ ∃ k, w' = w.drewN k := fun h e => by subst e; exact y
  have z : ∀ h, h = hi → ∀ w, Calls Try.prog 25 #[.int .i64 h, .int .i64 (7 * (1 + p)), .int .i64 (7 * (1 + q))] w fun e w' => e = .returned (.tuple #[.int .i64 ry, .int .i64 0]) ∧ ∃ k, w' = w.drewN k := fun h e => by subst e; exact z
  clear hr h0 h1
  go_enter Try.func10, Try.ntmps10
  go_wp2_with fail
  all_goals go_quiet (fail)
  all_goals go_wp2_with fail
  all_goals (refine (x _).mono ?_; rintro e w' ⟨rfl, k1, rfl⟩)
  all_goals go_wp2_with fail
  all_goals
    refine (y _ (by omega) _).mono ?_; rintro e w' ⟨rfl, k2, rfl⟩
    go_wp2_with fail
    refine (z _ (by omega) _).mono ?_; rintro e w' ⟨rfl, k3, rfl⟩
    go_wp2_with fail
    refine (v _).mono ?_; rintro e w' ⟨rfl, k4, rfl⟩
    go_wp2_with fail
    refine (alive16_f _).mono ?_; rintro e w5 ⟨rfl, hb5⟩
    have HB : Hid (Below w.heap.size w w5) := Lib.hid (Below.trans (by (repeat (first | exact Below.refl _ _ | assumption | (refine Below.drew ?_) | (refine below_drewN ?_ _) | (refine Below.alloc ?_ (by simp <;> omega) _) | (refine Below.setCell ?_ (by simp <;> omega) _)))) (hb5.mono (by simp <;> omega)))
    clear hb5
    go_wp2_with fail
    refine (ad _).mono ?_; rintro e w' ⟨rfl, rfl⟩
    go_wp2
    go_ret
    exact ⟨rfl, HB.out⟩
end Go.Proofs.Ytnjhacmgnmflaaa
