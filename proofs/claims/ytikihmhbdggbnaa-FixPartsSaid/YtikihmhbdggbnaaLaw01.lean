/- The laws of layer 1, walked: each returns true. -/
import Derived.Test.YtikihmhbdggbnaaRefPart
import Derived.Test.YtikihmhbdggbnaaNum2
import Derived.Below
import Derived.WalkSmall
namespace Go.Proofs.Ytikihmhbdggbnaa
set_option linter.unusedVariables false
set_option linter.unusedSimpArgs false
open Go.RowKit

theorem i64_lit {a : Int} (h : -9223372036854775808 ≤ a := by omega) (h2 : a ≤ 9223372036854775807 := by omega) : I64 a := ⟨h, h2⟩
theorem below_dr (w : World) (n : Nat) : Below w.heap.size w (w.drewN n) := below_drewN (Below.refl _ _) n

set_option maxRecDepth 100000 in
theorem alive_f (w : World) : Calls Try.prog 15 #[] w fun e w' => e = .returned (.bool true) ∧ ∃ n, w' = w.drewN n := by
  have l1 := lerp_f 0 10 1 3 i64_lit i64_lit (by decide)
  rw [show lerpF 0 10 1 3 = 3 by decide] at l1
  have l2 := lerp_f 10 0 1 3 i64_lit i64_lit (by decide)
  rw [show lerpF 10 0 1 3 = 6 by decide] at l2
  have m1 := mul_f 98304 (-32768) i64_lit i64_lit
  rw [show mulF 98304 (-32768) = -49152 by decide] at m1
  have m2 := mul_f (-1) 1 i64_lit i64_lit
  rw [show mulF (-1) 1 = -1 by decide] at m2
  go_enter Try.func15, Try.ntmps15
  go_wp2_with fail
  refine (l1 _).mono ?_; rintro e w' ⟨rfl, k1, rfl⟩
  go_wp2_with fail
  refine (l2 _).mono ?_; rintro e w' ⟨rfl, k2, rfl⟩
  go_wp2_with fail
  refine (m1 _).mono ?_; rintro e w' ⟨rfl, rfl⟩
  go_wp2_with fail
  refine (m2 _).mono ?_; rintro e w' ⟨rfl, rfl⟩
  go_wp2
  go_ret
  exact ⟨rfl, _, rfl⟩

theorem fixAdds_walk (a b : Int) (ha : I64 a) (hb : I64 b) (w : World) :
    Calls Try.prog 7 #[.int .i64 a, .int .i64 b] w fun e w' => e = .returned (.bool true) ∧ Below w.heap.size w w' := by
  have h1 := add_f a b ha hb
  have h2 := radd_f a b ha hb
  have h3 := sub_f a b ha hb
  have h4 := rsub_f a b ha hb
  have h5 := neg_f a ha
  have h6 := rneg_f a ha
  go_enter Try.func7, Try.ntmps7
  go_wp2_with fail
  refine (alive_f _).mono ?_; rintro e w' ⟨rfl, kd1, rfl⟩
  go_wp2_with fail
  refine (h1 _).mono ?_; rintro e w' ⟨rfl, rfl⟩
  go_wp2_with fail
  refine (h2 _).mono ?_; rintro e w' ⟨rfl, rfl⟩
  go_wp2_with fail
  refine (h3 _).mono ?_; rintro e w' ⟨rfl, rfl⟩
  go_wp2_with fail
  refine (h4 _).mono ?_; rintro e w' ⟨rfl, rfl⟩
  go_wp2_with fail
  refine (h5 _).mono ?_; rintro e w' ⟨rfl, rfl⟩
  go_wp2_with fail
  refine (h6 _).mono ?_; rintro e w' ⟨rfl, rfl⟩
  go_wp2
  go_ret
  exact ⟨rfl, below_dr _ _⟩

theorem fixMuls_walk (a b : Int) (ha : I64 a) (hb : I64 b) (w : World) :
    Calls Try.prog 8 #[.int .i64 a, .int .i64 b] w fun e w' => e = .returned (.bool true) ∧ Below w.heap.size w w' := by
  have h1 := mul_f a b ha hb
  have h2 := rmul_f a b ha hb
  have h3 := div_f a b ha hb
  have h4 := rdiv_f a b ha hb
  go_enter Try.func8, Try.ntmps8
  go_wp2_with fail
  refine (alive_f _).mono ?_; rintro e w' ⟨rfl, kd8, rfl⟩
  go_wp2_with fail
  refine (h1 _).mono ?_; rintro e w' ⟨rfl, rfl⟩
  go_wp2_with fail
  refine (h2 _).mono ?_; rintro e w' ⟨rfl, rfl⟩
  go_wp2_with fail
  refine (h3 _).mono ?_; rintro e w' ⟨rfl, kd11, rfl⟩
  go_wp2_with fail
  refine (h4 _).mono ?_; rintro e w' ⟨rfl, rfl⟩
  go_wp2
  go_ret
  exact ⟨rfl, below_dr _ _⟩

theorem fixClamps_walk (x a b : Int) (hx : I64 x) (ha : I64 a) (hb : I64 b) (w : World) :
    Calls Try.prog 4 #[.int .i64 x, .int .i64 a, .int .i64 b] w fun e w' => e = .returned (.bool true) ∧ Below w.heap.size w w' := by
  have h1 := clamp_f x a b
  have h2 := rclamp_f x a b
  have h3 := clamp_f (clampF x a b) b a
  rw [clampF_again] at h3
  obtain ⟨c1, c2⟩ := clampF_between (x := x) (a := a) (b := b)
  generalize clampF x a b = y at *
  rcases Int.le_total a b with hab | hab
  all_goals
    have c3 : min a b ≤ y := c1
    have c4 : y ≤ max a b := c2
    clear c1 c2
    go_enter Try.func4, Try.ntmps4
    go_wp2_with fail
    refine (h1 _).mono ?_; rintro e w' ⟨rfl, rfl⟩
    go_wp2_with fail
    refine (alive_f _).mono ?_; rintro e w' ⟨rfl, kd14, rfl⟩
    go_wp2_with fail
    refine (h2 _).mono ?_; rintro e w' ⟨rfl, rfl⟩
    go_wp2_with fail
    all_goals
      (try (exfalso; omega))
      refine (h3 _).mono ?_; rintro e w' ⟨rfl, rfl⟩
      go_wp2
      go_ret
      exact ⟨rfl, below_dr _ _⟩

set_option maxHeartbeats 400000 in
theorem fixSigns_walk (a b : Int) (ha : I64 a) (hb : I64 b) (w : World) :
    Calls Try.prog 12 #[.int .i64 a, .int .i64 b] w fun e w' => e = .returned (.bool true) ∧ Below w.heap.size w w' := by
  have z : I64 0 := i64_lit
  have o : I64 65536 := i64_lit
  have h1 := add_f a b ha hb
  have h2 := add_f b a hb ha
  rw [addF_comm] at h2
  have h3 := mul_f a b ha hb
  have h4 := mul_f b a hb ha
  rw [mulF_comm] at h4
  have h5 := add_f a 0 ha z
  rw [addF_zero ha] at h5
  have h6 := mul_f a 65536 ha o
  rw [mulF_one ha] at h6
  have h7 := div_f a 65536 ha o
  rw [divF_one ha] at h7
  have h8 := sub_f a a ha ha
  rw [subF_self] at h8
  have h9 := mul_f a 0 ha z
  rw [mulF_zero] at h9
  have h10 := sub_f a b ha hb
  have h11 := add_f (subF a b) b (subF_i64 a b) hb
  have back := Lib.hid (@sub_add_back a b ha)
  have n1 := neg_f a ha
  have n2 := neg_f (negF a) (negF_i64 a)
  have nb := Lib.hid (@neg_neg_back a ha)
  generalize subF a b = d at *
  generalize negF a = na at *
  by_cases ham : a = -9223372036854775808
  · have am : (a == -9223372036854775808) = true := by simpa using ham
    clear ham
    by_cases d1 : d = 9223372036854775807
    · have d1' : (d != 9223372036854775807) = false := by simpa using d1
      clear d1
      go_enter Try.func12, Try.ntmps12
      go_wp2_with fail
      refine (h1 _).mono ?_; rintro e w' ⟨rfl, rfl⟩
      go_wp2_with fail
      refine (h2 _).mono ?_; rintro e w' ⟨rfl, rfl⟩
      go_wp2_with fail
      refine (h3 _).mono ?_; rintro e w' ⟨rfl, rfl⟩
      go_wp2_with fail
      refine (h4 _).mono ?_; rintro e w' ⟨rfl, rfl⟩
      go_wp2_with fail
      refine (h5 _).mono ?_; rintro e w' ⟨rfl, rfl⟩
      go_wp2_with fail
      refine (h6 _).mono ?_; rintro e w' ⟨rfl, rfl⟩
      go_wp2_with fail
      refine (h7 _).mono ?_; rintro e w' ⟨rfl, kd22, rfl⟩
      go_wp2_with fail
      refine (h8 _).mono ?_; rintro e w' ⟨rfl, rfl⟩
      go_wp2_with fail
      refine (h9 _).mono ?_; rintro e w' ⟨rfl, rfl⟩
      go_wp2_with fail
      refine (h10 _).mono ?_; rintro e w' ⟨rfl, rfl⟩
      go_wp2_with fail
      refine (alive_f _).mono ?_; rintro e w' ⟨rfl, kd26, rfl⟩
      go_wp2
      go_ret
      exact ⟨rfl, below_dr _ _⟩
    · have d1' : (d != 9223372036854775807) = true := by simpa using d1
      by_cases d2 : d = -9223372036854775808
      · have d2' : (d != -9223372036854775808) = false := by simpa using d2
        clear d1 d2
        go_enter Try.func12, Try.ntmps12
        go_wp2_with fail
        refine (h1 _).mono ?_; rintro e w' ⟨rfl, rfl⟩
        go_wp2_with fail
        refine (h2 _).mono ?_; rintro e w' ⟨rfl, rfl⟩
        go_wp2_with fail
        refine (h3 _).mono ?_; rintro e w' ⟨rfl, rfl⟩
        go_wp2_with fail
        refine (h4 _).mono ?_; rintro e w' ⟨rfl, rfl⟩
        go_wp2_with fail
        refine (h5 _).mono ?_; rintro e w' ⟨rfl, rfl⟩
        go_wp2_with fail
        refine (h6 _).mono ?_; rintro e w' ⟨rfl, rfl⟩
        go_wp2_with fail
        refine (h7 _).mono ?_; rintro e w' ⟨rfl, kd33, rfl⟩
        go_wp2_with fail
        refine (h8 _).mono ?_; rintro e w' ⟨rfl, rfl⟩
        go_wp2_with fail
        refine (h9 _).mono ?_; rintro e w' ⟨rfl, rfl⟩
        go_wp2_with fail
        refine (h10 _).mono ?_; rintro e w' ⟨rfl, rfl⟩
        go_wp2_with fail
        refine (alive_f _).mono ?_; rintro e w' ⟨rfl, kd37, rfl⟩
        go_wp2
        go_ret
        exact ⟨rfl, below_dr _ _⟩
      · have d2' : (d != -9223372036854775808) = true := by simpa using d2
        rw [back.out d1 d2] at h11
        clear d1 d2
        go_enter Try.func12, Try.ntmps12
        go_wp2_with fail
        refine (h1 _).mono ?_; rintro e w' ⟨rfl, rfl⟩
        go_wp2_with fail
        refine (h2 _).mono ?_; rintro e w' ⟨rfl, rfl⟩
        go_wp2_with fail
        refine (h3 _).mono ?_; rintro e w' ⟨rfl, rfl⟩
        go_wp2_with fail
        refine (h4 _).mono ?_; rintro e w' ⟨rfl, rfl⟩
        go_wp2_with fail
        refine (h5 _).mono ?_; rintro e w' ⟨rfl, rfl⟩
        go_wp2_with fail
        refine (h6 _).mono ?_; rintro e w' ⟨rfl, rfl⟩
        go_wp2_with fail
        refine (h7 _).mono ?_; rintro e w' ⟨rfl, kd44, rfl⟩
        go_wp2_with fail
        refine (h8 _).mono ?_; rintro e w' ⟨rfl, rfl⟩
        go_wp2_with fail
        refine (h9 _).mono ?_; rintro e w' ⟨rfl, rfl⟩
        go_wp2_with fail
        refine (h10 _).mono ?_; rintro e w' ⟨rfl, rfl⟩
        go_wp2_with fail
        refine (h11 _).mono ?_; rintro e w' ⟨rfl, rfl⟩
        go_wp2_with fail
        refine (alive_f _).mono ?_; rintro e w' ⟨rfl, kd49, rfl⟩
        go_wp2
        go_ret
        exact ⟨rfl, below_dr _ _⟩
  · have am : (a == -9223372036854775808) = false := by simpa using ham
    rw [nb.out ham] at n2
    clear ham
    by_cases d1 : d = 9223372036854775807
    · have d1' : (d != 9223372036854775807) = false := by simpa using d1
      clear d1
      go_enter Try.func12, Try.ntmps12
      go_wp2_with fail
      refine (h1 _).mono ?_; rintro e w' ⟨rfl, rfl⟩
      go_wp2_with fail
      refine (h2 _).mono ?_; rintro e w' ⟨rfl, rfl⟩
      go_wp2_with fail
      refine (h3 _).mono ?_; rintro e w' ⟨rfl, rfl⟩
      go_wp2_with fail
      refine (h4 _).mono ?_; rintro e w' ⟨rfl, rfl⟩
      go_wp2_with fail
      refine (h5 _).mono ?_; rintro e w' ⟨rfl, rfl⟩
      go_wp2_with fail
      refine (h6 _).mono ?_; rintro e w' ⟨rfl, rfl⟩
      go_wp2_with fail
      refine (h7 _).mono ?_; rintro e w' ⟨rfl, kd56, rfl⟩
      go_wp2_with fail
      refine (h8 _).mono ?_; rintro e w' ⟨rfl, rfl⟩
      go_wp2_with fail
      refine (h9 _).mono ?_; rintro e w' ⟨rfl, rfl⟩
      go_wp2_with fail
      refine (h10 _).mono ?_; rintro e w' ⟨rfl, rfl⟩
      go_wp2_with fail
      refine (alive_f _).mono ?_; rintro e w' ⟨rfl, kd60, rfl⟩
      go_wp2_with fail
      refine (n1 _).mono ?_; rintro e w' ⟨rfl, rfl⟩
      go_wp2_with fail
      refine (n2 _).mono ?_; rintro e w' ⟨rfl, rfl⟩
      go_wp2
      go_ret
      exact ⟨rfl, below_dr _ _⟩
    · have d1' : (d != 9223372036854775807) = true := by simpa using d1
      by_cases d2 : d = -9223372036854775808
      · have d2' : (d != -9223372036854775808) = false := by simpa using d2
        clear d1 d2
        go_enter Try.func12, Try.ntmps12
        go_wp2_with fail
        refine (h1 _).mono ?_; rintro e w' ⟨rfl, rfl⟩
        go_wp2_with fail
        refine (h2 _).mono ?_; rintro e w' ⟨rfl, rfl⟩
        go_wp2_with fail
        refine (h3 _).mono ?_; rintro e w' ⟨rfl, rfl⟩
        go_wp2_with fail
        refine (h4 _).mono ?_; rintro e w' ⟨rfl, rfl⟩
        go_wp2_with fail
        refine (h5 _).mono ?_; rintro e w' ⟨rfl, rfl⟩
        go_wp2_with fail
        refine (h6 _).mono ?_; rintro e w' ⟨rfl, rfl⟩
        go_wp2_with fail
        refine (h7 _).mono ?_; rintro e w' ⟨rfl, kd69, rfl⟩
        go_wp2_with fail
        refine (h8 _).mono ?_; rintro e w' ⟨rfl, rfl⟩
        go_wp2_with fail
        refine (h9 _).mono ?_; rintro e w' ⟨rfl, rfl⟩
        go_wp2_with fail
        refine (h10 _).mono ?_; rintro e w' ⟨rfl, rfl⟩
        go_wp2_with fail
        refine (alive_f _).mono ?_; rintro e w' ⟨rfl, kd73, rfl⟩
        go_wp2_with fail
        refine (n1 _).mono ?_; rintro e w' ⟨rfl, rfl⟩
        go_wp2_with fail
        refine (n2 _).mono ?_; rintro e w' ⟨rfl, rfl⟩
        go_wp2
        go_ret
        exact ⟨rfl, below_dr _ _⟩
      · have d2' : (d != -9223372036854775808) = true := by simpa using d2
        rw [back.out d1 d2] at h11
        clear d1 d2
        go_enter Try.func12, Try.ntmps12
        go_wp2_with fail
        refine (h1 _).mono ?_; rintro e w' ⟨rfl, rfl⟩
        go_wp2_with fail
        refine (h2 _).mono ?_; rintro e w' ⟨rfl, rfl⟩
        go_wp2_with fail
        refine (h3 _).mono ?_; rintro e w' ⟨rfl, rfl⟩
        go_wp2_with fail
        refine (h4 _).mono ?_; rintro e w' ⟨rfl, rfl⟩
        go_wp2_with fail
        refine (h5 _).mono ?_; rintro e w' ⟨rfl, rfl⟩
        go_wp2_with fail
        refine (h6 _).mono ?_; rintro e w' ⟨rfl, rfl⟩
        go_wp2_with fail
        refine (h7 _).mono ?_; rintro e w' ⟨rfl, kd82, rfl⟩
        go_wp2_with fail
        refine (h8 _).mono ?_; rintro e w' ⟨rfl, rfl⟩
        go_wp2_with fail
        refine (h9 _).mono ?_; rintro e w' ⟨rfl, rfl⟩
        go_wp2_with fail
        refine (h10 _).mono ?_; rintro e w' ⟨rfl, rfl⟩
        go_wp2_with fail
        refine (h11 _).mono ?_; rintro e w' ⟨rfl, rfl⟩
        go_wp2_with fail
        refine (alive_f _).mono ?_; rintro e w' ⟨rfl, kd87, rfl⟩
        go_wp2_with fail
        refine (n1 _).mono ?_; rintro e w' ⟨rfl, rfl⟩
        go_wp2_with fail
        refine (n2 _).mono ?_; rintro e w' ⟨rfl, rfl⟩
        go_wp2
        go_ret
        exact ⟨rfl, below_dr _ _⟩

theorem rises_flat (lo hi c : Int) (hlo : I64 lo) (hhi : I64 hi) (hc : I64 c) (h : lo ≤ hi) :
    (∃ p q, (∀ w, Calls Try.prog 22 #[.int .i64 lo, .int .i64 c] w fun e w' => e = .returned (.int .i64 p) ∧ w = w') ∧ (∀ w, Calls Try.prog 22 #[.int .i64 hi, .int .i64 c] w fun e w' => e = .returned (.int .i64 q) ∧ w = w') ∧ p ≤ q) ∧
    (∃ p q, (∀ w, Calls Try.prog 24 #[.int .i64 lo, .int .i64 c] w fun e w' => e = .returned (.int .i64 p) ∧ w = w') ∧ (∀ w, Calls Try.prog 24 #[.int .i64 hi, .int .i64 c] w fun e w' => e = .returned (.int .i64 q) ∧ w = w') ∧ p ≤ q) ∧
    (0 ≤ c → ∃ p q, (∀ w, Calls Try.prog 28 #[.int .i64 lo, .int .i64 c] w fun e w' => e = .returned (.int .i64 p) ∧ w = w') ∧ (∀ w, Calls Try.prog 28 #[.int .i64 hi, .int .i64 c] w fun e w' => e = .returned (.int .i64 q) ∧ w = w') ∧ p ≤ q) ∧
    (0 < c → ∃ p q, (∀ w, Calls Try.prog 30 #[.int .i64 lo, .int .i64 c] w fun e w' => e = .returned (.int .i64 p) ∧ ∃ k, w' = w.drewN k) ∧ (∀ w, Calls Try.prog 30 #[.int .i64 hi, .int .i64 c] w fun e w' => e = .returned (.int .i64 q) ∧ ∃ k, w' = w.drewN k) ∧ p ≤ q) :=
  ⟨⟨_, _, add_f lo c hlo hc, add_f hi c hhi hc, addF_mono h⟩, ⟨_, _, sub_f lo c hlo hc, sub_f hi c hhi hc, subF_mono h⟩,
    fun h0 => ⟨_, _, mul_f lo c hlo hc, mul_f hi c hhi hc, mulF_mono h h0⟩, fun h0 => ⟨_, _, div_f lo c hlo hc, div_f hi c hhi hc, divF_mono h h0⟩⟩

theorem fixRises_walk (a b c : Int) (ha : I64 a) (hb : I64 b) (hc : I64 c) (w : World) :
    Calls Try.prog 11 #[.int .i64 a, .int .i64 b, .int .i64 c] w fun e w' => e = .returned (.bool true) ∧ Below w.heap.size w w' := by
  obtain ⟨lo, e1⟩ : ∃ lo, min a b = lo := ⟨_, rfl⟩
  obtain ⟨hi, e2⟩ : ∃ hi, max a b = hi := ⟨_, rfl⟩
  obtain ⟨k, e3⟩ : ∃ k, max 0 c = k := ⟨_, rfl⟩
  have hlo : I64 lo := by unfold I64 at *; omega
  have hhi : I64 hi := by unfold I64 at *; omega
  have hk : I64 k := by unfold I64 at *; omega
  have hle : lo ≤ hi := by omega
  have hk0 : 0 ≤ k := by omega
  have hk2 : k ≠ 0 → 0 < k := by omega
  obtain ⟨⟨p1, q1, a1, b1, l1⟩, ⟨p2, q2, a2, b2, l2⟩, y1, y2⟩ := rises_flat lo hi c hlo hhi hc hle
  obtain ⟨y3, y4, m, d⟩ := rises_flat lo hi k hlo hhi hk hle
  obtain ⟨p3, q3, a3, b3, l3⟩ := m hk0
  clear m y1 y2 y3 y4 hk0
  by_cases hk0 : k = 0
  · have hk1 : (k == 0) = true := by simpa using hk0
    clear d hk0 hk2
    go_enter Try.func11, Try.ntmps11
    go_wp2_with fail
    refine (alive_f _).mono ?_; rintro e w' ⟨rfl, kd90, rfl⟩
    go_wp2_with fail
    refine (a1 _).mono ?_; rintro e w' ⟨rfl, rfl⟩
    go_wp2_with fail
    refine (b1 _).mono ?_; rintro e w' ⟨rfl, rfl⟩
    go_wp2_with fail
    refine (a2 _).mono ?_; rintro e w' ⟨rfl, rfl⟩
    go_wp2_with fail
    refine (b2 _).mono ?_; rintro e w' ⟨rfl, rfl⟩
    go_wp2_with fail
    refine (a3 _).mono ?_; rintro e w' ⟨rfl, rfl⟩
    go_wp2_with fail
    refine (b3 _).mono ?_; rintro e w' ⟨rfl, rfl⟩
    go_wp2
    go_ret
    exact ⟨rfl, below_dr _ _⟩
  · obtain ⟨p4, q4, a4, b4, l4⟩ := d (hk2 hk0)
    have hk1 : (k == 0) = false := by simpa using hk0
    clear d hk0 hk2
    go_enter Try.func11, Try.ntmps11
    go_wp2_with fail
    refine (alive_f _).mono ?_; rintro e w' ⟨rfl, kd97, rfl⟩
    go_wp2_with fail
    refine (a1 _).mono ?_; rintro e w' ⟨rfl, rfl⟩
    go_wp2_with fail
    refine (b1 _).mono ?_; rintro e w' ⟨rfl, rfl⟩
    go_wp2_with fail
    refine (a2 _).mono ?_; rintro e w' ⟨rfl, rfl⟩
    go_wp2_with fail
    refine (b2 _).mono ?_; rintro e w' ⟨rfl, rfl⟩
    go_wp2_with fail
    refine (a3 _).mono ?_; rintro e w' ⟨rfl, rfl⟩
    go_wp2_with fail
    refine (b3 _).mono ?_; rintro e w' ⟨rfl, rfl⟩
    go_wp2_with fail
    refine (a4 _).mono ?_; rintro e w' ⟨rfl, kd104, rfl⟩
    go_wp2_with fail
    refine (b4 _).mono ?_; rintro e w' ⟨rfl, kd105, rfl⟩
    go_wp2
    go_ret
    exact ⟨rfl, below_dr _ _⟩

set_option maxHeartbeats 400000 in
theorem fixTurns_walk (a b : Int) (ha : -2147483648 ≤ a ∧ a ≤ 2147483647) (hb : -2147483648 ≤ b ∧ b ≤ 2147483647) (w : World) :
    Calls Try.prog 9 #[.int .i32 a, .int .i32 b] w fun e w' => e = .returned (.bool true) ∧ Below w.heap.size w w' := by
  obtain ⟨a1, a2⟩ := ha
  obtain ⟨b1, b2⟩ := hb
  have ia : I64 a := i64_lit
  have ib : I64 b := i64_lit
  have ina : I64 (-a) := i64_lit
  have inb : I64 (-b) := i64_lit
  have m1 := mul_f a b ia ib
  have m2 := mul_f (-a) b ina ib
  have m3 := mul_f (-a) (-b) ina inb
  obtain ⟨t1, t2, t3, t4, t5, t6⟩ := turn_mul (x := a) (y := b) (by omega) (by omega) (by omega) (by omega)
  rw [t2] at m3
  have hz : b = 0 → mulF a b = 0 := fun h => by rw [h, mulF_zero]
  have d1 := div_f a b ia ib
  have d2 := div_f a (-b) ia inb
  have td := @turn_div a b (by omega) (by omega)
  generalize mulF a b = p at *
  generalize mulF (-a) b = q at *
  clear t2
  by_cases hb0 : b = 0
  · have hp := hz hb0
    subst hb0
    subst hp
    have hq : (q != 0) = false ∨ (q != 0) = true ∧ (q != -1) = false := by
      rcases t1 with h | h
      · left; simp; omega
      · right; simp; omega
    clear hz td d1 d2 t1
    rcases hq with hq | ⟨hq1, hq2⟩
    · go_enter Try.func9, Try.ntmps9
      go_wp2_with fail
      refine (m1 _).mono ?_; rintro e w' ⟨rfl, rfl⟩
      go_wp2_with fail
      refine (m2 _).mono ?_; rintro e w' ⟨rfl, rfl⟩
      go_wp2_with fail
      refine (alive_f _).mono ?_; rintro e w' ⟨rfl, kd108, rfl⟩
      go_wp2
      go_ret
      exact ⟨rfl, below_dr _ _⟩
    · go_enter Try.func9, Try.ntmps9
      go_wp2_with fail
      refine (m1 _).mono ?_; rintro e w' ⟨rfl, rfl⟩
      go_wp2_with fail
      refine (m2 _).mono ?_; rintro e w' ⟨rfl, rfl⟩
      go_wp2_with fail
      refine (alive_f _).mono ?_; rintro e w' ⟨rfl, kd111, rfl⟩
      go_wp2
      go_ret
      exact ⟨rfl, below_dr _ _⟩
  · have hb1 : (b == 0) = false := by simpa using hb0
    obtain ⟨t7, t8, t9, t10, t11⟩ := td hb0
    clear td hz
    generalize divF a b = r at *
    generalize divF a (-b) = s at *
    have hpq : (p + q != 0) = false ∨ (p + q != 0) = true ∧ (p + q != -1) = false := by
      rcases t1 with h | h
      · left; simp; omega
      · right; simp; omega
    have hrs : (r + s == 0) = true ∨ (r + s == 0) = false ∧ (r + s == -1) = true := by
      rcases t7 with h | h
      · left; simp; omega
      · right; simp; omega
    clear t1 t7 hb0
    rcases hpq with hq | ⟨hq1, hq2⟩ <;> rcases hrs with hr | ⟨hr1, hr2⟩
    all_goals
      go_enter Try.func9, Try.ntmps9
      go_wp2_with fail
      refine (m1 _).mono ?_; rintro e w' ⟨rfl, rfl⟩
      go_wp2_with fail
      refine (m2 _).mono ?_; rintro e w' ⟨rfl, rfl⟩
      go_wp2_with fail
      refine (d1 _).mono ?_; rintro e w' ⟨rfl, kd114, rfl⟩
      go_wp2_with fail
      refine (d2 _).mono ?_; rintro e w' ⟨rfl, kd115, rfl⟩
      go_wp2_with fail
      refine (alive_f _).mono ?_; rintro e w' ⟨rfl, kd116, rfl⟩
      go_wp2_with fail
      refine (m1 _).mono ?_; rintro e w' ⟨rfl, rfl⟩
      go_wp2_with fail
      refine (m3 _).mono ?_; rintro e w' ⟨rfl, rfl⟩
      go_wp2
      go_ret
      exact ⟨rfl, below_dr _ _⟩

theorem fixDivs_walk (a b : Int) (ha : -2147483648 ≤ a ∧ a ≤ 2147483647) (hb : 0 ≤ b ∧ b ≤ 4294967295) (w : World) :
    Calls Try.prog 10 #[.int .i32 a, .int .u32 b] w fun e w' => e = .returned (.bool true) ∧ Below w.heap.size w w' := by
  obtain ⟨a1, a2⟩ := ha
  obtain ⟨b1, b2⟩ := hb
  by_cases hb0 : b = 0
  · subst hb0
    go_enter Try.func10, Try.ntmps10
    go_wp2_with fail
    refine (alive_f _).mono ?_; rintro e w' ⟨rfl, kd119, rfl⟩
    go_wp2
    go_ret
    exact ⟨rfl, below_dr _ _⟩
  · have hb1 : (b == 0) = false := by simpa using hb0
    have d1 := div_f a b i64_lit i64_lit
    have m1 := mul_f (divF a b) b (divF_i64 a b) i64_lit
    obtain ⟨k1, k2⟩ := div_back (x := a) (y := b) a1 a2 (by omega) b2
    generalize mulF (divF a b) b = p at *
    have pl : -18446744073709551616 ≤ p := by omega
    have hp : I64 p := by
      have := mulF_i64 (divF a b) b
      unfold I64; omega
    obtain ⟨p1, p2⟩ := hp
    go_enter Try.func10, Try.ntmps10
    go_wp2_with fail
    refine (d1 _).mono ?_; rintro e w' ⟨rfl, kd120, rfl⟩
    go_wp2_with fail
    refine (m1 _).mono ?_; rintro e w' ⟨rfl, rfl⟩
    go_wp2_with fail
    refine (alive_f _).mono ?_; rintro e w' ⟨rfl, kd122, rfl⟩
    go_wp2
    go_ret
    exact ⟨rfl, below_dr _ _⟩

end Go.Proofs.Ytikihmhbdggbnaa
