/- The laws of layer 3, walked: each returns true. -/
import Derived.Test.YtfhpadbfaacneaaAngle
import Derived.Below
import Derived.WalkSmall
import Derived.Deep.QuietTactic
import Derived.BigQuiet
namespace Go.Proofs.Ytfhpadbfaacneaa
set_option linter.unusedVariables false
set_option linter.unusedSimpArgs false
open Go.RowKit

theorem below_dr (w : World) (n : Nat) : Below w.heap.size w (w.drewN n) := below_drewN (Below.refl _ _) n

theorem turn_diff {a b : Int} (hb : U16 b) : turnF a (diffF a b) = b := by
  obtain ⟨b1, b2⟩ := hb
  unfold turnF diffF; omega
theorem turn_back {a k : Int} (ha : U16 a) : turnF (turnF a k) (-k) = a := by
  obtain ⟨b1, b2⟩ := ha
  unfold turnF; omega
theorem turn_full {a : Int} (ha : U16 a) : turnF a 65536 = a := by
  obtain ⟨b1, b2⟩ := ha
  unfold turnF; omega
theorem diff_turn (a b k : Int) : diffF (turnF a k) (turnF b k) = diffF a b := by
  unfold turnF diffF; omega
theorem diff_neg {a b : Int} (h : diffF a b ≠ -32768) : diffF b a = -diffF a b := by
  unfold diffF at *; omega
theorem turn_turn (a x y : Int) : turnF (turnF a x) y = turnF a (x + y) := by unfold turnF; omega
theorem diff_small {a s : Int} (h : -32768 ≤ s) (h2 : s ≤ 32767) : diffF a (turnF a s) = s := by unfold turnF diffF; omega
theorem diff_self (a : Int) : diffF a a = 0 := by unfold diffF; omega
theorem diff_zero {a b : Int} (ha : U16 a) (hb : U16 b) (h : diffF a b = 0) : b = a := by
  obtain ⟨a1, a2⟩ := ha
  obtain ⟨b1, b2⟩ := hb
  unfold diffF at h; omega
theorem betw_first (a b : Int) : betwF a a b = true := by unfold betwF; rw [diff_self]; exact decide_eq_true (by omega)
theorem betw_last (a b : Int) : betwF b a b = true := by unfold betwF; exact decide_eq_true (by omega)
theorem betw_true {x a b : Int} (h : betwF x a b = true) : min 0 (diffF a b) ≤ diffF a x ∧ diffF a x ≤ max 0 (diffF a b) := of_decide_eq_true h
theorem alerp_betw {a b num den : Int} (h : fineB num den = true) : betwF (alerpF a b num den) a b = true := by
  obtain ⟨w1, w2⟩ := way_bounds (a := a) (b := b) h
  have := lerpF_between (a := 0) (b := diffF a b) h
  unfold betwF alerpF
  rw [diff_small w1 w2]
  exact decide_eq_true this
theorem alerp_diff {a b num den : Int} (h : fineB num den = true) : diffF a (alerpF a b num den) = lerpF 0 (diffF a b) num den := by
  obtain ⟨w1, w2⟩ := way_bounds (a := a) (b := b) h
  unfold alerpF
  rw [diff_small w1 w2]
theorem alerpF_u16 (a b num den : Int) : U16 (alerpF a b num den) := turnF_u16 _ _

set_option maxRecDepth 100000 in
theorem alive_f (w : World) : Calls Try.prog 10 #[] w fun e w' => e = .returned (.bool true) ∧ ∃ n, w' = w.drewN n := by
  have l1 := alerp_f 65000 100 1 2 u16_lit u16_lit (by decide)
  rw [show alerpF 65000 100 1 2 = 65318 by decide] at l1
  have d1 := diff_f 65000 100 u16_lit u16_lit
  rw [show diffF 65000 100 = 636 by decide] at d1
  have d2 := diff_f 0 32768 u16_lit u16_lit
  rw [show diffF 0 32768 = -32768 by decide] at d2
  go_enter Try.func10, Try.ntmps10
  go_wp2_with fail
  refine (l1 _).mono ?_; rintro e w' ⟨rfl, kd1, rfl⟩
  go_wp2_with fail
  refine (d1 _).mono ?_; rintro e w' ⟨rfl, rfl⟩
  go_wp2_with fail
  refine (d2 _).mono ?_; rintro e w' ⟨rfl, rfl⟩
  go_wp2
  go_ret
  exact ⟨rfl, _, rfl⟩

theorem angleWays_walk (a b n : Int) (ha : U16 a) (hb : U16 b) (hn : I64 n) (w : World) :
    Calls Try.prog 3 #[.int .u16 a, .int .u16 b, .int .i64 n] w fun e w' => e = .returned (.bool true) ∧ Below w.heap.size w w' := by
  have h1 := diff_f a b ha hb
  have h2 := rdiff_f a b ha hb
  have h3 := turn_f a n ha hn
  have h4 := rturn_f a n ha hn
  go_enter Try.func3, Try.ntmps3
  go_wp2_with fail
  refine (alive_f _).mono ?_; rintro e w' ⟨rfl, kd4, rfl⟩
  go_wp2_with fail
  refine (h1 _).mono ?_; rintro e w' ⟨rfl, rfl⟩
  go_wp2_with fail
  refine (h2 _).mono ?_; rintro e w' ⟨rfl, rfl⟩
  go_wp2_with fail
  refine (h3 _).mono ?_; rintro e w' ⟨rfl, rfl⟩
  go_wp2_with fail
  refine (h4 _).mono ?_; rintro e w' ⟨rfl, rfl⟩
  go_wp2
  go_ret
  exact ⟨rfl, below_dr _ _⟩

theorem angleBetween_walk (x a b : Int) (hx : U16 x) (ha : U16 a) (hb : U16 b) (w : World) :
    Calls Try.prog 7 #[.int .u16 x, .int .u16 a, .int .u16 b] w fun e w' => e = .returned (.bool true) ∧ Below w.heap.size w w' := by
  have h1 := betw_f x a b hx ha hb
  have h2 := rbetw_f x a b hx ha hb
  have h3 := betw_f a a b ha ha hb
  rw [betw_first] at h3
  have h4 := betw_f b a b hb ha hb
  rw [betw_last] at h4
  generalize betwF x a b = r at *
  cases r
  all_goals
    go_enter Try.func7, Try.ntmps7
    go_wp2_with fail
    refine (alive_f _).mono ?_; rintro e w' ⟨rfl, kd9, rfl⟩
    go_wp2_with fail
    refine (h1 _).mono ?_; rintro e w' ⟨rfl, rfl⟩
    go_wp2_with fail
    refine (h2 _).mono ?_; rintro e w' ⟨rfl, rfl⟩
    go_wp2_with fail
    refine (h3 _).mono ?_; rintro e w' ⟨rfl, rfl⟩
    go_wp2_with fail
    refine (h4 _).mono ?_; rintro e w' ⟨rfl, rfl⟩
    go_wp2
    go_ret
    exact ⟨rfl, below_dr _ _⟩

theorem angleLerps_walk (a b p0 p1 : Int) (ha : U16 a) (hb : U16 b) (h0 : I64 p0) (h1 : I64 p1) (w : World) :
    Calls Try.prog 6 #[.int .u16 a, .int .u16 b, .agg #[.int .i64 p0, .int .i64 p1]] w fun e w' => e = .returned (.bool true) ∧ Below w.heap.size w w' := by
  have f1 := rfine_f p0 p1
  cases hf : fineB p0 p1
  · have l1 := alerp_bad a b p0 p1 ha hb hf
    rw [hf] at f1
    clear hf
    go_enter Try.func6, Try.ntmps6
    go_wp2_with fail
    refine (l1 _).mono ?_; rintro e w' ⟨rfl, rfl⟩
    go_wp2_with fail
    refine (f1 _).mono ?_; rintro e w' ⟨rfl, rfl⟩
    go_wp2_with fail
    refine (alive_f _).mono ?_; rintro e w' ⟨rfl, kd16, rfl⟩
    go_wp2
    go_ret
    exact ⟨rfl, below_drewN ((Below.refl _ _).alloc (Nat.le_refl _) _) _⟩
  · have l1 := alerp_f a b p0 p1 ha hb hf
    have r1 := rlerpA_f a b p0 p1 ha hb hf
    have b1 := betw_f (alerpF a b p0 p1) a b (alerpF_u16 _ _ _ _) ha hb
    rw [alerp_betw hf] at b1
    rw [hf] at f1
    clear hf
    generalize alerpF a b p0 p1 = x at *
    go_enter Try.func6, Try.ntmps6
    go_wp2_with fail
    refine (l1 _).mono ?_; rintro e w' ⟨rfl, kd17, rfl⟩
    go_wp2_with fail
    refine (f1 _).mono ?_; rintro e w' ⟨rfl, rfl⟩
    go_wp2_with fail
    refine (alive_f _).mono ?_; rintro e w' ⟨rfl, kd19, rfl⟩
    go_wp2_with fail
    refine (r1 _).mono ?_; rintro e w' ⟨rfl, rfl⟩
    go_wp2_with fail
    refine (b1 _).mono ?_; rintro e w' ⟨rfl, rfl⟩
    go_wp2
    go_ret
    exact ⟨rfl, below_drewN ((Below.refl _ _).alloc (Nat.le_refl _) _) _⟩

theorem angleRound_walk (a b n : Int) (ha : U16 a) (hb : U16 b) (hn : I64 n) (w : World) :
    Calls Try.prog 4 #[.int .u16 a, .int .u16 b, .int .i64 n] w fun e w' => e = .returned (.bool true) ∧ Below w.heap.size w w' := by
  obtain ⟨k, hk⟩ : ∃ k, n.tmod 1000000 = k := ⟨_, rfl⟩
  have hk1 : -999999 ≤ k ∧ k ≤ 999999 := by
    rcases Int.lt_or_le n 0 with h | h
    · have h2 := Int.tmod_eq_emod_of_nonneg (a := -n) (b := 1000000) (by omega)
      rw [Int.neg_tmod, hk] at h2
      omega
    · rw [Int.tmod_eq_emod_of_nonneg h] at hk
      omega
  obtain ⟨k1, k2⟩ := hk1
  obtain ⟨n1, n2⟩ := hn
  obtain ⟨e1, e2⟩ := diffF_bounds a b
  have d := diff_f a b ha hb
  have t1 := turn_f a (diffF a b) ha i64_of
  rw [turn_diff hb] at t1
  have t2 := turn_f a k ha i64_of
  have t3 := turn_f (turnF a k) (-k) (turnF_u16 _ _) i64_of
  rw [turn_back ha] at t3
  have t4 := turn_f a 65536 ha i64_of
  rw [turn_full ha] at t4
  have t5 := turn_f b k hb i64_of
  have d2 := diff_f (turnF a k) (turnF b k) (turnF_u16 _ _) (turnF_u16 _ _)
  rw [diff_turn] at d2
  have d3 := diff_f b a hb ha
  have hd := Lib.hid (@diff_neg a b)
  generalize turnF a k = ak at *
  generalize turnF b k = bk at *
  generalize diffF b a = z at *
  generalize diffF a b = y at *
  by_cases hy : y = -32768
  · have hy1 : (y == -32768) = true := by simpa using hy
    clear hy
    go_enter Try.func4, Try.ntmps4
    go_wp2_with fail
    refine (d _).mono ?_; rintro e w' ⟨rfl, rfl⟩
    go_wp2_with fail
    refine (t1 _).mono ?_; rintro e w' ⟨rfl, rfl⟩
    go_wp2_with fail
    refine (t2 _).mono ?_; rintro e w' ⟨rfl, rfl⟩
    go_wp2_with fail
    refine (t3 _).mono ?_; rintro e w' ⟨rfl, rfl⟩
    go_wp2_with fail
    refine (t4 _).mono ?_; rintro e w' ⟨rfl, rfl⟩
    go_wp2_with fail
    refine (alive_f _).mono ?_; rintro e w' ⟨rfl, kd27, rfl⟩
    go_wp2_with fail
    refine (t2 _).mono ?_; rintro e w' ⟨rfl, rfl⟩
    go_wp2_with fail
    refine (t5 _).mono ?_; rintro e w' ⟨rfl, rfl⟩
    go_wp2_with fail
    refine (d2 _).mono ?_; rintro e w' ⟨rfl, rfl⟩
    go_wp2
    go_ret
    exact ⟨rfl, below_dr _ _⟩
  · have hy1 : (y == -32768) = false := by simpa using hy
    obtain rfl : z = -y := hd.out hy
    clear hy
    go_enter Try.func4, Try.ntmps4
    go_wp2_with fail
    refine (d _).mono ?_; rintro e w' ⟨rfl, rfl⟩
    go_wp2_with fail
    refine (t1 _).mono ?_; rintro e w' ⟨rfl, rfl⟩
    go_wp2_with fail
    refine (t2 _).mono ?_; rintro e w' ⟨rfl, rfl⟩
    go_wp2_with fail
    refine (t3 _).mono ?_; rintro e w' ⟨rfl, rfl⟩
    go_wp2_with fail
    refine (t4 _).mono ?_; rintro e w' ⟨rfl, rfl⟩
    go_wp2_with fail
    refine (alive_f _).mono ?_; rintro e w' ⟨rfl, kd36, rfl⟩
    go_wp2_with fail
    refine (t2 _).mono ?_; rintro e w' ⟨rfl, rfl⟩
    go_wp2_with fail
    refine (t5 _).mono ?_; rintro e w' ⟨rfl, rfl⟩
    go_wp2_with fail
    refine (d2 _).mono ?_; rintro e w' ⟨rfl, rfl⟩
    go_wp2_with fail
    refine (d3 _).mono ?_; rintro e w' ⟨rfl, rfl⟩
    go_wp2
    go_ret
    exact ⟨rfl, below_dr _ _⟩

theorem angleSums_walk (a n m : Int) (ha : U16 a) (hn : -2147483648 ≤ n ∧ n ≤ 2147483647) (hm : -2147483648 ≤ m ∧ m ≤ 2147483647) (w : World) :
    Calls Try.prog 5 #[.int .u16 a, .int .i32 n, .int .i32 m] w fun e w' => e = .returned (.bool true) ∧ Below w.heap.size w w' := by
  obtain ⟨k, hk⟩ : ∃ k, n.tmod 32768 = k := ⟨_, rfl⟩
  have hk1 : -32767 ≤ k ∧ k ≤ 32767 := by
    rcases Int.lt_or_le n 0 with h | h
    · have h2 := Int.tmod_eq_emod_of_nonneg (a := -n) (b := 32768) (by omega)
      rw [Int.neg_tmod, hk] at h2
      omega
    · rw [Int.tmod_eq_emod_of_nonneg h] at hk
      omega
  obtain ⟨k1, k2⟩ := hk1
  obtain ⟨n1, n2⟩ := hn
  obtain ⟨m1, m2⟩ := hm
  have t1 := turn_f a n ha i64_of
  have t2 := turn_f (turnF a n) m (turnF_u16 _ _) i64_of
  rw [turn_turn] at t2
  have t3 := turn_f a (n + m) ha i64_of
  have t4 := turn_f a k ha i64_of
  have d := diff_f a (turnF a k) ha (turnF_u16 _ _)
  rw [diff_small (by omega) (by omega)] at d
  generalize turnF a k = ak at *
  generalize turnF a n = an at *
  generalize turnF a (n + m) = anm at *
  go_enter Try.func5, Try.ntmps5
  go_wp2_with fail
  refine (t1 _).mono ?_; rintro e w' ⟨rfl, rfl⟩
  go_wp2_with fail
  refine (t2 _).mono ?_; rintro e w' ⟨rfl, rfl⟩
  go_wp2_with fail
  refine (alive_f _).mono ?_; rintro e w' ⟨rfl, kd43, rfl⟩
  go_wp2_with fail
  refine (t3 _).mono ?_; rintro e w' ⟨rfl, rfl⟩
  go_wp2_with fail
  refine (t4 _).mono ?_; rintro e w' ⟨rfl, rfl⟩
  go_wp2_with fail
  refine (d _).mono ?_; rintro e w' ⟨rfl, rfl⟩
  go_wp2
  go_ret
  exact ⟨rfl, below_dr _ _⟩

end Go.Proofs.Ytfhpadbfaacneaa
