/- The reference of layer 15, walked. -/
import Derived.Test.YtobphhbmlhjbcaaDelay2
import Derived.Test.YtobphhbmlhjbcaaRefPart
namespace Go.Proofs.Ytobphhbmlhjbcaa
set_option linter.unusedVariables false
set_option linter.unusedSimpArgs false
open Go.RowKit

theorem rfine15_f (n : Int) (w : World) :
    Calls Try.prog 63 #[.int .i64 n] w fun e w' => e = .returned (.bool (inB n 2305843009213693952)) ∧ w = w' := by
  by_cases h1 : 0 ≤ n <;> by_cases h2 : n ≤ 2305843009213693952
  · have HE : Hid (inB n 2305843009213693952 = true) := Lib.hid (decide_eq_true ⟨h1, h2⟩)
    go_enter Try.func63, Try.ntmps63
    go_wp2
    go_ret
    exact ⟨by rw [HE.out]; rfl, rfl⟩
  · have HE : Hid (inB n 2305843009213693952 = false) := Lib.hid (decide_eq_false (by omega))
    have hd : decide (n ≤ 2305843009213693952) = false := decide_eq_false h2
    go_enter Try.func63, Try.ntmps63
    go_wp2
    go_ret
    exact ⟨by rw [HE.out]; rfl, rfl⟩
  · have HE : Hid (inB n 2305843009213693952 = false) := Lib.hid (decide_eq_false (by omega))
    go_enter Try.func63, Try.ntmps63
    go_wp2
    go_ret
    exact ⟨by rw [HE.out]; rfl, rfl⟩
  · have HE : Hid (inB n 2305843009213693952 = false) := Lib.hid (decide_eq_false (by omega))
    go_enter Try.func63, Try.ntmps63
    go_wp2
    go_ret
    exact ⟨by rw [HE.out]; rfl, rfl⟩

set_option maxHeartbeats 1000000 in
theorem rcheck15_f (c : Cfg) (w : World) :
    Calls Try.prog 40 #[cfgV c] w fun e w' => e = .returned (.int .i64 (dchk c)) ∧ Below w.heap.size w w' := by
  have HD : Hid (dchk c = if inB c.base 2305843009213693952 && inB c.least 2305843009213693952 && inB c.most 2305843009213693952 && inB c.slack 2305843009213693952 && inB c.gain 68719476736 then (if c.most < c.least then 10 else 0) else 3) := Lib.hid rfl
  have f1 := rfine15_f c.base
  have f2 := rfine15_f c.least
  have f3 := rfine15_f c.most
  have f4 := rfine15_f c.slack
  unfold cfgV
  cases b1 : inB c.base 2305843009213693952
  · rw [b1] at f1
    have HE : Hid (dchk c = 3) := Lib.hid (by rw [HD.out, b1]; rfl)
    clear b1
    go_enter Try.func40, Try.ntmps40
    go_wp2_with fail
    refine (f1 _).mono ?_; rintro e w' ⟨rfl, rfl⟩
    go_wp2
    go_ret
    exact ⟨ret_int HE.out.symm, (Below.refl _ _).alloc (Nat.le_refl _) _⟩
  rw [b1] at f1
  cases b2 : inB c.least 2305843009213693952
  · rw [b2] at f2
    have HE : Hid (dchk c = 3) := Lib.hid (by rw [HD.out, b1, b2]; rfl)
    clear b1 b2
    go_enter Try.func40, Try.ntmps40
    go_wp2_with fail
    refine (f1 _).mono ?_; rintro e w' ⟨rfl, rfl⟩
    go_wp2_with fail
    refine (f2 _).mono ?_; rintro e w' ⟨rfl, rfl⟩
    go_wp2
    go_ret
    exact ⟨ret_int HE.out.symm, (Below.refl _ _).alloc (Nat.le_refl _) _⟩
  rw [b2] at f2
  cases b3 : inB c.most 2305843009213693952
  · rw [b3] at f3
    have HE : Hid (dchk c = 3) := Lib.hid (by rw [HD.out, b1, b2, b3]; rfl)
    clear b1 b2 b3
    go_enter Try.func40, Try.ntmps40
    go_wp2_with fail
    refine (f1 _).mono ?_; rintro e w' ⟨rfl, rfl⟩
    go_wp2_with fail
    refine (f2 _).mono ?_; rintro e w' ⟨rfl, rfl⟩
    go_wp2_with fail
    refine (f3 _).mono ?_; rintro e w' ⟨rfl, rfl⟩
    go_wp2
    go_ret
    exact ⟨ret_int HE.out.symm, (Below.refl _ _).alloc (Nat.le_refl _) _⟩
  rw [b3] at f3
  cases b4 : inB c.slack 2305843009213693952
  · rw [b4] at f4
    have HE : Hid (dchk c = 3) := Lib.hid (by rw [HD.out, b1, b2, b3, b4]; rfl)
    clear b1 b2 b3 b4
    go_enter Try.func40, Try.ntmps40
    go_wp2_with fail
    refine (f1 _).mono ?_; rintro e w' ⟨rfl, rfl⟩
    go_wp2_with fail
    refine (f2 _).mono ?_; rintro e w' ⟨rfl, rfl⟩
    go_wp2_with fail
    refine (f3 _).mono ?_; rintro e w' ⟨rfl, rfl⟩
    go_wp2_with fail
    refine (f4 _).mono ?_; rintro e w' ⟨rfl, rfl⟩
    go_wp2
    go_ret
    exact ⟨ret_int HE.out.symm, (Below.refl _ _).alloc (Nat.le_refl _) _⟩
  rw [b4] at f4
  by_cases h5 : c.gain < 0
  · have HE : Hid (dchk c = 3) := Lib.hid (by rw [HD.out, b1, b2, b3, b4, inB_false (n := c.gain) (.inl h5)]; rfl)
    clear b1 b2 b3 b4
    go_enter Try.func40, Try.ntmps40
    go_wp2_with fail
    refine (f1 _).mono ?_; rintro e w' ⟨rfl, rfl⟩
    go_wp2_with fail
    refine (f2 _).mono ?_; rintro e w' ⟨rfl, rfl⟩
    go_wp2_with fail
    refine (f3 _).mono ?_; rintro e w' ⟨rfl, rfl⟩
    go_wp2_with fail
    refine (f4 _).mono ?_; rintro e w' ⟨rfl, rfl⟩
    go_wp2
    go_ret
    exact ⟨ret_int HE.out.symm, (Below.refl _ _).alloc (Nat.le_refl _) _⟩
  by_cases h6 : 68719476736 < c.gain
  · have HE : Hid (dchk c = 3) := Lib.hid (by rw [HD.out, b1, b2, b3, b4, inB_false (n := c.gain) (.inr h6)]; rfl)
    clear b1 b2 b3 b4
    go_enter Try.func40, Try.ntmps40
    go_wp2_with fail
    refine (f1 _).mono ?_; rintro e w' ⟨rfl, rfl⟩
    go_wp2_with fail
    refine (f2 _).mono ?_; rintro e w' ⟨rfl, rfl⟩
    go_wp2_with fail
    refine (f3 _).mono ?_; rintro e w' ⟨rfl, rfl⟩
    go_wp2_with fail
    refine (f4 _).mono ?_; rintro e w' ⟨rfl, rfl⟩
    go_wp2
    go_ret
    exact ⟨ret_int HE.out.symm, (Below.refl _ _).alloc (Nat.le_refl _) _⟩
  have HE : Hid (dchk c = if c.most < c.least then 10 else 0) := Lib.hid (by rw [HD.out, b1, b2, b3, b4, inB_true h5 h6]; rfl)
  clear b1 b2 b3 b4
  by_cases hm : c.most < c.least
  · have HE2 : Hid (dchk c = 10) := Lib.hid (by rw [HE.out, if_pos hm])
    go_enter Try.func40, Try.ntmps40
    go_wp2_with fail
    refine (f1 _).mono ?_; rintro e w' ⟨rfl, rfl⟩
    go_wp2_with fail
    refine (f2 _).mono ?_; rintro e w' ⟨rfl, rfl⟩
    go_wp2_with fail
    refine (f3 _).mono ?_; rintro e w' ⟨rfl, rfl⟩
    go_wp2_with fail
    refine (f4 _).mono ?_; rintro e w' ⟨rfl, rfl⟩
    go_wp2
    go_ret
    exact ⟨ret_int HE2.out.symm, (Below.refl _ _).alloc (Nat.le_refl _) _⟩
  · have HE2 : Hid (dchk c = 0) := Lib.hid (by rw [HE.out, if_neg hm])
    go_enter Try.func40, Try.ntmps40
    go_wp2_with fail
    refine (f1 _).mono ?_; rintro e w' ⟨rfl, rfl⟩
    go_wp2_with fail
    refine (f2 _).mono ?_; rintro e w' ⟨rfl, rfl⟩
    go_wp2_with fail
    refine (f3 _).mono ?_; rintro e w' ⟨rfl, rfl⟩
    go_wp2_with fail
    refine (f4 _).mono ?_; rintro e w' ⟨rfl, rfl⟩
    go_wp2
    go_ret
    exact ⟨ret_int HE2.out.symm, (Below.refl _ _).alloc (Nat.le_refl _) _⟩

end Go.Proofs.Ytobphhbmlhjbcaa
