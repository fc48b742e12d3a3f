/- The reference of layer 15, walked. -/
import Derived.Test.YtbpbkdpjolcofaaDelay2
import Derived.Test.YtbpbkdpjolcofaaRefPart
namespace Go.Proofs.Ytbpbkdpjolcofaa
set_option linter.unusedVariables false
set_option linter.unusedSimpArgs false
open Go.RowKit

theorem rfine15_f (n : Int) (w : World) :
    Calls Try.prog 68 #[.int .i64 n] w fun e w' => e = .returned (.bool (inB n 2305843009213693952)) ∧ w = w' := by
  by_cases h1 : 0 ≤ n <;> by_cases h2 : n ≤ 2305843009213693952
  · have HE : Hid (inB n 2305843009213693952 = true) := Lib.hid (decide_eq_true ⟨h1, h2⟩)
    go_enter Try.func68, Try.ntmps68
    go_wp2
    go_ret
    exact ⟨by rw [HE.out]; rfl, rfl⟩
  · have HE : Hid (inB n 2305843009213693952 = false) := Lib.hid (decide_eq_false (by omega))
    have hd : decide (n ≤ 2305843009213693952) = false := decide_eq_false h2
    go_enter Try.func68, Try.ntmps68
    go_wp2
    go_ret
    exact ⟨by rw [HE.out]; rfl, rfl⟩
  · have HE : Hid (inB n 2305843009213693952 = false) := Lib.hid (decide_eq_false (by omega))
    go_enter Try.func68, Try.ntmps68
    go_wp2
    go_ret
    exact ⟨by rw [HE.out]; rfl, rfl⟩
  · have HE : Hid (inB n 2305843009213693952 = false) := Lib.hid (decide_eq_false (by omega))
    go_enter Try.func68, Try.ntmps68
    go_wp2
    go_ret
    exact ⟨by rw [HE.out]; rfl, rfl⟩

set_option maxHeartbeats 1000000 in
theorem rcheck15_f (c : Cfg) (w : World) :
    Calls Try.prog 48 #[cfgV c] w fun e w' => e = .returned (.int .i64 (dchk c)) ∧ Below w.heap.size w w' := by
  have HD : Hid (dchk c = if inB c.base 2305843009213693952 && inB c.least 2305843009213693952 && inB c.most 2305843009213693952 && inB c.slack 2305843009213693952 && inB c.gain 68719476736 then (if c.most < c.least then 10 else 0) else 3) := Lib.hid rfl
  have f1 := rfine15_f c.base
  have f2 := rfine15_f c.least
  have f3 := rfine15_f c.most
  have f4 := rfine15_f c.slack
  unfold cfgV
  cases b1 : inB c.base 2305843009213693952
  · rw [b1] at f1
    have HE : Hid (dchk c = 3) := Lib.hid (by rw [HD.out, b1]; rfl)
    clear b1
    go_enter Try.func48, Try.ntmps48
    go_wp2_with fail
    refine (f1 _).mono ?_; rintro e w' ⟨rfl, rfl⟩
    go_wp2
    go_ret
    exact ⟨ret_int HE.out.symm, (Below.refl _ _).alloc (Nat.le_refl _) _⟩
  rw [b1] at f1
  cases b2 : inB c.least 2305843009213693952
  · rw [b2] at f2
    have HE : Hid (dchk c = 3) := Lib.hid (by rw [HD.out, b1, b2]; rfl)
    clear b1 b2
    go_enter Try.func48, Try.ntmps48
    go_wp2_with fail
    refine (f1 _).mono ?_; rintro e w' ⟨rfl, rfl⟩
    go_wp2_with fail
    refine (f2 _).mono ?_; rintro e w' ⟨rfl, rfl⟩
    go_wp2
    go_ret
    exact ⟨ret_int HE.out.symm, (Below.refl _ _).alloc (Nat.le_refl _) _⟩
  rw [b2] at f2
  cases b3 : inB c.most 2305843009213693952
  · rw [b3] at f3
    have HE : Hid (dchk c = 3) := Lib.hid (by rw [HD.out, b1, b2, b3]; rfl)
    clear b1 b2 b3
    go_enter Try.func48, Try.ntmps48
    go_wp2_with fail
    refine (f1 _).mono ?_; rintro e w' ⟨rfl, rfl⟩
    go_wp2_with fail
    refine (f2 _).mono ?_; rintro e w' ⟨rfl, rfl⟩
    go_wp2_with fail
    refine (f3 _).mono ?_; rintro e w' ⟨rfl, rfl⟩
    go_wp2
    go_ret
    exact ⟨ret_int HE.out.symm, (Below.refl _ _).alloc (Nat.le_refl _) _⟩
  rw [b3] at f3
  cases b4 : inB c.slack 2305843009213693952
  · rw [b4] at f4
    have HE : Hid (dchk c = 3) := Lib.hid (by rw [HD.out, b1, b2, b3, b4]; rfl)
    clear b1 b2 b3 b4
    go_enter Try.func48, Try.ntmps48
    go_wp2_with fail
    refine (f1 _).mono ?_; rintro e w' ⟨rfl, rfl⟩
    go_wp2_with fail
    refine (f2 _).mono ?_; rintro e w' ⟨rfl, rfl⟩
    go_wp2_with fail
    refine (f3 _).mono ?_; rintro e w' ⟨rfl, rfl⟩
    go_wp2_with fail
    refine (f4 _).mono ?_; rintro e w' ⟨rfl, rfl⟩
    go_wp2
    go_ret
    exact ⟨ret_int HE.out.symm, (Below.refl _ _).alloc (Nat.le_refl _) _⟩
  rw [b4] at f4
  by_cases h5 : c.gain < 0
  · have HE : Hid (dchk c = 3) := Lib.hid (by rw [HD.out, b1, b2, b3, b4, inB_false (n := c.gain) (.inl h5)]; rfl)
    clear b1 b2 b3 b4
    go_enter Try.func48, Try.ntmps48
    go_wp2_with fail
    refine (f1 _).mono ?_; rintro e w' ⟨rfl, rfl⟩
    go_wp2_with fail
    refine (f2 _).mono ?_; rintro e w' ⟨rfl, rfl⟩
    go_wp2_with fail
    refine (f3 _).mono ?_; rintro e w' ⟨rfl, rfl⟩
    go_wp2_with fail
    refine (f4 _).mono ?_; rintro e w' ⟨rfl, rfl⟩
    go_wp2
    go_ret
    exact ⟨ret_int HE.out.symm, (Below.refl _ _).alloc (Nat.le_refl _) _⟩
  by_cases h6 : 68719476736 < c.gain
  · have HE : Hid (dchk c = 3) := Lib.hid (by rw [HD.out, b1, b2, b3, b4, inB_false (n := c.gain) (.inr h6)]; rfl)
    clear b1 b2 b3 b4
    go_enter Try.func48, Try.ntmps48
    go_wp2_with fail
    refine (f1 _).mono ?_; rintro e w' ⟨rfl, rfl⟩
    go_wp2_with fail
    refine (f2 _).mono ?_; rintro e w' ⟨rfl, rfl⟩
    go_wp2_with fail
    refine (f3 _).mono ?_; rintro e w' ⟨rfl, rfl⟩
    go_wp2_with fail
    refine (f4 _).mono ?_; rintro e w' ⟨rfl, rfl⟩
    go_wp2
    go_ret
    exact ⟨ret_int HE.out.symm, (Below.refl _ _).alloc (Nat.le_refl _) _⟩
  have HE : Hid (dchk c = if c.most < c.least then 10 else 0) := Lib.hid (by rw [HD.out, b1, b2, b3, b4, inB_true h5 h6]; rfl)
  clear b1 b2 b3 b4
  by_cases hm : c.most < c.least
  · have HE2 : Hid (dchk c = 10) := Lib.hid (by rw [HE.out, if_pos hm])
    go_enter Try.func48, Try.ntmps48
    go_wp2_with fail
    refine (f1 _).mono ?_; rintro e w' ⟨rfl, rfl⟩
    go_wp2_with fail
    refine (f2 _).mono ?_; rintro e w' ⟨rfl, rfl⟩
    go_wp2_with fail
    refine (f3 _).mono ?_; rintro e w' ⟨rfl, rfl⟩
    go_wp2_with fail
    refine (f4 _).mono ?_; rintro e w' ⟨rfl, rfl⟩
    go_wp2
    go_ret
    exact ⟨ret_int HE2.out.symm, (Below.refl _ _).alloc (Nat.le_refl _) _⟩
  · have HE2 : Hid (dchk c = 0) := Lib.hid (by rw [HE.out, if_neg hm])
    go_enter Try.func48, Try.ntmps48
    go_wp2_with fail
    refine (f1 _).mono ?_; rintro e w' ⟨rfl, rfl⟩
    go_wp2_with fail
    refine (f2 _).mono ?_; rintro e w' ⟨rfl, rfl⟩
    go_wp2_with fail
    refine (f3 _).mono ?_; rintro e w' ⟨rfl, rfl⟩
    go_wp2_with fail
    refine (f4 _).mono ?_; rintro e w' ⟨rfl, rfl⟩
    go_wp2
    go_ret
    exact ⟨ret_int HE2.out.symm, (Below.refl _ _).alloc (Nat.le_refl _) _⟩

theorem rtarget_f (c : Cfg) (j : Int) (ok : c.Ok) (hj : I64 j) (w : World) :
    Calls Try.prog 49 #[cfgV c, .int .i64 j] w fun e w' => e = .returned (.int .i64 (targF c j)) ∧ Below w.heap.size w w' := by
  have m := rmul_f c.gain (max 0 j) ok.gain (i64_max hj)
  have a := radd_f c.base (mulF c.gain (max 0 j)) ok.base (mulF_i64 _ _)
  have cl := rclamp_f (addF c.base (mulF c.gain (max 0 j))) c.least c.most
  have HT : Hid (targF c j = clampF (addF c.base (mulF c.gain (max 0 j))) c.least c.most) := Lib.hid rfl
  generalize clampF (addF c.base (mulF c.gain (max 0 j))) c.least c.most = t at *
  generalize addF c.base (mulF c.gain (max 0 j)) = s at *
  generalize mulF c.gain (max 0 j) = p at *
  unfold cfgV
  by_cases hn : j < 0
  · rw [show max 0 j = 0 by omega] at m
    go_enter Try.func49, Try.ntmps49
    go_wp2_with fail
    go_quiet (first | (go_at_call 71; exact qsame (m _)) | (go_at_call 70; exact qsame (a _)) | (go_at_call 69; exact qsame (cl _)))
    go_wp2
    go_ret
    exact ⟨ret_int HT.out.symm, below_drewN ((Below.refl _ _).alloc (Nat.le_refl _) _) _⟩
  · rw [show max 0 j = j by omega] at m
    go_enter Try.func49, Try.ntmps49
    go_wp2_with fail
    go_quiet (first | (go_at_call 71; exact qsame (m _)) | (go_at_call 70; exact qsame (a _)) | (go_at_call 69; exact qsame (cl _)))
    go_wp2
    go_ret
    exact ⟨ret_int HT.out.symm, below_drewN ((Below.refl _ _).alloc (Nat.le_refl _) _) _⟩

theorem rupdate_f (c : Cfg) (now j : Int) (ok : c.Ok) (h0 : dchk c = 0) (hn : InLim c now) (hj : I64 j) (w : World) :
    Calls Try.prog 52 #[cfgV c, .int .i64 now, .int .i64 j] w fun e w' => e = .returned (.int .i64 (updF c now j)) ∧ Below w.heap.size w w' := by
  have tg := rtarget_f c j ok hj
  obtain ⟨_, ⟨l1, l2⟩, ⟨l3, l4⟩, ⟨l5, l6⟩, _, _⟩ := dchk_ok h0
  obtain ⟨t1, t2⟩ := targF_lim h0 j
  obtain ⟨n1, n2⟩ := hn
  have HU : Hid (updF c now j = if c.slack < max (targF c j - now) (now - targF c j) then targF c j else now) := Lib.hid rfl
  generalize targF c j = t at *
  clear h0
  unfold cfgV at tg ⊢
  go_enter Try.func52, Try.ntmps52
  go_wp2_with fail
  refine (tg _).mono ?_; rintro e w1 ⟨rfl, hb1⟩
  obtain ⟨hc1, hf1⟩ := bcell hb1
  rw [World.size_alloc] at hb1 hc1 hf1
  by_cases h1 : c.slack < t - now
  · have HE : Hid (updF c now j = t) := Lib.hid (by rw [HU.out, if_pos (by omega)])
    go_wp2
    go_ret
    exact ⟨ret_int HE.out.symm, ((Below.refl _ _).alloc (Nat.le_refl _) _).trans (hb1.mono (by omega))⟩
  · by_cases h2 : c.slack < now - t
    · have HE : Hid (updF c now j = t) := Lib.hid (by rw [HU.out, if_pos (by omega)])
      go_wp2
      go_ret
      exact ⟨ret_int HE.out.symm, ((Below.refl _ _).alloc (Nat.le_refl _) _).trans (hb1.mono (by omega))⟩
    · have HE : Hid (updF c now j = now) := Lib.hid (by rw [HU.out, if_neg (by omega)])
      go_wp2
      go_ret
      exact ⟨ret_int HE.out.symm, ((Below.refl _ _).alloc (Nat.le_refl _) _).trans (hb1.mono (by omega))⟩
end Go.Proofs.Ytbpbkdpjolcofaa
