/- package clock: New; no clock. -/
import Derived.Test.YtbpbkdpjolcofaaClock4
namespace Go.Proofs.Ytbpbkdpjolcofaa
set_option linter.unusedVariables false
set_option linter.unusedSimpArgs false
open Go.RowKit

theorem cnew_bad (c : Cfg) (hc : cchk c ≠ 0) (w : World) :
    Calls Try.prog 10 #[cfgV c] w fun e w' => e = .returned (.tuple #[.pointer none, .int .i64 (cchk c)]) ∧ Below w.heap.size w w' := by
  have hk := ccheck_f c
  have h0' : (cchk c != 0) = true := by simpa using hc
  clear hc
  generalize cchk c = k at *
  unfold cfgV at hk ⊢
  go_enter Try.func10, Try.ntmps10
  go_wp2_with fail
  refine (hk _).mono ?_; rintro e w1 ⟨rfl, hb1⟩
  go_wp2
  go_ret2
  exact ⟨rfl, ((Below.refl _ _).alloc (Nat.le_refl _) _).trans (hb1.mono (by simp))⟩

/-- a new clock is told -/
def NewClk (c : Cfg) (w : World) (e : Ending) (w' : World) : Prop :=
  ∃ b S, e = .returned (.tuple #[.pointer (some ⟨b, 0, none⟩), .int .i64 0]) ∧ CkAt w' b c (cs0 c) S ∧ (∀ k, S k → w.heap.size ≤ k) ∧ Below w.heap.size w w'

set_option maxHeartbeats 1000000 in
theorem cnew_ok (c : Cfg) (ok : c.Ok) (hc : cchk c = 0) (w : World) :
    Calls Try.prog 10 #[cfgV c] w (NewClk c w) := by
  obtain ⟨hw, h0, hr⟩ := cchk_ok hc
  obtain ⟨_, _, r1, r2⟩ := winOk_iff.1 hw
  have hk := ccheck_f c
  rw [hc] at hk
  have cw := wnew_ok c.window r1 r2
  have cs := snew_ok c.num c.den hr
  have cd := dnew_ok c ok h0
  have HW := Lib.hid (win_new c.window)
  have HX : Hid (c.window = (c.window.toNat : Nat)) := Lib.hid (by omega)
  have OK := Lib.hid ok
  clear ok hc hw h0 hr r1 r2
  unfold cfgV at hk cd ⊢
  go_enter Try.func10, Try.ntmps10
  go_wp2_with fail
  refine (hk _).mono ?_; rintro e w1 ⟨rfl, hb1⟩
  have CB := Lib.hid ((Blk.new w #[.int .i64 c.ring, .int .i64 c.window, .int .i64 c.base, .int .i64 c.gain, .int .i64 c.least, .int .i64 c.most, .int .i64 c.slack, .int .i64 c.num, .int .i64 c.den, .int .i64 c.extra, .bool c.curved] 23).below hb1 (by simp))
  obtain ⟨q0, q1, q2, q3, q4, q5, q6, q7, q8, q9, q10⟩ := cfg_cells CB.out
  have HB : Hid (Below w.heap.size w w1) := Lib.hid (((Below.refl _ _).alloc (Nat.le_refl _) _).trans (hb1.mono (by simp)))
  have z1 : w.heap.size < w1.heap.size := by have := hb1.size; simp at this; omega
  clear hb1
  go_wp2_with fail
  refine (cw _).mono ?_; rintro e w2 ⟨rfl, rfl⟩
  go_wp2_with fail
  refine (cs _).mono ?_; rintro e w3 ⟨rfl, rfl⟩
  go_wp2_with fail
  refine (cd _).mono ?_; rintro e w4 ⟨bd, rfl, kd, D4, hb4⟩
  have DD := Lib.hid D4
  have HB4 := Lib.hid hb4
  have HK := Lib.hid kd
  have z4 := Lib.hid hb4.size
  clear q0 q1 q2 q3 q4 q5 q6 q7 q8 q9 q10 D4 hb4 kd hk cw cs cd
  go_wp2_with fail
  go_loopw [42, 12] (fun i v wr => ∃ k : Int, i = .int .i64 k ∧ 0 ≤ k ∧ k ≤ 3 ∧ w4.alloc (.cells #[.int .i64 0, .int .i64 0, .int .i64 0] 26) = wr) (fun i _ _ => 3 - (intOf i).toNat)
  case atStart => exact ⟨0, rfl, by omega, by omega, rfl⟩
  case round =>
    obtain ⟨k, rfl, h0, h3, rfl⟩ := hrel
    rcases (show k = 0 ∨ k = 1 ∨ k = 2 ∨ k = 3 by omega) with rfl | rfl | rfl | rfl
    · go_wp2
      go_roundw
      case rel => exact ⟨1, rfl, by omega, by omega, by first | rfl | trivial⟩
      case measure => simp [intOf]
    · go_wp2
      go_roundw
      case rel => exact ⟨2, rfl, by omega, by omega, by first | rfl | trivial⟩
      case measure => simp [intOf]
    · go_wp2
      go_roundw
      case rel => exact ⟨3, rfl, by omega, by omega, by first | rfl | trivial⟩
      case measure => simp [intOf]
    · go_wp2_with fail
      refine (jnew_f _).mono ?_; rintro e w5 ⟨rfl, rfl⟩
      go_wp2
      go_ret2
      have k1 := HK.out; have k4 := z4.out; have kl := DD.out.lt
      simp at k1 k4
      have O4 : Only noB w4 (((w4.alloc (.cells #[.int .i64 0, .int .i64 0, .int .i64 0] 26)).alloc (.cells #[.int .i64 0, .int .i64 0] 95)).alloc (.cells #[.pointer (some ⟨w1.heap.size, 0, none⟩), .pointer (some ⟨w1.heap.size + 1, 0, none⟩), .pointer (some ⟨w4.heap.size + 1, 0, none⟩), .pointer (some ⟨bd, 0, none⟩)] 73)) := (((Only.refl noB w4).alloc _).alloc _).alloc _
      have O3 := (Only.of_below (S := noB) HB4.out)
      have OW := ((Only.refl noB (w1.alloc (.cells #[.int .i64 c.window, .slice none 0 0, .slice none 0 0, .slice none 0 0] 89))).alloc (.cells #[.int .i64 c.num, .int .i64 c.den, .int .i64 0, .int .i64 0, .int .i64 0] 91)).trans (O3.trans O4)
      have OS := O3.trans O4
      have BS := Blk.new (w1.alloc (.cells #[.int .i64 c.window, .slice none 0 0, .slice none 0 0, .slice none 0 0] 89)) #[.int .i64 c.num, .int .i64 c.den, .int .i64 0, .int .i64 0, .int .i64 0] 91
      have BJ := (Blk.new (w4.alloc (.cells #[.int .i64 0, .int .i64 0, .int .i64 0] 26)) #[.int .i64 0, .int .i64 0] 95).alloc (.cells #[.pointer (some ⟨w1.heap.size, 0, none⟩), .pointer (some ⟨w1.heap.size + 1, 0, none⟩), .pointer (some ⟨w4.heap.size + 1, 0, none⟩), .pointer (some ⟨bd, 0, none⟩)] 73)
      have BC := Blk.new ((w4.alloc (.cells #[.int .i64 0, .int .i64 0, .int .i64 0] 26)).alloc (.cells #[.int .i64 0, .int .i64 0] 95)) #[.pointer (some ⟨w1.heap.size, 0, none⟩), .pointer (some ⟨w1.heap.size + 1, 0, none⟩), .pointer (some ⟨w4.heap.size + 1, 0, none⟩), .pointer (some ⟨bd, 0, none⟩)] 73
      simp only [World.size_alloc] at BS BJ BC
      refine ⟨w4.heap.size + 2, fun k => k = w1.heap.size ∨ k = w1.heap.size + 1 ∨ k = bd ∨ k = w4.heap.size + 1 ∨ k = w4.heap.size + 2, ?_, ⟨w1.heap.size, w1.heap.size + 1, w4.heap.size + 1, bd, fun k => k = w1.heap.size, 0, ?_⟩, fun k hk => by omega, ?_⟩
      · simp
      · refine ⟨BC, ?_, OS.blk BS (fun hf => hf), BJ, O4.blk DD.out (fun hf => hf), ⟨Int.le_refl _, Int.le_refl _⟩, fun k hk => by simp; omega, by simp, by omega, by omega⟩
        rw [show lastN c.window.toNat (cs0 c).L = [] by simp [lastN, cs0], ← HX.out]
        exact (HW.out w1).only OW (fun _ _ hf => hf)
      · exact HB.out.trans ((((((Below.refl _ _).alloc (by omega) _).alloc (by simp; omega) _).trans ((HB4.out).mono (by simp; omega))).trans ((((Below.refl _ w4).alloc (by omega) _).alloc (by simp; omega) _).alloc (by simp; omega) _)))

/- no clock -/
theorem nil_offset (w : World) :
    Calls Try.prog 17 #[.pointer none] w fun e w' => e = .returned (.tuple #[.int .i64 0, .bool false]) ∧ w = w' := by
  go_enter Try.func17, Try.ntmps17
  go_wp2
  go_ret2
  exact ⟨rfl, rfl⟩
theorem nil_frame (x : Int) (w : World) :
    Calls Try.prog 13 #[.pointer none, .int .i64 x] w fun e w' => e = .returned (.tuple #[.int .i64 0, .bool false]) ∧ w = w' := by
  go_enter Try.func13, Try.ntmps13
  go_wp2_with fail
  refine (nil_offset _).mono ?_; rintro e w' ⟨rfl, rfl⟩
  go_wp2
  go_ret2
  exact ⟨rfl, rfl⟩
theorem nil_sample (x y : Int) (w : World) :
    Calls Try.prog 12 #[.pointer none, .int .i64 x, .int .i64 y] w fun e w' => e = .returned (.int .i64 1) ∧ w = w' := by
  go_enter Try.func12, Try.ntmps12
  go_wp2
  go_ret
  exact ⟨rfl, rfl⟩
theorem nil_jitter (w : World) :
    Calls Try.prog 19 #[.pointer none] w fun e w' => e = .returned (.int .i64 0) ∧ w = w' := by
  go_enter Try.func19, Try.ntmps19
  go_wp2
  go_ret
  exact ⟨rfl, rfl⟩
theorem nil_delay (w : World) :
    Calls Try.prog 20 #[.pointer none] w fun e w' => e = .returned (.int .i64 0) ∧ w = w' := by
  go_enter Try.func20, Try.ntmps20
  go_wp2
  go_ret
  exact ⟨rfl, rfl⟩
theorem nil_samples (w : World) :
    Calls Try.prog 28 #[.pointer none] w fun e w' => e = .returned (.int .i64 0) ∧ w = w' := by
  go_enter Try.func28, Try.ntmps28
  go_wp2
  go_ret
  exact ⟨rfl, rfl⟩
end Go.Proofs.Ytbpbkdpjolcofaa
