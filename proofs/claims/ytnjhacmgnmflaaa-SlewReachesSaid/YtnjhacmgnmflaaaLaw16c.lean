/- Laws of layer 16 with a clock, walked: each returns true. -/
import Derived.Test.YtnjhacmgnmflaaaLaw16
import Derived.Deep.DeepCutAuto
import Derived.LoopTactic
namespace Go.Proofs.Ytnjhacmgnmflaaa
set_option linter.unusedVariables false
set_option linter.unusedSimpArgs false
open Go.RowKit

theorem toF_still {at0 l want num den : Int} (hr : ratioB num den = true) : toF at0 l l want num den = max at0 (min want (addF at0 1)) := by
  unfold toF
  rw [show max l l = l by omega, subF_self, roomF_zero hr]
theorem toF_stays {at0 last reading want num den : Int} (h : want ≤ at0) : toF at0 last reading want num den = at0 := by
  unfold toF; omega

/-- two numbers in a box -/
abbrev Two (w : World) (b : Nat) (x y : Int) : Prop := Blk w b #[.int .i64 x, .int .i64 y] 40

theorem two_cells {w : World} {b : Nat} {x y : Int} (h : Two w b x y) : w.cell? ⟨b, 0, none⟩ = some (.int .i64 x) ∧ w.cell? ⟨b, 1, none⟩ = some (.int .i64 y) := by
  have h0 := h.cell 0; have h1 := h.cell 1
  simp at h0 h1
  exact ⟨h0, h1⟩

set_option maxHeartbeats 1000000 in
theorem slewSame_walk (n0 n1 a0 a1 k0 k1 : Int) (h0 : I64 n0) (h1 : I64 n1) (ha0 : I64 a0) (ha1 : I64 a1) (hk0 : I64 k0) (hk1 : I64 k1) (w : World) :
    Calls Try.prog 14 #[.agg #[.int .i64 n0, .int .i64 n1], .agg #[.int .i64 a0, .int .i64 a1], .agg #[.int .i64 k0, .int .i64 k1]] w fun e w' => e = .returned (.bool true) ∧ Below w.heap.size w w' := by
  have rt := ratio_f n0 n1 h0 h1
  have hr := ratF_ok n0 n1
  generalize ratF n0 = num at *
  generalize ratF n1 = den at *
  have nw := snew_ok num den hr
  have t1 := fun b w h => sto_first b num den 0 0 a0 a1 hr ha0 ha1 w h
  have t2 := fun b w h => sto_next b num den a1 a0 a0 a1 hr ha1 ha0 ha0 ha1 w h
  rw [toF_stays (Int.le_refl _), show max a0 a0 = a0 by omega] at t2
  have hm : I64 (min a1 k1) := by unfold I64 at *; omega
  have t3 := fun b w h => sto_next b num den a1 a0 k0 (min a1 k1) hr ha1 ha0 hk0 hm w h
  rw [toF_stays (by omega)] at t3
  have nn := fun b w h => snow_f b num den a1 (max a0 k0) w h
  have ls := fun b w h => slast_f b num den a1 (max a0 k0) 1 w h
  clear h0 h1 ha0 ha1 hk0 hk1 hm hr
  go_enter Try.func14, Try.ntmps14
  go_wp2_with fail
  refine (rt _).mono ?_; rintro e w' ⟨rfl, k, rfl⟩
  go_wp2_with fail
  refine (nw _).mono ?_; rintro e w2 ⟨rfl, hw2⟩
  have D : ClkAt w2 (w.heap.size + 1 + 1 + 1 + 1) num den 0 0 0 := by
    rw [hw2]
    have := Blk.new ((((w.alloc (.cells #[.int .i64 n0, .int .i64 n1] 40)).alloc (.cells #[.int .i64 a0, .int .i64 a1] 40)).alloc (.cells #[.int .i64 k0, .int .i64 k1] 40)).alloc (.cells #[.int .i64 n0, .int .i64 n1] 40) |>.drewN k) #[.int .i64 num, .int .i64 den, .int .i64 0, .int .i64 0, .int .i64 0] 81
    simpa using this
  have A : Two w2 (w.heap.size + 1) a0 a1 := by
    rw [hw2]
    have := ((((Blk.new (w.alloc (.cells #[.int .i64 n0, .int .i64 n1] 40)) #[.int .i64 a0, .int .i64 a1] 40).alloc (.cells #[.int .i64 k0, .int .i64 k1] 40)).alloc (.cells #[.int .i64 n0, .int .i64 n1] 40)).draws k).alloc (.cells #[.int .i64 num, .int .i64 den, .int .i64 0, .int .i64 0, .int .i64 0] 81)
    simpa using this
  have K : Two w2 (w.heap.size + 1 + 1) k0 k1 := by
    rw [hw2]
    have := (((Blk.new ((w.alloc (.cells #[.int .i64 n0, .int .i64 n1] 40)).alloc (.cells #[.int .i64 a0, .int .i64 a1] 40)) #[.int .i64 k0, .int .i64 k1] 40).alloc (.cells #[.int .i64 n0, .int .i64 n1] 40)).draws k).alloc (.cells #[.int .i64 num, .int .i64 den, .int .i64 0, .int .i64 0, .int .i64 0] 81)
    simpa using this
  have HB : Hid (Below w.heap.size w w2) := Lib.hid (by rw [hw2]; (repeat (first | exact Below.refl _ _ | assumption | (refine Below.drew ?_) | (refine below_drewN ?_ _) | (refine Below.alloc ?_ (by simp <;> omega) _) | (refine Below.setCell ?_ (by simp <;> omega) _))))
  clear hw2
  have hd := D.lt
  go_wp2_with fail
  refine (alive16_f _).mono ?_; rintro e w5 ⟨rfl, hb5⟩
  have HB : Hid (Below w.heap.size w w5) := Lib.hid (HB.out.trans (hb5.mono (by omega)))
  have D := D.below hb5 hd
  have A := A.below hb5 (by omega)
  have K := K.below hb5 (by omega)
  obtain ⟨xa, xb⟩ := two_cells A
  obtain ⟨ya, yb⟩ := two_cells K
  clear hb5 hd
  have c6 := t1 _ _ D
  clear D
  go_wp2_with fail
  refine c6.mono ?_; rintro e w6 ⟨rfl, D, ho⟩
  clear c6 xa xb ya yb
  have A := ho.blk A (by omega)
  have K := ho.blk K (by omega)
  obtain ⟨xa, xb⟩ := two_cells A
  obtain ⟨ya, yb⟩ := two_cells K
  have HB := Lib.hid (HB.out.trans (ho.below HB.out.size (by rintro k rfl; omega)))
  clear ho
  have c7 := t2 _ _ D
  clear D
  go_wp2_with fail
  refine c7.mono ?_; rintro e w7 ⟨rfl, D, ho⟩
  clear c7 xa xb ya yb
  have A := ho.blk A (by omega)
  have K := ho.blk K (by omega)
  obtain ⟨xa, xb⟩ := two_cells A
  obtain ⟨ya, yb⟩ := two_cells K
  have HB := Lib.hid (HB.out.trans (ho.below HB.out.size (by rintro k rfl; omega)))
  clear ho
  have c8 := t3 _ _ D
  clear D
  go_wp2_with fail
  refine c8.mono ?_; rintro e w8 ⟨rfl, D, ho⟩
  clear c8 xa xb ya yb
  have A := ho.blk A (by omega)
  have K := ho.blk K (by omega)
  obtain ⟨xa, xb⟩ := two_cells A
  obtain ⟨ya, yb⟩ := two_cells K
  have HB := Lib.hid (HB.out.trans (ho.below HB.out.size (by rintro k rfl; omega)))
  clear ho
  have c9 := nn _ _ D
  have c10 := fun n => ls _ _ (D.draws n)
  clear D
  go_wp2_with fail
  refine c9.mono ?_; rintro e w' ⟨rfl, rfl⟩
  go_wp2_with fail
  go_quiet (first | (go_at_call 34; exact qsameS (c10 _)))
  go_wp2
  go_ret
  exact ⟨rfl, below_drewN HB.out _⟩

theorem toF_one {m k l num den : Int} (hr : ratioB num den = true) (m0 : 0 ≤ m) (m1 : m < k) (k1 : k ≤ 255) : toF (1000 + m) l l (1000 + k) num den = 1001 + m := by
  rw [toF_still hr]; unfold addF sat; omega

set_option maxHeartbeats 1000000 in
theorem slewReaches_walk (n0 n1 k r : Int) (h0 : I64 n0) (h1 : I64 n1) (hk : 0 ≤ k ∧ k ≤ 255) (h3 : I64 r) (w : World) :
    Calls Try.prog 9 #[.agg #[.int .i64 n0, .int .i64 n1], .int .u8 k, .int .i64 r] w fun e w' => e = .returned (.bool true) ∧ Below w.heap.size w w' := by
  obtain ⟨k0, k1⟩ := hk
  have rt := ratio_f n0 n1 h0 h1
  have hr := ratF_ok n0 n1
  generalize ratF n0 = num at *
  generalize ratF n1 = den at *
  have nw := snew_ok num den hr
  have t1 := fun b w h => sto_first b num den 0 0 r 1000 hr h3 (.of (by omega)) w h
  have t2 : ∀ m, 0 ≤ m → m < k → _ := fun m m0 m1 b w h => sto_next b num den (1000 + m) r r (1000 + k) hr (.of (by omega)) h3 h3 (.of (by omega)) w h
  have t2 : ∀ m : Int, 0 ≤ m → m < k → ∀ (b : Nat) (w : World), ClkAt w b num den (1000 + m) r 1 →
    Calls Try.prog 31 #[.pointer (some ⟨b, 0, none⟩), .int .i64 r, .int .i64 (1000 + k)] w fun e w' =>
      e = .returned (.tuple #[.int .i64 (1001 + m), .int .i64 0]) ∧ ClkAt w' b num den (1001 + m) r 1 ∧ Only (· = b) w w' := by
    intro m m0 m1 b w h
    have := t2 m m0 m1 b w h
    rw [toF_one hr m0 m1 k1, show max r r = r by omega] at this
    exact this
  have t3 := fun b w h => sto_next b num den (1000 + k) r r (1000 + k) hr (.of (by omega)) h3 h3 (.of (by omega)) w h
  rw [toF_stays (Int.le_refl _), show max r r = r by omega] at t3
  have t4 := fun b w h => sto_next b num den (1000 + k) r r 0 hr (.of (by omega)) h3 h3 (.of (by omega)) w h
  rw [toF_stays (by omega)] at t4
  clear h0 h1 h3 hr
  have T1 := Lib.hid t1; have T2 := Lib.hid t2; have T3 := Lib.hid t3; have T4 := Lib.hid t4
  clear t1 t2 t3 t4
  go_enter Try.func9, Try.ntmps9
  go_wp2_with fail
  refine (rt _).mono ?_; rintro e w' ⟨rfl, kd, rfl⟩
  go_wp2_with fail
  refine (nw _).mono ?_; rintro e w2 ⟨rfl, hw2⟩
  have D : ClkAt w2 (w.heap.size + 1 + 1) num den 0 0 0 := by
    rw [hw2]
    have := Blk.new (((w.alloc (.cells #[.int .i64 n0, .int .i64 n1] 40)).alloc (.cells #[.int .i64 n0, .int .i64 n1] 40)).drewN kd) #[.int .i64 num, .int .i64 den, .int .i64 0, .int .i64 0, .int .i64 0] 81
    simpa using this
  have HB : Hid (Below w.heap.size w w2) := Lib.hid (by rw [hw2]; (repeat (first | exact Below.refl _ _ | assumption | (refine Below.drew ?_) | (refine below_drewN ?_ _) | (refine Below.alloc ?_ (by simp <;> omega) _) | (refine Below.setCell ?_ (by simp <;> omega) _))))
  clear hw2 rt nw
  have hd := D.lt
  go_wp2_with fail
  refine (alive16_f _).mono ?_; rintro e w5 ⟨rfl, hb5⟩
  have HB : Hid (Below w.heap.size w w5) := Lib.hid (HB.out.trans (hb5.mono (by omega)))
  have D := D.below hb5 hd
  clear hb5 hd
  have c1 := T1.out _ _ D
  clear D
  go_wp2_with fail
  refine c1.mono ?_; rintro e w6 ⟨rfl, D, ho⟩
  have HB : Hid (Below w.heap.size w w6) := Lib.hid (HB.out.trans (ho.below HB.out.size (by rintro k rfl; omega)))
  have DD := Lib.hid D
  clear ho c1 D
  go_wp2_with fail
  go_loopw [47] (fun i wr => ∃ m : Int, i = .int .i64 m ∧ 0 ≤ m ∧ m ≤ k ∧ ClkAt wr (w.heap.size + 1 + 1) num den (1000 + m) r 1 ∧ Below w.heap.size w wr) (fun i _ => k.toNat - (intOf i).toNat)
  case atStart => exact ⟨0, rfl, by omega, by omega, DD.out, HB.out⟩
  case round =>
    obtain ⟨m, rfl, m0, m1, D, hB⟩ := hrel
    rename_i wr
    have HB := Lib.hid hB
    clear hB
    by_cases hc : m < k
    · have c2 := T2.out m m0 hc _ _ D
      clear D
      go_wp2_with fail
      refine c2.mono ?_; rintro e w7 ⟨rfl, D, ho⟩
      have HB2 : Hid (Below w.heap.size w w7) := Lib.hid (HB.out.trans (ho.below HB.out.size (by rintro k rfl; omega)))
      have D2 := Lib.hid D
      clear ho c2 D
      go_wp2_with fail
      go_roundw
      case rel => exact ⟨m + 1, rfl, by omega, by omega, by have := D2.out; rwa [show 1000 + (m + 1) = 1001 + m by omega], HB2.out⟩
      case measure => simp [intOf]; omega
    · have : m = k := by omega
      subst this
      have c3 := T3.out _ _ D
      clear D
      go_wp2_with fail
      refine c3.mono ?_; rintro e w7 ⟨rfl, D, ho⟩
      have HB2 : Hid (Below w.heap.size w w7) := Lib.hid (HB.out.trans (ho.below HB.out.size (by rintro k rfl; omega)))
      have c4 := T4.out _ _ D
      clear ho c3 D
      go_wp2_with fail
      refine c4.mono ?_; rintro e w8 ⟨rfl, D, ho⟩
      have HB3 : Hid (Below w.heap.size w w8) := Lib.hid (HB2.out.trans (ho.below HB2.out.size (by rintro k rfl; omega)))
      clear ho c4 D
      go_wp2
      go_ret
      exact ⟨rfl, HB3.out⟩
end Go.Proofs.Ytnjhacmgnmflaaa
