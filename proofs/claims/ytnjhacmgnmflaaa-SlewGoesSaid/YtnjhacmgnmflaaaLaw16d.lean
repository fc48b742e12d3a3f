/- Laws of layer 16 that go through readings and wishes, walked: each returns true. -/
import Derived.Test.YtnjhacmgnmflaaaLaw16
import Derived.Test.YtnjhacmgnmflaaaPairs
import Derived.LoopTactic
namespace Go.Proofs.Ytnjhacmgnmflaaa
set_option linter.unusedVariables false
set_option linter.unusedSimpArgs false
open Go.RowKit

theorem subF_max (r l : Int) : subF (max r l) l = max 0 (subF r l) := by unfold subF sat; omega
theorem addF_up {a r : Int} (ha : I64 a) (hr : 1 ≤ r) : a ≤ addF a r := by unfold I64 at ha; unfold addF sat; omega

/-- a clock, k readings done -/
def CkAt (wr : World) (b : Nat) (num den : Int) (k : Nat) : Prop :=
  (k = 0 ∧ ClkAt wr b num den 0 0 0) ∨ (0 < k ∧ ∃ at0 last, I64 at0 ∧ I64 last ∧ ClkAt wr b num den at0 last 1)

theorem slewForward_long (n0 n1 : Int) (h0 : I64 n0) (h1 : I64 n1) (a : Option Addr) (len cap : Nat) (hl : (len : Int) ≤ 9223372036854775807) (h5 : (500 : Int) < len) (w : World) :
    Calls Try.prog 13 #[.agg #[.int .i64 n0, .int .i64 n1], .slice a len cap] w fun e w' => e = .returned (.bool true) ∧ Below w.heap.size w w' := by
  have rt := ratio_f n0 n1 h0 h1
  have nw := snew_ok (ratF n0) (ratF n1) (ratF_ok n0 n1)
  generalize ratF n0 = num at *
  generalize ratF n1 = den at *
  clear h0 h1
  go_enter Try.func13, Try.ntmps13
  go_wp2_with fail
  refine (rt _).mono ?_; rintro e w1 ⟨rfl, k1, rfl⟩
  go_wp2_with fail
  refine (nw _).mono ?_; rintro e w2 ⟨rfl, hw2⟩
  have HB : Hid (Below w.heap.size w w2) := Lib.hid (by rw [hw2]; (repeat (first | exact Below.refl _ _ | assumption | (refine Below.drew ?_) | (refine below_drewN ?_ _) | (refine Below.alloc ?_ (by simp <;> omega) _) | (refine Below.setCell ?_ (by simp <;> omega) _))))
  clear hw2
  go_wp2_with fail
  refine (alive16_f _).mono ?_; rintro e w3 ⟨rfl, hb3⟩
  have HB3 : Hid (Below w.heap.size w w3) := Lib.hid (HB.out.trans (hb3.mono HB.out.size))
  clear hb3 HB
  go_wp2_with fail
  refine (alive16_f _).mono ?_; rintro e w4 ⟨rfl, hb4⟩
  have HB4 : Hid (Below w.heap.size w w4) := Lib.hid (HB3.out.trans (hb4.mono HB3.out.size))
  clear hb4 HB3
  go_wp2
  go_ret
  exact ⟨rfl, HB4.out⟩

set_option maxRecDepth 100000 in
set_option maxHeartbeats 2000000 in
theorem slewForward_loop (n0 n1 : Int) (h0 : I64 n0) (h1 : I64 n1) (a : Option Addr) (len cap : Nat) (X Y : Nat → Int) (w : World) (hs : PairsAt w a len X Y) (h5 : len ≤ 500) :
    Calls Try.prog 13 #[.agg #[.int .i64 n0, .int .i64 n1], .slice a len cap] w fun e w' => e = .returned (.bool true) ∧ Below w.heap.size w w' := by
  have rt := ratio_f n0 n1 h0 h1
  have nw := snew_ok (ratF n0) (ratF n1) (ratF_ok n0 n1)
  have HR := Lib.hid (ratF_ok n0 n1)
  have HRB := Lib.hid (And.intro (ratF_bounds n0) (ratF_bounds n1))
  generalize ratF n0 = num at *
  generalize ratF n1 = den at *
  obtain ⟨wf, hs⟩ := hs
  have WF := Lib.hid wf
  clear wf h0 h1
  have h5' : (len : Int) ≤ 500 := by omega
  rcases hs with hz | ⟨ab, off, rfl, hab, hcell⟩
  all_goals
    go_enter Try.func13, Try.ntmps13
    go_wp2_with fail
    refine (rt _).mono ?_; rintro e w1 ⟨rfl, k1, rfl⟩
    go_wp2_with fail
    refine (nw _).mono ?_; rintro e w2 ⟨rfl, hw2⟩
    have HD : Hid (ClkAt w2 (w.heap.size + 1 + 1) num den 0 0 0) := Lib.hid (by rw [hw2]; have e := Blk.new (((w.alloc (.cells #[.int .i64 n0, .int .i64 n1] 40)).alloc (.cells #[.int .i64 n0, .int .i64 n1] 40)).drewN k1) #[.int .i64 num, .int .i64 den, .int .i64 0, .int .i64 0, .int .i64 0] 81; simpa using e)
    have HB : Hid (Below w.heap.size w w2) := Lib.hid (by rw [hw2]; (repeat (first | exact Below.refl _ _ | assumption | (refine Below.drew ?_) | (refine below_drewN ?_ _) | (refine Below.alloc ?_ (by simp <;> omega) _) | (refine Below.setCell ?_ (by simp <;> omega) _))))
    clear hw2
    go_wp2_with fail
    refine (alive16_f _).mono ?_; rintro e w3 ⟨rfl, hb3⟩
    have HD3 := Lib.hid (HD.out.below hb3 HD.out.lt)
    have HB3 : Hid (Below w.heap.size w w3) := Lib.hid (HB.out.trans (hb3.mono HB.out.size))
    clear hb3 HB HD
    obtain ⟨b, hb⟩ : ∃ b, w.heap.size + 1 + 1 = b := ⟨_, rfl⟩
    have hle : w.heap.size ≤ b := by omega
    rw [hb] at HD3
    rw [hb]
    clear hb
    go_wp2_with fail
    go_loopw [47] (fun i wr => ∃ k : Nat, k ≤ len ∧ i = .int .i64 k ∧ CkAt wr b num den k ∧ Below w.heap.size w wr) (fun i _ => len - (intOf i).toNat)
    case atStart => exact ⟨0, Nat.zero_le _, rfl, .inl ⟨rfl, HD3.out⟩, HB3.out⟩
    case round =>
      rename_i wr
      obtain ⟨k, hk, rfl, hck, hbw⟩ := hrel
      clear HB3 HD3
      by_cases hlt : (k : Int) < len
      · first
        | (exfalso; omega)
        | (have hx := (hbw.cell (p := ⟨ab, off + k * 2, none⟩) hab).trans (hcell k (by omega)).1
           have hy := (hbw.cell (p := ⟨ab, off + k * 2 + 1, none⟩) hab).trans (hcell k (by omega)).2
           have hxy := WF.out k (by omega)
           generalize X k = x at *
           generalize Y k = y at *
           have hcx := Lib.hid hcell
           have HW := Lib.hid hbw
           have HXY := Lib.hid hxy
           clear hcell hxy hbw
           rcases hck with ⟨rfl, hd⟩ | ⟨hk0, at0, last, ha, hl, hd⟩
           · simp at hx hy
             have t1 := sto_first b num den 0 0 x y HR.out HXY.out.1 HXY.out.2
             have BS := Blk.new wr #[.int .i64 x, .int .i64 y] 40
             have hdA := hd.alloc (.cells #[.int .i64 x, .int .i64 y] 40)
             have hlw := hd.lt
             have HWA := Lib.hid (HW.out.alloc HW.out.size (.cells #[.int .i64 x, .int .i64 y] 40))
             clear hd
             go_wp2_with fail
             refine (snow_new b num den 0 0 _ hdA).mono ?_; rintro e w' ⟨rfl, rfl⟩
             go_wp2_with fail
             refine (slast_f b num den 0 0 0 _ hdA).mono ?_; rintro e w' ⟨rfl, rfl⟩
             go_wp2_with fail
             refine (t1 _ hdA).mono ?_; rintro e w5 ⟨rfl, hd5, ho5⟩
             have BS5 := ho5.blk BS (by omega)
             have HW5 := Lib.hid (HWA.out.trans (ho5.below HWA.out.size (by rintro i rfl; omega)))
             have s1 := BS5.cell 1
             simp at s1
             clear ho5 BS BS5 HWA hx hy hdA t1
             go_wp2_with fail
             go_roundw
             case rel => exact ⟨1, by omega, by go_num, .inr ⟨by omega, y, x, HXY.out.2, HXY.out.1, hd5⟩, HW5.out⟩
             case measure => simp [intOf]; omega
           · have k0 : ((k : Int) == 0) = false := by simp; omega
             have t1 := sto_next b num den at0 last x y HR.out ha hl HXY.out.1 HXY.out.2
             have sb := sub_f x last HXY.out.1 hl
             have TE : Hid (toF at0 last x y num den = max at0 (min y (addF at0 (roomF (max 0 (subF x last)) num den)))) := Lib.hid (by unfold toF; rw [subF_max])
             have mi : I64 (max 0 (subF x last)) := by have := subF_i64 x last; unfold I64 at *; omega
             have rm := room_f (max 0 (subF x last)) num den mi HR.out
             have rbd := Lib.hid (roomF_bounds (adv := max 0 (subF x last)) (num := num) (den := den) (by have := HRB.out.1; omega) (by have := HRB.out.2; omega))
             generalize subF x last = sx at *
             generalize roomF (max 0 sx) num den = r at *
             have ad := add_f at0 r ha ⟨by have := rbd.out.1; omega, rbd.out.2⟩
             have up := addF_up ha rbd.out.1
             have ti := toF_i64 (last := last) (reading := x) (num := num) (den := den) ha HXY.out.2
             generalize addF at0 r = fr at *
             generalize toF at0 last x y num den = z at *
             have z1 : decide (z < at0) = false := by rw [TE.out]; exact decide_eq_false (by omega)
             have z2 : decide (fr < z) = false := by rw [TE.out]; exact decide_eq_false (by omega)
             have z3 : decide (max at0 y < z) = false := by rw [TE.out]; exact decide_eq_false (by omega)
             have z4 : decide (z < min y fr) = false := by rw [TE.out]; exact decide_eq_false (by omega)
             have ml : I64 (max last x) := by have := HXY.out; unfold I64 at *; omega
             have ML := Lib.hid ml
             have TI := Lib.hid ti
             clear ml ti up mi ha hl TE rbd
             have BS := Blk.new wr #[.int .i64 x, .int .i64 y] 40
             have hdA := hd.alloc (.cells #[.int .i64 x, .int .i64 y] 40)
             have hlw := hd.lt
             have HWA := Lib.hid (HW.out.alloc HW.out.size (.cells #[.int .i64 x, .int .i64 y] 40))
             clear hd
             go_wp2_with fail
             refine (snow_f b num den at0 last _ hdA).mono ?_; rintro e w' ⟨rfl, rfl⟩
             go_wp2_with fail
             refine (slast_f b num den at0 last 1 _ hdA).mono ?_; rintro e w' ⟨rfl, rfl⟩
             go_wp2_with fail
             refine (t1 _ hdA).mono ?_; rintro e w5 ⟨rfl, hd5, ho5⟩
             have BS5 := ho5.blk BS (by omega)
             have HW5 := Lib.hid (HWA.out.trans (ho5.below HWA.out.size (by rintro i rfl; omega)))
             have s0 := BS5.cell 0; have s1 := BS5.cell 1
             simp at s0 s1
             clear ho5 BS BS5 HWA hx hy hdA t1
             go_wp2_with fail
             refine (sb _).mono ?_; rintro e w' ⟨rfl, rfl⟩
             go_wp2_with fail
             refine (rm _).mono ?_; rintro e w6 ⟨rfl, kr, hw6⟩
             have hd6 : ClkAt w6 b num den z (max last x) 1 := by rw [hw6]; exact hd5.draws kr
             have HW6 : Hid (Below w.heap.size w w6) := Lib.hid (by rw [hw6]; exact below_drewN HW5.out kr)
             have s1 : w6.cell? ⟨wr.heap.size, 1, none⟩ = some (.int .i64 y) := by rw [hw6]; exact s1
             clear hw6 hd5 HW5 s0
             go_wp2_with fail
             go_quiet (first | (go_at_call 32; exact qsameS (ad _)))
             go_wp2_with fail
             go_roundw
             case rel => exact ⟨k + 1, by omega, by go_num, .inr ⟨by omega, z, max last x, TI.out, ML.out, hd6.draws nq⟩, below_drewN HW6.out nq⟩
             case measure => simp [intOf]; omega)
      · go_wp2
        go_ret
        exact ⟨rfl, hbw⟩

theorem slewForward_walk (n0 n1 : Int) (a : Option Addr) (len cap : Nat) (X Y : Nat → Int) (w : World) (h0 : I64 n0) (h1 : I64 n1) (hs : PairsAt w a len X Y) (hy : len * 16 ≤ 140737488351232) :
    Calls Try.prog 13 #[.agg #[.int .i64 n0, .int .i64 n1], .slice a len cap] w fun e w' => e = .returned (.bool true) ∧ Below w.heap.size w w' := by
  by_cases hl : len ≤ 500
  · exact slewForward_loop n0 n1 h0 h1 a len cap X Y w hs hl
  · exact slewForward_long n0 n1 h0 h1 a len cap (by omega) (by omega) w
end Go.Proofs.Ytnjhacmgnmflaaa
