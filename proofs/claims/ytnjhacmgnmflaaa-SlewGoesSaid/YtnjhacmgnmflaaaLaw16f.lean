/- The law SlewGoes, walked: it returns true. -/
import Derived.Test.YtnjhacmgnmflaaaLaw16e
import Derived.LoopTactic
namespace Go.Proofs.Ytnjhacmgnmflaaa
set_option linter.unusedVariables false
set_option linter.unusedSimpArgs false
open Go.RowKit

/-- both clocks, k readings done -/
def Ck2At (wr : World) (b c : Nat) (num den : Int) (k : Nat) : Prop :=
  (k = 0 ∧ ClkAt wr b num den 0 0 0 ∧ RClkAt wr c num den 0 0 false) ∨ (0 < k ∧ ∃ at0 last, I64 at0 ∧ I64 last ∧ ClkAt wr b num den at0 last 1 ∧ RClkAt wr c num den at0 last true)

theorem slewGoes_long (n0 n1 : Int) (h0 : I64 n0) (h1 : I64 n1) (a : Option Addr) (len cap : Nat) (hl : (len : Int) ≤ 9223372036854775807) (h5 : (500 : Int) < len) (w : World) :
    Calls Try.prog 12 #[.agg #[.int .i64 n0, .int .i64 n1], .slice a len cap] w fun e w' => e = .returned (.bool true) ∧ Below w.heap.size w w' := by
  have rt := ratio_f n0 n1 h0 h1
  have nw := snew_ok (ratF n0) (ratF n1) (ratF_ok n0 n1)
  generalize ratF n0 = num at *
  generalize ratF n1 = den at *
  clear h0 h1
  go_enter Try.func12, Try.ntmps12
  go_wp2_with fail
  refine (rt _).mono ?_; rintro e w1 ⟨rfl, k1, rfl⟩
  go_wp2_with fail
  refine (nw _).mono ?_; rintro e w2 ⟨rfl, hw2⟩
  have HB : Hid (Below w.heap.size w w2) := Lib.hid (by rw [hw2]; (repeat (first | exact Below.refl _ _ | assumption | (refine Below.drew ?_) | (refine below_drewN ?_ _) | (refine Below.alloc ?_ (by simp <;> omega) _) | (refine Below.setCell ?_ (by simp <;> omega) _))))
  clear hw2
  go_wp2_with fail
  refine (sto_nil 1 2 _).mono ?_; rintro e w' ⟨rfl, rfl⟩
  go_wp2_with fail
  refine (snow_nil _).mono ?_; rintro e w' ⟨rfl, rfl⟩
  go_wp2_with fail
  refine (slast_nil _).mono ?_; rintro e w' ⟨rfl, rfl⟩
  go_wp2_with fail
  refine (alive16_f _).mono ?_; rintro e w3 ⟨rfl, hb3⟩
  have HB3 : Hid (Below w.heap.size w w3) := Lib.hid (HB.out.trans (hb3.mono HB.out.size))
  clear hb3 HB
  go_wp2_with fail
  refine (alive16_f _).mono ?_; rintro e w4 ⟨rfl, hb4⟩
  have HB4 : Hid (Below w.heap.size w w4) := Lib.hid (HB3.out.trans (hb4.mono HB3.out.size))
  clear hb4 HB3
  go_wp2
  go_ret
  exact ⟨rfl, HB4.out⟩

set_option maxRecDepth 100000 in
set_option maxHeartbeats 2000000 in
theorem slewGoes_loop (n0 n1 : Int) (h0 : I64 n0) (h1 : I64 n1) (a : Option Addr) (len cap : Nat) (X Y : Nat → Int) (w : World) (hs : PairsAt w a len X Y) (h5 : len ≤ 500) :
    Calls Try.prog 12 #[.agg #[.int .i64 n0, .int .i64 n1], .slice a len cap] w fun e w' => e = .returned (.bool true) ∧ Below w.heap.size w w' := by
  have rt := ratio_f n0 n1 h0 h1
  have nw := snew_ok (ratF n0) (ratF n1) (ratF_ok n0 n1)
  have HR := Lib.hid (ratF_ok n0 n1)
  generalize ratF n0 = num at *
  generalize ratF n1 = den at *
  obtain ⟨wf, hs⟩ := hs
  have WF := Lib.hid wf
  clear wf h0 h1
  have h5' : (len : Int) ≤ 500 := by omega
  rcases hs with hz | ⟨ab, off, rfl, hab, hcell⟩
  all_goals
    go_enter Try.func12, Try.ntmps12
    go_wp2_with fail
    refine (rt _).mono ?_; rintro e w1 ⟨rfl, k1, rfl⟩
    go_wp2_with fail
    refine (nw _).mono ?_; rintro e w2 ⟨rfl, hw2⟩
    have HD : Hid (ClkAt w2 (w.heap.size + 1 + 1) num den 0 0 0) := Lib.hid (by rw [hw2]; have e := Blk.new (((w.alloc (.cells #[.int .i64 n0, .int .i64 n1] 40)).alloc (.cells #[.int .i64 n0, .int .i64 n1] 40)).drewN k1) #[.int .i64 num, .int .i64 den, .int .i64 0, .int .i64 0, .int .i64 0] 81; simpa using e)
    have HB : Hid (Below w.heap.size w w2) := Lib.hid (by rw [hw2]; (repeat (first | exact Below.refl _ _ | assumption | (refine Below.drew ?_) | (refine below_drewN ?_ _) | (refine Below.alloc ?_ (by simp <;> omega) _) | (refine Below.setCell ?_ (by simp <;> omega) _))))
    clear hw2
    go_wp2_with fail
    refine (sto_nil 1 2 _).mono ?_; rintro e w' ⟨rfl, rfl⟩
    go_wp2_with fail
    refine (snow_nil _).mono ?_; rintro e w' ⟨rfl, rfl⟩
    go_wp2_with fail
    refine (slast_nil _).mono ?_; rintro e w' ⟨rfl, rfl⟩
    go_wp2_with fail
    refine (alive16_f _).mono ?_; rintro e w3 ⟨rfl, hb3⟩
    have HD3 := Lib.hid (HD.out.below hb3 HD.out.lt)
    have HB3 : Hid (Below w.heap.size w w3) := Lib.hid (HB.out.trans (hb3.mono HB.out.size))
    clear hb3 HB HD
    obtain ⟨b, hb⟩ : ∃ b, w.heap.size + 1 + 1 = b := ⟨_, rfl⟩
    have hle : w.heap.size ≤ b := by omega
    rw [hb] at HD3
    rw [hb]
    clear hb
    go_wp2_with fail
    refine (snow_new b num den 0 0 _ HD3.out).mono ?_; rintro e w' ⟨rfl, rfl⟩
    go_wp2_with fail
    refine (slast_f b num den 0 0 0 _ HD3.out).mono ?_; rintro e w' ⟨rfl, rfl⟩
    go_wp2_with fail
    obtain ⟨c, hc⟩ : ∃ c, w3.heap.size = c := ⟨_, rfl⟩
    have hbc : b < c := by have := HD3.out.lt; omega
    have HC := Lib.hid (Blk.new w3 #[.int .i64 num, .int .i64 den, .int .i64 0, .int .i64 0, .bool false] 64)
    have HD4 := Lib.hid (HD3.out.alloc (.cells #[.int .i64 num, .int .i64 den, .int .i64 0, .int .i64 0, .bool false] 64))
    have HB4 := Lib.hid (HB3.out.alloc HB3.out.size (.cells #[.int .i64 num, .int .i64 den, .int .i64 0, .int .i64 0, .bool false] 64))
    rw [hc] at HC
    rw [hc]
    clear hc HD3 HB3
    go_loopw [107] (fun i wr => ∃ k : Nat, k ≤ len ∧ i = .int .i64 k ∧ Ck2At wr b c num den k ∧ Below w.heap.size w wr) (fun i _ => len - (intOf i).toNat)
    case atStart => exact ⟨0, Nat.zero_le _, rfl, .inl ⟨rfl, HD4.out, HC.out⟩, HB4.out⟩
    case round =>
      rename_i wr
      obtain ⟨k, hk, rfl, hck, hbw⟩ := hrel
      clear HB4 HD4 HC
      by_cases hlt : (k : Int) < len
      · first
        | (exfalso; omega)
        | (have hx := (hbw.cell (p := ⟨ab, off + k * 2, none⟩) hab).trans (hcell k (by omega)).1
           have hy := (hbw.cell (p := ⟨ab, off + k * 2 + 1, none⟩) hab).trans (hcell k (by omega)).2
           have hxy := WF.out k (by omega)
           generalize X k = x at *
           generalize Y k = y at *
           have hcx := Lib.hid hcell
           have HW := Lib.hid hbw
           have HXY := Lib.hid hxy
           clear hcell hxy hbw
           rcases hck with ⟨rfl, hd, hm⟩ | ⟨hk0, at0, last, ha, hl, hd, hm⟩
           · simp at hx hy
             have t1 := sto_first b num den 0 0 x y HR.out HXY.out.1 HXY.out.2
             have t2 := rto_first c num den 0 0 x y
             have BS := Blk.new wr #[.int .i64 x, .int .i64 y] 40
             have hdA := hd.alloc (.cells #[.int .i64 x, .int .i64 y] 40)
             have hmA := hm.alloc (.cells #[.int .i64 x, .int .i64 y] 40)
             have hlw := hd.lt
             have hmw := hm.lt
             have HWA := Lib.hid (HW.out.alloc HW.out.size (.cells #[.int .i64 x, .int .i64 y] 40))
             have HM := Lib.hid hmA
             clear hd hm hmA
             go_wp2_with fail
             refine (t1 _ hdA).mono ?_; rintro e w5 ⟨rfl, hd5, ho5⟩
             have BS5 := ho5.blk BS (by omega)
             have hm5 := ho5.blk HM.out (by omega)
             have HW5 := Lib.hid (HWA.out.trans (ho5.below HWA.out.size (by rintro i rfl; omega)))
             have s0 := BS5.cell 0; have s1 := BS5.cell 1
             simp at s0 s1
             have HD5 := Lib.hid hd5
             clear ho5 BS BS5 HWA hx hy hdA t1 HM hd5
             go_wp2_with fail
             refine (t2 _ hm5).mono ?_; rintro e w6 ⟨rfl, hm6, ho6⟩
             have hd6 := ho6.blk HD5.out (by omega)
             have HW6 := Lib.hid (HW5.out.trans (ho6.below HW5.out.size (by rintro i rfl; omega)))
             clear ho6 HD5 HW5 s0 s1 hm5 t2
             go_wp2_with fail
             refine (snow_f b num den y x _ hd6).mono ?_; rintro e w' ⟨rfl, rfl⟩
             have p3 := hm6.cell 3
             simp at p3
             have HM6 := Lib.hid hm6
             have HD6 := Lib.hid hd6
             clear hm6 hd6
             go_wp2_with fail
             go_quiet (first | (go_at_call 34; exact qsameS (slast_f b num den y x 1 _ (HD6.out.draws _))))
             go_wp2_with fail
             go_roundw
             case rel => exact ⟨1, by omega, by go_num, .inr ⟨by omega, y, x, HXY.out.2, HXY.out.1, HD6.out.draws nq, HM6.out.draws nq⟩, below_drewN HW6.out nq⟩
             case measure => simp [intOf]; omega
           · have t1 := sto_next b num den at0 last x y HR.out ha hl HXY.out.1 HXY.out.2
             have t2 := rto_next c num den at0 last x y HR.out ha hl HXY.out.1 HXY.out.2
             have ti := toF_i64 (last := last) (reading := x) (num := num) (den := den) ha HXY.out.2
             generalize toF at0 last x y num den = z at *
             have ml : I64 (max last x) := by have := HXY.out; unfold I64 at *; omega
             generalize max last x = m at *
             have ML := Lib.hid ml
             have TI := Lib.hid ti
             clear ml ti ha hl
             have BS := Blk.new wr #[.int .i64 x, .int .i64 y] 40
             have hdA := hd.alloc (.cells #[.int .i64 x, .int .i64 y] 40)
             have hmA := hm.alloc (.cells #[.int .i64 x, .int .i64 y] 40)
             have hlw := hd.lt
             have hmw := hm.lt
             have HWA := Lib.hid (HW.out.alloc HW.out.size (.cells #[.int .i64 x, .int .i64 y] 40))
             have HM := Lib.hid hmA
             clear hd hm hmA
             go_wp2_with fail
             refine (t1 _ hdA).mono ?_; rintro e w5 ⟨rfl, hd5, ho5⟩
             have BS5 := ho5.blk BS (by omega)
             have hm5 := ho5.blk HM.out (by omega)
             have HW5 := Lib.hid (HWA.out.trans (ho5.below HWA.out.size (by rintro i rfl; omega)))
             have s0 := BS5.cell 0; have s1 := BS5.cell 1
             simp at s0 s1
             have HD5 := Lib.hid hd5
             clear ho5 BS BS5 HWA hx hy hdA t1 HM hd5
             go_wp2_with fail
             refine (t2 _ hm5).mono ?_; rintro e w6 ⟨rfl, hm6, ho6⟩
             have hd6 := ho6.blk HD5.out (by omega)
             have HW6 := Lib.hid (HW5.out.trans (ho6.below HW5.out.size (by rintro i rfl; omega)))
             clear ho6 HD5 HW5 s0 s1 hm5 t2
             go_wp2_with fail
             refine (snow_f b num den z m _ hd6).mono ?_; rintro e w' ⟨rfl, rfl⟩
             have p3 := hm6.cell 3
             simp at p3
             have HM6 := Lib.hid hm6
             have HD6 := Lib.hid hd6
             clear hm6 hd6
             go_wp2_with fail
             go_quiet (first | (go_at_call 34; exact qsameS (slast_f b num den z m 1 _ (HD6.out.draws _))))
             go_wp2_with fail
             go_roundw
             case rel => exact ⟨k + 1, by omega, by go_num, .inr ⟨by omega, z, m, TI.out, ML.out, HD6.out.draws nq, HM6.out.draws nq⟩, below_drewN HW6.out nq⟩
             case measure => simp [intOf]; omega)
      · go_wp2
        go_ret
        exact ⟨rfl, hbw⟩

theorem slewGoes_walk (n0 n1 : Int) (a : Option Addr) (len cap : Nat) (X Y : Nat → Int) (w : World) (h0 : I64 n0) (h1 : I64 n1) (hs : PairsAt w a len X Y) (hy : len * 16 ≤ 140737488351232) :
    Calls Try.prog 12 #[.agg #[.int .i64 n0, .int .i64 n1], .slice a len cap] w fun e w' => e = .returned (.bool true) ∧ Below w.heap.size w w' := by
  by_cases hl : len ≤ 500
  · exact slewGoes_loop n0 n1 h0 h1 a len cap X Y w hs hl
  · exact slewGoes_long n0 n1 h0 h1 a len cap (by omega) (by omega) w
end Go.Proofs.Ytnjhacmgnmflaaa
