/- The example of layer 18 (printed by gen/br7.py). -/
import Derived.Test.YtkfebgdflbplbaaBr6
import Derived.Deep.RegionHeld3
namespace Go.Proofs.Ytkfebgdflbplbaa
set_option linter.unusedVariables false
set_option linter.unusedSimpArgs false
open Go.RowKit

theorem pick_t (at0 : Int) (s : Option Addr) (len cap : Nat) (K T : Nat → Int) (E : Nat → Option Addr × Nat × Nat) (w : World) (h : SnapsAt w s len K T E) (hlen : (len : Int) ≤ 4611686018427387904) {x y z : Int} (hx : pickA T at0 len = x) (hy : pickB T at0 len = y) (hz : pickE T at0 len = z) :
    Calls Try.prog 11 #[.int .i64 at0, .slice s len cap] w fun e w' => e = .returned (.tuple #[.int .i64 x, .int .i64 y, .int .i64 z]) ∧ Below w.heap.size w w' := by
  have := pick_f at0 s len cap K T E w h hlen
  rwa [hx, hy, hz] at this

set_option maxRecDepth 100000 in
set_option maxHeartbeats 2000000 in
theorem alive18_f (w : World) : Calls Try.prog 9 #[] w fun e w' => e = .returned (.bool true) ∧ Below w.heap.size w w' := by
  have IA : IntsAt .i64 (w.alloc (.cells #[.int .i64 10, .int .i64 20, .int .i64 30] 2)) (some ⟨w.heap.size, 0, none⟩) 3 [10, 20, 30] := by
    refine ⟨rfl, by decide, .inr ⟨w.heap.size, 0, rfl, by simp, fun i hi => ?_⟩⟩
    have b := Blk.new w #[.int .i64 10, .int .i64 20, .int .i64 30] 2
    match i, hi with
    | 0, _ => exact b.cell 0
    | 1, _ => exact b.cell 1
    | 2, _ => exact b.cell 2
  have pt := bpart_f 1 20 2 30 25 none none 0 0 0 0
  rw [show partN 20 30 25 = 5 by decide, show partD 20 30 25 = 10 by decide, show partE 20 30 25 = 0 by decide] at pt
  have SN := snaps_f (some ⟨w.heap.size, 0, none⟩) 3 3 [10, 20, 30] _ IA (by decide)
  have HBW : Hid (Below w.heap.size w (w.alloc (.cells #[.int .i64 10, .int .i64 20, .int .i64 30] 2))) := Lib.hid (by (repeat (first | exact Below.refl _ _ | assumption | (refine Below.drew ?_) | (refine below_drewN ?_ _) | (refine Below.alloc ?_ (by simp <;> omega) _) | (refine Below.setCell ?_ (by simp <;> omega) _))))
  clear IA
  go_enter Try.func9, Try.ntmps9
  go_wp2_with fail
  refine SN.mono ?_; rintro e w1 ⟨s, cp, rfl, hS, hb1⟩
  have HB1 : Hid (Below w.heap.size w w1) := Lib.hid (HBW.out.trans (hb1.mono HBW.out.size))
  have p1 := pick_t 25 s 3 cp _ (fun i => ([10, 20, 30] : List Int).getD i 0) _ w1 hS (by decide) (x := 1) (y := 2) (z := 0) (by decide) (by decide) (by decide)
  have HS := Lib.hid hS
  clear hb1 HBW SN hS
  go_wp2_with fail
  refine p1.mono ?_; rintro e w2 ⟨rfl, hb2⟩
  have hS := HS.out.below hb2
  have HB2 : Hid (Below w.heap.size w w2) := Lib.hid (HB1.out.trans (hb2.mono HB1.out.size))
  have p2 := pick_t 30 s 3 cp _ (fun i => ([10, 20, 30] : List Int).getD i 0) _ w2 hS (by decide) (x := 2) (y := -1) (z := 0) (by decide) (by decide) (by decide)
  have HS2 := Lib.hid hS
  clear hb2 HB1 hS HS p1
  go_wp2_with fail
  refine p2.mono ?_; rintro e w3 ⟨rfl, hb3⟩
  have hS := HS2.out.below hb3
  have HB3 : Hid (Below w.heap.size w w3) := Lib.hid (HB2.out.trans (hb3.mono HB2.out.size))
  have p3 := pick_t 9 s 3 cp _ (fun i => ([10, 20, 30] : List Int).getD i 0) _ w3 hS (by decide) (x := 0) (y := 0) (z := 5) (by decide) (by decide) (by decide)
  have HS3 := Lib.hid hS
  clear hb3 HB2 hS HS2 p2
  go_wp2_with fail
  refine p3.mono ?_; rintro e w4 ⟨rfl, hb4⟩
  have hS := HS3.out.below hb4
  have hB4 : Below w.heap.size w w4 := HB3.out.trans (hb4.mono HB3.out.size)
  clear hb4 HB3 HS3 p3
  rcases hS with h0 | ⟨b, off, rfl, hbw, hc⟩
  · exact absurd h0 (by decide)
  obtain ⟨a0, a1, a2⟩ := hc 1 (by decide)
  obtain ⟨b0, b1, b2⟩ := hc 2 (by decide)
  clear hc
  simp at a0 a1 a2 b0 b1 b2
  go_wp2_with fail

  go_region_held3 (fun w' => (w'.cell? ⟨b, off + 3, none⟩ = some (.int .i64 1) ∧ w'.cell? ⟨b, off + 3 + 1, none⟩ = some (.int .i64 20) ∧ w'.cell? ⟨b, off + 3 + 2, none⟩ = some (.slice none 0 0) ∧ w'.cell? ⟨b, off + 6, none⟩ = some (.int .i64 2) ∧ w'.cell? ⟨b, off + 6 + 1, none⟩ = some (.int .i64 30) ∧ w'.cell? ⟨b, off + 6 + 2, none⟩ = some (.slice none 0 0)) ∧ b < w'.heap.size ∧ Below w.heap.size w w')
    (first | (go_keep; done) | (((try dsimp only); repeat' apply And.intro) <;> (first | assumption | exact Below.drew (by assumption) | go_keep)) | (go_split_ands; exact ⟨⟨(hbk.cell (p := ⟨b, off + 3, none⟩) (by assumption)).trans (by assumption), (hbk.cell (p := ⟨b, off + 3 + 1, none⟩) (by assumption)).trans (by assumption), (hbk.cell (p := ⟨b, off + 3 + 2, none⟩) (by assumption)).trans (by assumption), (hbk.cell (p := ⟨b, off + 6, none⟩) (by assumption)).trans (by assumption), (hbk.cell (p := ⟨b, off + 6 + 1, none⟩) (by assumption)).trans (by assumption), (hbk.cell (p := ⟨b, off + 6 + 2, none⟩) (by assumption)).trans (by assumption)⟩, Nat.lt_of_lt_of_le (by assumption) hbk.size, Below.trans (by assumption) (hbk.mono (Below.size (by assumption)))⟩))
    ((first | (go_at_call 16; ((with_reducible refine (pt _).mono ?_); rintro e wx ⟨rfl, hbk⟩))))

  all_goals
    rename_i hH
    obtain ⟨_, _, hZ⟩ := hH
    go_wp2
    go_ret
    exact ⟨rfl, hZ⟩

end Go.Proofs.Ytkfebgdflbplbaa
