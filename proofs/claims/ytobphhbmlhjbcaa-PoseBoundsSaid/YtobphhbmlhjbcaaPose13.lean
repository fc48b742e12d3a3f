/- The modes' names; the examples of layer 19. -/
import Derived.Test.YtobphhbmlhjbcaaPose10
namespace Go.Proofs.Ytobphhbmlhjbcaa
set_option linter.unusedVariables false
set_option linter.unusedSimpArgs false
open Go.RowKit
set_option maxRecDepth 100000

theorem poses1 {w : World} {s : Option Addr} {P : Nat → Po} (h : PosesAt w s 1 P) : ∃ b off, s = some ⟨b, off, none⟩ ∧ b < w.heap.size ∧ PoCells w b off (P 0) := by
  rcases h with h | ⟨b, off, e, hl, hc⟩
  · exact absurd h (by decide)
  · exact ⟨b, off, e, hl, by simpa using hc 0 (by decide)⟩
def exCfg : Cfg := ⟨1, 1, 0, 0, 0, 100, 0, 1, 1, 20, false⟩
theorem exCfg_ok : exCfg.Ok := by
  constructor <;> (simp only [exCfg]; unfold I64; omega)
theorem exm_f (w : World) : Calls Try.prog 26 #[] w fun e w' => e = .returned (cfgV exCfg) ∧ Below w.heap.size w w' := by
  unfold cfgV exCfg
  dsimp only
  go_enter Try.func26, Try.ntmps26
  go_wp2
  exact bodyPost_ret (v := .agg #[.int .i64 1, .int .i64 1, .int .i64 0, .int .i64 0, .int .i64 0, .int .i64 100, .int .i64 0, .int .i64 1, .int .i64 1, .int .i64 20, .bool false]) (by simp [results, Try.results26, go_sem]) rfl ⟨rfl, by (repeat (first | exact Below.refl _ _ | assumption | (refine Below.drew ?_) | (refine below_drewN ?_ _) | (refine Below.alloc ?_ (by simp <;> omega) _) | (refine Below.setCell ?_ (by simp <;> omega) _)))⟩
def oneE (place speed : Int) : Ent := ⟨1, place, 0, 0, speed, 0, 0, 0, 0⟩
theorem one_f (time place speed : Int) (hp : I64 place) (hs : I64 speed) (w : World) :
    Calls Try.prog 27 #[.int .i64 time, .int .i64 place, .int .i64 speed] w fun e w' => ∃ b, e = .returned (snapV 1 time (some ⟨b, 0, none⟩) 1 1) ∧ EntsAt w' (some ⟨b, 0, none⟩) 1 (fun _ => oneE place speed) ∧ Below w.heap.size w w' := by
  unfold snapV
  go_enter Try.func27, Try.ntmps27
  go_wp2
  refine bodyPost_ret (v := .agg #[.int .i64 1, .int .i64 time, .slice (some ⟨w.heap.size + 1, 0, none⟩) 1 1]) (by simp [results, Try.results27, go_sem]) rfl ⟨w.heap.size + 1, rfl, ?_, by (repeat (first | exact Below.refl _ _ | assumption | (refine Below.drew ?_) | (refine below_drewN ?_ _) | (refine Below.alloc ?_ (by simp <;> omega) _) | (refine Below.setCell ?_ (by simp <;> omega) _)))⟩
  refine ⟨fun i hi => ⟨by simp [oneE, I64], hp, by simp [oneE, I64], by simp [oneE, I64], hs, by simp [oneE, I64], by simp [oneE, I64], by simp [oneE], by simp [oneE]⟩, .inr ⟨w.heap.size + 1, 0, rfl, by simp, fun i hi => ?_⟩⟩
  obtain rfl : i = 0 := by omega
  unfold EntCells oneE
  simp [go_sem]

theorem exBtw (aa ab : Option Addr) : btwE exCfg 1 0 aa 1 1 (fun _ => oneE 0 0) 1 10 ab 1 1 (fun _ => oneE 10 0) 4 = 0 := rfl
theorem exBey (aa : Option Addr) : bydE exCfg 1 0 aa 1 1 (fun _ => oneE 0 65536) 3 = 0 := rfl
theorem exP1 : btwF exCfg.curved (fun _ => oneE 0 0) (fun _ => oneE 10 0) 1 (4 - 0) (10 - 0) 0 = ⟨1, 4, 0, 0, 0, 1⟩ := rfl
theorem exP2 : byF (byM exCfg (subF 3 0)) (byD exCfg (subF 3 0)) (fun _ => oneE 0 65536) 0 = ⟨1, 3, 0, 0, 0, 3⟩ := rfl

set_option maxHeartbeats 1000000 in
theorem alive19_f (w : World) : Calls Try.prog 11 #[] w fun e w' => e = .returned (.bool true) ∧ Below w.heap.size w w' := by
  have EM := fun w => exm_f w
  have i0 : I64 0 := by unfold I64; omega
  have O1 := fun w => one_f 0 0 0 i0 i0 w
  have O2 := fun w => one_f 10 10 0 (by unfold I64; omega) i0 w
  have O3 := fun w => one_f 0 0 65536 i0 (by unfold I64; omega) w
  have BT := fun w aa ab h1 h2 => pbtw_f exCfg 1 0 aa 1 1 (fun _ => oneE 0 0) 1 10 ab 1 1 (fun _ => oneE 10 0) 4 w h1 h2 (by decide) (by decide)
  have BY := fun w aa h1 => pbyd_f exCfg exCfg_ok 1 0 aa 1 1 (fun _ => oneE 0 65536) 3 w i0 (by unfold I64; omega) h1 (by decide)
  simp only [exBtw, okN, if_true] at BT
  simp only [exBey, okN, if_true] at BY
  unfold Rets at BT BY
  unfold cfgV exCfg at EM
  unfold cfgV snapV at BT BY
  unfold snapV at O1 O2 O3
  dsimp only at EM
  go_enter Try.func11, Try.ntmps11
  go_wp2_with fail
  refine (EM _).mono ?_; rintro e w1 ⟨rfl, hb1⟩
  have HB1 := Lib.hid hb1
  clear hb1
  go_wp2_with fail
  refine (O1 _).mono ?_; rintro e w2 ⟨x2, rfl, hE2, hb2⟩
  have HB2 : Hid (Below w.heap.size w w2) := Lib.hid (HB1.out.trans (hb2.mono HB1.out.size))
  clear hb2 O1
  go_wp2_with fail
  refine (O2 _).mono ?_; rintro e w3 ⟨x3, rfl, hE3, hb3⟩
  have HB3 : Hid (Below w.heap.size w w3) := Lib.hid (HB2.out.trans (hb3.mono HB2.out.size))
  have bt := BT _ _ _ (hE2.below hb3) hE3
  clear hb3 hE2 hE3 BT O2
  go_wp2_with fail
  refine bt.mono ?_; rintro e w4 ⟨s4, c4, rfl, hp4, hb4⟩
  have HB4 : Hid (Below w.heap.size w w4) := Lib.hid (HB3.out.trans (hb4.mono HB3.out.size))
  have HP4 := Lib.hid hp4
  clear hb4 bt hp4 HB1 HB2 HB3
  go_wp2_with fail
  refine (EM _).mono ?_; rintro e w5 ⟨rfl, hb5⟩
  have HB5 : Hid (Below w.heap.size w w5) := Lib.hid (HB4.out.trans (hb5.mono HB4.out.size))
  have HP5 := Lib.hid (HP4.out.below hb5)
  clear hb5 EM HP4 HB4
  go_wp2_with fail
  refine (O3 _).mono ?_; rintro e w6 ⟨x6, rfl, hE6, hb6⟩
  have HB6 : Hid (Below w.heap.size w w6) := Lib.hid (HB5.out.trans (hb6.mono HB5.out.size))
  have HP6 := Lib.hid (HP5.out.below hb6)
  have bt := BY _ _ hE6
  clear hb6 hE6 O3 BY HP5 HB5
  go_wp2_with fail
  refine bt.mono ?_; rintro e w7 ⟨s7, c7, rfl, hp7, hb7⟩
  have HB7 : Hid (Below w.heap.size w w7) := Lib.hid (HB6.out.trans (hb7.mono HB6.out.size))
  obtain ⟨b1, o1, rfl, hl1, hq1⟩ := poses1 (HP6.out.below hb7)
  obtain ⟨b2, o2, rfl, hl2, hq2⟩ := poses1 hp7
  rw [exP1] at hq1
  rw [exP2] at hq2
  obtain ⟨p0, p1, p2, p3, p4, p5⟩ := hq1
  obtain ⟨q0, q1, q2, q3, q4, q5⟩ := hq2
  dsimp only at p0 p1 p2 p3 p4 p5 q0 q1 q2 q3 q4 q5
  clear hb7 bt hp7 HP6 HB6
  go_wp2
  go_ret
  exact ⟨rfl, HB7.out⟩

theorem names_f (w : World) : Calls Try.prog 21 #[] w fun e w' => ∃ b, e = .returned (.slice (some ⟨b, 0, none⟩) 5 5) ∧ b < w'.heap.size ∧
    (w'.cell? ⟨b, 0, none⟩ = some (.string ⟨#[101, 120, 97, 99, 116]⟩) ∧ w'.cell? ⟨b, 1, none⟩ = some (.string ⟨#[108, 105, 110, 101]⟩) ∧ w'.cell? ⟨b, 2, none⟩ = some (.string ⟨#[99, 117, 114, 118, 101]⟩) ∧ w'.cell? ⟨b, 3, none⟩ = some (.string ⟨#[102, 117, 114, 116, 104, 101, 114]⟩) ∧ w'.cell? ⟨b, 4, none⟩ = some (.string ⟨#[104, 111, 108, 100]⟩)) ∧ Below w.heap.size w w' := by
  go_enter Try.func21, Try.ntmps21
  go_wp2
  go_ret
  exact ⟨w.heap.size, rfl, by simp, by simp [go_sem], by (repeat (first | exact Below.refl _ _ | assumption | (refine Below.drew ?_) | (refine below_drewN ?_ _) | (refine Below.alloc ?_ (by simp <;> omega) _) | (refine Below.setCell ?_ (by simp <;> omega) _)))⟩

theorem grt_le {E : Nat → Option Addr × Nat × Nat} : ∀ {n i : Nat}, grtF E n i = false → ∀ j, i ≤ j → j < i + n → (E j).2.1 ≤ 100
  | 0, i, _, j, h1, h2 => by omega
  | n + 1, i, h, j, h1, h2 => by
    rw [grtF] at h
    split at h
    · exact absurd h (by decide)
    · by_cases e : j = i
      · rw [e]; omega
      · exact grt_le h j (by omega) (by omega)
theorem great_le {E : Nat → Option Addr × Nat × Nat} {len : Nat} (h : greatB E len = false) : ∀ i, i < len → (E i).2.1 ≤ 100 := by
  unfold greatB at h
  split at h
  · exact absurd h (by decide)
  · rename_i h2
    intro i hi
    exact grt_le (by simpa using h2) i (by omega) (by omega)
end Go.Proofs.Ytobphhbmlhjbcaa
