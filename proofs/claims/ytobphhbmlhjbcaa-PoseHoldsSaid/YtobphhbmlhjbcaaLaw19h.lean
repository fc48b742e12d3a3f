/- The law PoseHolds, walked: it returns true. -/
import Derived.Test.YtobphhbmlhjbcaaLaw19d
namespace Go.Proofs.Ytobphhbmlhjbcaa
set_option linter.unusedVariables false
set_option linter.unusedSimpArgs false
open Go.RowKit
set_option maxRecDepth 100000

theorem chkT_one {t : Int} (h1 : -2305843009213693952 ≤ t) (h2 : t ≤ 2305843009213693952) : chkT (fun _ => t) 1 = 0 := by
  show (if t < -2305843009213693952 ∨ 2305843009213693952 < t then (3 : Int) else if 0 < 0 ∧ t ≤ t then 10 else chkFrom (fun _ => t) 0 1) = 0
  rw [if_neg (by omega), if_neg (by omega)]
  rfl
theorem cchk_extra {c : Cfg} (hc : cchk c = 0) : 0 ≤ c.extra ∧ c.extra ≤ 2305843009213693952 := by
  unfold cchk at hc
  split at hc
  · split at hc
    · contradiction
    · split at hc
      · rename_i h3
        simp only [Bool.and_eq_true] at h3
        have := h3.2
        unfold inB at this
        simpa using this
      · exact absurd hc (by decide)
  · exact absurd hc (by decide)
theorem snapChk_time {k t : Int} {len : Nat} {E : Nat → Ent} (h : snapChk k t len E = 0) : -2305843009213693952 ≤ t ∧ t ≤ 2305843009213693952 := by
  unfold snapChk at h
  split at h
  · exact absurd h (by decide)
  · omega
theorem beyE_eq {k t : Int} {len : Nat} {E : Nat → Ent} (h : snapChk k t len E = 0) (x : Int) : beyE t x = if x < t then 3 else 0 := by
  obtain ⟨h1, h2⟩ := snapChk_time h
  unfold beyE
  rw [if_pos (chkT_one h1 h2)]
theorem chk1_of {c : Cfg} {k t : Int} {a : Option Addr} {len cap : Nat} {E : Nat → Ent} (h1 : cchk c = 0) (h2 : snapChk k t len E = 0) : chk1 c k t a len cap E = 0 := by
  unfold chk1 pchk
  rw [if_pos h1]
  show (if snapChk k t len E = 0 then _ else _) = _
  rw [if_pos h2]
  rfl
theorem bydE_eq {c : Cfg} {k t : Int} {a : Option Addr} {len cap : Nat} {E : Nat → Ent} (h1 : cchk c = 0) (h2 : snapChk k t len E = 0) (x : Int) : bydE c k t a len cap E x = if x < t then 3 else 0 := by
  unfold bydE
  rw [if_pos (chk1_of h1 h2), beyE_eq h2]

set_option maxHeartbeats 4000000 in
theorem poseHolds_g (c : Cfg) (ok : c.Ok) (ka ta : Int) (aa : Option Addr) (la ca : Nat) (A : Nat → Ent) (at0 at1 : Int) (w : World) (hka : I64 ka) (hta : I64 ta) (hat : I64 at0) (hat1 : I64 at1) (ha : EntsAt w aa la A) (hg : greatB (fun _ => (aa, la, ca)) 1 = true) :
    Calls Try.prog 4 #[cfgV c, snapV ka ta aa la ca, .agg #[.int .i64 at0, .int .i64 at1]] w fun e w' => e = .returned (.bool true) ∧ Below w.heap.size w w' := by
  have BC0 := ((Blk.new w #[.int .i64 c.ring, .int .i64 c.window, .int .i64 c.base, .int .i64 c.gain, .int .i64 c.least, .int .i64 c.most, .int .i64 c.slack, .int .i64 c.num, .int .i64 c.den, .int .i64 c.extra, .bool c.curved] 23).alloc (.cells #[.int .i64 ka, .int .i64 ta, .slice aa la ca] 26)).alloc (.cells #[.int .i64 at0, .int .i64 at1] 38)
  have BS0 := (Blk.new (w.alloc (.cells #[.int .i64 c.ring, .int .i64 c.window, .int .i64 c.base, .int .i64 c.gain, .int .i64 c.least, .int .i64 c.most, .int .i64 c.slack, .int .i64 c.num, .int .i64 c.den, .int .i64 c.extra, .bool c.curved] 23)) #[.int .i64 ka, .int .i64 ta, .slice aa la ca] 26).alloc (.cells #[.int .i64 at0, .int .i64 at1] 38)
  have BM0 := Blk.new ((w.alloc (.cells #[.int .i64 c.ring, .int .i64 c.window, .int .i64 c.base, .int .i64 c.gain, .int .i64 c.least, .int .i64 c.most, .int .i64 c.slack, .int .i64 c.num, .int .i64 c.den, .int .i64 c.extra, .bool c.curved] 23)).alloc (.cells #[.int .i64 ka, .int .i64 ta, .slice aa la ca] 26)) #[.int .i64 at0, .int .i64 at1] 38
  have hB0 : Below w.heap.size w (((w.alloc (.cells #[.int .i64 c.ring, .int .i64 c.window, .int .i64 c.base, .int .i64 c.gain, .int .i64 c.least, .int .i64 c.most, .int .i64 c.slack, .int .i64 c.num, .int .i64 c.den, .int .i64 c.extra, .bool c.curved] 23)).alloc (.cells #[.int .i64 ka, .int .i64 ta, .slice aa la ca] 26)).alloc (.cells #[.int .i64 at0, .int .i64 at1] 38)) := (((Below.refl _ _).alloc (Nat.le_refl _) _).alloc (by simp) _).alloc (by simp; omega) _
  simp only [World.size_alloc] at BS0 BM0
  unfold cfgV snapV
  go_enter Try.func4, Try.ntmps4
  go_wp2_with fail
  generalize (((w.alloc (.cells #[.int .i64 c.ring, .int .i64 c.window, .int .i64 c.base, .int .i64 c.gain, .int .i64 c.least, .int .i64 c.most, .int .i64 c.slack, .int .i64 c.num, .int .i64 c.den, .int .i64 c.extra, .bool c.curved] 23)).alloc (.cells #[.int .i64 ka, .int .i64 ta, .slice aa la ca] 26)).alloc (.cells #[.int .i64 at0, .int .i64 at1] 38)) = W at *
  have m0 : W.cell? ⟨w.heap.size + 1 + 1, 0, none⟩ = some (.int .i64 at0) := by simpa using BM0.cell 0
  have m1 : W.cell? ⟨w.heap.size + 1 + 1, 1, none⟩ = some (.int .i64 at1) := by simpa using BM0.cell 1
  refine wp_region_calm 5 (by kernel_rfl) (by kernel_rfl) ?_
  simp only [List.take_succ_cons, List.take_zero, List.drop_succ_cons, List.drop_zero]
  repeat (apply wpCalm_step; (next => (intro W hW K hK; have y0 := hW.cell m0; have y1 := hW.cell m1; go_simp; first | exact ⟨hW, hK⟩ | exact hK)); (next => exact CalmI.self _); (try go_simp))
  refine wpCalm_nil ?_
  intro WC hWC
  generalize WC = w1 at *
  have hW1 : Below W.heap.size W w1 := hWC
  have SC := Lib.hid (BC0.below hW1 BC0.lt)
  have SS := Lib.hid (BS0.below hW1 BS0.lt)
  have HB1 : Hid (Below w.heap.size w w1) := Lib.hid (hB0.trans (hW1.mono hB0.size))
  clear hWC hW1 m0 m1 BC0 BS0 BM0 hB0
  obtain ⟨a0, a1, a2⟩ := sn_cells SS.out
  have GR := great_f (some ⟨w1.heap.size, 0, none⟩) 1 1 _ _ _ _ (snaps1 w1 ka ta aa la ca) (by decide)
  rw [hg] at GR
  go_wp2_with fail
  refine GR.mono ?_; rintro e w2 ⟨rfl, hb2⟩
  have hW2 : Below w1.heap.size w1 w2 := ((Below.refl _ _).alloc (Nat.le_refl _) _).trans (hb2.mono (by simp))
  have HB2 : Hid (Below w.heap.size w w2) := Lib.hid (HB1.out.trans (hW2.mono HB1.out.size))
  have SCn := Lib.hid (SC.out.below hW2 SC.out.lt)
  clear SC
  have SC := SCn
  clear SCn
  have SSn := Lib.hid (SS.out.below hW2 SS.out.lt)
  clear SS
  have SS := SSn
  clear SSn
  clear hb2 hW2 GR a0 a1 a2 HB1
  go_wp2_with fail
  refine (alive19_f _).mono ?_; rintro e w3 ⟨rfl, hb3⟩
  have HB3 : Hid (Below w.heap.size w w3) := Lib.hid (HB2.out.trans (hb3.mono HB2.out.size))
  clear hb3
  go_wp2
  go_ret
  exact ⟨rfl, HB3.out⟩

set_option maxHeartbeats 4000000 in
theorem poseHolds_a (c : Cfg) (ok : c.Ok) (ka ta : Int) (aa : Option Addr) (la ca : Nat) (A : Nat → Ent) (at0 at1 : Int) (w : World) (hka : I64 ka) (hta : I64 ta) (hat : I64 at0) (hat1 : I64 at1) (ha : EntsAt w aa la A) (hg : greatB (fun _ => (aa, la, ca)) 1 = false) (h0 : cchk c ≠ 0) :
    Calls Try.prog 4 #[cfgV c, snapV ka ta aa la ca, .agg #[.int .i64 at0, .int .i64 at1]] w fun e w' => e = .returned (.bool true) ∧ Below w.heap.size w w' := by
  have BC0 := ((Blk.new w #[.int .i64 c.ring, .int .i64 c.window, .int .i64 c.base, .int .i64 c.gain, .int .i64 c.least, .int .i64 c.most, .int .i64 c.slack, .int .i64 c.num, .int .i64 c.den, .int .i64 c.extra, .bool c.curved] 23).alloc (.cells #[.int .i64 ka, .int .i64 ta, .slice aa la ca] 26)).alloc (.cells #[.int .i64 at0, .int .i64 at1] 38)
  have BS0 := (Blk.new (w.alloc (.cells #[.int .i64 c.ring, .int .i64 c.window, .int .i64 c.base, .int .i64 c.gain, .int .i64 c.least, .int .i64 c.most, .int .i64 c.slack, .int .i64 c.num, .int .i64 c.den, .int .i64 c.extra, .bool c.curved] 23)) #[.int .i64 ka, .int .i64 ta, .slice aa la ca] 26).alloc (.cells #[.int .i64 at0, .int .i64 at1] 38)
  have BM0 := Blk.new ((w.alloc (.cells #[.int .i64 c.ring, .int .i64 c.window, .int .i64 c.base, .int .i64 c.gain, .int .i64 c.least, .int .i64 c.most, .int .i64 c.slack, .int .i64 c.num, .int .i64 c.den, .int .i64 c.extra, .bool c.curved] 23)).alloc (.cells #[.int .i64 ka, .int .i64 ta, .slice aa la ca] 26)) #[.int .i64 at0, .int .i64 at1] 38
  have hB0 : Below w.heap.size w (((w.alloc (.cells #[.int .i64 c.ring, .int .i64 c.window, .int .i64 c.base, .int .i64 c.gain, .int .i64 c.least, .int .i64 c.most, .int .i64 c.slack, .int .i64 c.num, .int .i64 c.den, .int .i64 c.extra, .bool c.curved] 23)).alloc (.cells #[.int .i64 ka, .int .i64 ta, .slice aa la ca] 26)).alloc (.cells #[.int .i64 at0, .int .i64 at1] 38)) := (((Below.refl _ _).alloc (Nat.le_refl _) _).alloc (by simp) _).alloc (by simp; omega) _
  simp only [World.size_alloc] at BS0 BM0
  have CK := rcheck_f c
  unfold cfgV at CK
  generalize cchk c = cc at *
  have h1 : (cc != 0) = true := by simpa using h0
  clear h0
  unfold cfgV snapV
  go_enter Try.func4, Try.ntmps4
  go_wp2_with fail
  generalize (((w.alloc (.cells #[.int .i64 c.ring, .int .i64 c.window, .int .i64 c.base, .int .i64 c.gain, .int .i64 c.least, .int .i64 c.most, .int .i64 c.slack, .int .i64 c.num, .int .i64 c.den, .int .i64 c.extra, .bool c.curved] 23)).alloc (.cells #[.int .i64 ka, .int .i64 ta, .slice aa la ca] 26)).alloc (.cells #[.int .i64 at0, .int .i64 at1] 38)) = W at *
  have m0 : W.cell? ⟨w.heap.size + 1 + 1, 0, none⟩ = some (.int .i64 at0) := by simpa using BM0.cell 0
  have m1 : W.cell? ⟨w.heap.size + 1 + 1, 1, none⟩ = some (.int .i64 at1) := by simpa using BM0.cell 1
  refine wp_region_calm 5 (by kernel_rfl) (by kernel_rfl) ?_
  simp only [List.take_succ_cons, List.take_zero, List.drop_succ_cons, List.drop_zero]
  repeat (apply wpCalm_step; (next => (intro W hW K hK; have y0 := hW.cell m0; have y1 := hW.cell m1; go_simp; first | exact ⟨hW, hK⟩ | exact hK)); (next => exact CalmI.self _); (try go_simp))
  refine wpCalm_nil ?_
  intro WC hWC
  generalize WC = w1 at *
  have hW1 : Below W.heap.size W w1 := hWC
  have SC := Lib.hid (BC0.below hW1 BC0.lt)
  have SS := Lib.hid (BS0.below hW1 BS0.lt)
  have HB1 : Hid (Below w.heap.size w w1) := Lib.hid (hB0.trans (hW1.mono hB0.size))
  clear hWC hW1 m0 m1 BC0 BS0 BM0 hB0
  obtain ⟨a0, a1, a2⟩ := sn_cells SS.out
  have GR := great_f (some ⟨w1.heap.size, 0, none⟩) 1 1 _ _ _ _ (snaps1 w1 ka ta aa la ca) (by decide)
  rw [hg] at GR
  go_wp2_with fail
  refine GR.mono ?_; rintro e w2 ⟨rfl, hb2⟩
  have hW2 : Below w1.heap.size w1 w2 := ((Below.refl _ _).alloc (Nat.le_refl _) _).trans (hb2.mono (by simp))
  have HB2 : Hid (Below w.heap.size w w2) := Lib.hid (HB1.out.trans (hW2.mono HB1.out.size))
  have SCn := Lib.hid (SC.out.below hW2 SC.out.lt)
  clear SC
  have SC := SCn
  clear SCn
  have SSn := Lib.hid (SS.out.below hW2 SS.out.lt)
  clear SS
  have SS := SSn
  clear SSn
  clear hb2 hW2 GR a0 a1 a2 HB1
  obtain ⟨q0, q1, q2, q3, q4, q5, q6, q7, q8, q9, q10⟩ := cfg_cells SC.out
  go_wp2_with fail
  refine (CK _).mono ?_; rintro e w3 ⟨rfl, hb3⟩
  have HB3 : Hid (Below w.heap.size w w3) := Lib.hid (HB2.out.trans (hb3.mono HB2.out.size))
  have SCn := Lib.hid (SC.out.below hb3 SC.out.lt)
  clear SC
  have SC := SCn
  clear SCn
  have SSn := Lib.hid (SS.out.below hb3 SS.out.lt)
  clear SS
  have SS := SSn
  clear SSn
  clear hb3 CK HB2 q0 q1 q2 q3 q4 q5 q6 q7 q8 q9 q10
  obtain ⟨a0, a1, a2⟩ := sn_cells SS.out
  go_wp2_with fail
  refine (alive19_f _).mono ?_; rintro e w4 ⟨rfl, hb4⟩
  have HB4 : Hid (Below w.heap.size w w4) := Lib.hid (HB3.out.trans (hb4.mono HB3.out.size))
  clear hb4
  go_wp2
  go_ret
  exact ⟨rfl, HB4.out⟩

set_option maxHeartbeats 4000000 in
theorem poseHolds_b (c : Cfg) (ok : c.Ok) (ka ta : Int) (aa : Option Addr) (la ca : Nat) (A : Nat → Ent) (at0 at1 : Int) (w : World) (hka : I64 ka) (hta : I64 ta) (hat : I64 at0) (hat1 : I64 at1) (ha : EntsAt w aa la A) (hg : greatB (fun _ => (aa, la, ca)) 1 = false) (hla : (la : Int) ≤ 4611686018427387904) (h0 : cchk c = 0) (h2 : snapChk ka ta la A ≠ 0) :
    Calls Try.prog 4 #[cfgV c, snapV ka ta aa la ca, .agg #[.int .i64 at0, .int .i64 at1]] w fun e w' => e = .returned (.bool true) ∧ Below w.heap.size w w' := by
  have BC0 := ((Blk.new w #[.int .i64 c.ring, .int .i64 c.window, .int .i64 c.base, .int .i64 c.gain, .int .i64 c.least, .int .i64 c.most, .int .i64 c.slack, .int .i64 c.num, .int .i64 c.den, .int .i64 c.extra, .bool c.curved] 23).alloc (.cells #[.int .i64 ka, .int .i64 ta, .slice aa la ca] 26)).alloc (.cells #[.int .i64 at0, .int .i64 at1] 38)
  have BS0 := (Blk.new (w.alloc (.cells #[.int .i64 c.ring, .int .i64 c.window, .int .i64 c.base, .int .i64 c.gain, .int .i64 c.least, .int .i64 c.most, .int .i64 c.slack, .int .i64 c.num, .int .i64 c.den, .int .i64 c.extra, .bool c.curved] 23)) #[.int .i64 ka, .int .i64 ta, .slice aa la ca] 26).alloc (.cells #[.int .i64 at0, .int .i64 at1] 38)
  have BM0 := Blk.new ((w.alloc (.cells #[.int .i64 c.ring, .int .i64 c.window, .int .i64 c.base, .int .i64 c.gain, .int .i64 c.least, .int .i64 c.most, .int .i64 c.slack, .int .i64 c.num, .int .i64 c.den, .int .i64 c.extra, .bool c.curved] 23)).alloc (.cells #[.int .i64 ka, .int .i64 ta, .slice aa la ca] 26)) #[.int .i64 at0, .int .i64 at1] 38
  have hB0 : Below w.heap.size w (((w.alloc (.cells #[.int .i64 c.ring, .int .i64 c.window, .int .i64 c.base, .int .i64 c.gain, .int .i64 c.least, .int .i64 c.most, .int .i64 c.slack, .int .i64 c.num, .int .i64 c.den, .int .i64 c.extra, .bool c.curved] 23)).alloc (.cells #[.int .i64 ka, .int .i64 ta, .slice aa la ca] 26)).alloc (.cells #[.int .i64 at0, .int .i64 at1] 38)) := (((Below.refl _ _).alloc (Nat.le_refl _) _).alloc (by simp) _).alloc (by simp; omega) _
  simp only [World.size_alloc] at BS0 BM0
  have CK := rcheck_f c
  have SK := fun w' hA => rdelchk_f ka ta aa la ca A w' hA hla
  unfold cfgV at CK
  unfold snapV at SK
  rw [h0] at CK
  generalize snapChk ka ta la A = sk at *
  have h3 : (sk != 0) = true := by simpa using h2
  clear h0 h2
  unfold cfgV snapV
  go_enter Try.func4, Try.ntmps4
  go_wp2_with fail
  generalize (((w.alloc (.cells #[.int .i64 c.ring, .int .i64 c.window, .int .i64 c.base, .int .i64 c.gain, .int .i64 c.least, .int .i64 c.most, .int .i64 c.slack, .int .i64 c.num, .int .i64 c.den, .int .i64 c.extra, .bool c.curved] 23)).alloc (.cells #[.int .i64 ka, .int .i64 ta, .slice aa la ca] 26)).alloc (.cells #[.int .i64 at0, .int .i64 at1] 38)) = W at *
  have m0 : W.cell? ⟨w.heap.size + 1 + 1, 0, none⟩ = some (.int .i64 at0) := by simpa using BM0.cell 0
  have m1 : W.cell? ⟨w.heap.size + 1 + 1, 1, none⟩ = some (.int .i64 at1) := by simpa using BM0.cell 1
  refine wp_region_calm 5 (by kernel_rfl) (by kernel_rfl) ?_
  simp only [List.take_succ_cons, List.take_zero, List.drop_succ_cons, List.drop_zero]
  repeat (apply wpCalm_step; (next => (intro W hW K hK; have y0 := hW.cell m0; have y1 := hW.cell m1; go_simp; first | exact ⟨hW, hK⟩ | exact hK)); (next => exact CalmI.self _); (try go_simp))
  refine wpCalm_nil ?_
  intro WC hWC
  generalize WC = w1 at *
  have hW1 : Below W.heap.size W w1 := hWC
  have SC := Lib.hid (BC0.below hW1 BC0.lt)
  have SS := Lib.hid (BS0.below hW1 BS0.lt)
  have HB1 : Hid (Below w.heap.size w w1) := Lib.hid (hB0.trans (hW1.mono hB0.size))
  clear hWC hW1 m0 m1 BC0 BS0 BM0 hB0
  obtain ⟨a0, a1, a2⟩ := sn_cells SS.out
  have GR := great_f (some ⟨w1.heap.size, 0, none⟩) 1 1 _ _ _ _ (snaps1 w1 ka ta aa la ca) (by decide)
  rw [hg] at GR
  go_wp2_with fail
  refine GR.mono ?_; rintro e w2 ⟨rfl, hb2⟩
  have hW2 : Below w1.heap.size w1 w2 := ((Below.refl _ _).alloc (Nat.le_refl _) _).trans (hb2.mono (by simp))
  have HB2 : Hid (Below w.heap.size w w2) := Lib.hid (HB1.out.trans (hW2.mono HB1.out.size))
  have SCn := Lib.hid (SC.out.below hW2 SC.out.lt)
  clear SC
  have SC := SCn
  clear SCn
  have SSn := Lib.hid (SS.out.below hW2 SS.out.lt)
  clear SS
  have SS := SSn
  clear SSn
  clear hb2 hW2 GR a0 a1 a2 HB1
  obtain ⟨q0, q1, q2, q3, q4, q5, q6, q7, q8, q9, q10⟩ := cfg_cells SC.out
  go_wp2_with fail
  refine (CK _).mono ?_; rintro e w3 ⟨rfl, hb3⟩
  have HB3 : Hid (Below w.heap.size w w3) := Lib.hid (HB2.out.trans (hb3.mono HB2.out.size))
  have SCn := Lib.hid (SC.out.below hb3 SC.out.lt)
  clear SC
  have SC := SCn
  clear SCn
  have SSn := Lib.hid (SS.out.below hb3 SS.out.lt)
  clear SS
  have SS := SSn
  clear SSn
  clear hb3 CK HB2 q0 q1 q2 q3 q4 q5 q6 q7 q8 q9 q10
  obtain ⟨a0, a1, a2⟩ := sn_cells SS.out
  go_wp2_with fail
  refine (SK w3 (ha.below HB3.out)).mono ?_; rintro e w4 ⟨rfl, hb4⟩
  have HB4 : Hid (Below w.heap.size w w4) := Lib.hid (HB3.out.trans (hb4.mono HB3.out.size))
  have SCn := Lib.hid (SC.out.below hb4 SC.out.lt)
  clear SC
  have SC := SCn
  clear SCn
  have SSn := Lib.hid (SS.out.below hb4 SS.out.lt)
  clear SS
  have SS := SSn
  clear SSn
  clear hb4 SK HB3 a0 a1 a2
  go_wp2_with fail
  refine (alive19_f _).mono ?_; rintro e w5 ⟨rfl, hb5⟩
  have HB5 : Hid (Below w.heap.size w w5) := Lib.hid (HB4.out.trans (hb5.mono HB4.out.size))
  clear hb5
  go_wp2
  go_ret
  exact ⟨rfl, HB5.out⟩

set_option maxHeartbeats 4000000 in
theorem poseHolds_c (c : Cfg) (ok : c.Ok) (ka ta : Int) (aa : Option Addr) (la ca : Nat) (A : Nat → Ent) (at0 at1 : Int) (w : World) (hka : I64 ka) (hta : I64 ta) (hat : I64 at0) (hat1 : I64 at1) (ha : EntsAt w aa la A) (hg : greatB (fun _ => (aa, la, ca)) 1 = false) (hla : (la : Int) ≤ 4611686018427387904) (h0 : cchk c = 0) (h2 : snapChk ka ta la A = 0) (h4 : at0 < ta) :
    Calls Try.prog 4 #[cfgV c, snapV ka ta aa la ca, .agg #[.int .i64 at0, .int .i64 at1]] w fun e w' => e = .returned (.bool true) ∧ Below w.heap.size w w' := by
  have BC0 := ((Blk.new w #[.int .i64 c.ring, .int .i64 c.window, .int .i64 c.base, .int .i64 c.gain, .int .i64 c.least, .int .i64 c.most, .int .i64 c.slack, .int .i64 c.num, .int .i64 c.den, .int .i64 c.extra, .bool c.curved] 23).alloc (.cells #[.int .i64 ka, .int .i64 ta, .slice aa la ca] 26)).alloc (.cells #[.int .i64 at0, .int .i64 at1] 38)
  have BS0 := (Blk.new (w.alloc (.cells #[.int .i64 c.ring, .int .i64 c.window, .int .i64 c.base, .int .i64 c.gain, .int .i64 c.least, .int .i64 c.most, .int .i64 c.slack, .int .i64 c.num, .int .i64 c.den, .int .i64 c.extra, .bool c.curved] 23)) #[.int .i64 ka, .int .i64 ta, .slice aa la ca] 26).alloc (.cells #[.int .i64 at0, .int .i64 at1] 38)
  have BM0 := Blk.new ((w.alloc (.cells #[.int .i64 c.ring, .int .i64 c.window, .int .i64 c.base, .int .i64 c.gain, .int .i64 c.least, .int .i64 c.most, .int .i64 c.slack, .int .i64 c.num, .int .i64 c.den, .int .i64 c.extra, .bool c.curved] 23)).alloc (.cells #[.int .i64 ka, .int .i64 ta, .slice aa la ca] 26)) #[.int .i64 at0, .int .i64 at1] 38
  have hB0 : Below w.heap.size w (((w.alloc (.cells #[.int .i64 c.ring, .int .i64 c.window, .int .i64 c.base, .int .i64 c.gain, .int .i64 c.least, .int .i64 c.most, .int .i64 c.slack, .int .i64 c.num, .int .i64 c.den, .int .i64 c.extra, .bool c.curved] 23)).alloc (.cells #[.int .i64 ka, .int .i64 ta, .slice aa la ca] 26)).alloc (.cells #[.int .i64 at0, .int .i64 at1] 38)) := (((Below.refl _ _).alloc (Nat.le_refl _) _).alloc (by simp) _).alloc (by simp; omega) _
  simp only [World.size_alloc] at BS0 BM0
  have CK := rcheck_f c
  have SK := fun w' hA => rdelchk_f ka ta aa la ca A w' hA hla
  have BT := fun w' hA => pbyd_f c ok ka ta aa la ca A at0 w' hta hat hA hla
  rw [bydE_eq h0 h2, if_pos h4] at BT
  unfold Rets at BT
  rw [show okN 3 la = 0 from rfl] at BT
  generalize (byF (byM c (subF at0 ta)) (byD c (subF at0 ta)) A) = sp at *
  unfold cfgV at CK
  unfold snapV at SK
  unfold cfgV snapV at BT
  rw [h0] at CK
  rw [h2] at SK
  have h5 : decide (at0 < ta) = true := decide_eq_true h4
  clear h0 h2
  unfold cfgV snapV
  go_enter Try.func4, Try.ntmps4
  go_wp2_with fail
  generalize (((w.alloc (.cells #[.int .i64 c.ring, .int .i64 c.window, .int .i64 c.base, .int .i64 c.gain, .int .i64 c.least, .int .i64 c.most, .int .i64 c.slack, .int .i64 c.num, .int .i64 c.den, .int .i64 c.extra, .bool c.curved] 23)).alloc (.cells #[.int .i64 ka, .int .i64 ta, .slice aa la ca] 26)).alloc (.cells #[.int .i64 at0, .int .i64 at1] 38)) = W at *
  have m0 : W.cell? ⟨w.heap.size + 1 + 1, 0, none⟩ = some (.int .i64 at0) := by simpa using BM0.cell 0
  have m1 : W.cell? ⟨w.heap.size + 1 + 1, 1, none⟩ = some (.int .i64 at1) := by simpa using BM0.cell 1
  refine wp_region_calm 5 (by kernel_rfl) (by kernel_rfl) ?_
  simp only [List.take_succ_cons, List.take_zero, List.drop_succ_cons, List.drop_zero]
  repeat (apply wpCalm_step; (next => (intro W hW K hK; have y0 := hW.cell m0; have y1 := hW.cell m1; go_simp; first | exact ⟨hW, hK⟩ | exact hK)); (next => exact CalmI.self _); (try go_simp))
  refine wpCalm_nil ?_
  intro WC hWC
  generalize WC = w1 at *
  have hW1 : Below W.heap.size W w1 := hWC
  have SC := Lib.hid (BC0.below hW1 BC0.lt)
  have SS := Lib.hid (BS0.below hW1 BS0.lt)
  have HB1 : Hid (Below w.heap.size w w1) := Lib.hid (hB0.trans (hW1.mono hB0.size))
  clear hWC hW1 m0 m1 BC0 BS0 BM0 hB0
  obtain ⟨a0, a1, a2⟩ := sn_cells SS.out
  have GR := great_f (some ⟨w1.heap.size, 0, none⟩) 1 1 _ _ _ _ (snaps1 w1 ka ta aa la ca) (by decide)
  rw [hg] at GR
  go_wp2_with fail
  refine GR.mono ?_; rintro e w2 ⟨rfl, hb2⟩
  have hW2 : Below w1.heap.size w1 w2 := ((Below.refl _ _).alloc (Nat.le_refl _) _).trans (hb2.mono (by simp))
  have HB2 : Hid (Below w.heap.size w w2) := Lib.hid (HB1.out.trans (hW2.mono HB1.out.size))
  have SCn := Lib.hid (SC.out.below hW2 SC.out.lt)
  clear SC
  have SC := SCn
  clear SCn
  have SSn := Lib.hid (SS.out.below hW2 SS.out.lt)
  clear SS
  have SS := SSn
  clear SSn
  clear hb2 hW2 GR a0 a1 a2 HB1
  obtain ⟨q0, q1, q2, q3, q4, q5, q6, q7, q8, q9, q10⟩ := cfg_cells SC.out
  go_wp2_with fail
  refine (CK _).mono ?_; rintro e w3 ⟨rfl, hb3⟩
  have HB3 : Hid (Below w.heap.size w w3) := Lib.hid (HB2.out.trans (hb3.mono HB2.out.size))
  have SCn := Lib.hid (SC.out.below hb3 SC.out.lt)
  clear SC
  have SC := SCn
  clear SCn
  have SSn := Lib.hid (SS.out.below hb3 SS.out.lt)
  clear SS
  have SS := SSn
  clear SSn
  clear hb3 CK HB2 q0 q1 q2 q3 q4 q5 q6 q7 q8 q9 q10
  obtain ⟨a0, a1, a2⟩ := sn_cells SS.out
  go_wp2_with fail
  refine (SK w3 (ha.below HB3.out)).mono ?_; rintro e w4 ⟨rfl, hb4⟩
  have HB4 : Hid (Below w.heap.size w w4) := Lib.hid (HB3.out.trans (hb4.mono HB3.out.size))
  have SCn := Lib.hid (SC.out.below hb4 SC.out.lt)
  clear SC
  have SC := SCn
  clear SCn
  have SSn := Lib.hid (SS.out.below hb4 SS.out.lt)
  clear SS
  have SS := SSn
  clear SSn
  clear hb4 SK HB3 a0 a1 a2
  obtain ⟨q0, q1, q2, q3, q4, q5, q6, q7, q8, q9, q10⟩ := cfg_cells SC.out
  obtain ⟨a0, a1, a2⟩ := sn_cells SS.out
  have bt := BT w4 (ha.below HB4.out)
  go_wp2_with fail
  refine bt.mono ?_; rintro e w5 ⟨s5, c5, rfl, hp5, hb5⟩
  have HP5 := Lib.hid hp5
  have HB5 : Hid (Below w.heap.size w w5) := Lib.hid (HB4.out.trans (hb5.mono HB4.out.size))
  have SCn := Lib.hid (SC.out.below hb5 SC.out.lt)
  clear SC
  have SC := SCn
  clear SCn
  have SSn := Lib.hid (SS.out.below hb5 SS.out.lt)
  clear SS
  have SS := SSn
  clear SSn
  clear hb5 hp5 bt BT HB4 q0 q1 q2 q3 q4 q5 q6 q7 q8 q9 q10 a0 a1 a2
  obtain ⟨a0, a1, a2⟩ := sn_cells SS.out
  go_wp2_with fail
  refine (alive19_f _).mono ?_; rintro e w6 ⟨rfl, hb6⟩
  have HB6 : Hid (Below w.heap.size w w6) := Lib.hid (HB5.out.trans (hb6.mono HB5.out.size))
  clear hb6
  go_wp2
  go_ret
  exact ⟨rfl, HB6.out⟩

set_option maxHeartbeats 4000000 in
theorem poseHolds_lZ (c : Cfg) (ok : c.Ok) (ka ta : Int) (aa : Option Addr) (la ca : Nat) (A : Nat → Ent) (at0 at1 : Int) (w : World) (hka : I64 ka) (hta : I64 ta) (hat : I64 at0) (hat1 : I64 at1) (ha : EntsAt w aa la A) (hg : greatB (fun _ => (aa, la, ca)) 1 = false) (hla : (la : Int) ≤ 4611686018427387904) (h0 : cchk c = 0) (h2 : snapChk ka ta la A = 0) (h4 : ¬ at0 < ta) (am : Int) (ham : am = max at0 at1) (hd : subF at0 ta = 0) :
    Calls Try.prog 4 #[cfgV c, snapV ka ta aa la ca, .agg #[.int .i64 at0, .int .i64 at1]] w fun e w' => e = .returned (.bool true) ∧ Below w.heap.size w w' := by
  have BC0 := ((Blk.new w #[.int .i64 c.ring, .int .i64 c.window, .int .i64 c.base, .int .i64 c.gain, .int .i64 c.least, .int .i64 c.most, .int .i64 c.slack, .int .i64 c.num, .int .i64 c.den, .int .i64 c.extra, .bool c.curved] 23).alloc (.cells #[.int .i64 ka, .int .i64 ta, .slice aa la ca] 26)).alloc (.cells #[.int .i64 at0, .int .i64 at1] 38)
  have BS0 := (Blk.new (w.alloc (.cells #[.int .i64 c.ring, .int .i64 c.window, .int .i64 c.base, .int .i64 c.gain, .int .i64 c.least, .int .i64 c.most, .int .i64 c.slack, .int .i64 c.num, .int .i64 c.den, .int .i64 c.extra, .bool c.curved] 23)) #[.int .i64 ka, .int .i64 ta, .slice aa la ca] 26).alloc (.cells #[.int .i64 at0, .int .i64 at1] 38)
  have BM0 := Blk.new ((w.alloc (.cells #[.int .i64 c.ring, .int .i64 c.window, .int .i64 c.base, .int .i64 c.gain, .int .i64 c.least, .int .i64 c.most, .int .i64 c.slack, .int .i64 c.num, .int .i64 c.den, .int .i64 c.extra, .bool c.curved] 23)).alloc (.cells #[.int .i64 ka, .int .i64 ta, .slice aa la ca] 26)) #[.int .i64 at0, .int .i64 at1] 38
  have hB0 : Below w.heap.size w (((w.alloc (.cells #[.int .i64 c.ring, .int .i64 c.window, .int .i64 c.base, .int .i64 c.gain, .int .i64 c.least, .int .i64 c.most, .int .i64 c.slack, .int .i64 c.num, .int .i64 c.den, .int .i64 c.extra, .bool c.curved] 23)).alloc (.cells #[.int .i64 ka, .int .i64 ta, .slice aa la ca] 26)).alloc (.cells #[.int .i64 at0, .int .i64 at1] 38)) := (((Below.refl _ _).alloc (Nat.le_refl _) _).alloc (by simp) _).alloc (by simp; omega) _
  simp only [World.size_alloc] at BS0 BM0
  have CK := rcheck_f c
  have SK := fun w' hA => rdelchk_f ka ta aa la ca A w' hA hla
  have ham64 : I64 am := by obtain ⟨x1, x2⟩ := hat; obtain ⟨y1, y2⟩ := hat1; unfold I64; omega
  have BT := fun w' hA => pbyd_f c ok ka ta aa la ca A at0 w' hta hat hA hla
  have CT : ∀ (x : Int), x = am → ∀ w', EntsAt w' aa la A → Calls Try.prog 17 #[cfgV c, snapV ka ta aa la ca, .int .i64 x] w' (Rets w' (okN (bydE c ka ta aa la ca A am) la) (bydE c ka ta aa la ca A am) (byF (byM c (subF am ta)) (byD c (subF am ta)) A)) := by
    rintro x rfl w' hA
    exact pbyd_f c ok ka ta aa la ca A x w' hta ham64 hA hla
  obtain ⟨_, hex1, _, _⟩ := chk1_ok (chk1_of (a := aa) (cap := ca) h0 h2)
  have hex := cchk_extra h0
  rw [bydE_eq h0 h2, if_neg h4] at BT
  have ham2 : ¬ am < ta := by omega
  rw [bydE_eq h0 h2, if_neg ham2] at CT
  unfold Rets at BT CT
  rw [show okN 0 la = la from rfl] at BT CT
  have e0 : at0 = ta := by unfold subF sat at hd; omega
  have hm : byM c (subF at0 ta) = 0 := by unfold byM; rw [if_pos hd]
  have hdd : byD c (subF at0 ta) = 0 := by unfold byD; rw [if_neg (by omega)]; exact hd
  have g1 : (at0 == ta) = true := by simpa using e0
  rw [hm, hdd] at BT
  generalize (byF (byM c (subF am ta)) (byD c (subF am ta)) A) = rq at *
  have HDD : Hid (I64 0) := Lib.hid (by unfold I64; omega)
  obtain ⟨rp, hrp⟩ : ∃ p, byF 0 0 A = p := ⟨_, rfl⟩
  rw [hrp] at BT
  have HRP : Hid (∀ k, rp k = byP 0 0 (A k)) := Lib.hid (fun k => by rw [← hrp]; rfl)
  have HCT := Lib.hid CT
  have HAM := Lib.hid ham
  have hokA := ha.1
  have HCA : Hid (∀ k, k < la → ∃ b off, aa = some ⟨b, off, none⟩ ∧ b < w.heap.size ∧ EntCells w b (off + k * 9) (A k)) := Lib.hid (fun k hk => by
    rcases ha.2 with h0 | ⟨b, off, e, hb, hc⟩
    · omega
    · exact ⟨b, off, e, hb, hc k hk⟩)
  unfold cfgV at CK
  unfold snapV at SK
  unfold cfgV snapV at BT HCT
  rw [h0] at CK
  rw [h2] at SK
  have h5 : decide (at0 < ta) = false := decide_eq_false h4
  clear h0 h2 hrp CT hm hdd ham  hd e0 hex hex1 ham2
  unfold cfgV snapV
  go_enter Try.func4, Try.ntmps4
  go_wp2_with fail
  generalize (((w.alloc (.cells #[.int .i64 c.ring, .int .i64 c.window, .int .i64 c.base, .int .i64 c.gain, .int .i64 c.least, .int .i64 c.most, .int .i64 c.slack, .int .i64 c.num, .int .i64 c.den, .int .i64 c.extra, .bool c.curved] 23)).alloc (.cells #[.int .i64 ka, .int .i64 ta, .slice aa la ca] 26)).alloc (.cells #[.int .i64 at0, .int .i64 at1] 38)) = W at *
  have m0 : W.cell? ⟨w.heap.size + 1 + 1, 0, none⟩ = some (.int .i64 at0) := by simpa using BM0.cell 0
  have m1 : W.cell? ⟨w.heap.size + 1 + 1, 1, none⟩ = some (.int .i64 at1) := by simpa using BM0.cell 1
  refine wp_region_calm 5 (by kernel_rfl) (by kernel_rfl) ?_
  simp only [List.take_succ_cons, List.take_zero, List.drop_succ_cons, List.drop_zero]
  repeat (apply wpCalm_step; (next => (intro W hW K hK; have y0 := hW.cell m0; have y1 := hW.cell m1; go_simp; first | exact ⟨hW, hK⟩ | exact hK)); (next => exact CalmI.self _); (try go_simp))
  refine wpCalm_nil ?_
  intro WC hWC
  generalize WC = w1 at *
  have hW1 : Below W.heap.size W w1 := hWC
  have SC := Lib.hid (BC0.below hW1 BC0.lt)
  have SS := Lib.hid (BS0.below hW1 BS0.lt)
  have HB1 : Hid (Below w.heap.size w w1) := Lib.hid (hB0.trans (hW1.mono hB0.size))
  clear hWC hW1 m0 m1 BC0 BS0 BM0 hB0
  obtain ⟨a0, a1, a2⟩ := sn_cells SS.out
  have GR := great_f (some ⟨w1.heap.size, 0, none⟩) 1 1 _ _ _ _ (snaps1 w1 ka ta aa la ca) (by decide)
  rw [hg] at GR
  go_wp2_with fail
  refine GR.mono ?_; rintro e w2 ⟨rfl, hb2⟩
  have hW2 : Below w1.heap.size w1 w2 := ((Below.refl _ _).alloc (Nat.le_refl _) _).trans (hb2.mono (by simp))
  have HB2 : Hid (Below w.heap.size w w2) := Lib.hid (HB1.out.trans (hW2.mono HB1.out.size))
  have SCn := Lib.hid (SC.out.below hW2 SC.out.lt)
  clear SC
  have SC := SCn
  clear SCn
  have SSn := Lib.hid (SS.out.below hW2 SS.out.lt)
  clear SS
  have SS := SSn
  clear SSn
  clear hb2 hW2 GR a0 a1 a2 HB1
  obtain ⟨q0, q1, q2, q3, q4, q5, q6, q7, q8, q9, q10⟩ := cfg_cells SC.out
  go_wp2_with fail
  refine (CK _).mono ?_; rintro e w3 ⟨rfl, hb3⟩
  have HB3 : Hid (Below w.heap.size w w3) := Lib.hid (HB2.out.trans (hb3.mono HB2.out.size))
  have SCn := Lib.hid (SC.out.below hb3 SC.out.lt)
  clear SC
  have SC := SCn
  clear SCn
  have SSn := Lib.hid (SS.out.below hb3 SS.out.lt)
  clear SS
  have SS := SSn
  clear SSn
  clear hb3 CK HB2 q0 q1 q2 q3 q4 q5 q6 q7 q8 q9 q10
  obtain ⟨a0, a1, a2⟩ := sn_cells SS.out
  go_wp2_with fail
  refine (SK w3 (ha.below HB3.out)).mono ?_; rintro e w4 ⟨rfl, hb4⟩
  have HB4 : Hid (Below w.heap.size w w4) := Lib.hid (HB3.out.trans (hb4.mono HB3.out.size))
  have SCn := Lib.hid (SC.out.below hb4 SC.out.lt)
  clear SC
  have SC := SCn
  clear SCn
  have SSn := Lib.hid (SS.out.below hb4 SS.out.lt)
  clear SS
  have SS := SSn
  clear SSn
  clear hb4 SK HB3 a0 a1 a2
  obtain ⟨q0, q1, q2, q3, q4, q5, q6, q7, q8, q9, q10⟩ := cfg_cells SC.out
  obtain ⟨a0, a1, a2⟩ := sn_cells SS.out
  have bt := BT w4 (ha.below HB4.out)
  go_wp2_with fail
  refine bt.mono ?_; rintro e w5 ⟨s5, c5, rfl, hp5, hb5⟩
  have HP5 := Lib.hid hp5
  have HB5 : Hid (Below w.heap.size w w5) := Lib.hid (HB4.out.trans (hb5.mono HB4.out.size))
  have SCn := Lib.hid (SC.out.below hb5 SC.out.lt)
  clear SC
  have SC := SCn
  clear SCn
  have SSn := Lib.hid (SS.out.below hb5 SS.out.lt)
  clear SS
  have SS := SSn
  clear SSn
  clear hb5 hp5 bt BT HB4 q0 q1 q2 q3 q4 q5 q6 q7 q8 q9 q10 a0 a1 a2
  obtain ⟨a0, a1, a2⟩ := sn_cells SS.out
  obtain ⟨q0, q1, q2, q3, q4, q5, q6, q7, q8, q9, q10⟩ := cfg_cells SC.out
  go_wp2_with fail
  have ct := HCT.out _ (by rw [HAM.out]) w5 (ha.below HB5.out)
  refine ct.mono ?_; rintro e W0 ⟨s6, c6, rfl, hp6, hb6⟩
  have HP6 := Lib.hid hp6
  have HQ6 := Lib.hid (HP5.out.below hb6)
  have HW0 : Hid (Below w.heap.size w W0) := Lib.hid (HB5.out.trans (hb6.mono HB5.out.size))
  have SCn := Lib.hid (SC.out.below hb6 SC.out.lt)
  clear SC
  have SC := SCn
  clear SCn
  have SSn := Lib.hid (SS.out.below hb6 SS.out.lt)
  clear SS
  have SS := SSn
  clear SSn
  clear hb6 hp6 ct HB5 HP5 q0 q1 q2 q3 q4 q5 q6 q7 q8 q9 q10 a0 a1 a2
  have lss := SS.out.lt
  have lsc := SC.out.lt
  go_wp2_with fail
  go_loopw [85] (fun i wr => ∃ k : Nat, k ≤ la ∧ i = .int .i64 k ∧ Below W0.heap.size W0 wr) (fun i _ => la - (intOf i).toNat)
  case atStart => exact ⟨0, Nat.zero_le _, rfl, Below.refl _ _⟩
  case round =>
    rename_i wr
    obtain ⟨k, hk, rfl, hB⟩ := hrel
    have hsz := hB.size
    by_cases hlt : k < la
    · obtain ⟨b, off, hea, hbw, hc⟩ := HCA.out k hlt
      subst hea
      have hcw := hc.below (HW0.out.trans (hB.mono HW0.out.size)) hbw
      have hx := hokA k hlt
      have hkl : (k : Int) < la := by omega
      obtain ⟨b3, o3, hs3, hl3, hq3⟩ := poses_at HQ6.out hlt
      obtain ⟨b4, o4, hs4, hl4, hq4⟩ := poses_at HP6.out hlt
      subst hs3
      subst hs4
      have hpk := HRP.out k
      rw [hpk] at hq3
      have HB := Lib.hid hB
      clear hc hB hpk
      rw [byP_zero hx] at hq3
      unfold exactP at hq3
      have VG := Lib.hid (vgo_f (A k).px (A k).py (A k).pz (A k).vx (A k).vy (A k).vz 0 hx.px hx.py hx.pz hx.vx hx.vy hx.vz HDD.out)
      generalize A k = x at *
      obtain ⟨xid, px, py, pz, vx, vy, vz, ang, gen⟩ := x
      dsimp only at hq3 VG
      obtain ⟨r0, r1, r2, r3, r4, r5⟩ := PoCells.below hq3 HB.out hl3
      obtain ⟨c0, c1, c2, c3, c4, c5, c6', c7, c8⟩ := hcw
      dsimp only at r0 r1 r2 r3 r4 r5 c0 c1 c2 c3 c4 c5 c6' c7 c8
      have SSr := Lib.hid (SS.out.below HB.out SS.out.lt)
      have SCr := Lib.hid (SC.out.below HB.out SC.out.lt)
      obtain ⟨a0, a1, a2⟩ := sn_cells SSr.out
      have q9 := (cfg_cells SCr.out).2.2.2.2.2.2.2.2.2.1
      have l1 := SSr.out.lt
      have l2 := SCr.out.lt
      have l3 : b3 < wr.heap.size := Nat.lt_of_lt_of_le hl3 hsz
      have lb0 : b < wr.heap.size := Nat.lt_of_lt_of_le (Nat.lt_of_lt_of_le hbw HW0.out.size) hsz
      have HQ4 := Lib.hid hq4
      clear hq3 hq4
      go_wp2_with fail
      have hX := Blk.new (wr.alloc (.cells #[.int .i64 xid, .int .i64 px, .int .i64 py, .int .i64 pz, .int .u16 ang, .int .i64 0] 45)) #[.int .i64 xid, .int .i64 px, .int .i64 py, .int .i64 pz, .int .i64 vx, .int .i64 vy, .int .i64 vz, .int .u16 ang, .int .u8 gen] 47
      simp only [World.size_alloc] at hX
      have X6 := Lib.hid hX
      have P6 := Lib.hid ((Blk.new wr #[.int .i64 xid, .int .i64 px, .int .i64 py, .int .i64 pz, .int .u16 ang, .int .i64 0] 45).alloc (.cells #[.int .i64 xid, .int .i64 px, .int .i64 py, .int .i64 pz, .int .i64 vx, .int .i64 vy, .int .i64 vz, .int .u16 ang, .int .u8 gen] 47))
      have SS6 := Lib.hid ((SSr.out.alloc (.cells #[.int .i64 xid, .int .i64 px, .int .i64 py, .int .i64 pz, .int .u16 ang, .int .i64 0] 45)).alloc (.cells #[.int .i64 xid, .int .i64 px, .int .i64 py, .int .i64 pz, .int .i64 vx, .int .i64 vy, .int .i64 vz, .int .u16 ang, .int .u8 gen] 47))
      have SC6 := Lib.hid ((SCr.out.alloc (.cells #[.int .i64 xid, .int .i64 px, .int .i64 py, .int .i64 pz, .int .u16 ang, .int .i64 0] 45)).alloc (.cells #[.int .i64 xid, .int .i64 px, .int .i64 py, .int .i64 pz, .int .i64 vx, .int .i64 vy, .int .i64 vz, .int .u16 ang, .int .u8 gen] 47))
      have HB6 : Hid (Below W0.heap.size W0 ((wr.alloc (.cells #[.int .i64 xid, .int .i64 px, .int .i64 py, .int .i64 pz, .int .u16 ang, .int .i64 0] 45)).alloc (.cells #[.int .i64 xid, .int .i64 px, .int .i64 py, .int .i64 pz, .int .i64 vx, .int .i64 vy, .int .i64 vz, .int .u16 ang, .int .u8 gen] 47))) := Lib.hid ((HB.out.alloc hsz _).alloc (by simp; omega) _)
      clear hX r0 r1 r2 r3 r4 r5 c0 c1 c2 c3 c4 c5 c6' c7 c8 a0 a1 a2 q9 SSr SCr HB
      generalize ((wr.alloc (.cells #[.int .i64 xid, .int .i64 px, .int .i64 py, .int .i64 pz, .int .u16 ang, .int .i64 0] 45)).alloc (.cells #[.int .i64 xid, .int .i64 px, .int .i64 py, .int .i64 pz, .int .i64 vx, .int .i64 vy, .int .i64 vz, .int .u16 ang, .int .u8 gen] 47)) = w6 at *
      obtain ⟨r0, r1, r2, r3, r4, r5⟩ := po_cells P6.out
      obtain ⟨c0, c1, c2, c3, c4, c5, c6', c7, c8⟩ := ent_cells X6.out
      obtain ⟨a0, a1, a2⟩ := sn_cells SS6.out
      have q9 := (cfg_cells SC6.out).2.2.2.2.2.2.2.2.2.1
      refine wp_region_calm 27 (by kernel_rfl) (by kernel_rfl) ?_
      simp only [List.take_succ_cons, List.take_zero, List.drop_succ_cons, List.drop_zero]
      repeat (apply wpCalm_step; (next => (intro W hW K hK; have y0 := hW.cell r0; have y1 := hW.cell r1; have y2 := hW.cell r2; have y3 := hW.cell r3; have y4 := hW.cell r4; have y5 := hW.cell r5; have y6 := hW.cell c0; have y7 := hW.cell c1; have y8 := hW.cell c2; have y9 := hW.cell c3; have y10 := hW.cell c4; have y11 := hW.cell c5; have y12 := hW.cell c6'; have y13 := hW.cell c7; have y14 := hW.cell c8; have y15 := hW.cell q9; have y16 := hW.cell a1; have y17 := hW.cell a2; go_simp; first | exact ⟨hW, hK⟩ | exact hK)); (next => exact CalmI.self _); (try go_simp))
      refine wpCalm_nil ?_
      intro WC hWC
      have hWC' : Below w6.heap.size w6 WC := hWC
      have P7 := Lib.hid (P6.out.below hWC' P6.out.lt)
      have X7 := Lib.hid (X6.out.below hWC' X6.out.lt)
      have SS7 := Lib.hid (SS6.out.below hWC' SS6.out.lt)
      have SC7 := Lib.hid (SC6.out.below hWC' SC6.out.lt)
      have HB7 : Hid (Below W0.heap.size W0 WC) := Lib.hid (HB6.out.trans (hWC'.mono HB6.out.size))
      clear hWC hWC' r0 r1 r2 r3 r4 r5 c0 c1 c2 c3 c4 c5 c6' c7 c8 a0 a1 a2 q9  P6 X6 SS6 SC6 HB6
      generalize WC = w7 at *
      obtain ⟨r0, r1, r2, r3, r4, r5⟩ := po_cells P7.out
      obtain ⟨c0, c1, c2, c3, c4, c5, c6', c7, c8⟩ := ent_cells X7.out
      obtain ⟨a0, a1, a2⟩ := sn_cells SS7.out
      have q9 := (cfg_cells SC7.out).2.2.2.2.2.2.2.2.2.1
      go_wp2_with fail
      refine wp_region_calm 25 (by kernel_rfl) (by kernel_rfl) ?_
      simp only [List.take_succ_cons, List.take_zero, List.drop_succ_cons, List.drop_zero]
      repeat (apply wpCalm_step; (next => (intro W hW K hK; have y0 := hW.cell r0; have y1 := hW.cell r1; have y2 := hW.cell r2; have y3 := hW.cell r3; have y4 := hW.cell r4; have y5 := hW.cell r5; have y6 := hW.cell c0; have y7 := hW.cell c1; have y8 := hW.cell c2; have y9 := hW.cell c3; have y10 := hW.cell c4; have y11 := hW.cell c5; have y12 := hW.cell c6'; have y13 := hW.cell c7; have y14 := hW.cell c8; have y15 := hW.cell q9; have y16 := hW.cell a1; have y17 := hW.cell a2; go_simp; first | exact ⟨hW, hK⟩ | exact hK)); (next => exact CalmI.self _); (try go_simp))
      refine wpCalm_nil ?_
      intro WC hWC
      have HB8 : Hid (Below W0.heap.size W0 WC) := Lib.hid (HB7.out.trans (Below.mono hWC HB7.out.size))
      clear hWC r0 r1 r2 r3 r4 r5 c0 c1 c2 c3 c4 c5 c6' c7 c8 a0 a1 a2 q9
      go_wp2
      go_roundw
      case rel => exact ⟨k + 1, by omega, by go_num, HB8.out⟩
      case measure => simp [intOf]; omega
    · obtain rfl : k = la := by omega
      have HBE : Hid (Below w.heap.size w wr) := Lib.hid (HW0.out.trans (hB.mono HW0.out.size))
      clear hB
      go_wp2_with fail
      refine (alive19_f _).mono ?_; rintro e w9 ⟨rfl, hb9⟩
      have HB9 : Hid (Below w.heap.size w w9) := Lib.hid (HBE.out.trans (hb9.mono HBE.out.size))
      clear hb9
      go_wp2
      go_ret
      exact ⟨rfl, HB9.out⟩

set_option maxHeartbeats 4000000 in
theorem poseHolds_lF (c : Cfg) (ok : c.Ok) (ka ta : Int) (aa : Option Addr) (la ca : Nat) (A : Nat → Ent) (at0 at1 : Int) (w : World) (hka : I64 ka) (hta : I64 ta) (hat : I64 at0) (hat1 : I64 at1) (ha : EntsAt w aa la A) (hg : greatB (fun _ => (aa, la, ca)) 1 = false) (hla : (la : Int) ≤ 4611686018427387904) (h0 : cchk c = 0) (h2 : snapChk ka ta la A = 0) (h4 : ¬ at0 < ta) (am : Int) (ham : am = max at0 at1) (hd : subF at0 ta ≠ 0) (hf : c.extra < subF at0 ta) :
    Calls Try.prog 4 #[cfgV c, snapV ka ta aa la ca, .agg #[.int .i64 at0, .int .i64 at1]] w fun e w' => e = .returned (.bool true) ∧ Below w.heap.size w w' := by
  have BC0 := ((Blk.new w #[.int .i64 c.ring, .int .i64 c.window, .int .i64 c.base, .int .i64 c.gain, .int .i64 c.least, .int .i64 c.most, .int .i64 c.slack, .int .i64 c.num, .int .i64 c.den, .int .i64 c.extra, .bool c.curved] 23).alloc (.cells #[.int .i64 ka, .int .i64 ta, .slice aa la ca] 26)).alloc (.cells #[.int .i64 at0, .int .i64 at1] 38)
  have BS0 := (Blk.new (w.alloc (.cells #[.int .i64 c.ring, .int .i64 c.window, .int .i64 c.base, .int .i64 c.gain, .int .i64 c.least, .int .i64 c.most, .int .i64 c.slack, .int .i64 c.num, .int .i64 c.den, .int .i64 c.extra, .bool c.curved] 23)) #[.int .i64 ka, .int .i64 ta, .slice aa la ca] 26).alloc (.cells #[.int .i64 at0, .int .i64 at1] 38)
  have BM0 := Blk.new ((w.alloc (.cells #[.int .i64 c.ring, .int .i64 c.window, .int .i64 c.base, .int .i64 c.gain, .int .i64 c.least, .int .i64 c.most, .int .i64 c.slack, .int .i64 c.num, .int .i64 c.den, .int .i64 c.extra, .bool c.curved] 23)).alloc (.cells #[.int .i64 ka, .int .i64 ta, .slice aa la ca] 26)) #[.int .i64 at0, .int .i64 at1] 38
  have hB0 : Below w.heap.size w (((w.alloc (.cells #[.int .i64 c.ring, .int .i64 c.window, .int .i64 c.base, .int .i64 c.gain, .int .i64 c.least, .int .i64 c.most, .int .i64 c.slack, .int .i64 c.num, .int .i64 c.den, .int .i64 c.extra, .bool c.curved] 23)).alloc (.cells #[.int .i64 ka, .int .i64 ta, .slice aa la ca] 26)).alloc (.cells #[.int .i64 at0, .int .i64 at1] 38)) := (((Below.refl _ _).alloc (Nat.le_refl _) _).alloc (by simp) _).alloc (by simp; omega) _
  simp only [World.size_alloc] at BS0 BM0
  have CK := rcheck_f c
  have SK := fun w' hA => rdelchk_f ka ta aa la ca A w' hA hla
  have ham64 : I64 am := by obtain ⟨x1, x2⟩ := hat; obtain ⟨y1, y2⟩ := hat1; unfold I64; omega
  have BT := fun w' hA => pbyd_f c ok ka ta aa la ca A at0 w' hta hat hA hla
  have CT : ∀ (x : Int), x = am → ∀ w', EntsAt w' aa la A → Calls Try.prog 17 #[cfgV c, snapV ka ta aa la ca, .int .i64 x] w' (Rets w' (okN (bydE c ka ta aa la ca A am) la) (bydE c ka ta aa la ca A am) (byF (byM c (subF am ta)) (byD c (subF am ta)) A)) := by
    rintro x rfl w' hA
    exact pbyd_f c ok ka ta aa la ca A x w' hta ham64 hA hla
  obtain ⟨_, hex1, _, _⟩ := chk1_ok (chk1_of (a := aa) (cap := ca) h0 h2)
  have hex := cchk_extra h0
  rw [bydE_eq h0 h2, if_neg h4] at BT
  have ham2 : ¬ am < ta := by omega
  rw [bydE_eq h0 h2, if_neg ham2] at CT
  unfold Rets at BT CT
  rw [show okN 0 la = la from rfl] at BT CT
  have e0 : at0 ≠ ta := by rintro rfl; exact hd (subF_self _)
  have hm : byM c (subF at0 ta) = 4 := by unfold byM; rw [if_neg hd, if_pos hf]
  have hdd : byD c (subF at0 ta) = c.extra := by unfold byD; rw [if_pos hf]
  have hmo : subF at0 ta ≤ subF am ta := subF_mono (by omega)
  have hm2 : byM c (subF am ta) = 4 := by unfold byM; rw [if_neg (by omega), if_pos (by omega)]
  have hdd2 : byD c (subF am ta) = c.extra := by unfold byD; rw [if_pos (by omega)]
  have g1 : (at0 == ta) = false := by simpa using e0
  rw [hm, hdd] at BT
  rw [hm2, hdd2] at CT
  have HDD : Hid (I64 c.extra) := Lib.hid (ok.extra)
  obtain ⟨rp, hrp⟩ : ∃ p, byF 4 c.extra A = p := ⟨_, rfl⟩
  rw [hrp] at BT CT
  have HRP : Hid (∀ k, rp k = byP 4 c.extra (A k)) := Lib.hid (fun k => by rw [← hrp]; rfl)
  have HCT := Lib.hid CT
  have HAM := Lib.hid ham
  have hokA := ha.1
  have HCA : Hid (∀ k, k < la → ∃ b off, aa = some ⟨b, off, none⟩ ∧ b < w.heap.size ∧ EntCells w b (off + k * 9) (A k)) := Lib.hid (fun k hk => by
    rcases ha.2 with h0 | ⟨b, off, e, hb, hc⟩
    · omega
    · exact ⟨b, off, e, hb, hc k hk⟩)
  unfold cfgV at CK
  unfold snapV at SK
  unfold cfgV snapV at BT HCT
  rw [h0] at CK
  rw [h2] at SK
  have h5 : decide (at0 < ta) = false := decide_eq_false h4
  clear h0 h2 hrp CT hm hdd ham hm2 hdd2 hmo hd e0 hex hex1 ham2
  unfold cfgV snapV
  go_enter Try.func4, Try.ntmps4
  go_wp2_with fail
  generalize (((w.alloc (.cells #[.int .i64 c.ring, .int .i64 c.window, .int .i64 c.base, .int .i64 c.gain, .int .i64 c.least, .int .i64 c.most, .int .i64 c.slack, .int .i64 c.num, .int .i64 c.den, .int .i64 c.extra, .bool c.curved] 23)).alloc (.cells #[.int .i64 ka, .int .i64 ta, .slice aa la ca] 26)).alloc (.cells #[.int .i64 at0, .int .i64 at1] 38)) = W at *
  have m0 : W.cell? ⟨w.heap.size + 1 + 1, 0, none⟩ = some (.int .i64 at0) := by simpa using BM0.cell 0
  have m1 : W.cell? ⟨w.heap.size + 1 + 1, 1, none⟩ = some (.int .i64 at1) := by simpa using BM0.cell 1
  refine wp_region_calm 5 (by kernel_rfl) (by kernel_rfl) ?_
  simp only [List.take_succ_cons, List.take_zero, List.drop_succ_cons, List.drop_zero]
  repeat (apply wpCalm_step; (next => (intro W hW K hK; have y0 := hW.cell m0; have y1 := hW.cell m1; go_simp; first | exact ⟨hW, hK⟩ | exact hK)); (next => exact CalmI.self _); (try go_simp))
  refine wpCalm_nil ?_
  intro WC hWC
  generalize WC = w1 at *
  have hW1 : Below W.heap.size W w1 := hWC
  have SC := Lib.hid (BC0.below hW1 BC0.lt)
  have SS := Lib.hid (BS0.below hW1 BS0.lt)
  have HB1 : Hid (Below w.heap.size w w1) := Lib.hid (hB0.trans (hW1.mono hB0.size))
  clear hWC hW1 m0 m1 BC0 BS0 BM0 hB0
  obtain ⟨a0, a1, a2⟩ := sn_cells SS.out
  have GR := great_f (some ⟨w1.heap.size, 0, none⟩) 1 1 _ _ _ _ (snaps1 w1 ka ta aa la ca) (by decide)
  rw [hg] at GR
  go_wp2_with fail
  refine GR.mono ?_; rintro e w2 ⟨rfl, hb2⟩
  have hW2 : Below w1.heap.size w1 w2 := ((Below.refl _ _).alloc (Nat.le_refl _) _).trans (hb2.mono (by simp))
  have HB2 : Hid (Below w.heap.size w w2) := Lib.hid (HB1.out.trans (hW2.mono HB1.out.size))
  have SCn := Lib.hid (SC.out.below hW2 SC.out.lt)
  clear SC
  have SC := SCn
  clear SCn
  have SSn := Lib.hid (SS.out.below hW2 SS.out.lt)
  clear SS
  have SS := SSn
  clear SSn
  clear hb2 hW2 GR a0 a1 a2 HB1
  obtain ⟨q0, q1, q2, q3, q4, q5, q6, q7, q8, q9, q10⟩ := cfg_cells SC.out
  go_wp2_with fail
  refine (CK _).mono ?_; rintro e w3 ⟨rfl, hb3⟩
  have HB3 : Hid (Below w.heap.size w w3) := Lib.hid (HB2.out.trans (hb3.mono HB2.out.size))
  have SCn := Lib.hid (SC.out.below hb3 SC.out.lt)
  clear SC
  have SC := SCn
  clear SCn
  have SSn := Lib.hid (SS.out.below hb3 SS.out.lt)
  clear SS
  have SS := SSn
  clear SSn
  clear hb3 CK HB2 q0 q1 q2 q3 q4 q5 q6 q7 q8 q9 q10
  obtain ⟨a0, a1, a2⟩ := sn_cells SS.out
  go_wp2_with fail
  refine (SK w3 (ha.below HB3.out)).mono ?_; rintro e w4 ⟨rfl, hb4⟩
  have HB4 : Hid (Below w.heap.size w w4) := Lib.hid (HB3.out.trans (hb4.mono HB3.out.size))
  have SCn := Lib.hid (SC.out.below hb4 SC.out.lt)
  clear SC
  have SC := SCn
  clear SCn
  have SSn := Lib.hid (SS.out.below hb4 SS.out.lt)
  clear SS
  have SS := SSn
  clear SSn
  clear hb4 SK HB3 a0 a1 a2
  obtain ⟨q0, q1, q2, q3, q4, q5, q6, q7, q8, q9, q10⟩ := cfg_cells SC.out
  obtain ⟨a0, a1, a2⟩ := sn_cells SS.out
  have bt := BT w4 (ha.below HB4.out)
  go_wp2_with fail
  refine bt.mono ?_; rintro e w5 ⟨s5, c5, rfl, hp5, hb5⟩
  have HP5 := Lib.hid hp5
  have HB5 : Hid (Below w.heap.size w w5) := Lib.hid (HB4.out.trans (hb5.mono HB4.out.size))
  have SCn := Lib.hid (SC.out.below hb5 SC.out.lt)
  clear SC
  have SC := SCn
  clear SCn
  have SSn := Lib.hid (SS.out.below hb5 SS.out.lt)
  clear SS
  have SS := SSn
  clear SSn
  clear hb5 hp5 bt BT HB4 q0 q1 q2 q3 q4 q5 q6 q7 q8 q9 q10 a0 a1 a2
  obtain ⟨a0, a1, a2⟩ := sn_cells SS.out
  obtain ⟨q0, q1, q2, q3, q4, q5, q6, q7, q8, q9, q10⟩ := cfg_cells SC.out
  go_wp2_with fail
  have ct := HCT.out _ (by rw [HAM.out]) w5 (ha.below HB5.out)
  refine ct.mono ?_; rintro e W0 ⟨s6, c6, rfl, hp6, hb6⟩
  have HP6 := Lib.hid hp6
  have HQ6 := Lib.hid (HP5.out.below hb6)
  have HW0 : Hid (Below w.heap.size w W0) := Lib.hid (HB5.out.trans (hb6.mono HB5.out.size))
  have SCn := Lib.hid (SC.out.below hb6 SC.out.lt)
  clear SC
  have SC := SCn
  clear SCn
  have SSn := Lib.hid (SS.out.below hb6 SS.out.lt)
  clear SS
  have SS := SSn
  clear SSn
  clear hb6 hp6 ct HB5 HP5 q0 q1 q2 q3 q4 q5 q6 q7 q8 q9 q10 a0 a1 a2
  have lss := SS.out.lt
  have lsc := SC.out.lt
  go_wp2_with fail
  go_loopw [85] (fun i wr => ∃ k : Nat, k ≤ la ∧ i = .int .i64 k ∧ Below W0.heap.size W0 wr) (fun i _ => la - (intOf i).toNat)
  case atStart => exact ⟨0, Nat.zero_le _, rfl, Below.refl _ _⟩
  case round =>
    rename_i wr
    obtain ⟨k, hk, rfl, hB⟩ := hrel
    have hsz := hB.size
    by_cases hlt : k < la
    · obtain ⟨b, off, hea, hbw, hc⟩ := HCA.out k hlt
      subst hea
      have hcw := hc.below (HW0.out.trans (hB.mono HW0.out.size)) hbw
      have hx := hokA k hlt
      have hkl : (k : Int) < la := by omega
      obtain ⟨b3, o3, hs3, hl3, hq3⟩ := poses_at HQ6.out hlt
      obtain ⟨b4, o4, hs4, hl4, hq4⟩ := poses_at HP6.out hlt
      subst hs3
      subst hs4
      have hpk := HRP.out k
      rw [hpk] at hq3 hq4
      have HB := Lib.hid hB
      clear hc hB hpk
      unfold byP at hq3 hq4
      have VG := Lib.hid (vgo_f (A k).px (A k).py (A k).pz (A k).vx (A k).vy (A k).vz c.extra hx.px hx.py hx.pz hx.vx hx.vy hx.vz HDD.out)
      generalize A k = x at *
      obtain ⟨xid, px, py, pz, vx, vy, vz, ang, gen⟩ := x
      dsimp only at hq3 hq4 VG
      generalize addF px (mulF vx c.extra) = z1 at *
      generalize addF py (mulF vy c.extra) = z2 at *
      generalize addF pz (mulF vz c.extra) = z3 at *
      obtain ⟨r0, r1, r2, r3, r4, r5⟩ := PoCells.below hq3 HB.out hl3
      obtain ⟨c0, c1, c2, c3, c4, c5, c6', c7, c8⟩ := hcw
      dsimp only at r0 r1 r2 r3 r4 r5 c0 c1 c2 c3 c4 c5 c6' c7 c8
      have SSr := Lib.hid (SS.out.below HB.out SS.out.lt)
      have SCr := Lib.hid (SC.out.below HB.out SC.out.lt)
      obtain ⟨a0, a1, a2⟩ := sn_cells SSr.out
      have q9 := (cfg_cells SCr.out).2.2.2.2.2.2.2.2.2.1
      have l1 := SSr.out.lt
      have l2 := SCr.out.lt
      have l3 : b3 < wr.heap.size := Nat.lt_of_lt_of_le hl3 hsz
      have lb0 : b < wr.heap.size := Nat.lt_of_lt_of_le (Nat.lt_of_lt_of_le hbw HW0.out.size) hsz
      have HQ4 := Lib.hid hq4
      clear hq3 hq4
      go_wp2_with fail
      have hX := Blk.new (wr.alloc (.cells #[.int .i64 xid, .int .i64 z1, .int .i64 z2, .int .i64 z3, .int .u16 ang, .int .i64 4] 45)) #[.int .i64 xid, .int .i64 px, .int .i64 py, .int .i64 pz, .int .i64 vx, .int .i64 vy, .int .i64 vz, .int .u16 ang, .int .u8 gen] 47
      simp only [World.size_alloc] at hX
      have X6 := Lib.hid hX
      have P6 := Lib.hid ((Blk.new wr #[.int .i64 xid, .int .i64 z1, .int .i64 z2, .int .i64 z3, .int .u16 ang, .int .i64 4] 45).alloc (.cells #[.int .i64 xid, .int .i64 px, .int .i64 py, .int .i64 pz, .int .i64 vx, .int .i64 vy, .int .i64 vz, .int .u16 ang, .int .u8 gen] 47))
      have SS6 := Lib.hid ((SSr.out.alloc (.cells #[.int .i64 xid, .int .i64 z1, .int .i64 z2, .int .i64 z3, .int .u16 ang, .int .i64 4] 45)).alloc (.cells #[.int .i64 xid, .int .i64 px, .int .i64 py, .int .i64 pz, .int .i64 vx, .int .i64 vy, .int .i64 vz, .int .u16 ang, .int .u8 gen] 47))
      have SC6 := Lib.hid ((SCr.out.alloc (.cells #[.int .i64 xid, .int .i64 z1, .int .i64 z2, .int .i64 z3, .int .u16 ang, .int .i64 4] 45)).alloc (.cells #[.int .i64 xid, .int .i64 px, .int .i64 py, .int .i64 pz, .int .i64 vx, .int .i64 vy, .int .i64 vz, .int .u16 ang, .int .u8 gen] 47))
      have HB6 : Hid (Below W0.heap.size W0 ((wr.alloc (.cells #[.int .i64 xid, .int .i64 z1, .int .i64 z2, .int .i64 z3, .int .u16 ang, .int .i64 4] 45)).alloc (.cells #[.int .i64 xid, .int .i64 px, .int .i64 py, .int .i64 pz, .int .i64 vx, .int .i64 vy, .int .i64 vz, .int .u16 ang, .int .u8 gen] 47))) := Lib.hid ((HB.out.alloc hsz _).alloc (by simp; omega) _)
      clear hX r0 r1 r2 r3 r4 r5 c0 c1 c2 c3 c4 c5 c6' c7 c8 a0 a1 a2 q9 SSr SCr HB
      generalize ((wr.alloc (.cells #[.int .i64 xid, .int .i64 z1, .int .i64 z2, .int .i64 z3, .int .u16 ang, .int .i64 4] 45)).alloc (.cells #[.int .i64 xid, .int .i64 px, .int .i64 py, .int .i64 pz, .int .i64 vx, .int .i64 vy, .int .i64 vz, .int .u16 ang, .int .u8 gen] 47)) = w6 at *
      obtain ⟨r0, r1, r2, r3, r4, r5⟩ := po_cells P6.out
      obtain ⟨c0, c1, c2, c3, c4, c5, c6', c7, c8⟩ := ent_cells X6.out
      obtain ⟨a0, a1, a2⟩ := sn_cells SS6.out
      have q9 := (cfg_cells SC6.out).2.2.2.2.2.2.2.2.2.1
      obtain ⟨u0, u1, u2, u3, u4, u5⟩ := PoCells.below HQ4.out HB6.out hl4
      dsimp only at u0 u1 u2 u3 u4 u5
      refine wp_region_calm 27 (by kernel_rfl) (by kernel_rfl) ?_
      simp only [List.take_succ_cons, List.take_zero, List.drop_succ_cons, List.drop_zero]
      repeat (apply wpCalm_step; (next => (intro W hW K hK; have y0 := hW.cell r0; have y1 := hW.cell r1; have y2 := hW.cell r2; have y3 := hW.cell r3; have y4 := hW.cell r4; have y5 := hW.cell r5; have y6 := hW.cell c0; have y7 := hW.cell c1; have y8 := hW.cell c2; have y9 := hW.cell c3; have y10 := hW.cell c4; have y11 := hW.cell c5; have y12 := hW.cell c6'; have y13 := hW.cell c7; have y14 := hW.cell c8; have y15 := hW.cell q9; have y16 := hW.cell a1; have y17 := hW.cell a2; have y18 := hW.cell u0; have y19 := hW.cell u1; have y20 := hW.cell u2; have y21 := hW.cell u3; have y22 := hW.cell u4; have y23 := hW.cell u5; go_simp; first | exact ⟨hW, hK⟩ | exact hK)); (next => exact CalmI.self _); (try go_simp))
      (apply wpCalm_step; (next => (intro W hW K hK; go_simp; first | exact ⟨_, hW.call (VG.out W), hK⟩ | exact ⟨hW, _, hW.call (VG.out W), hK⟩)); (next => exact CalmI.self _); (try go_simp))
      repeat (apply wpCalm_step; (next => (intro W hW K hK; have y0 := hW.cell r0; have y1 := hW.cell r1; have y2 := hW.cell r2; have y3 := hW.cell r3; have y4 := hW.cell r4; have y5 := hW.cell r5; have y6 := hW.cell c0; have y7 := hW.cell c1; have y8 := hW.cell c2; have y9 := hW.cell c3; have y10 := hW.cell c4; have y11 := hW.cell c5; have y12 := hW.cell c6'; have y13 := hW.cell c7; have y14 := hW.cell c8; have y15 := hW.cell q9; have y16 := hW.cell a1; have y17 := hW.cell a2; have y18 := hW.cell u0; have y19 := hW.cell u1; have y20 := hW.cell u2; have y21 := hW.cell u3; have y22 := hW.cell u4; have y23 := hW.cell u5; go_simp; first | exact ⟨hW, hK⟩ | exact hK)); (next => exact CalmI.self _); (try go_simp))
      refine wpCalm_nil ?_
      intro WC hWC
      have hWC' : Below w6.heap.size w6 WC := hWC
      have P7 := Lib.hid (P6.out.below hWC' P6.out.lt)
      have X7 := Lib.hid (X6.out.below hWC' X6.out.lt)
      have SS7 := Lib.hid (SS6.out.below hWC' SS6.out.lt)
      have SC7 := Lib.hid (SC6.out.below hWC' SC6.out.lt)
      have HB7 : Hid (Below W0.heap.size W0 WC) := Lib.hid (HB6.out.trans (hWC'.mono HB6.out.size))
      clear hWC hWC' r0 r1 r2 r3 r4 r5 c0 c1 c2 c3 c4 c5 c6' c7 c8 a0 a1 a2 q9 u0 u1 u2 u3 u4 u5 P6 X6 SS6 SC6 HB6
      generalize WC = w7 at *
      obtain ⟨r0, r1, r2, r3, r4, r5⟩ := po_cells P7.out
      obtain ⟨c0, c1, c2, c3, c4, c5, c6', c7, c8⟩ := ent_cells X7.out
      obtain ⟨a0, a1, a2⟩ := sn_cells SS7.out
      have q9 := (cfg_cells SC7.out).2.2.2.2.2.2.2.2.2.1
      go_wp2_with fail
      refine wp_region_calm 25 (by kernel_rfl) (by kernel_rfl) ?_
      simp only [List.take_succ_cons, List.take_zero, List.drop_succ_cons, List.drop_zero]
      repeat (apply wpCalm_step; (next => (intro W hW K hK; have y0 := hW.cell r0; have y1 := hW.cell r1; have y2 := hW.cell r2; have y3 := hW.cell r3; have y4 := hW.cell r4; have y5 := hW.cell r5; have y6 := hW.cell c0; have y7 := hW.cell c1; have y8 := hW.cell c2; have y9 := hW.cell c3; have y10 := hW.cell c4; have y11 := hW.cell c5; have y12 := hW.cell c6'; have y13 := hW.cell c7; have y14 := hW.cell c8; have y15 := hW.cell q9; have y16 := hW.cell a1; have y17 := hW.cell a2; go_simp; first | exact ⟨hW, hK⟩ | exact hK)); (next => exact CalmI.self _); (try go_simp))
      refine wpCalm_nil ?_
      intro WC hWC
      have HB8 : Hid (Below W0.heap.size W0 WC) := Lib.hid (HB7.out.trans (Below.mono hWC HB7.out.size))
      clear hWC r0 r1 r2 r3 r4 r5 c0 c1 c2 c3 c4 c5 c6' c7 c8 a0 a1 a2 q9
      go_wp2
      go_roundw
      case rel => exact ⟨k + 1, by omega, by go_num, HB8.out⟩
      case measure => simp [intOf]; omega
    · obtain rfl : k = la := by omega
      have HBE : Hid (Below w.heap.size w wr) := Lib.hid (HW0.out.trans (hB.mono HW0.out.size))
      clear hB
      go_wp2_with fail
      refine (alive19_f _).mono ?_; rintro e w9 ⟨rfl, hb9⟩
      have HB9 : Hid (Below w.heap.size w w9) := Lib.hid (HBE.out.trans (hb9.mono HBE.out.size))
      clear hb9
      go_wp2
      go_ret
      exact ⟨rfl, HB9.out⟩

set_option maxHeartbeats 4000000 in
theorem poseHolds_lN (c : Cfg) (ok : c.Ok) (ka ta : Int) (aa : Option Addr) (la ca : Nat) (A : Nat → Ent) (at0 at1 : Int) (w : World) (hka : I64 ka) (hta : I64 ta) (hat : I64 at0) (hat1 : I64 at1) (ha : EntsAt w aa la A) (hg : greatB (fun _ => (aa, la, ca)) 1 = false) (hla : (la : Int) ≤ 4611686018427387904) (h0 : cchk c = 0) (h2 : snapChk ka ta la A = 0) (h4 : ¬ at0 < ta) (am : Int) (ham : am = max at0 at1) (hd : subF at0 ta ≠ 0) (hf : ¬ c.extra < subF at0 ta) :
    Calls Try.prog 4 #[cfgV c, snapV ka ta aa la ca, .agg #[.int .i64 at0, .int .i64 at1]] w fun e w' => e = .returned (.bool true) ∧ Below w.heap.size w w' := by
  have BC0 := ((Blk.new w #[.int .i64 c.ring, .int .i64 c.window, .int .i64 c.base, .int .i64 c.gain, .int .i64 c.least, .int .i64 c.most, .int .i64 c.slack, .int .i64 c.num, .int .i64 c.den, .int .i64 c.extra, .bool c.curved] 23).alloc (.cells #[.int .i64 ka, .int .i64 ta, .slice aa la ca] 26)).alloc (.cells #[.int .i64 at0, .int .i64 at1] 38)
  have BS0 := (Blk.new (w.alloc (.cells #[.int .i64 c.ring, .int .i64 c.window, .int .i64 c.base, .int .i64 c.gain, .int .i64 c.least, .int .i64 c.most, .int .i64 c.slack, .int .i64 c.num, .int .i64 c.den, .int .i64 c.extra, .bool c.curved] 23)) #[.int .i64 ka, .int .i64 ta, .slice aa la ca] 26).alloc (.cells #[.int .i64 at0, .int .i64 at1] 38)
  have BM0 := Blk.new ((w.alloc (.cells #[.int .i64 c.ring, .int .i64 c.window, .int .i64 c.base, .int .i64 c.gain, .int .i64 c.least, .int .i64 c.most, .int .i64 c.slack, .int .i64 c.num, .int .i64 c.den, .int .i64 c.extra, .bool c.curved] 23)).alloc (.cells #[.int .i64 ka, .int .i64 ta, .slice aa la ca] 26)) #[.int .i64 at0, .int .i64 at1] 38
  have hB0 : Below w.heap.size w (((w.alloc (.cells #[.int .i64 c.ring, .int .i64 c.window, .int .i64 c.base, .int .i64 c.gain, .int .i64 c.least, .int .i64 c.most, .int .i64 c.slack, .int .i64 c.num, .int .i64 c.den, .int .i64 c.extra, .bool c.curved] 23)).alloc (.cells #[.int .i64 ka, .int .i64 ta, .slice aa la ca] 26)).alloc (.cells #[.int .i64 at0, .int .i64 at1] 38)) := (((Below.refl _ _).alloc (Nat.le_refl _) _).alloc (by simp) _).alloc (by simp; omega) _
  simp only [World.size_alloc] at BS0 BM0
  have CK := rcheck_f c
  have SK := fun w' hA => rdelchk_f ka ta aa la ca A w' hA hla
  have ham64 : I64 am := by obtain ⟨x1, x2⟩ := hat; obtain ⟨y1, y2⟩ := hat1; unfold I64; omega
  have BT := fun w' hA => pbyd_f c ok ka ta aa la ca A at0 w' hta hat hA hla
  have CT : ∀ (x : Int), x = am → ∀ w', EntsAt w' aa la A → Calls Try.prog 17 #[cfgV c, snapV ka ta aa la ca, .int .i64 x] w' (Rets w' (okN (bydE c ka ta aa la ca A am) la) (bydE c ka ta aa la ca A am) (byF (byM c (subF am ta)) (byD c (subF am ta)) A)) := by
    rintro x rfl w' hA
    exact pbyd_f c ok ka ta aa la ca A x w' hta ham64 hA hla
  obtain ⟨_, hex1, _, _⟩ := chk1_ok (chk1_of (a := aa) (cap := ca) h0 h2)
  have hex := cchk_extra h0
  rw [bydE_eq h0 h2, if_neg h4] at BT
  have ham2 : ¬ am < ta := by omega
  rw [bydE_eq h0 h2, if_neg ham2] at CT
  unfold Rets at BT CT
  rw [show okN 0 la = la from rfl] at BT CT
  have e0 : at0 ≠ ta := by rintro rfl; exact hd (subF_self _)
  obtain ⟨ex1, ex2⟩ := hex
  have hds : subF at0 ta = at0 - ta := by
    obtain ⟨x1, x2⟩ := hat; obtain ⟨y1, y2⟩ := hta
    unfold subF sat at *; omega
  have hm : byM c (subF at0 ta) = 3 := by unfold byM; rw [if_neg hd, if_neg hf]
  have hdd : byD c (subF at0 ta) = at0 - ta := by unfold byD; rw [if_neg hf]; exact hds
  have g1 : (at0 == ta) = false := by simpa using e0
  rw [hds] at hf
  have g2 : decide (c.extra < at0 - ta) = false := decide_eq_false hf
  have hi64 : I64 (at0 - ta) := by rw [← hds]; exact subF_i64 _ _
  have g3 : IntKind.i64.wrap (at0 - ta) = at0 - ta := by
    obtain ⟨x1, x2⟩ := hi64
    rw [IntKind.wrap_i64]; omega
  have g4 : wrap64 (at0 - ta) = at0 - ta := by
    obtain ⟨x1, x2⟩ := hi64
    unfold wrap64; omega
  clear hds
  rw [hm, hdd] at BT
  generalize (byF (byM c (subF am ta)) (byD c (subF am ta)) A) = rq at *
  have HDD : Hid (I64 (at0 - ta)) := Lib.hid (hi64)
  obtain ⟨rp, hrp⟩ : ∃ p, byF 3 (at0 - ta) A = p := ⟨_, rfl⟩
  rw [hrp] at BT
  have HRP : Hid (∀ k, rp k = byP 3 (at0 - ta) (A k)) := Lib.hid (fun k => by rw [← hrp]; rfl)
  have HCT := Lib.hid CT
  have HAM := Lib.hid ham
  have hokA := ha.1
  have HCA : Hid (∀ k, k < la → ∃ b off, aa = some ⟨b, off, none⟩ ∧ b < w.heap.size ∧ EntCells w b (off + k * 9) (A k)) := Lib.hid (fun k hk => by
    rcases ha.2 with h0 | ⟨b, off, e, hb, hc⟩
    · omega
    · exact ⟨b, off, e, hb, hc k hk⟩)
  unfold cfgV at CK
  unfold snapV at SK
  unfold cfgV snapV at BT HCT
  rw [h0] at CK
  rw [h2] at SK
  have h5 : decide (at0 < ta) = false := decide_eq_false h4
  clear h0 h2 hrp CT hm hdd ham  hd e0  hex1 ham2
  unfold cfgV snapV
  go_enter Try.func4, Try.ntmps4
  go_wp2_with fail
  generalize (((w.alloc (.cells #[.int .i64 c.ring, .int .i64 c.window, .int .i64 c.base, .int .i64 c.gain, .int .i64 c.least, .int .i64 c.most, .int .i64 c.slack, .int .i64 c.num, .int .i64 c.den, .int .i64 c.extra, .bool c.curved] 23)).alloc (.cells #[.int .i64 ka, .int .i64 ta, .slice aa la ca] 26)).alloc (.cells #[.int .i64 at0, .int .i64 at1] 38)) = W at *
  have m0 : W.cell? ⟨w.heap.size + 1 + 1, 0, none⟩ = some (.int .i64 at0) := by simpa using BM0.cell 0
  have m1 : W.cell? ⟨w.heap.size + 1 + 1, 1, none⟩ = some (.int .i64 at1) := by simpa using BM0.cell 1
  refine wp_region_calm 5 (by kernel_rfl) (by kernel_rfl) ?_
  simp only [List.take_succ_cons, List.take_zero, List.drop_succ_cons, List.drop_zero]
  repeat (apply wpCalm_step; (next => (intro W hW K hK; have y0 := hW.cell m0; have y1 := hW.cell m1; go_simp; first | exact ⟨hW, hK⟩ | exact hK)); (next => exact CalmI.self _); (try go_simp))
  refine wpCalm_nil ?_
  intro WC hWC
  generalize WC = w1 at *
  have hW1 : Below W.heap.size W w1 := hWC
  have SC := Lib.hid (BC0.below hW1 BC0.lt)
  have SS := Lib.hid (BS0.below hW1 BS0.lt)
  have HB1 : Hid (Below w.heap.size w w1) := Lib.hid (hB0.trans (hW1.mono hB0.size))
  clear hWC hW1 m0 m1 BC0 BS0 BM0 hB0
  obtain ⟨a0, a1, a2⟩ := sn_cells SS.out
  have GR := great_f (some ⟨w1.heap.size, 0, none⟩) 1 1 _ _ _ _ (snaps1 w1 ka ta aa la ca) (by decide)
  rw [hg] at GR
  go_wp2_with fail
  refine GR.mono ?_; rintro e w2 ⟨rfl, hb2⟩
  have hW2 : Below w1.heap.size w1 w2 := ((Below.refl _ _).alloc (Nat.le_refl _) _).trans (hb2.mono (by simp))
  have HB2 : Hid (Below w.heap.size w w2) := Lib.hid (HB1.out.trans (hW2.mono HB1.out.size))
  have SCn := Lib.hid (SC.out.below hW2 SC.out.lt)
  clear SC
  have SC := SCn
  clear SCn
  have SSn := Lib.hid (SS.out.below hW2 SS.out.lt)
  clear SS
  have SS := SSn
  clear SSn
  clear hb2 hW2 GR a0 a1 a2 HB1
  obtain ⟨q0, q1, q2, q3, q4, q5, q6, q7, q8, q9, q10⟩ := cfg_cells SC.out
  go_wp2_with fail
  refine (CK _).mono ?_; rintro e w3 ⟨rfl, hb3⟩
  have HB3 : Hid (Below w.heap.size w w3) := Lib.hid (HB2.out.trans (hb3.mono HB2.out.size))
  have SCn := Lib.hid (SC.out.below hb3 SC.out.lt)
  clear SC
  have SC := SCn
  clear SCn
  have SSn := Lib.hid (SS.out.below hb3 SS.out.lt)
  clear SS
  have SS := SSn
  clear SSn
  clear hb3 CK HB2 q0 q1 q2 q3 q4 q5 q6 q7 q8 q9 q10
  obtain ⟨a0, a1, a2⟩ := sn_cells SS.out
  go_wp2_with fail
  refine (SK w3 (ha.below HB3.out)).mono ?_; rintro e w4 ⟨rfl, hb4⟩
  have HB4 : Hid (Below w.heap.size w w4) := Lib.hid (HB3.out.trans (hb4.mono HB3.out.size))
  have SCn := Lib.hid (SC.out.below hb4 SC.out.lt)
  clear SC
  have SC := SCn
  clear SCn
  have SSn := Lib.hid (SS.out.below hb4 SS.out.lt)
  clear SS
  have SS := SSn
  clear SSn
  clear hb4 SK HB3 a0 a1 a2
  obtain ⟨q0, q1, q2, q3, q4, q5, q6, q7, q8, q9, q10⟩ := cfg_cells SC.out
  obtain ⟨a0, a1, a2⟩ := sn_cells SS.out
  have bt := BT w4 (ha.below HB4.out)
  go_wp2_with fail
  refine bt.mono ?_; rintro e w5 ⟨s5, c5, rfl, hp5, hb5⟩
  have HP5 := Lib.hid hp5
  have HB5 : Hid (Below w.heap.size w w5) := Lib.hid (HB4.out.trans (hb5.mono HB4.out.size))
  have SCn := Lib.hid (SC.out.below hb5 SC.out.lt)
  clear SC
  have SC := SCn
  clear SCn
  have SSn := Lib.hid (SS.out.below hb5 SS.out.lt)
  clear SS
  have SS := SSn
  clear SSn
  clear hb5 hp5 bt BT HB4 q0 q1 q2 q3 q4 q5 q6 q7 q8 q9 q10 a0 a1 a2
  obtain ⟨a0, a1, a2⟩ := sn_cells SS.out
  obtain ⟨q0, q1, q2, q3, q4, q5, q6, q7, q8, q9, q10⟩ := cfg_cells SC.out
  go_wp2_with fail
  have ct := HCT.out _ (by rw [HAM.out]) w5 (ha.below HB5.out)
  refine ct.mono ?_; rintro e W0 ⟨s6, c6, rfl, hp6, hb6⟩
  have HP6 := Lib.hid hp6
  have HQ6 := Lib.hid (HP5.out.below hb6)
  have HW0 : Hid (Below w.heap.size w W0) := Lib.hid (HB5.out.trans (hb6.mono HB5.out.size))
  have SCn := Lib.hid (SC.out.below hb6 SC.out.lt)
  clear SC
  have SC := SCn
  clear SCn
  have SSn := Lib.hid (SS.out.below hb6 SS.out.lt)
  clear SS
  have SS := SSn
  clear SSn
  clear hb6 hp6 ct HB5 HP5 q0 q1 q2 q3 q4 q5 q6 q7 q8 q9 q10 a0 a1 a2
  have lss := SS.out.lt
  have lsc := SC.out.lt
  go_wp2_with fail
  go_loopw [85] (fun i wr => ∃ k : Nat, k ≤ la ∧ i = .int .i64 k ∧ Below W0.heap.size W0 wr) (fun i _ => la - (intOf i).toNat)
  case atStart => exact ⟨0, Nat.zero_le _, rfl, Below.refl _ _⟩
  case round =>
    rename_i wr
    obtain ⟨k, hk, rfl, hB⟩ := hrel
    have hsz := hB.size
    by_cases hlt : k < la
    · obtain ⟨b, off, hea, hbw, hc⟩ := HCA.out k hlt
      subst hea
      have hcw := hc.below (HW0.out.trans (hB.mono HW0.out.size)) hbw
      have hx := hokA k hlt
      have hkl : (k : Int) < la := by omega
      obtain ⟨b3, o3, hs3, hl3, hq3⟩ := poses_at HQ6.out hlt
      obtain ⟨b4, o4, hs4, hl4, hq4⟩ := poses_at HP6.out hlt
      subst hs3
      subst hs4
      have hpk := HRP.out k
      rw [hpk] at hq3
      have HB := Lib.hid hB
      clear hc hB hpk
      unfold byP at hq3
      have VG := Lib.hid (vgo_f (A k).px (A k).py (A k).pz (A k).vx (A k).vy (A k).vz (at0 - ta) hx.px hx.py hx.pz hx.vx hx.vy hx.vz HDD.out)
      generalize A k = x at *
      obtain ⟨xid, px, py, pz, vx, vy, vz, ang, gen⟩ := x
      dsimp only at hq3 VG
      generalize addF px (mulF vx (at0 - ta)) = z1 at *
      generalize addF py (mulF vy (at0 - ta)) = z2 at *
      generalize addF pz (mulF vz (at0 - ta)) = z3 at *
      obtain ⟨r0, r1, r2, r3, r4, r5⟩ := PoCells.below hq3 HB.out hl3
      obtain ⟨c0, c1, c2, c3, c4, c5, c6', c7, c8⟩ := hcw
      dsimp only at r0 r1 r2 r3 r4 r5 c0 c1 c2 c3 c4 c5 c6' c7 c8
      have SSr := Lib.hid (SS.out.below HB.out SS.out.lt)
      have SCr := Lib.hid (SC.out.below HB.out SC.out.lt)
      obtain ⟨a0, a1, a2⟩ := sn_cells SSr.out
      have q9 := (cfg_cells SCr.out).2.2.2.2.2.2.2.2.2.1
      have l1 := SSr.out.lt
      have l2 := SCr.out.lt
      have l3 : b3 < wr.heap.size := Nat.lt_of_lt_of_le hl3 hsz
      have lb0 : b < wr.heap.size := Nat.lt_of_lt_of_le (Nat.lt_of_lt_of_le hbw HW0.out.size) hsz
      have HQ4 := Lib.hid hq4
      clear hq3 hq4
      go_wp2_with fail
      have hX := Blk.new (wr.alloc (.cells #[.int .i64 xid, .int .i64 z1, .int .i64 z2, .int .i64 z3, .int .u16 ang, .int .i64 3] 45)) #[.int .i64 xid, .int .i64 px, .int .i64 py, .int .i64 pz, .int .i64 vx, .int .i64 vy, .int .i64 vz, .int .u16 ang, .int .u8 gen] 47
      simp only [World.size_alloc] at hX
      have X6 := Lib.hid hX
      have P6 := Lib.hid ((Blk.new wr #[.int .i64 xid, .int .i64 z1, .int .i64 z2, .int .i64 z3, .int .u16 ang, .int .i64 3] 45).alloc (.cells #[.int .i64 xid, .int .i64 px, .int .i64 py, .int .i64 pz, .int .i64 vx, .int .i64 vy, .int .i64 vz, .int .u16 ang, .int .u8 gen] 47))
      have SS6 := Lib.hid ((SSr.out.alloc (.cells #[.int .i64 xid, .int .i64 z1, .int .i64 z2, .int .i64 z3, .int .u16 ang, .int .i64 3] 45)).alloc (.cells #[.int .i64 xid, .int .i64 px, .int .i64 py, .int .i64 pz, .int .i64 vx, .int .i64 vy, .int .i64 vz, .int .u16 ang, .int .u8 gen] 47))
      have SC6 := Lib.hid ((SCr.out.alloc (.cells #[.int .i64 xid, .int .i64 z1, .int .i64 z2, .int .i64 z3, .int .u16 ang, .int .i64 3] 45)).alloc (.cells #[.int .i64 xid, .int .i64 px, .int .i64 py, .int .i64 pz, .int .i64 vx, .int .i64 vy, .int .i64 vz, .int .u16 ang, .int .u8 gen] 47))
      have HB6 : Hid (Below W0.heap.size W0 ((wr.alloc (.cells #[.int .i64 xid, .int .i64 z1, .int .i64 z2, .int .i64 z3, .int .u16 ang, .int .i64 3] 45)).alloc (.cells #[.int .i64 xid, .int .i64 px, .int .i64 py, .int .i64 pz, .int .i64 vx, .int .i64 vy, .int .i64 vz, .int .u16 ang, .int .u8 gen] 47))) := Lib.hid ((HB.out.alloc hsz _).alloc (by simp; omega) _)
      clear hX r0 r1 r2 r3 r4 r5 c0 c1 c2 c3 c4 c5 c6' c7 c8 a0 a1 a2 q9 SSr SCr HB
      generalize ((wr.alloc (.cells #[.int .i64 xid, .int .i64 z1, .int .i64 z2, .int .i64 z3, .int .u16 ang, .int .i64 3] 45)).alloc (.cells #[.int .i64 xid, .int .i64 px, .int .i64 py, .int .i64 pz, .int .i64 vx, .int .i64 vy, .int .i64 vz, .int .u16 ang, .int .u8 gen] 47)) = w6 at *
      obtain ⟨r0, r1, r2, r3, r4, r5⟩ := po_cells P6.out
      obtain ⟨c0, c1, c2, c3, c4, c5, c6', c7, c8⟩ := ent_cells X6.out
      obtain ⟨a0, a1, a2⟩ := sn_cells SS6.out
      have q9 := (cfg_cells SC6.out).2.2.2.2.2.2.2.2.2.1
      refine wp_region_calm 27 (by kernel_rfl) (by kernel_rfl) ?_
      simp only [List.take_succ_cons, List.take_zero, List.drop_succ_cons, List.drop_zero]
      repeat (apply wpCalm_step; (next => (intro W hW K hK; have y0 := hW.cell r0; have y1 := hW.cell r1; have y2 := hW.cell r2; have y3 := hW.cell r3; have y4 := hW.cell r4; have y5 := hW.cell r5; have y6 := hW.cell c0; have y7 := hW.cell c1; have y8 := hW.cell c2; have y9 := hW.cell c3; have y10 := hW.cell c4; have y11 := hW.cell c5; have y12 := hW.cell c6'; have y13 := hW.cell c7; have y14 := hW.cell c8; have y15 := hW.cell q9; have y16 := hW.cell a1; have y17 := hW.cell a2; go_simp; first | exact ⟨hW, hK⟩ | exact hK)); (next => exact CalmI.self _); (try go_simp))
      refine wpCalm_nil ?_
      intro WC hWC
      have hWC' : Below w6.heap.size w6 WC := hWC
      have P7 := Lib.hid (P6.out.below hWC' P6.out.lt)
      have X7 := Lib.hid (X6.out.below hWC' X6.out.lt)
      have SS7 := Lib.hid (SS6.out.below hWC' SS6.out.lt)
      have SC7 := Lib.hid (SC6.out.below hWC' SC6.out.lt)
      have HB7 : Hid (Below W0.heap.size W0 WC) := Lib.hid (HB6.out.trans (hWC'.mono HB6.out.size))
      clear hWC hWC' r0 r1 r2 r3 r4 r5 c0 c1 c2 c3 c4 c5 c6' c7 c8 a0 a1 a2 q9  P6 X6 SS6 SC6 HB6
      generalize WC = w7 at *
      obtain ⟨r0, r1, r2, r3, r4, r5⟩ := po_cells P7.out
      obtain ⟨c0, c1, c2, c3, c4, c5, c6', c7, c8⟩ := ent_cells X7.out
      obtain ⟨a0, a1, a2⟩ := sn_cells SS7.out
      have q9 := (cfg_cells SC7.out).2.2.2.2.2.2.2.2.2.1
      go_wp2_with fail
      refine wp_region_calm 25 (by kernel_rfl) (by kernel_rfl) ?_
      simp only [List.take_succ_cons, List.take_zero, List.drop_succ_cons, List.drop_zero]
      repeat (apply wpCalm_step; (next => (intro W hW K hK; have y0 := hW.cell r0; have y1 := hW.cell r1; have y2 := hW.cell r2; have y3 := hW.cell r3; have y4 := hW.cell r4; have y5 := hW.cell r5; have y6 := hW.cell c0; have y7 := hW.cell c1; have y8 := hW.cell c2; have y9 := hW.cell c3; have y10 := hW.cell c4; have y11 := hW.cell c5; have y12 := hW.cell c6'; have y13 := hW.cell c7; have y14 := hW.cell c8; have y15 := hW.cell q9; have y16 := hW.cell a1; have y17 := hW.cell a2; go_simp; first | exact ⟨hW, hK⟩ | exact hK)); (next => exact CalmI.self _); (try go_simp))
      (apply wpCalm_step; (next => (intro W hW K hK; go_simp; first | exact ⟨_, hW.call (VG.out W), hK⟩ | exact ⟨hW, _, hW.call (VG.out W), hK⟩)); (next => exact CalmI.self _); (try go_simp))
      repeat (apply wpCalm_step; (next => (intro W hW K hK; have y0 := hW.cell r0; have y1 := hW.cell r1; have y2 := hW.cell r2; have y3 := hW.cell r3; have y4 := hW.cell r4; have y5 := hW.cell r5; have y6 := hW.cell c0; have y7 := hW.cell c1; have y8 := hW.cell c2; have y9 := hW.cell c3; have y10 := hW.cell c4; have y11 := hW.cell c5; have y12 := hW.cell c6'; have y13 := hW.cell c7; have y14 := hW.cell c8; have y15 := hW.cell q9; have y16 := hW.cell a1; have y17 := hW.cell a2; go_simp; first | exact ⟨hW, hK⟩ | exact hK)); (next => exact CalmI.self _); (try go_simp))
      refine wpCalm_nil ?_
      intro WC hWC
      have HB8 : Hid (Below W0.heap.size W0 WC) := Lib.hid (HB7.out.trans (Below.mono hWC HB7.out.size))
      clear hWC r0 r1 r2 r3 r4 r5 c0 c1 c2 c3 c4 c5 c6' c7 c8 a0 a1 a2 q9
      go_wp2
      go_roundw
      case rel => exact ⟨k + 1, by omega, by go_num, HB8.out⟩
      case measure => simp [intOf]; omega
    · obtain rfl : k = la := by omega
      have HBE : Hid (Below w.heap.size w wr) := Lib.hid (HW0.out.trans (hB.mono HW0.out.size))
      clear hB
      go_wp2_with fail
      refine (alive19_f _).mono ?_; rintro e w9 ⟨rfl, hb9⟩
      have HB9 : Hid (Below w.heap.size w w9) := Lib.hid (HBE.out.trans (hb9.mono HBE.out.size))
      clear hb9
      go_wp2
      go_ret
      exact ⟨rfl, HB9.out⟩

theorem poseHolds_walk (r wi bs g l m s n d e : Int) (cu : Bool) (ka ta : Int) (aa : Option Addr) (la ca : Nat) (A : Nat → Ent) (at0 at1 : Int) (w : World) (h1 : I64 r) (h2 : I64 wi) (h3 : I64 bs) (h4 : I64 g) (h5 : I64 l) (h6 : I64 m) (h7 : I64 s) (h8 : I64 n) (h9 : I64 d) (h10 : I64 e) (hka : I64 ka) (hta : I64 ta) (ha : EntsAt w aa la A) (hat : I64 at0) (hat1 : I64 at1) :
    Calls Try.prog 4 #[.agg #[.int .i64 r, .int .i64 wi, .int .i64 bs, .int .i64 g, .int .i64 l, .int .i64 m, .int .i64 s, .int .i64 n, .int .i64 d, .int .i64 e, .bool cu], .agg #[.int .i64 ka, .int .i64 ta, .slice aa la ca], .agg #[.int .i64 at0, .int .i64 at1]] w fun e w' => e = .returned (.bool true) ∧ Below w.heap.size w w' := by
  obtain ⟨c, hc⟩ : ∃ c : Cfg, c = ⟨r, wi, bs, g, l, m, s, n, d, e, cu⟩ := ⟨_, rfl⟩
  have ok : c.Ok := by rw [hc]; exact ⟨h1, h2, h3, h4, h5, h6, h7, h8, h9, h10⟩
  have key : Calls Try.prog 4 #[cfgV c, snapV ka ta aa la ca, .agg #[.int .i64 at0, .int .i64 at1]] w fun e w' => e = .returned (.bool true) ∧ Below w.heap.size w w' := by
    cases hg : greatB (fun _ => (aa, la, ca)) 1
    · have l0 : la ≤ 100 := great_le hg 0 (by omega)
      have hla : (la : Int) ≤ 4611686018427387904 := by omega
      by_cases k0 : cchk c = 0
      · by_cases k2 : snapChk ka ta la A = 0
        · by_cases k4 : at0 < ta
          · exact poseHolds_c c ok ka ta aa la ca A at0 at1 w hka hta hat hat1 ha hg hla k0 k2 k4
          · by_cases kd : subF at0 ta = 0
            · exact poseHolds_lZ c ok ka ta aa la ca A at0 at1 w hka hta hat hat1 ha hg hla k0 k2 k4 _ rfl kd
            · by_cases kf : c.extra < subF at0 ta
              · exact poseHolds_lF c ok ka ta aa la ca A at0 at1 w hka hta hat hat1 ha hg hla k0 k2 k4 _ rfl kd kf
              · exact poseHolds_lN c ok ka ta aa la ca A at0 at1 w hka hta hat hat1 ha hg hla k0 k2 k4 _ rfl kd kf
        · exact poseHolds_b c ok ka ta aa la ca A at0 at1 w hka hta hat hat1 ha hg hla k0 k2
      · exact poseHolds_a c ok ka ta aa la ca A at0 at1 w hka hta hat hat1 ha hg k0
    · exact poseHolds_g c ok ka ta aa la ca A at0 at1 w hka hta hat hat1 ha hg
  rw [hc] at key
  exact key
end Go.Proofs.Ytobphhbmlhjbcaa
