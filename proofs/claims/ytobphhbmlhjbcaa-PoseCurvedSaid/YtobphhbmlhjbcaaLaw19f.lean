/- The law PoseCurved, walked: it returns true. -/
import Derived.Test.YtobphhbmlhjbcaaLaw19d
import Derived.Deep.RegionWith
namespace Go.Proofs.Ytobphhbmlhjbcaa
set_option linter.unusedVariables false
set_option linter.unusedSimpArgs false
open Go.RowKit
set_option maxRecDepth 100000

/-- the other way -/
def flip (c : Cfg) : Cfg := { c with curved := !c.curved }
theorem flip_btwE (c : Cfg) (ka ta : Int) (aa : Option Addr) (la ca : Nat) (A : Nat → Ent) (kb tb : Int) (ab : Option Addr) (lb cb : Nat) (B : Nat → Ent) (t : Int) : btwE (flip c) ka ta aa la ca A kb tb ab lb cb B t = btwE c ka ta aa la ca A kb tb ab lb cb B t := rfl
theorem flip_bydE (c : Cfg) (ka ta : Int) (aa : Option Addr) (la ca : Nat) (A : Nat → Ent) (t : Int) : bydE (flip c) ka ta aa la ca A t = bydE c ka ta aa la ca A t := rfl
theorem flip_ok {c : Cfg} (h : c.Ok) : (flip c).Ok := ⟨h.ring, h.window, h.base, h.gain, h.least, h.most, h.slack, h.num, h.den, h.extra⟩
theorem curved_two (cur : Bool) (x y : Ent) (ok : Bool) (num den : Int) : ∃ i g a0 a1 a2 b0 b1 b2, (btwP cur x y ok num den = ⟨i, a0, a1, a2, g, 1⟩ ∧ btwP (!cur) x y ok num den = ⟨i, b0, b1, b2, g, 2⟩) ∨ (btwP cur x y ok num den = ⟨i, a0, a1, a2, g, 2⟩ ∧ btwP (!cur) x y ok num den = ⟨i, b0, b1, b2, g, 1⟩) ∨ (btwP cur x y ok num den = ⟨i, a0, a1, a2, g, 0⟩ ∧ btwP (!cur) x y ok num den = ⟨i, a0, a1, a2, g, 0⟩) := by
  by_cases h : ok = true ∧ y.gen = x.gen
  · unfold btwP
    rw [if_pos h, if_pos h]
    cases cur
    · exact ⟨_, _, _, _, _, _, _, _, .inl ⟨rfl, rfl⟩⟩
    · exact ⟨_, _, _, _, _, _, _, _, .inr (.inl ⟨rfl, rfl⟩)⟩
  · unfold btwP exactP
    rw [if_neg h, if_neg h]
    exact ⟨_, _, _, _, _, 0, 0, 0, .inr (.inr ⟨rfl, rfl⟩)⟩

set_option maxHeartbeats 4000000 in
theorem poseCurved_g (c : Cfg) (ok : c.Ok) (ka ta : Int) (aa : Option Addr) (la ca : Nat) (A : Nat → Ent) (kb tb : Int) (ab : Option Addr) (lb cb : Nat) (B : Nat → Ent) (at0 : Int) (w : World) (hka : I64 ka) (hta : I64 ta) (hkb : I64 kb) (htb : I64 tb) (ha : EntsAt w aa la A) (hb : EntsAt w ab lb B) (hat : I64 at0) (hg : greatB (two (aa, la, ca) (ab, lb, cb)) 2 = true) :
    Calls Try.prog 6 #[cfgV c, .agg #[.int .i64 ka, .int .i64 ta, .slice aa la ca, .int .i64 kb, .int .i64 tb, .slice ab lb cb], .int .i64 at0] w fun e w' => e = .returned (.bool true) ∧ Below w.heap.size w w' := by
  have BC0 := (Blk.new w #[.int .i64 c.ring, .int .i64 c.window, .int .i64 c.base, .int .i64 c.gain, .int .i64 c.least, .int .i64 c.most, .int .i64 c.slack, .int .i64 c.num, .int .i64 c.den, .int .i64 c.extra, .bool c.curved] 23).alloc (.cells #[.int .i64 ka, .int .i64 ta, .slice aa la ca, .int .i64 kb, .int .i64 tb, .slice ab lb cb] 27)
  have BP := Blk.new (w.alloc (.cells #[.int .i64 c.ring, .int .i64 c.window, .int .i64 c.base, .int .i64 c.gain, .int .i64 c.least, .int .i64 c.most, .int .i64 c.slack, .int .i64 c.num, .int .i64 c.den, .int .i64 c.extra, .bool c.curved] 23)) #[.int .i64 ka, .int .i64 ta, .slice aa la ca, .int .i64 kb, .int .i64 tb, .slice ab lb cb] 27
  have hB0 : Below w.heap.size w ((w.alloc (.cells #[.int .i64 c.ring, .int .i64 c.window, .int .i64 c.base, .int .i64 c.gain, .int .i64 c.least, .int .i64 c.most, .int .i64 c.slack, .int .i64 c.num, .int .i64 c.den, .int .i64 c.extra, .bool c.curved] 23)).alloc (.cells #[.int .i64 ka, .int .i64 ta, .slice aa la ca, .int .i64 kb, .int .i64 tb, .slice ab lb cb] 27)) := ((Below.refl _ _).alloc (Nat.le_refl _) _).alloc (by simp) _
  simp only [World.size_alloc] at BP
  unfold cfgV
  go_enter Try.func6, Try.ntmps6
  go_wp2_with fail
  have hlW : w.heap.size + 1 < ((w.alloc (.cells #[.int .i64 c.ring, .int .i64 c.window, .int .i64 c.base, .int .i64 c.gain, .int .i64 c.least, .int .i64 c.most, .int .i64 c.slack, .int .i64 c.num, .int .i64 c.den, .int .i64 c.extra, .bool c.curved] 23)).alloc (.cells #[.int .i64 ka, .int .i64 ta, .slice aa la ca, .int .i64 kb, .int .i64 tb, .slice ab lb cb] 27)).heap.size := by simp
  have hlW0 : w.heap.size < ((w.alloc (.cells #[.int .i64 c.ring, .int .i64 c.window, .int .i64 c.base, .int .i64 c.gain, .int .i64 c.least, .int .i64 c.most, .int .i64 c.slack, .int .i64 c.num, .int .i64 c.den, .int .i64 c.extra, .bool c.curved] 23)).alloc (.cells #[.int .i64 ka, .int .i64 ta, .slice aa la ca, .int .i64 kb, .int .i64 tb, .slice ab lb cb] 27)).heap.size := Nat.lt_of_succ_lt hlW
  generalize ((w.alloc (.cells #[.int .i64 c.ring, .int .i64 c.window, .int .i64 c.base, .int .i64 c.gain, .int .i64 c.least, .int .i64 c.most, .int .i64 c.slack, .int .i64 c.num, .int .i64 c.den, .int .i64 c.extra, .bool c.curved] 23)).alloc (.cells #[.int .i64 ka, .int .i64 ta, .slice aa la ca, .int .i64 kb, .int .i64 tb, .slice ab lb cb] 27)) = W at *
  have hlW2 : ¬ (w.heap.size + 1 = W.heap.size) := by omega
  have hlW3 : ¬ (w.heap.size = W.heap.size) := by omega
  obtain ⟨p0, p1, p2, p3, p4, p5⟩ := pair_cells BP
  refine wp_region_into (TwoBoxes W #[.int .i64 ka, .int .i64 ta, .slice aa la ca] #[.int .i64 kb, .int .i64 tb, .slice ab lb cb] 26 7 8 [(21, .pointer (some ⟨w.heap.size + 1, 0, none⟩)), (22, .agg #[.int .i64 ka, .int .i64 ta, .slice aa la ca]), (23, .pointer (some ⟨w.heap.size + 1, 3, none⟩)), (24, .agg #[.int .i64 kb, .int .i64 tb, .slice ab lb cb])]) ?_ ?_
  · go_region_with (fail)
    all_goals
      refine ⟨_, _, ?_, ?_, ?_, ?_, ?_, ?_, rfl⟩
      · omega
      · omega
      · omega
      · first
        | exact ((Blk.new W _ _).alloc _).draws 1
        | (have e := Blk.new (W.alloc (.cells #[.int .i64 kb, .int .i64 tb, .slice ab lb cb] 26)) #[.int .i64 ka, .int .i64 ta, .slice aa la ca] 26; simp only [World.size_alloc] at e; exact e.draws 1)
      · first
        | exact ((Blk.new W _ _).alloc _).draws 1
        | (have e := Blk.new (W.alloc (.cells #[.int .i64 ka, .int .i64 ta, .slice aa la ca] 26)) #[.int .i64 kb, .int .i64 tb, .slice ab lb cb] 26; simp only [World.size_alloc] at e; exact e.draws 1)
      · (repeat (first | exact Below.refl _ _ | assumption | (refine Below.drew ?_) | (refine below_drewN ?_ _) | (refine Below.alloc ?_ (by simp <;> omega) _) | (refine Below.setCell ?_ (by simp <;> omega) _)))
  rintro AA w1 ⟨bx, by', hne, hbx, hby, KA0, KB0, hW1, rfl⟩
  simp only [List.foldl]
  clear p0 p1 p2 p3 p4 p5
  have KA := Lib.hid KA0
  have KB := Lib.hid KB0
  have BC := Lib.hid (BC0.below hW1 hlW0)
  have HB1 : Hid (Below w.heap.size w w1) := Lib.hid (hB0.trans (hW1.mono hB0.size))
  have lx := KA0.lt
  have ly := KB0.lt
  clear KA0 KB0 BC0 BP hB0 hW1 hlW hlW0 hlW2 hlW3
  obtain ⟨a0, a1, a2⟩ := sn_cells KA.out
  obtain ⟨b0, b1, b2⟩ := sn_cells KB.out
  go_wp2_with fail
  have GR := great_f (some ⟨w1.heap.size, 0, none⟩) 2 2 _ _ _ _ (snaps2 w1 ka ta kb tb aa ab la ca lb cb) (by decide)
  rw [hg] at GR
  refine GR.mono ?_; rintro e w2 ⟨rfl, hb2⟩
  have HB2 : Hid (Below w.heap.size w w2) := Lib.hid (HB1.out.trans (((Below.refl _ _).alloc (Nat.le_refl _) _).trans (hb2.mono (by simp)) |>.mono HB1.out.size))
  clear hb2 GR
  go_wp2_with fail
  refine (alive19_f _).mono ?_; rintro e w3 ⟨rfl, hb3⟩
  have HB3 : Hid (Below w.heap.size w w3) := Lib.hid (HB2.out.trans (hb3.mono HB2.out.size))
  clear hb3
  go_wp2
  go_ret
  exact ⟨rfl, HB3.out⟩

set_option maxHeartbeats 4000000 in
theorem poseCurved_c (c : Cfg) (ok : c.Ok) (ka ta : Int) (aa : Option Addr) (la ca : Nat) (A : Nat → Ent) (kb tb : Int) (ab : Option Addr) (lb cb : Nat) (B : Nat → Ent) (at0 : Int) (w : World) (hka : I64 ka) (hta : I64 ta) (hkb : I64 kb) (htb : I64 tb) (ha : EntsAt w aa la A) (hb : EntsAt w ab lb B) (hat : I64 at0) (hla : (la : Int) ≤ 4611686018427387904) (hlb : (lb : Int) ≤ 4611686018427387904) (hg : greatB (two (aa, la, ca) (ab, lb, cb)) 2 = false) :
    Calls Try.prog 6 #[cfgV c, .agg #[.int .i64 ka, .int .i64 ta, .slice aa la ca, .int .i64 kb, .int .i64 tb, .slice ab lb cb], .int .i64 at0] w fun e w' => e = .returned (.bool true) ∧ Below w.heap.size w w' := by
  have BC0 := (Blk.new w #[.int .i64 c.ring, .int .i64 c.window, .int .i64 c.base, .int .i64 c.gain, .int .i64 c.least, .int .i64 c.most, .int .i64 c.slack, .int .i64 c.num, .int .i64 c.den, .int .i64 c.extra, .bool c.curved] 23).alloc (.cells #[.int .i64 ka, .int .i64 ta, .slice aa la ca, .int .i64 kb, .int .i64 tb, .slice ab lb cb] 27)
  have BP := Blk.new (w.alloc (.cells #[.int .i64 c.ring, .int .i64 c.window, .int .i64 c.base, .int .i64 c.gain, .int .i64 c.least, .int .i64 c.most, .int .i64 c.slack, .int .i64 c.num, .int .i64 c.den, .int .i64 c.extra, .bool c.curved] 23)) #[.int .i64 ka, .int .i64 ta, .slice aa la ca, .int .i64 kb, .int .i64 tb, .slice ab lb cb] 27
  have hB0 : Below w.heap.size w ((w.alloc (.cells #[.int .i64 c.ring, .int .i64 c.window, .int .i64 c.base, .int .i64 c.gain, .int .i64 c.least, .int .i64 c.most, .int .i64 c.slack, .int .i64 c.num, .int .i64 c.den, .int .i64 c.extra, .bool c.curved] 23)).alloc (.cells #[.int .i64 ka, .int .i64 ta, .slice aa la ca, .int .i64 kb, .int .i64 tb, .slice ab lb cb] 27)) := ((Below.refl _ _).alloc (Nat.le_refl _) _).alloc (by simp) _
  simp only [World.size_alloc] at BP
  have BT := fun w' hA hB => pbtw_f c ka ta aa la ca A kb tb ab lb cb B at0 w' hA hB hla hlb
  have CT := fun w' hA hB => pbtw_f (flip c) ka ta aa la ca A kb tb ab lb cb B at0 w' hA hB hla hlb
  have DT := fun w' hA => pbyd_f c ok ka ta aa la ca A at0 w' hta hat hA hla
  have ET := fun w' hA => pbyd_f (flip c) (flip_ok ok) ka ta aa la ca A at0 w' hta hat hA hla
  have hr2 : ((okN (bydE c ka ta aa la ca A at0) la : Nat) : Int) ≤ 4611686018427387904 := by have := okN_le (bydE c ka ta aa la ca A at0) la; omega
  have hrn : ((okN (btwE c ka ta aa la ca A kb tb ab lb cb B at0) la : Nat) : Int) ≤ 4611686018427387904 := by have := okN_le (btwE c ka ta aa la ca A kb tb ab lb cb B at0) la; omega
  rw [flip_btwE] at CT
  rw [flip_bydE] at ET
  change ∀ w', _ → Calls _ _ _ _ (Rets _ _ _ (byF (byM c (subF at0 ta)) (byD c (subF at0 ta)) A)) at ET
  unfold Rets at BT CT DT ET
  generalize okN (btwE c ka ta aa la ca A kb tb ab lb cb B at0) la = rn at *
  generalize btwE c ka ta aa la ca A kb tb ab lb cb B at0 = re at *
  generalize okN (bydE c ka ta aa la ca A at0) la = sn at *
  generalize bydE c ka ta aa la ca A at0 = se at *
  generalize (byF (byM c (subF at0 ta)) (byD c (subF at0 ta)) A) = sp at *
  obtain ⟨rp, hrp⟩ : ∃ p, btwF c.curved A B lb (at0 - ta) (tb - ta) = p := ⟨_, rfl⟩
  obtain ⟨rq, hrq⟩ : ∃ p, btwF (flip c).curved A B lb (at0 - ta) (tb - ta) = p := ⟨_, rfl⟩
  rw [hrp] at BT
  rw [hrq] at CT
  have HPQ : Hid (∀ k, ∃ i g a0 a1 a2 b0 b1 b2, (rp k = ⟨i, a0, a1, a2, g, 1⟩ ∧ rq k = ⟨i, b0, b1, b2, g, 2⟩) ∨ (rp k = ⟨i, a0, a1, a2, g, 2⟩ ∧ rq k = ⟨i, b0, b1, b2, g, 1⟩) ∨ (rp k = ⟨i, a0, a1, a2, g, 0⟩ ∧ rq k = ⟨i, a0, a1, a2, g, 0⟩)) := Lib.hid (fun k => by rw [← hrp, ← hrq]; exact curved_two c.curved (A k) (fdE B (A k).id lb) (fdB B (A k).id lb) (at0 - ta) (tb - ta))
  clear hrp hrq
  unfold cfgV snapV at BT CT DT ET
  dsimp only [flip] at CT ET
  unfold cfgV
  go_enter Try.func6, Try.ntmps6
  go_wp2_with fail
  have hlW : w.heap.size + 1 < ((w.alloc (.cells #[.int .i64 c.ring, .int .i64 c.window, .int .i64 c.base, .int .i64 c.gain, .int .i64 c.least, .int .i64 c.most, .int .i64 c.slack, .int .i64 c.num, .int .i64 c.den, .int .i64 c.extra, .bool c.curved] 23)).alloc (.cells #[.int .i64 ka, .int .i64 ta, .slice aa la ca, .int .i64 kb, .int .i64 tb, .slice ab lb cb] 27)).heap.size := by simp
  have hlW0 : w.heap.size < ((w.alloc (.cells #[.int .i64 c.ring, .int .i64 c.window, .int .i64 c.base, .int .i64 c.gain, .int .i64 c.least, .int .i64 c.most, .int .i64 c.slack, .int .i64 c.num, .int .i64 c.den, .int .i64 c.extra, .bool c.curved] 23)).alloc (.cells #[.int .i64 ka, .int .i64 ta, .slice aa la ca, .int .i64 kb, .int .i64 tb, .slice ab lb cb] 27)).heap.size := Nat.lt_of_succ_lt hlW
  generalize ((w.alloc (.cells #[.int .i64 c.ring, .int .i64 c.window, .int .i64 c.base, .int .i64 c.gain, .int .i64 c.least, .int .i64 c.most, .int .i64 c.slack, .int .i64 c.num, .int .i64 c.den, .int .i64 c.extra, .bool c.curved] 23)).alloc (.cells #[.int .i64 ka, .int .i64 ta, .slice aa la ca, .int .i64 kb, .int .i64 tb, .slice ab lb cb] 27)) = W at *
  have hlW2 : ¬ (w.heap.size + 1 = W.heap.size) := by omega
  have hlW3 : ¬ (w.heap.size = W.heap.size) := by omega
  obtain ⟨p0, p1, p2, p3, p4, p5⟩ := pair_cells BP
  refine wp_region_into (TwoBoxes W #[.int .i64 ka, .int .i64 ta, .slice aa la ca] #[.int .i64 kb, .int .i64 tb, .slice ab lb cb] 26 7 8 [(21, .pointer (some ⟨w.heap.size + 1, 0, none⟩)), (22, .agg #[.int .i64 ka, .int .i64 ta, .slice aa la ca]), (23, .pointer (some ⟨w.heap.size + 1, 3, none⟩)), (24, .agg #[.int .i64 kb, .int .i64 tb, .slice ab lb cb])]) ?_ ?_
  · go_region_with (fail)
    all_goals
      refine ⟨_, _, ?_, ?_, ?_, ?_, ?_, ?_, rfl⟩
      · omega
      · omega
      · omega
      · first
        | exact ((Blk.new W _ _).alloc _).draws 1
        | (have e := Blk.new (W.alloc (.cells #[.int .i64 kb, .int .i64 tb, .slice ab lb cb] 26)) #[.int .i64 ka, .int .i64 ta, .slice aa la ca] 26; simp only [World.size_alloc] at e; exact e.draws 1)
      · first
        | exact ((Blk.new W _ _).alloc _).draws 1
        | (have e := Blk.new (W.alloc (.cells #[.int .i64 ka, .int .i64 ta, .slice aa la ca] 26)) #[.int .i64 kb, .int .i64 tb, .slice ab lb cb] 26; simp only [World.size_alloc] at e; exact e.draws 1)
      · (repeat (first | exact Below.refl _ _ | assumption | (refine Below.drew ?_) | (refine below_drewN ?_ _) | (refine Below.alloc ?_ (by simp <;> omega) _) | (refine Below.setCell ?_ (by simp <;> omega) _)))
  rintro AA w1 ⟨bx, by', hne, hbx, hby, KA0, KB0, hW1, rfl⟩
  simp only [List.foldl]
  clear p0 p1 p2 p3 p4 p5
  have KA := Lib.hid KA0
  have KB := Lib.hid KB0
  have BC := Lib.hid (BC0.below hW1 hlW0)
  have HB1 : Hid (Below w.heap.size w w1) := Lib.hid (hB0.trans (hW1.mono hB0.size))
  have lx := KA0.lt
  have ly := KB0.lt
  clear KA0 KB0 BC0 BP hB0 hW1 hlW hlW0 hlW2 hlW3
  obtain ⟨a0, a1, a2⟩ := sn_cells KA.out
  obtain ⟨b0, b1, b2⟩ := sn_cells KB.out
  go_wp2_with fail
  have GR := great_f (some ⟨w1.heap.size, 0, none⟩) 2 2 _ _ _ _ (snaps2 w1 ka ta kb tb aa ab la ca lb cb) (by decide)
  rw [hg] at GR
  refine GR.mono ?_; rintro e w2 ⟨rfl, hb2⟩
  have hW2 : Below w1.heap.size w1 w2 := ((Below.refl _ _).alloc (Nat.le_refl _) _).trans (hb2.mono (by simp))
  have HB2 : Hid (Below w.heap.size w w2) := Lib.hid (HB1.out.trans (hW2.mono HB1.out.size))
  have BCn := Lib.hid (BC.out.below hW2 BC.out.lt)
  clear BC
  have BC := BCn
  clear BCn
  have KAn := Lib.hid (KA.out.below hW2 KA.out.lt)
  clear KA
  have KA := KAn
  clear KAn
  have KBn := Lib.hid (KB.out.below hW2 KB.out.lt)
  clear KB
  have KB := KBn
  clear KBn
  clear hb2 hW2 GR a0 a1 a2 b0 b1 b2 lx ly
  obtain ⟨q0, q1, q2, q3, q4, q5, q6, q7, q8, q9, q10⟩ := cfg_cells BC.out
  obtain ⟨a0, a1, a2⟩ := sn_cells KA.out
  obtain ⟨b0, b1, b2⟩ := sn_cells KB.out
  have bt := BT (w2.alloc (.cells #[.int .i64 c.ring, .int .i64 c.window, .int .i64 c.base, .int .i64 c.gain, .int .i64 c.least, .int .i64 c.most, .int .i64 c.slack, .int .i64 c.num, .int .i64 c.den, .int .i64 c.extra, .bool !c.curved] 23)) (ha.below (HB2.out.alloc HB2.out.size _)) (hb.below (HB2.out.alloc HB2.out.size _))
  have lbc := BC.out.lt
  have lka := KA.out.lt
  have lkb := KB.out.lt
  go_wp2_with fail
  refine bt.mono ?_; rintro e w3 ⟨s3, c3, rfl, hp3, hb3⟩
  have HP3 := Lib.hid hp3
  have hW3 : Below w2.heap.size w2 w3 := ((Below.refl _ _).alloc (Nat.le_refl _) _).trans (hb3.mono (by simp))
  have BD := Lib.hid ((Blk.new w2 #[.int .i64 c.ring, .int .i64 c.window, .int .i64 c.base, .int .i64 c.gain, .int .i64 c.least, .int .i64 c.most, .int .i64 c.slack, .int .i64 c.num, .int .i64 c.den, .int .i64 c.extra, .bool !c.curved] 23).below hb3 (by simp))
  have HB3 : Hid (Below w.heap.size w w3) := Lib.hid (HB2.out.trans (hW3.mono HB2.out.size))
  have BCn := Lib.hid (BC.out.below hW3 BC.out.lt)
  clear BC
  have BC := BCn
  clear BCn
  have KAn := Lib.hid (KA.out.below hW3 KA.out.lt)
  clear KA
  have KA := KAn
  clear KAn
  have KBn := Lib.hid (KB.out.below hW3 KB.out.lt)
  clear KB
  have KB := KBn
  clear KBn
  clear hb3 hW3 hp3 bt BT HB1 HB2 q0 q1 q2 q3 q4 q5 q6 q7 q8 q9 q10 a0 a1 a2 b0 b1 b2 lbc lka lkb
  obtain ⟨t0, t1, t2, t3, t4, t5, t6, t7, t8, t9, t10⟩ := cfg_cells (c := flip c) BD.out
  dsimp only [flip] at t0 t1 t2 t3 t4 t5 t6 t7 t8 t9 t10
  obtain ⟨a0, a1, a2⟩ := sn_cells KA.out
  obtain ⟨b0, b1, b2⟩ := sn_cells KB.out
  have bt := CT w3 (ha.below HB3.out) (hb.below HB3.out)
  go_wp2_with fail
  refine bt.mono ?_; rintro e w4 ⟨s4, c4, rfl, hp4, hb4⟩
  have HP4 := Lib.hid hp4
  have HQ4 := Lib.hid (HP3.out.below hb4)
  have HB4 : Hid (Below w.heap.size w w4) := Lib.hid (HB3.out.trans (hb4.mono HB3.out.size))
  have BCn := Lib.hid (BC.out.below hb4 BC.out.lt)
  clear BC
  have BC := BCn
  clear BCn
  have KAn := Lib.hid (KA.out.below hb4 KA.out.lt)
  clear KA
  have KA := KAn
  clear KAn
  have KBn := Lib.hid (KB.out.below hb4 KB.out.lt)
  clear KB
  have KB := KBn
  clear KBn
  have BDn := Lib.hid (BD.out.below hb4 BD.out.lt)
  clear BD
  have BD := BDn
  clear BDn
  clear hb4 hp4 bt CT HB3 HP3 t0 t1 t2 t3 t4 t5 t6 t7 t8 t9 t10 a0 a1 a2 b0 b1 b2
  obtain ⟨q0, q1, q2, q3, q4, q5, q6, q7, q8, q9, q10⟩ := cfg_cells BC.out
  obtain ⟨a0, a1, a2⟩ := sn_cells KA.out
  obtain ⟨b0, b1, b2⟩ := sn_cells KB.out
  have bt := DT w4 (ha.below HB4.out)
  go_wp2_with fail
  refine bt.mono ?_; rintro e w5 ⟨s5, c5, rfl, hp5, hb5⟩
  have HP5 := Lib.hid hp5
  have HQ5 := Lib.hid (HQ4.out.below hb5)
  have HR5 := Lib.hid (HP4.out.below hb5)
  have HB5 : Hid (Below w.heap.size w w5) := Lib.hid (HB4.out.trans (hb5.mono HB4.out.size))
  have KAn := Lib.hid (KA.out.below hb5 KA.out.lt)
  clear KA
  have KA := KAn
  clear KAn
  have BDn := Lib.hid (BD.out.below hb5 BD.out.lt)
  clear BD
  have BD := BDn
  clear BDn
  clear hb5 hp5 bt DT HB4 HP4 HQ4 q0 q1 q2 q3 q4 q5 q6 q7 q8 q9 q10 a0 a1 a2 b0 b1 b2 BC KB
  obtain ⟨t0, t1, t2, t3, t4, t5, t6, t7, t8, t9, t10⟩ := cfg_cells (c := flip c) BD.out
  dsimp only [flip] at t0 t1 t2 t3 t4 t5 t6 t7 t8 t9 t10
  obtain ⟨a0, a1, a2⟩ := sn_cells KA.out
  have bt := ET w5 (ha.below HB5.out)
  go_wp2_with fail
  refine bt.mono ?_; rintro e w6 ⟨s6, c6, rfl, hp6, hb6⟩
  have sm := same_f s5 s6 sn c5 c6 sp w6 (HP5.out.below hb6) hp6 hr2
  have HQ6 := Lib.hid (HQ5.out.below hb6)
  have HR6 := Lib.hid (HR5.out.below hb6)
  have HB6 : Hid (Below w.heap.size w w6) := Lib.hid (HB5.out.trans (hb6.mono HB5.out.size))
  clear hb6 hp6 bt ET HB5 HP5 HQ5 HR5 t0 t1 t2 t3 t4 t5 t6 t7 t8 t9 t10 a0 a1 a2 KA BD
  go_wp2_with fail
  refine sm.mono ?_; rintro e W0 ⟨rfl, hb7⟩
  have HQ7 := Lib.hid (HQ6.out.below hb7)
  have HR7 := Lib.hid (HR6.out.below hb7)
  have HW0 : Hid (Below w.heap.size w W0) := Lib.hid (HB6.out.trans (hb7.mono HB6.out.size))
  clear hb7 sm HQ6 HR6 HB6
  go_wp2_with fail
  go_loopw [88] (fun i wr => ∃ k : Nat, k ≤ rn ∧ i = .int .i64 k ∧ Below W0.heap.size W0 wr) (fun i _ => rn - (intOf i).toNat)
  case atStart => exact ⟨0, Nat.zero_le _, rfl, Below.refl _ _⟩
  case round =>
    rename_i wr
    obtain ⟨k, hk, rfl, hB⟩ := hrel
    have hsz := hB.size
    by_cases hlt : k < rn
    · obtain ⟨b3, o3, hs3, hl3, hq3⟩ := poses_at HQ7.out hlt
      obtain ⟨b4, o4, hs4, hl4, hq4⟩ := poses_at HR7.out hlt
      obtain ⟨i, g, a0, a1, a2, b0, b1, b2, hpq⟩ := HPQ.out k
      subst hs3
      subst hs4
      have hkl : (k : Int) < rn := by omega
      have HB := Lib.hid hB
      clear hB
      rcases hpq with ⟨e1, e2⟩ | ⟨e1, e2⟩ | ⟨e1, e2⟩
      all_goals
        rw [e1] at hq3
        rw [e2] at hq4
        clear e1 e2
        obtain ⟨r0, r1, r2, r3, r4, r5⟩ := PoCells.below hq3 HB.out hl3
        obtain ⟨u0, u1, u2, u3, u4, u5⟩ := PoCells.below hq4 HB.out hl4
        dsimp only at r0 r1 r2 r3 r4 r5 u0 u1 u2 u3 u4 u5
        have l3 : b3 < wr.heap.size := Nat.lt_of_lt_of_le hl3 hsz
        have l4 : b4 < wr.heap.size := Nat.lt_of_lt_of_le hl4 hsz
        clear hq3 hq4
        go_wp2
        go_roundw
        case rel => exact ⟨k + 1, by omega, by go_num, (HB.out.alloc hsz _).alloc (by simp; omega) _⟩
        case measure => simp [intOf]; omega
    · obtain rfl : k = rn := by omega
      have HBE : Hid (Below w.heap.size w wr) := Lib.hid (HW0.out.trans (hB.mono HW0.out.size))
      clear hB
      go_wp2_with fail
      refine (alive19_f _).mono ?_; rintro e w9 ⟨rfl, hb9⟩
      have HB9 : Hid (Below w.heap.size w w9) := Lib.hid (HBE.out.trans (hb9.mono HBE.out.size))
      clear hb9
      go_wp2
      go_ret
      exact ⟨rfl, HB9.out⟩

theorem poseCurved_walk (r wi bs g l m s n d e : Int) (cu : Bool) (ka ta : Int) (aa : Option Addr) (la ca : Nat) (A : Nat → Ent) (kb tb : Int) (ab : Option Addr) (lb cb : Nat) (B : Nat → Ent) (at0 : Int) (w : World) (h1 : I64 r) (h2 : I64 wi) (h3 : I64 bs) (h4 : I64 g) (h5 : I64 l) (h6 : I64 m) (h7 : I64 s) (h8 : I64 n) (h9 : I64 d) (h10 : I64 e) (hka : I64 ka) (hta : I64 ta) (hkb : I64 kb) (htb : I64 tb) (ha : EntsAt w aa la A) (hb : EntsAt w ab lb B) (hat : I64 at0) :
    Calls Try.prog 6 #[.agg #[.int .i64 r, .int .i64 wi, .int .i64 bs, .int .i64 g, .int .i64 l, .int .i64 m, .int .i64 s, .int .i64 n, .int .i64 d, .int .i64 e, .bool cu], .agg #[.int .i64 ka, .int .i64 ta, .slice aa la ca, .int .i64 kb, .int .i64 tb, .slice ab lb cb], .int .i64 at0] w fun e w' => e = .returned (.bool true) ∧ Below w.heap.size w w' := by
  cases hg : greatB (two (aa, la, ca) (ab, lb, cb)) 2
  · have l0 := great_le hg 0 (by omega)
    have l1 := great_le hg 1 (by omega)
    simp only [two] at l0 l1
    exact poseCurved_c ⟨r, wi, bs, g, l, m, s, n, d, e, cu⟩ ⟨h1, h2, h3, h4, h5, h6, h7, h8, h9, h10⟩ ka ta aa la ca A kb tb ab lb cb B at0 w hka hta hkb htb ha hb hat (by omega) (by omega) hg
  · exact poseCurved_g ⟨r, wi, bs, g, l, m, s, n, d, e, cu⟩ ⟨h1, h2, h3, h4, h5, h6, h7, h8, h9, h10⟩ ka ta aa la ca A kb tb ab lb cb B at0 w hka hta hkb htb ha hb hat hg
end Go.Proofs.Ytobphhbmlhjbcaa
