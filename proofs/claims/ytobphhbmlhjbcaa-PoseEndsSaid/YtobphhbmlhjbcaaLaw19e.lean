/- The law PoseEnds, walked: it returns true. -/
import Derived.Test.YtobphhbmlhjbcaaLaw19d
import Derived.Deep.RegionWith
namespace Go.Proofs.Ytobphhbmlhjbcaa
set_option linter.unusedVariables false
set_option linter.unusedSimpArgs false
open Go.RowKit
set_option maxRecDepth 100000

theorem poses_at {w : World} {s : Option Addr} {n k : Nat} {P : Nat → Po} (h : PosesAt w s n P) (hk : k < n) : ∃ b o, s = some ⟨b, o, none⟩ ∧ b < w.heap.size ∧ PoCells w b (o + k * 6) (P k) := by
  rcases h with h | ⟨b, o, e, hl, hc⟩
  · omega
  · exact ⟨b, o, e, hl, hc k hk⟩
theorem ends_same (c : Cfg) (ka ta : Int) (aa : Option Addr) (la ca : Nat) (A : Nat → Ent) (kb tb : Int) (ab : Option Addr) (lb cb : Nat) (B : Nat → Ent) : btwE c ka ta aa la ca A kb tb ab lb cb B ta = btwE c ka ta aa la ca A kb tb ab lb cb B tb := by
  unfold btwE
  split
  · unfold partE
    split
    · rename_i hc
      have := chk_mono hc (show 0 < 1 by omega) (show 1 < 2 by omega)
      simp only [two] at this
      rw [if_neg (by omega), if_neg (by omega)]
    · rfl
  · rfl
theorem ends_lt {c : Cfg} {ka ta : Int} {aa : Option Addr} {la ca : Nat} {A : Nat → Ent} {kb tb : Int} {ab : Option Addr} {lb cb : Nat} {B : Nat → Ent} {t : Int} (h : btwE c ka ta aa la ca A kb tb ab lb cb B t = 0) : ta < tb := by
  have h0 : chk2 c ka ta aa la ca A kb tb ab lb cb B = 0 := by
    by_cases e : chk2 c ka ta aa la ca A kb tb ab lb cb B = 0
    · exact e
    · unfold btwE at h; rw [if_neg e] at h; exact h
  unfold btwE at h
  rw [if_pos h0] at h
  exact (part_fine h).2.2.2.1
theorem alerp_zero {a b den : Int} (h : U16 a) : alerpF a b 0 den = a := by
  obtain ⟨h1, h2⟩ := h
  unfold alerpF
  rw [lerpF_zero]
  unfold turnF; omega
theorem alerp_all {a b den : Int} (ha : U16 a) (h : U16 b) (hd : 1 ≤ den) : alerpF a b den den = b := by
  obtain ⟨h1, h2⟩ := h
  obtain ⟨h3, h4⟩ := ha
  unfold alerpF
  rw [lerpF_all hd]
  unfold turnF diffF; omega
theorem ends_first (cur : Bool) (x y : Ent) (ok : Bool) (den : Int) (hx : x.Ok) : ∃ m, btwP cur x y ok 0 den = ⟨x.id, x.px, x.py, x.pz, x.ang, m⟩ := by
  unfold btwP
  split
  · cases cur
    · refine ⟨1, ?_⟩
      rw [if_neg (by decide), lerpF_zero, lerpF_zero, lerpF_zero, alerp_zero hx.ang]
    · refine ⟨2, ?_⟩
      rw [if_pos rfl, alerp_zero hx.ang]
      unfold curveF
      simp
  · exact ⟨0, rfl⟩
theorem ends_last (cur : Bool) (x y : Ent) (den : Int) (hx : x.Ok) (hy : y.Ok) (hd : 1 ≤ den) (hg : y.gen = x.gen) : ∃ m, btwP cur x y true den den = ⟨x.id, y.px, y.py, y.pz, y.ang, m⟩ := by
  unfold btwP
  rw [if_pos ⟨rfl, hg⟩]
  have hz : ¬ den = 0 := by omega
  cases cur
  · refine ⟨1, ?_⟩
    rw [if_neg (by decide), lerpF_all hd, lerpF_all hd, lerpF_all hd, alerp_all hx.ang hy.ang hd]
  · refine ⟨2, ?_⟩
    rw [if_pos rfl, alerp_all hx.ang hy.ang hd]
    unfold curveF
    simp [hz]

set_option maxHeartbeats 4000000 in
theorem poseEnds_g (c : Cfg) (ok : c.Ok) (ka ta : Int) (aa : Option Addr) (la ca : Nat) (A : Nat → Ent) (kb tb : Int) (ab : Option Addr) (lb cb : Nat) (B : Nat → Ent) (w : World) (hka : I64 ka) (hta : I64 ta) (hkb : I64 kb) (htb : I64 tb) (ha : EntsAt w aa la A) (hb : EntsAt w ab lb B) (hg : greatB (two (aa, la, ca) (ab, lb, cb)) 2 = true) :
    Calls Try.prog 5 #[cfgV c, .agg #[.int .i64 ka, .int .i64 ta, .slice aa la ca, .int .i64 kb, .int .i64 tb, .slice ab lb cb]] w fun e w' => e = .returned (.bool true) ∧ Below w.heap.size w w' := by
  have BC0 := (Blk.new w #[.int .i64 c.ring, .int .i64 c.window, .int .i64 c.base, .int .i64 c.gain, .int .i64 c.least, .int .i64 c.most, .int .i64 c.slack, .int .i64 c.num, .int .i64 c.den, .int .i64 c.extra, .bool c.curved] 23).alloc (.cells #[.int .i64 ka, .int .i64 ta, .slice aa la ca, .int .i64 kb, .int .i64 tb, .slice ab lb cb] 27)
  have BP := Blk.new (w.alloc (.cells #[.int .i64 c.ring, .int .i64 c.window, .int .i64 c.base, .int .i64 c.gain, .int .i64 c.least, .int .i64 c.most, .int .i64 c.slack, .int .i64 c.num, .int .i64 c.den, .int .i64 c.extra, .bool c.curved] 23)) #[.int .i64 ka, .int .i64 ta, .slice aa la ca, .int .i64 kb, .int .i64 tb, .slice ab lb cb] 27
  have hB0 : Below w.heap.size w ((w.alloc (.cells #[.int .i64 c.ring, .int .i64 c.window, .int .i64 c.base, .int .i64 c.gain, .int .i64 c.least, .int .i64 c.most, .int .i64 c.slack, .int .i64 c.num, .int .i64 c.den, .int .i64 c.extra, .bool c.curved] 23)).alloc (.cells #[.int .i64 ka, .int .i64 ta, .slice aa la ca, .int .i64 kb, .int .i64 tb, .slice ab lb cb] 27)) := ((Below.refl _ _).alloc (Nat.le_refl _) _).alloc (by simp) _
  simp only [World.size_alloc] at BP
  unfold cfgV
  go_enter Try.func5, Try.ntmps5
  go_wp2_with fail
  have hlW : w.heap.size + 1 < ((w.alloc (.cells #[.int .i64 c.ring, .int .i64 c.window, .int .i64 c.base, .int .i64 c.gain, .int .i64 c.least, .int .i64 c.most, .int .i64 c.slack, .int .i64 c.num, .int .i64 c.den, .int .i64 c.extra, .bool c.curved] 23)).alloc (.cells #[.int .i64 ka, .int .i64 ta, .slice aa la ca, .int .i64 kb, .int .i64 tb, .slice ab lb cb] 27)).heap.size := by simp
  have hlW0 : w.heap.size < ((w.alloc (.cells #[.int .i64 c.ring, .int .i64 c.window, .int .i64 c.base, .int .i64 c.gain, .int .i64 c.least, .int .i64 c.most, .int .i64 c.slack, .int .i64 c.num, .int .i64 c.den, .int .i64 c.extra, .bool c.curved] 23)).alloc (.cells #[.int .i64 ka, .int .i64 ta, .slice aa la ca, .int .i64 kb, .int .i64 tb, .slice ab lb cb] 27)).heap.size := Nat.lt_of_succ_lt hlW
  generalize ((w.alloc (.cells #[.int .i64 c.ring, .int .i64 c.window, .int .i64 c.base, .int .i64 c.gain, .int .i64 c.least, .int .i64 c.most, .int .i64 c.slack, .int .i64 c.num, .int .i64 c.den, .int .i64 c.extra, .bool c.curved] 23)).alloc (.cells #[.int .i64 ka, .int .i64 ta, .slice aa la ca, .int .i64 kb, .int .i64 tb, .slice ab lb cb] 27)) = W at *
  have hlW2 : ¬ (w.heap.size + 1 = W.heap.size) := by omega
  have hlW3 : ¬ (w.heap.size = W.heap.size) := by omega
  obtain ⟨p0, p1, p2, p3, p4, p5⟩ := pair_cells BP
  refine wp_region_into (TwoBoxes W #[.int .i64 ka, .int .i64 ta, .slice aa la ca] #[.int .i64 kb, .int .i64 tb, .slice ab lb cb] 26 5 6 [(15, .pointer (some ⟨w.heap.size + 1, 0, none⟩)), (16, .agg #[.int .i64 ka, .int .i64 ta, .slice aa la ca]), (17, .pointer (some ⟨w.heap.size + 1, 3, none⟩)), (18, .agg #[.int .i64 kb, .int .i64 tb, .slice ab lb cb])]) ?_ ?_
  · go_region_with (fail)
    all_goals
      refine ⟨_, _, ?_, ?_, ?_, ?_, ?_, ?_, rfl⟩
      · omega
      · omega
      · omega
      · first
        | exact ((Blk.new W _ _).alloc _).draws 1
        | (have e := Blk.new (W.alloc (.cells #[.int .i64 kb, .int .i64 tb, .slice ab lb cb] 26)) #[.int .i64 ka, .int .i64 ta, .slice aa la ca] 26; simp only [World.size_alloc] at e; exact e.draws 1)
      · first
        | exact ((Blk.new W _ _).alloc _).draws 1
        | (have e := Blk.new (W.alloc (.cells #[.int .i64 ka, .int .i64 ta, .slice aa la ca] 26)) #[.int .i64 kb, .int .i64 tb, .slice ab lb cb] 26; simp only [World.size_alloc] at e; exact e.draws 1)
      · (repeat (first | exact Below.refl _ _ | assumption | (refine Below.drew ?_) | (refine below_drewN ?_ _) | (refine Below.alloc ?_ (by simp <;> omega) _) | (refine Below.setCell ?_ (by simp <;> omega) _)))
  rintro AA w1 ⟨bx, by', hne, hbx, hby, KA0, KB0, hW1, rfl⟩
  simp only [List.foldl]
  clear p0 p1 p2 p3 p4 p5
  have KA := Lib.hid KA0
  have KB := Lib.hid KB0
  have BC := Lib.hid (BC0.below hW1 hlW0)
  have HB1 : Hid (Below w.heap.size w w1) := Lib.hid (hB0.trans (hW1.mono hB0.size))
  have lx := KA0.lt
  have ly := KB0.lt
  clear KA0 KB0 BC0 BP hB0 hW1 hlW hlW0 hlW2 hlW3
  obtain ⟨a0, a1, a2⟩ := sn_cells KA.out
  obtain ⟨b0, b1, b2⟩ := sn_cells KB.out
  go_wp2_with fail
  have GR := great_f (some ⟨w1.heap.size, 0, none⟩) 2 2 _ _ _ _ (snaps2 w1 ka ta kb tb aa ab la ca lb cb) (by decide)
  rw [hg] at GR
  refine GR.mono ?_; rintro e w2 ⟨rfl, hb2⟩
  have HB2 : Hid (Below w.heap.size w w2) := Lib.hid (HB1.out.trans (((Below.refl _ _).alloc (Nat.le_refl _) _).trans (hb2.mono (by simp)) |>.mono HB1.out.size))
  clear hb2 GR
  go_wp2_with fail
  refine (alive19_f _).mono ?_; rintro e w3 ⟨rfl, hb3⟩
  have HB3 : Hid (Below w.heap.size w w3) := Lib.hid (HB2.out.trans (hb3.mono HB2.out.size))
  clear hb3
  go_wp2
  go_ret
  exact ⟨rfl, HB3.out⟩

set_option maxHeartbeats 4000000 in
theorem poseEnds_c (c : Cfg) (ok : c.Ok) (ka ta : Int) (aa : Option Addr) (la ca : Nat) (A : Nat → Ent) (kb tb : Int) (ab : Option Addr) (lb cb : Nat) (B : Nat → Ent) (w : World) (hka : I64 ka) (hta : I64 ta) (hkb : I64 kb) (htb : I64 tb) (ha : EntsAt w aa la A) (hb : EntsAt w ab lb B) (hla : (la : Int) ≤ 4611686018427387904) (hlb : (lb : Int) ≤ 4611686018427387904) (hg : greatB (two (aa, la, ca) (ab, lb, cb)) 2 = false) :
    Calls Try.prog 5 #[cfgV c, .agg #[.int .i64 ka, .int .i64 ta, .slice aa la ca, .int .i64 kb, .int .i64 tb, .slice ab lb cb]] w fun e w' => e = .returned (.bool true) ∧ Below w.heap.size w w' := by
  have BC0 := (Blk.new w #[.int .i64 c.ring, .int .i64 c.window, .int .i64 c.base, .int .i64 c.gain, .int .i64 c.least, .int .i64 c.most, .int .i64 c.slack, .int .i64 c.num, .int .i64 c.den, .int .i64 c.extra, .bool c.curved] 23).alloc (.cells #[.int .i64 ka, .int .i64 ta, .slice aa la ca, .int .i64 kb, .int .i64 tb, .slice ab lb cb] 27)
  have BP := Blk.new (w.alloc (.cells #[.int .i64 c.ring, .int .i64 c.window, .int .i64 c.base, .int .i64 c.gain, .int .i64 c.least, .int .i64 c.most, .int .i64 c.slack, .int .i64 c.num, .int .i64 c.den, .int .i64 c.extra, .bool c.curved] 23)) #[.int .i64 ka, .int .i64 ta, .slice aa la ca, .int .i64 kb, .int .i64 tb, .slice ab lb cb] 27
  have hB0 : Below w.heap.size w ((w.alloc (.cells #[.int .i64 c.ring, .int .i64 c.window, .int .i64 c.base, .int .i64 c.gain, .int .i64 c.least, .int .i64 c.most, .int .i64 c.slack, .int .i64 c.num, .int .i64 c.den, .int .i64 c.extra, .bool c.curved] 23)).alloc (.cells #[.int .i64 ka, .int .i64 ta, .slice aa la ca, .int .i64 kb, .int .i64 tb, .slice ab lb cb] 27)) := ((Below.refl _ _).alloc (Nat.le_refl _) _).alloc (by simp) _
  simp only [World.size_alloc] at BP
  have BT := fun w' hA hB => pbtw_f c ka ta aa la ca A kb tb ab lb cb B ta w' hA hB hla hlb
  have CT := fun w' hA hB => pbtw_f c ka ta aa la ca A kb tb ab lb cb B tb w' hA hB hla hlb
  rw [← ends_same] at CT
  have HLT0 := Lib.hid (fun h => ends_lt (c := c) (aa := aa) (la := la) (ca := ca) (A := A) (ab := ab) (lb := lb) (cb := cb) (B := B) (ka := ka) (ta := ta) (kb := kb) (tb := tb) (t := ta) h)
  unfold Rets at BT CT
  have HRN0 : Hid (btwE c ka ta aa la ca A kb tb ab lb cb B ta ≠ 0 → okN (btwE c ka ta aa la ca A kb tb ab lb cb B ta) la = 0) := Lib.hid (fun h => by unfold okN; rw [if_neg h])
  have HRN1 : Hid (btwE c ka ta aa la ca A kb tb ab lb cb B ta = 0 → okN (btwE c ka ta aa la ca A kb tb ab lb cb B ta) la = la) := Lib.hid (fun h => by unfold okN; rw [if_pos h])
  generalize okN (btwE c ka ta aa la ca A kb tb ab lb cb B ta) la = rn at *
  generalize btwE c ka ta aa la ca A kb tb ab lb cb B ta = re at *
  obtain ⟨rp, hrp⟩ : ∃ p, btwF c.curved A B lb (ta - ta) (tb - ta) = p := ⟨_, rfl⟩
  obtain ⟨rq, hrq⟩ : ∃ p, btwF c.curved A B lb (tb - ta) (tb - ta) = p := ⟨_, rfl⟩
  rw [hrp] at BT
  rw [hrq] at CT
  have HRP : Hid (∀ k, rp k = btwP c.curved (A k) (fdE B (A k).id lb) (fdB B (A k).id lb) 0 (tb - ta)) := Lib.hid (fun k => by rw [← hrp, Int.sub_self]; rfl)
  have HRQ : Hid (∀ k, rq k = btwP c.curved (A k) (fdE B (A k).id lb) (fdB B (A k).id lb) (tb - ta) (tb - ta)) := Lib.hid (fun k => by rw [← hrq]; rfl)
  clear hrp hrq
  have hokA := ha.1
  have HCA : Hid (∀ k, k < la → ∃ b off, aa = some ⟨b, off, none⟩ ∧ b < w.heap.size ∧ EntCells w b (off + k * 9) (A k)) := Lib.hid (fun k hk => by
    rcases ha.2 with h0 | ⟨b, off, e, hb, hc⟩
    · omega
    · exact ⟨b, off, e, hb, hc k hk⟩)
  unfold cfgV snapV at BT CT
  unfold cfgV
  go_enter Try.func5, Try.ntmps5
  go_wp2_with fail
  have hlW : w.heap.size + 1 < ((w.alloc (.cells #[.int .i64 c.ring, .int .i64 c.window, .int .i64 c.base, .int .i64 c.gain, .int .i64 c.least, .int .i64 c.most, .int .i64 c.slack, .int .i64 c.num, .int .i64 c.den, .int .i64 c.extra, .bool c.curved] 23)).alloc (.cells #[.int .i64 ka, .int .i64 ta, .slice aa la ca, .int .i64 kb, .int .i64 tb, .slice ab lb cb] 27)).heap.size := by simp
  have hlW0 : w.heap.size < ((w.alloc (.cells #[.int .i64 c.ring, .int .i64 c.window, .int .i64 c.base, .int .i64 c.gain, .int .i64 c.least, .int .i64 c.most, .int .i64 c.slack, .int .i64 c.num, .int .i64 c.den, .int .i64 c.extra, .bool c.curved] 23)).alloc (.cells #[.int .i64 ka, .int .i64 ta, .slice aa la ca, .int .i64 kb, .int .i64 tb, .slice ab lb cb] 27)).heap.size := Nat.lt_of_succ_lt hlW
  generalize ((w.alloc (.cells #[.int .i64 c.ring, .int .i64 c.window, .int .i64 c.base, .int .i64 c.gain, .int .i64 c.least, .int .i64 c.most, .int .i64 c.slack, .int .i64 c.num, .int .i64 c.den, .int .i64 c.extra, .bool c.curved] 23)).alloc (.cells #[.int .i64 ka, .int .i64 ta, .slice aa la ca, .int .i64 kb, .int .i64 tb, .slice ab lb cb] 27)) = W at *
  have hlW2 : ¬ (w.heap.size + 1 = W.heap.size) := by omega
  have hlW3 : ¬ (w.heap.size = W.heap.size) := by omega
  obtain ⟨p0, p1, p2, p3, p4, p5⟩ := pair_cells BP
  refine wp_region_into (TwoBoxes W #[.int .i64 ka, .int .i64 ta, .slice aa la ca] #[.int .i64 kb, .int .i64 tb, .slice ab lb cb] 26 5 6 [(15, .pointer (some ⟨w.heap.size + 1, 0, none⟩)), (16, .agg #[.int .i64 ka, .int .i64 ta, .slice aa la ca]), (17, .pointer (some ⟨w.heap.size + 1, 3, none⟩)), (18, .agg #[.int .i64 kb, .int .i64 tb, .slice ab lb cb])]) ?_ ?_
  · go_region_with (fail)
    all_goals
      refine ⟨_, _, ?_, ?_, ?_, ?_, ?_, ?_, rfl⟩
      · omega
      · omega
      · omega
      · first
        | exact ((Blk.new W _ _).alloc _).draws 1
        | (have e := Blk.new (W.alloc (.cells #[.int .i64 kb, .int .i64 tb, .slice ab lb cb] 26)) #[.int .i64 ka, .int .i64 ta, .slice aa la ca] 26; simp only [World.size_alloc] at e; exact e.draws 1)
      · first
        | exact ((Blk.new W _ _).alloc _).draws 1
        | (have e := Blk.new (W.alloc (.cells #[.int .i64 ka, .int .i64 ta, .slice aa la ca] 26)) #[.int .i64 kb, .int .i64 tb, .slice ab lb cb] 26; simp only [World.size_alloc] at e; exact e.draws 1)
      · (repeat (first | exact Below.refl _ _ | assumption | (refine Below.drew ?_) | (refine below_drewN ?_ _) | (refine Below.alloc ?_ (by simp <;> omega) _) | (refine Below.setCell ?_ (by simp <;> omega) _)))
  rintro AA w1 ⟨bx, by', hne, hbx, hby, KA0, KB0, hW1, rfl⟩
  simp only [List.foldl]
  clear p0 p1 p2 p3 p4 p5
  have KA := Lib.hid KA0
  have KB := Lib.hid KB0
  have BC := Lib.hid (BC0.below hW1 hlW0)
  have HB1 : Hid (Below w.heap.size w w1) := Lib.hid (hB0.trans (hW1.mono hB0.size))
  have lx := KA0.lt
  have ly := KB0.lt
  clear KA0 KB0 BC0 BP hB0 hW1 hlW hlW0 hlW2 hlW3
  obtain ⟨a0, a1, a2⟩ := sn_cells KA.out
  obtain ⟨b0, b1, b2⟩ := sn_cells KB.out
  go_wp2_with fail
  have GR := great_f (some ⟨w1.heap.size, 0, none⟩) 2 2 _ _ _ _ (snaps2 w1 ka ta kb tb aa ab la ca lb cb) (by decide)
  rw [hg] at GR
  refine GR.mono ?_; rintro e w2 ⟨rfl, hb2⟩
  have hW2 : Below w1.heap.size w1 w2 := ((Below.refl _ _).alloc (Nat.le_refl _) _).trans (hb2.mono (by simp))
  have HB2 : Hid (Below w.heap.size w w2) := Lib.hid (HB1.out.trans (hW2.mono HB1.out.size))
  have BCn := Lib.hid (BC.out.below hW2 BC.out.lt)
  clear BC
  have BC := BCn
  clear BCn
  have KAn := Lib.hid (KA.out.below hW2 KA.out.lt)
  clear KA
  have KA := KAn
  clear KAn
  have KBn := Lib.hid (KB.out.below hW2 KB.out.lt)
  clear KB
  have KB := KBn
  clear KBn
  clear hb2 hW2 GR a0 a1 a2 b0 b1 b2 lx ly
  obtain ⟨q0, q1, q2, q3, q4, q5, q6, q7, q8, q9, q10⟩ := cfg_cells BC.out
  obtain ⟨a0, a1, a2⟩ := sn_cells KA.out
  obtain ⟨b0, b1, b2⟩ := sn_cells KB.out
  have bt := BT w2 (ha.below HB2.out) (hb.below HB2.out)
  go_wp2_with fail
  refine bt.mono ?_; rintro e w3 ⟨s3, c3, rfl, hp3, hb3⟩
  have HP3 := Lib.hid hp3
  have HB3 : Hid (Below w.heap.size w w3) := Lib.hid (HB2.out.trans (hb3.mono HB2.out.size))
  have BCn := Lib.hid (BC.out.below hb3 BC.out.lt)
  clear BC
  have BC := BCn
  clear BCn
  have KAn := Lib.hid (KA.out.below hb3 KA.out.lt)
  clear KA
  have KA := KAn
  clear KAn
  have KBn := Lib.hid (KB.out.below hb3 KB.out.lt)
  clear KB
  have KB := KBn
  clear KBn
  clear hb3 hp3 bt BT HB1 HB2 q0 q1 q2 q3 q4 q5 q6 q7 q8 q9 q10 a0 a1 a2 b0 b1 b2
  obtain ⟨q0, q1, q2, q3, q4, q5, q6, q7, q8, q9, q10⟩ := cfg_cells BC.out
  obtain ⟨a0, a1, a2⟩ := sn_cells KA.out
  obtain ⟨b0, b1, b2⟩ := sn_cells KB.out
  have bt := CT w3 (ha.below HB3.out) (hb.below HB3.out)
  go_wp2_with fail
  refine bt.mono ?_; rintro e W0 ⟨s4, c4, rfl, hp4, hb4⟩
  have HP4 := Lib.hid hp4
  have HQ4 := Lib.hid (HP3.out.below hb4)
  have HW0 : Hid (Below w.heap.size w W0) := Lib.hid (HB3.out.trans (hb4.mono HB3.out.size))
  have KAn := Lib.hid (KA.out.below hb4 KA.out.lt)
  clear KA
  have KA := KAn
  clear KAn
  have KBn := Lib.hid (KB.out.below hb4 KB.out.lt)
  clear KB
  have KB := KBn
  clear KBn
  clear hb4 hp4 bt CT HB3 HP3 BC q0 q1 q2 q3 q4 q5 q6 q7 q8 q9 q10 a0 a1 a2 b0 b1 b2
  obtain ⟨a0, a1, a2⟩ := sn_cells KA.out
  by_cases h0 : re = 0
  · have e1 := HRN1.out h0
    have hlt0 := HLT0.out h0
    subst h0
    subst e1
    clear HRN0 HRN1 HLT0
    obtain ⟨den, hden⟩ : ∃ d, tb - ta = d := ⟨_, rfl⟩
    rw [hden] at HRP HRQ
    have hd1 : 1 ≤ den := by omega
    have lyb := KB.out.lt
    go_wp2_with fail
    clear a0 a1 a2
    go_loopw [80] (fun i wr => ∃ k : Nat, k ≤ rn ∧ i = .int .i64 k ∧ Below W0.heap.size W0 wr) (fun i _ => rn - (intOf i).toNat)
    case atStart => exact ⟨0, Nat.zero_le _, rfl, Below.refl _ _⟩
    case round =>
      rename_i wr
      obtain ⟨k, hk, rfl, hB⟩ := hrel
      have hsz := hB.size
      by_cases hlt : k < rn
      · obtain ⟨b, off, hea, hbw, hc⟩ := HCA.out k hlt
        subst hea
        have hcw := hc.below (HW0.out.trans (hB.mono HW0.out.size)) hbw
        have hx := hokA k hlt
        have hy : (fdE B (A k).id lb).Ok := fdE_ok hb (A k).id
        obtain ⟨m1, hm1⟩ := ends_first c.curved (A k) (fdE B (A k).id lb) (fdB B (A k).id lb) den hx
        have HM1 : Hid (rp k = ⟨(A k).id, (A k).px, (A k).py, (A k).pz, (A k).ang, m1⟩) := Lib.hid (by rw [HRP.out, hm1])
        have HM2 : Hid (fdB B (A k).id lb = true → (fdE B (A k).id lb).gen = (A k).gen → ∃ m2, rq k = ⟨(A k).id, (fdE B (A k).id lb).px, (fdE B (A k).id lb).py, (fdE B (A k).id lb).pz, (fdE B (A k).id lb).ang, m2⟩) := Lib.hid (fun h1 h2 => by
          rw [HRQ.out, h1]; exact ends_last c.curved _ _ den hx hy hd1 h2)
        have FD := Lib.hid (fun w' (hw : Below w.heap.size w w') => rfind_f kb tb ab lb cb B (A k).id w' (hb.below hw) hlb)
        unfold entV snapV at FD
        have hkl : (k : Int) < rn := by omega
        obtain ⟨b3, o3, hs3, hl3, hq3⟩ := poses_at HQ4.out hlt
        obtain ⟨b4, o4, hs4, hl4, hq4⟩ := poses_at HP4.out hlt
        rw [HM1.out] at hq3
        have QQ3 := Lib.hid hq3
        have QQ4 := Lib.hid hq4
        subst hs3
        subst hs4
        have HB := Lib.hid hB
        clear hc hB hm1 HM1 hq3 hq4
        generalize rq k = pq at *
        generalize fdB B (A k).id lb = fb at *
        generalize fdE B (A k).id lb = y at *
        generalize A k = x at *
        obtain ⟨xid, px, py, pz, vx, vy, vz, ang, gen⟩ := x
        obtain ⟨yid, qx, qy, qz, ux, uy, uz, yang, ygen⟩ := y
        obtain ⟨c0, c1, c2, c3', c4', c5, c6, c7, c8⟩ := hcw
        dsimp only at c0 c1 c2 c3' c4' c5 c6 c7 c8 FD
        have SBr := Lib.hid (KB.out.below HB.out KB.out.lt)
        obtain ⟨b0, b1, b2⟩ := sn_cells SBr.out
        have l0 := SBr.out.lt
        have fd := FD.out _ (HW0.out.trans ((HB.out.alloc hsz (.cells #[.int .i64 xid, .int .i64 px, .int .i64 py, .int .i64 pz, .int .i64 vx, .int .i64 vy, .int .i64 vz, .int .u16 ang, .int .u8 gen] 47)).mono HW0.out.size))
        go_wp2_with fail
        refine fd.mono ?_; rintro e w5 ⟨rfl, hb5⟩
        have X5 := Lib.hid ((Blk.new wr #[.int .i64 xid, .int .i64 px, .int .i64 py, .int .i64 pz, .int .i64 vx, .int .i64 vy, .int .i64 vz, .int .u16 ang, .int .u8 gen] 47).below hb5 (by simp))
        have HB5 : Hid (Below W0.heap.size W0 w5) := Lib.hid ((HB.out.alloc hsz _).trans (hb5.mono (by simp; omega)))
        have l5 := X5.out.lt
        clear hb5 fd FD c0 c1 c2 c3' c4' c5 c6 c7 c8 HB b0 b1 b2 SBr
        go_wp2_with fail
        have X6 := Lib.hid (X5.out.alloc (.cells #[.int .i64 yid, .int .i64 qx, .int .i64 qy, .int .i64 qz, .int .i64 ux, .int .i64 uy, .int .i64 uz, .int .u16 yang, .int .u8 ygen] 47))
        have Y6 := Lib.hid (Blk.new w5 #[.int .i64 yid, .int .i64 qx, .int .i64 qy, .int .i64 qz, .int .i64 ux, .int .i64 uy, .int .i64 uz, .int .u16 yang, .int .u8 ygen] 47)
        have HB6 : Hid (Below W0.heap.size W0 (w5.alloc (.cells #[.int .i64 yid, .int .i64 qx, .int .i64 qy, .int .i64 qz, .int .i64 ux, .int .i64 uy, .int .i64 uz, .int .u16 yang, .int .u8 ygen] 47))) := Lib.hid (HB5.out.alloc HB5.out.size _)
        clear HB5 X5
        generalize w5.alloc (.cells #[.int .i64 yid, .int .i64 qx, .int .i64 qy, .int .i64 qz, .int .i64 ux, .int .i64 uy, .int .i64 uz, .int .u16 yang, .int .u8 ygen] 47) = w6 at *
        obtain ⟨c0, c1, c2, c3', c4', c5, c6, c7, c8⟩ := ent_cells X6.out
        obtain ⟨r0, r1, r2, r3, r4, r5⟩ := PoCells.below QQ3.out HB6.out hl3
        dsimp only at r0 r1 r2 r3 r4 r5
        refine wp_region_calm 17 (by kernel_rfl) (by kernel_rfl) ?_
        simp only [List.take_succ_cons, List.take_zero, List.drop_succ_cons, List.drop_zero]
        repeat (apply wpCalm_step; (next => (intro W hW K hK; have y0 := hW.cell c1; have y1 := hW.cell c2; have y2 := hW.cell c3'; have y3 := hW.cell c7; have y4 := hW.cell r1; have y5 := hW.cell r2; have y6 := hW.cell r3; have y7 := hW.cell r4; go_simp; first | exact ⟨hW, hK⟩ | exact hK)); (next => exact CalmI.self _); (try go_simp))
        refine wpCalm_nil ?_
        intro WC hWC
        have hWC' : Below w6.heap.size w6 WC := hWC
        have X7 := Lib.hid (X6.out.below hWC' X6.out.lt)
        have Y7 := Lib.hid (Y6.out.below hWC' Y6.out.lt)
        have HB7 : Hid (Below W0.heap.size W0 WC) := Lib.hid (HB6.out.trans (hWC'.mono HB6.out.size))
        clear hWC hWC' c0 c1 c2 c3' c4' c5 c6 c7 c8 r0 r1 r2 r3 r4 r5 X6 Y6 HB6 QQ3
        generalize WC = w7 at *
        go_wp2_with fail
        obtain ⟨c0, c1, c2, c3', c4', c5, c6, c7, c8⟩ := ent_cells X7.out
        obtain ⟨d0, d1, d2, d3, d4, d5, d6, d7, d8⟩ := ent_cells Y7.out
        by_cases hm : fb = true ∧ ygen = gen
        · obtain ⟨rfl, rfl⟩ := hm
          obtain ⟨m2, hm2⟩ := HM2.out rfl rfl
          have hq4 := QQ4.out
          rw [hm2] at hq4
          obtain ⟨r0, r1, r2, r3, r4, r5⟩ := PoCells.below hq4 HB7.out hl4
          dsimp only at r0 r1 r2 r3 r4 r5
          refine wp_region_calm 27 (by kernel_rfl) (by kernel_rfl) ?_
          simp only [List.take_succ_cons, List.take_zero, List.drop_succ_cons, List.drop_zero]
          repeat (apply wpCalm_step; (next => (intro W hW K hK; have y0 := hW.cell c8; have y1 := hW.cell d8; have y2 := hW.cell d1; have y3 := hW.cell d2; have y4 := hW.cell d3; have y5 := hW.cell d7; have y6 := hW.cell r1; have y7 := hW.cell r2; have y8 := hW.cell r3; have y9 := hW.cell r4; go_simp; first | exact ⟨hW, hK⟩ | exact hK)); (next => exact CalmI.self _); (try go_simp))
          refine wpCalm_nil ?_
          intro WC hWC
          have HB8 : Hid (Below W0.heap.size W0 WC) := Lib.hid (HB7.out.trans (Below.mono hWC HB7.out.size))
          clear hWC c0 c1 c2 c3' c4' c5 c6 c7 c8 d0 d1 d2 d3 d4 d5 d6 d7 d8 r0 r1 r2 r3 r4 r5
          go_wp2
          go_roundw
          case rel => exact ⟨k + 1, by omega, by go_num, HB8.out⟩
          case measure => simp [intOf]; omega
        · cases fb
          · clear hm
            refine wp_region_calm 27 (by kernel_rfl) (by kernel_rfl) ?_
            simp only [List.take_succ_cons, List.take_zero, List.drop_succ_cons, List.drop_zero]
            repeat (apply wpCalm_step; (next => (intro W hW K hK; have y0 := hW.cell c8; have y1 := hW.cell d8; go_simp; first | exact ⟨hW, hK⟩ | exact hK)); (next => exact CalmI.self _); (try go_simp))
            refine wpCalm_nil ?_
            intro WC hWC
            have HB8 : Hid (Below W0.heap.size W0 WC) := Lib.hid (HB7.out.trans (Below.mono hWC HB7.out.size))
            clear hWC c0 c1 c2 c3' c4' c5 c6 c7 c8 d0 d1 d2 d3 d4 d5 d6 d7 d8
            go_wp2
            go_roundw
            case rel => exact ⟨k + 1, by omega, by go_num, HB8.out⟩
            case measure => simp [intOf]; omega
          · have hgg : (ygen == gen) = false := by simpa using hm
            clear hm
            refine wp_region_calm 27 (by kernel_rfl) (by kernel_rfl) ?_
            simp only [List.take_succ_cons, List.take_zero, List.drop_succ_cons, List.drop_zero]
            repeat (apply wpCalm_step; (next => (intro W hW K hK; have y0 := hW.cell c8; have y1 := hW.cell d8; go_simp; first | exact ⟨hW, hK⟩ | exact hK)); (next => exact CalmI.self _); (try go_simp))
            refine wpCalm_nil ?_
            intro WC hWC
            have HB8 : Hid (Below W0.heap.size W0 WC) := Lib.hid (HB7.out.trans (Below.mono hWC HB7.out.size))
            clear hWC c0 c1 c2 c3' c4' c5 c6 c7 c8 d0 d1 d2 d3 d4 d5 d6 d7 d8
            go_wp2
            go_roundw
            case rel => exact ⟨k + 1, by omega, by go_num, HB8.out⟩
            case measure => simp [intOf]; omega
      · obtain rfl : k = rn := by omega
        have HBE : Hid (Below w.heap.size w wr) := Lib.hid (HW0.out.trans (hB.mono HW0.out.size))
        clear hB
        go_wp2_with fail
        refine (alive19_f _).mono ?_; rintro e w9 ⟨rfl, hb9⟩
        have HB9 : Hid (Below w.heap.size w w9) := Lib.hid (HBE.out.trans (hb9.mono HBE.out.size))
        clear hb9
        go_wp2
        go_ret
        exact ⟨rfl, HB9.out⟩
  · have e1 := HRN0.out h0
    have h0b : (re != 0) = true := by simpa using h0
    subst e1
    clear HRN0 HRN1 HLT0 h0
    go_wp2_with fail
    refine (alive19_f _).mono ?_; rintro e w5 ⟨rfl, hb5⟩
    have HB5 : Hid (Below w.heap.size w w5) := Lib.hid (HW0.out.trans (hb5.mono HW0.out.size))
    clear hb5 a0 a1 a2
    go_wp2
    go_ret
    exact ⟨rfl, HB5.out⟩

theorem poseEnds_walk (r wi bs g l m s n d e : Int) (cu : Bool) (ka ta : Int) (aa : Option Addr) (la ca : Nat) (A : Nat → Ent) (kb tb : Int) (ab : Option Addr) (lb cb : Nat) (B : Nat → Ent) (w : World) (h1 : I64 r) (h2 : I64 wi) (h3 : I64 bs) (h4 : I64 g) (h5 : I64 l) (h6 : I64 m) (h7 : I64 s) (h8 : I64 n) (h9 : I64 d) (h10 : I64 e) (hka : I64 ka) (hta : I64 ta) (hkb : I64 kb) (htb : I64 tb) (ha : EntsAt w aa la A) (hb : EntsAt w ab lb B) :
    Calls Try.prog 5 #[.agg #[.int .i64 r, .int .i64 wi, .int .i64 bs, .int .i64 g, .int .i64 l, .int .i64 m, .int .i64 s, .int .i64 n, .int .i64 d, .int .i64 e, .bool cu], .agg #[.int .i64 ka, .int .i64 ta, .slice aa la ca, .int .i64 kb, .int .i64 tb, .slice ab lb cb]] w fun e w' => e = .returned (.bool true) ∧ Below w.heap.size w w' := by
  cases hg : greatB (two (aa, la, ca) (ab, lb, cb)) 2
  · have l0 := great_le hg 0 (by omega)
    have l1 := great_le hg 1 (by omega)
    simp only [two] at l0 l1
    exact poseEnds_c ⟨r, wi, bs, g, l, m, s, n, d, e, cu⟩ ⟨h1, h2, h3, h4, h5, h6, h7, h8, h9, h10⟩ ka ta aa la ca A kb tb ab lb cb B w hka hta hkb htb ha hb (by omega) (by omega) hg
  · exact poseEnds_g ⟨r, wi, bs, g, l, m, s, n, d, e, cu⟩ ⟨h1, h2, h3, h4, h5, h6, h7, h8, h9, h10⟩ ka ta aa la ca A kb tb ab lb cb B w hka hta hkb htb ha hb hg
end Go.Proofs.Ytobphhbmlhjbcaa
