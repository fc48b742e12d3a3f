/- The law PoseBounds, walked: it returns true. -/
import Derived.Test.YtobphhbmlhjbcaaLaw19d
import Derived.Deep.RegionWith
namespace Go.Proofs.Ytobphhbmlhjbcaa
set_option linter.unusedVariables false
set_option linter.unusedSimpArgs false
open Go.RowKit
set_option maxRecDepth 100000

theorem vbetw_lerp {a0 a1 a2 b0 b1 b2 num den : Int} (h : fineB num den = true) : vbetwF (lerpF a0 b0 num den) (lerpF a1 b1 num den) (lerpF a2 b2 num den) a0 a1 a2 b0 b1 b2 = true := by
  have h0 := lerpF_between (a := a0) (b := b0) h
  have h1 := lerpF_between (a := a1) (b := b1) h
  have h2 := lerpF_between (a := a2) (b := b2) h
  have e : ∀ x a b : Int, min a b ≤ x → x ≤ max a b → clampF x a b = x := fun x a b h1 h2 => by unfold clampF; omega
  unfold vbetwF
  rw [e _ _ _ h0.1 h0.2, e _ _ _ h1.1 h1.2, e _ _ _ h2.1 h2.2]
  simp
theorem vbetw_curve {a0 a1 a2 v0 v1 v2 b0 b1 b2 z0 z1 z2 num den : Int} : vbetwF (curveF a0 v0 b0 z0 num den) (curveF a1 v1 b1 z1 num den) (curveF a2 v2 b2 z2 num den) a0 a1 a2 b0 b1 b2 = true := by
  have h0 := @curveF_between a0 v0 b0 z0 num den
  have h1 := @curveF_between a1 v1 b1 z1 num den
  have h2 := @curveF_between a2 v2 b2 z2 num den
  have e : ∀ x a b : Int, min a b ≤ x → x ≤ max a b → clampF x a b = x := fun x a b h1 h2 => by unfold clampF; omega
  unfold vbetwF
  rw [e _ _ _ h0.1 h0.2, e _ _ _ h1.1 h1.2, e _ _ _ h2.1 h2.2]
  simp
theorem abetw {a b num den : Int} (ha : U16 a) (hb : U16 b) (h : fineB num den = true) : betwF (alerpF a b num den) a b = true := by
  have h1 := lerpF_between (a := 0) (b := diffF a b) h
  have h2 := diffF_bounds a b
  obtain ⟨a1, a2⟩ := ha
  unfold betwF
  refine decide_eq_true ?_
  have e : diffF a (alerpF a b num den) = lerpF 0 (diffF a b) num den := by
    unfold alerpF turnF
    generalize lerpF 0 (diffF a b) num den = t at *
    generalize diffF a b = dd at *
    unfold diffF
    omega
  rw [e]; omega
/-- what is between has its mode, and is between -/
theorem bounds_two {cur : Bool} {x y : Ent} {num den : Int} (hx : x.Ok) (hy : y.Ok) (hf : fineB num den = true) (hg : y.gen = x.gen) : ∃ z1 z2 z3 z4, btwP cur x y true num den = ⟨x.id, z1, z2, z3, z4, if cur = true then 2 else 1⟩ ∧ vbetwF z1 z2 z3 x.px x.py x.pz y.px y.py y.pz = true ∧ betwF z4 x.ang y.ang = true ∧ U16 z4 := by
  unfold btwP
  rw [if_pos ⟨rfl, hg⟩]
  cases cur
  · exact ⟨_, _, _, _, rfl, vbetw_lerp hf, abetw hx.ang hy.ang hf, turnF_u16 _ _⟩
  · exact ⟨_, _, _, _, rfl, vbetw_curve, abetw hx.ang hy.ang hf, turnF_u16 _ _⟩
theorem btw_in {c : Cfg} {ka ta : Int} {aa : Option Addr} {la ca : Nat} {A : Nat → Ent} {kb tb : Int} {ab : Option Addr} {lb cb : Nat} {B : Nat → Ent} {t : Int} (h : btwE c ka ta aa la ca A kb tb ab lb cb B t = 0) : fineB (t - ta) (tb - ta) = true ∧ ta ≤ t ∧ t ≤ tb := by
  have h0 : chk2 c ka ta aa la ca A kb tb ab lb cb B = 0 := by
    by_cases e : chk2 c ka ta aa la ca A kb tb ab lb cb B = 0
    · exact e
    · unfold btwE at h; rw [if_neg e] at h; exact h
  unfold btwE at h
  rw [if_pos h0] at h
  obtain ⟨hf, h1, h2, _, _, _, hn, hd⟩ := part_fine h
  rw [hn, hd] at hf
  exact ⟨hf, h1, h2⟩

set_option maxHeartbeats 4000000 in
theorem poseBounds_g (c : Cfg) (ok : c.Ok) (ka ta : Int) (aa : Option Addr) (la ca : Nat) (A : Nat → Ent) (kb tb : Int) (ab : Option Addr) (lb cb : Nat) (B : Nat → Ent) (at0 : Int) (w : World) (hka : I64 ka) (hta : I64 ta) (hkb : I64 kb) (htb : I64 tb) (ha : EntsAt w aa la A) (hb : EntsAt w ab lb B) (hat : I64 at0) (hg : greatB (two (aa, la, ca) (ab, lb, cb)) 2 = true) :
    Calls Try.prog 8 #[cfgV c, .agg #[.int .i64 ka, .int .i64 ta, .slice aa la ca, .int .i64 kb, .int .i64 tb, .slice ab lb cb], .int .i64 at0] w fun e w' => e = .returned (.bool true) ∧ Below w.heap.size w w' := by
  have BC0 := (Blk.new w #[.int .i64 c.ring, .int .i64 c.window, .int .i64 c.base, .int .i64 c.gain, .int .i64 c.least, .int .i64 c.most, .int .i64 c.slack, .int .i64 c.num, .int .i64 c.den, .int .i64 c.extra, .bool c.curved] 23).alloc (.cells #[.int .i64 ka, .int .i64 ta, .slice aa la ca, .int .i64 kb, .int .i64 tb, .slice ab lb cb] 27)
  have BP := Blk.new (w.alloc (.cells #[.int .i64 c.ring, .int .i64 c.window, .int .i64 c.base, .int .i64 c.gain, .int .i64 c.least, .int .i64 c.most, .int .i64 c.slack, .int .i64 c.num, .int .i64 c.den, .int .i64 c.extra, .bool c.curved] 23)) #[.int .i64 ka, .int .i64 ta, .slice aa la ca, .int .i64 kb, .int .i64 tb, .slice ab lb cb] 27
  have hB0 : Below w.heap.size w ((w.alloc (.cells #[.int .i64 c.ring, .int .i64 c.window, .int .i64 c.base, .int .i64 c.gain, .int .i64 c.least, .int .i64 c.most, .int .i64 c.slack, .int .i64 c.num, .int .i64 c.den, .int .i64 c.extra, .bool c.curved] 23)).alloc (.cells #[.int .i64 ka, .int .i64 ta, .slice aa la ca, .int .i64 kb, .int .i64 tb, .slice ab lb cb] 27)) := ((Below.refl _ _).alloc (Nat.le_refl _) _).alloc (by simp) _
  simp only [World.size_alloc] at BP
  unfold cfgV
  go_enter Try.func8, Try.ntmps8
  go_wp2_with fail
  have hlW : w.heap.size + 1 < ((w.alloc (.cells #[.int .i64 c.ring, .int .i64 c.window, .int .i64 c.base, .int .i64 c.gain, .int .i64 c.least, .int .i64 c.most, .int .i64 c.slack, .int .i64 c.num, .int .i64 c.den, .int .i64 c.extra, .bool c.curved] 23)).alloc (.cells #[.int .i64 ka, .int .i64 ta, .slice aa la ca, .int .i64 kb, .int .i64 tb, .slice ab lb cb] 27)).heap.size := by simp
  have hlW0 : w.heap.size < ((w.alloc (.cells #[.int .i64 c.ring, .int .i64 c.window, .int .i64 c.base, .int .i64 c.gain, .int .i64 c.least, .int .i64 c.most, .int .i64 c.slack, .int .i64 c.num, .int .i64 c.den, .int .i64 c.extra, .bool c.curved] 23)).alloc (.cells #[.int .i64 ka, .int .i64 ta, .slice aa la ca, .int .i64 kb, .int .i64 tb, .slice ab lb cb] 27)).heap.size := Nat.lt_of_succ_lt hlW
  generalize ((w.alloc (.cells #[.int .i64 c.ring, .int .i64 c.window, .int .i64 c.base, .int .i64 c.gain, .int .i64 c.least, .int .i64 c.most, .int .i64 c.slack, .int .i64 c.num, .int .i64 c.den, .int .i64 c.extra, .bool c.curved] 23)).alloc (.cells #[.int .i64 ka, .int .i64 ta, .slice aa la ca, .int .i64 kb, .int .i64 tb, .slice ab lb cb] 27)) = W at *
  have hlW2 : ¬ (w.heap.size + 1 = W.heap.size) := by omega
  have hlW3 : ¬ (w.heap.size = W.heap.size) := by omega
  obtain ⟨p0, p1, p2, p3, p4, p5⟩ := pair_cells BP
  refine wp_region_into (TwoBoxes W #[.int .i64 ka, .int .i64 ta, .slice aa la ca] #[.int .i64 kb, .int .i64 tb, .slice ab lb cb] 26 7 8 [(17, .pointer (some ⟨w.heap.size + 1, 0, none⟩)), (18, .agg #[.int .i64 ka, .int .i64 ta, .slice aa la ca]), (19, .pointer (some ⟨w.heap.size + 1, 3, none⟩)), (20, .agg #[.int .i64 kb, .int .i64 tb, .slice ab lb cb])]) ?_ ?_
  · go_region_with (fail)
    all_goals
      refine ⟨_, _, ?_, ?_, ?_, ?_, ?_, ?_, rfl⟩
      · omega
      · omega
      · omega
      · first
        | exact ((Blk.new W _ _).alloc _).draws 1
        | (have e := Blk.new (W.alloc (.cells #[.int .i64 kb, .int .i64 tb, .slice ab lb cb] 26)) #[.int .i64 ka, .int .i64 ta, .slice aa la ca] 26; simp only [World.size_alloc] at e; exact e.draws 1)
      · first
        | exact ((Blk.new W _ _).alloc _).draws 1
        | (have e := Blk.new (W.alloc (.cells #[.int .i64 ka, .int .i64 ta, .slice aa la ca] 26)) #[.int .i64 kb, .int .i64 tb, .slice ab lb cb] 26; simp only [World.size_alloc] at e; exact e.draws 1)
      · (repeat (first | exact Below.refl _ _ | assumption | (refine Below.drew ?_) | (refine below_drewN ?_ _) | (refine Below.alloc ?_ (by simp <;> omega) _) | (refine Below.setCell ?_ (by simp <;> omega) _)))
  rintro AA w1 ⟨bx, by', hne, hbx, hby, KA0, KB0, hW1, rfl⟩
  simp only [List.foldl]
  clear p0 p1 p2 p3 p4 p5
  have KA := Lib.hid KA0
  have KB := Lib.hid KB0
  have BC := Lib.hid (BC0.below hW1 hlW0)
  have HB1 : Hid (Below w.heap.size w w1) := Lib.hid (hB0.trans (hW1.mono hB0.size))
  have lx := KA0.lt
  have ly := KB0.lt
  clear KA0 KB0 BC0 BP hB0 hW1 hlW hlW0 hlW2 hlW3
  obtain ⟨a0, a1, a2⟩ := sn_cells KA.out
  obtain ⟨b0, b1, b2⟩ := sn_cells KB.out
  go_wp2_with fail
  have GR := great_f (some ⟨w1.heap.size, 0, none⟩) 2 2 _ _ _ _ (snaps2 w1 ka ta kb tb aa ab la ca lb cb) (by decide)
  rw [hg] at GR
  refine GR.mono ?_; rintro e w2 ⟨rfl, hb2⟩
  have HB2 : Hid (Below w.heap.size w w2) := Lib.hid (HB1.out.trans (((Below.refl _ _).alloc (Nat.le_refl _) _).trans (hb2.mono (by simp)) |>.mono HB1.out.size))
  clear hb2 GR
  go_wp2_with fail
  refine (alive19_f _).mono ?_; rintro e w3 ⟨rfl, hb3⟩
  have HB3 : Hid (Below w.heap.size w w3) := Lib.hid (HB2.out.trans (hb3.mono HB2.out.size))
  clear hb3
  go_wp2
  go_ret
  exact ⟨rfl, HB3.out⟩

set_option maxHeartbeats 4000000 in
theorem poseBounds_c (c : Cfg) (ok : c.Ok) (ka ta : Int) (aa : Option Addr) (la ca : Nat) (A : Nat → Ent) (kb tb : Int) (ab : Option Addr) (lb cb : Nat) (B : Nat → Ent) (at0 : Int) (w : World) (hka : I64 ka) (hta : I64 ta) (hkb : I64 kb) (htb : I64 tb) (ha : EntsAt w aa la A) (hb : EntsAt w ab lb B) (hat : I64 at0) (hla : (la : Int) ≤ 4611686018427387904) (hlb : (lb : Int) ≤ 4611686018427387904) (hg : greatB (two (aa, la, ca) (ab, lb, cb)) 2 = false) :
    Calls Try.prog 8 #[cfgV c, .agg #[.int .i64 ka, .int .i64 ta, .slice aa la ca, .int .i64 kb, .int .i64 tb, .slice ab lb cb], .int .i64 at0] w fun e w' => e = .returned (.bool true) ∧ Below w.heap.size w w' := by
  have BC0 := (Blk.new w #[.int .i64 c.ring, .int .i64 c.window, .int .i64 c.base, .int .i64 c.gain, .int .i64 c.least, .int .i64 c.most, .int .i64 c.slack, .int .i64 c.num, .int .i64 c.den, .int .i64 c.extra, .bool c.curved] 23).alloc (.cells #[.int .i64 ka, .int .i64 ta, .slice aa la ca, .int .i64 kb, .int .i64 tb, .slice ab lb cb] 27)
  have BP := Blk.new (w.alloc (.cells #[.int .i64 c.ring, .int .i64 c.window, .int .i64 c.base, .int .i64 c.gain, .int .i64 c.least, .int .i64 c.most, .int .i64 c.slack, .int .i64 c.num, .int .i64 c.den, .int .i64 c.extra, .bool c.curved] 23)) #[.int .i64 ka, .int .i64 ta, .slice aa la ca, .int .i64 kb, .int .i64 tb, .slice ab lb cb] 27
  have hB0 : Below w.heap.size w ((w.alloc (.cells #[.int .i64 c.ring, .int .i64 c.window, .int .i64 c.base, .int .i64 c.gain, .int .i64 c.least, .int .i64 c.most, .int .i64 c.slack, .int .i64 c.num, .int .i64 c.den, .int .i64 c.extra, .bool c.curved] 23)).alloc (.cells #[.int .i64 ka, .int .i64 ta, .slice aa la ca, .int .i64 kb, .int .i64 tb, .slice ab lb cb] 27)) := ((Below.refl _ _).alloc (Nat.le_refl _) _).alloc (by simp) _
  simp only [World.size_alloc] at BP
  have BT := fun w' hA hB => pbtw_f c ka ta aa la ca A kb tb ab lb cb B at0 w' hA hB hla hlb
  have HIN := Lib.hid (fun h => btw_in (c := c) (aa := aa) (la := la) (ca := ca) (A := A) (ab := ab) (lb := lb) (cb := cb) (B := B) (ka := ka) (ta := ta) (kb := kb) (tb := tb) (t := at0) h)
  unfold Rets at BT
  have HRN0 : Hid (btwE c ka ta aa la ca A kb tb ab lb cb B at0 ≠ 0 → okN (btwE c ka ta aa la ca A kb tb ab lb cb B at0) la = 0) := Lib.hid (fun h => by unfold okN; rw [if_neg h])
  have HRN1 : Hid (btwE c ka ta aa la ca A kb tb ab lb cb B at0 = 0 → okN (btwE c ka ta aa la ca A kb tb ab lb cb B at0) la = la) := Lib.hid (fun h => by unfold okN; rw [if_pos h])
  generalize okN (btwE c ka ta aa la ca A kb tb ab lb cb B at0) la = rn at *
  generalize btwE c ka ta aa la ca A kb tb ab lb cb B at0 = re at *
  obtain ⟨rp, hrp⟩ : ∃ p, btwF c.curved A B lb (at0 - ta) (tb - ta) = p := ⟨_, rfl⟩
  rw [hrp] at BT
  have HRP : Hid (∀ k, rp k = btwP c.curved (A k) (fdE B (A k).id lb) (fdB B (A k).id lb) (at0 - ta) (tb - ta)) := Lib.hid (fun k => by rw [← hrp]; rfl)
  clear hrp
  have hokA := ha.1
  have HCA : Hid (∀ k, k < la → ∃ b off, aa = some ⟨b, off, none⟩ ∧ b < w.heap.size ∧ EntCells w b (off + k * 9) (A k)) := Lib.hid (fun k hk => by
    rcases ha.2 with h0 | ⟨b, off, e, hb, hc⟩
    · omega
    · exact ⟨b, off, e, hb, hc k hk⟩)
  unfold cfgV snapV at BT
  unfold cfgV
  go_enter Try.func8, Try.ntmps8
  go_wp2_with fail
  have hlW : w.heap.size + 1 < ((w.alloc (.cells #[.int .i64 c.ring, .int .i64 c.window, .int .i64 c.base, .int .i64 c.gain, .int .i64 c.least, .int .i64 c.most, .int .i64 c.slack, .int .i64 c.num, .int .i64 c.den, .int .i64 c.extra, .bool c.curved] 23)).alloc (.cells #[.int .i64 ka, .int .i64 ta, .slice aa la ca, .int .i64 kb, .int .i64 tb, .slice ab lb cb] 27)).heap.size := by simp
  have hlW0 : w.heap.size < ((w.alloc (.cells #[.int .i64 c.ring, .int .i64 c.window, .int .i64 c.base, .int .i64 c.gain, .int .i64 c.least, .int .i64 c.most, .int .i64 c.slack, .int .i64 c.num, .int .i64 c.den, .int .i64 c.extra, .bool c.curved] 23)).alloc (.cells #[.int .i64 ka, .int .i64 ta, .slice aa la ca, .int .i64 kb, .int .i64 tb, .slice ab lb cb] 27)).heap.size := Nat.lt_of_succ_lt hlW
  generalize ((w.alloc (.cells #[.int .i64 c.ring, .int .i64 c.window, .int .i64 c.base, .int .i64 c.gain, .int .i64 c.least, .int .i64 c.most, .int .i64 c.slack, .int .i64 c.num, .int .i64 c.den, .int .i64 c.extra, .bool c.curved] 23)).alloc (.cells #[.int .i64 ka, .int .i64 ta, .slice aa la ca, .int .i64 kb, .int .i64 tb, .slice ab lb cb] 27)) = W at *
  have hlW2 : ¬ (w.heap.size + 1 = W.heap.size) := by omega
  have hlW3 : ¬ (w.heap.size = W.heap.size) := by omega
  obtain ⟨p0, p1, p2, p3, p4, p5⟩ := pair_cells BP
  refine wp_region_into (TwoBoxes W #[.int .i64 ka, .int .i64 ta, .slice aa la ca] #[.int .i64 kb, .int .i64 tb, .slice ab lb cb] 26 7 8 [(17, .pointer (some ⟨w.heap.size + 1, 0, none⟩)), (18, .agg #[.int .i64 ka, .int .i64 ta, .slice aa la ca]), (19, .pointer (some ⟨w.heap.size + 1, 3, none⟩)), (20, .agg #[.int .i64 kb, .int .i64 tb, .slice ab lb cb])]) ?_ ?_
  · go_region_with (fail)
    all_goals
      refine ⟨_, _, ?_, ?_, ?_, ?_, ?_, ?_, rfl⟩
      · omega
      · omega
      · omega
      · first
        | exact ((Blk.new W _ _).alloc _).draws 1
        | (have e := Blk.new (W.alloc (.cells #[.int .i64 kb, .int .i64 tb, .slice ab lb cb] 26)) #[.int .i64 ka, .int .i64 ta, .slice aa la ca] 26; simp only [World.size_alloc] at e; exact e.draws 1)
      · first
        | exact ((Blk.new W _ _).alloc _).draws 1
        | (have e := Blk.new (W.alloc (.cells #[.int .i64 ka, .int .i64 ta, .slice aa la ca] 26)) #[.int .i64 kb, .int .i64 tb, .slice ab lb cb] 26; simp only [World.size_alloc] at e; exact e.draws 1)
      · (repeat (first | exact Below.refl _ _ | assumption | (refine Below.drew ?_) | (refine below_drewN ?_ _) | (refine Below.alloc ?_ (by simp <;> omega) _) | (refine Below.setCell ?_ (by simp <;> omega) _)))
  rintro AA w1 ⟨bx, by', hne, hbx, hby, KA0, KB0, hW1, rfl⟩
  simp only [List.foldl]
  clear p0 p1 p2 p3 p4 p5
  have KA := Lib.hid KA0
  have KB := Lib.hid KB0
  have BC := Lib.hid (BC0.below hW1 hlW0)
  have HB1 : Hid (Below w.heap.size w w1) := Lib.hid (hB0.trans (hW1.mono hB0.size))
  have lx := KA0.lt
  have ly := KB0.lt
  clear KA0 KB0 BC0 BP hB0 hW1 hlW hlW0 hlW2 hlW3
  obtain ⟨a0, a1, a2⟩ := sn_cells KA.out
  obtain ⟨b0, b1, b2⟩ := sn_cells KB.out
  go_wp2_with fail
  have GR := great_f (some ⟨w1.heap.size, 0, none⟩) 2 2 _ _ _ _ (snaps2 w1 ka ta kb tb aa ab la ca lb cb) (by decide)
  rw [hg] at GR
  refine GR.mono ?_; rintro e w2 ⟨rfl, hb2⟩
  have hW2 : Below w1.heap.size w1 w2 := ((Below.refl _ _).alloc (Nat.le_refl _) _).trans (hb2.mono (by simp))
  have HB2 : Hid (Below w.heap.size w w2) := Lib.hid (HB1.out.trans (hW2.mono HB1.out.size))
  have BCn := Lib.hid (BC.out.below hW2 BC.out.lt)
  clear BC
  have BC := BCn
  clear BCn
  have KAn := Lib.hid (KA.out.below hW2 KA.out.lt)
  clear KA
  have KA := KAn
  clear KAn
  have KBn := Lib.hid (KB.out.below hW2 KB.out.lt)
  clear KB
  have KB := KBn
  clear KBn
  clear hb2 hW2 GR a0 a1 a2 b0 b1 b2 lx ly
  obtain ⟨q0, q1, q2, q3, q4, q5, q6, q7, q8, q9, q10⟩ := cfg_cells BC.out
  obtain ⟨a0, a1, a2⟩ := sn_cells KA.out
  obtain ⟨b0, b1, b2⟩ := sn_cells KB.out
  have bt := BT w2 (ha.below HB2.out) (hb.below HB2.out)
  go_wp2_with fail
  refine bt.mono ?_; rintro e W0 ⟨s3, c3, rfl, hp3, hb3⟩
  have HP3 := Lib.hid hp3
  have HW0 : Hid (Below w.heap.size w W0) := Lib.hid (HB2.out.trans (hb3.mono HB2.out.size))
  have BCn := Lib.hid (BC.out.below hb3 BC.out.lt)
  clear BC
  have BC := BCn
  clear BCn
  have KAn := Lib.hid (KA.out.below hb3 KA.out.lt)
  clear KA
  have KA := KAn
  clear KAn
  have KBn := Lib.hid (KB.out.below hb3 KB.out.lt)
  clear KB
  have KB := KBn
  clear KBn
  clear hb3 hp3 bt BT HB1 HB2 q0 q1 q2 q3 q4 q5 q6 q7 q8 q9 q10 a0 a1 a2 b0 b1 b2
  obtain ⟨a0, a1, a2⟩ := sn_cells KA.out
  obtain ⟨b0, b1, b2⟩ := sn_cells KB.out
  by_cases h0 : re = 0
  · have e1 := HRN1.out h0
    obtain ⟨hf, hi1, hi2⟩ := HIN.out h0
    subst h0
    subst e1
    clear HRN0 HRN1 HIN
    have g1 : decide (at0 < ta) = false := decide_eq_false (by omega)
    have g2 : decide (tb < at0) = false := decide_eq_false (by omega)
    have lkb := KB.out.lt
    have lka := KA.out.lt
    go_wp2_with fail
    clear a0 a1 a2 b0 b1 b2
    go_loopw [62] (fun i wr => ∃ k : Nat, k ≤ rn ∧ i = .int .i64 k ∧ Below W0.heap.size W0 wr) (fun i _ => rn - (intOf i).toNat)
    case atStart => exact ⟨0, Nat.zero_le _, rfl, Below.refl _ _⟩
    case round =>
      rename_i wr
      obtain ⟨k, hk, rfl, hB⟩ := hrel
      have hsz := hB.size
      by_cases hlt : k < rn
      · obtain ⟨b, off, hea, hbw, hc⟩ := HCA.out k hlt
        subst hea
        have hcw := hc.below (HW0.out.trans (hB.mono HW0.out.size)) hbw
        have hx := hokA k hlt
        have hy : (fdE B (A k).id lb).Ok := fdE_ok hb (A k).id
        have FD := Lib.hid (fun w' (hw : Below w.heap.size w w') => rfind_f kb tb ab lb cb B (A k).id w' (hb.below hw) hlb)
        unfold entV snapV at FD
        have hkl : (k : Int) < rn := by omega
        obtain ⟨b3, o3, hs3, hl3, hq3⟩ := poses_at HP3.out hlt
        subst hs3
        have HB := Lib.hid hB
        have HM : Hid (fdB B (A k).id lb = true → (fdE B (A k).id lb).gen = (A k).gen → ∃ z1 z2 z3 z4, rp k = ⟨(A k).id, z1, z2, z3, z4, if c.curved = true then 2 else 1⟩ ∧ vbetwF z1 z2 z3 (A k).px (A k).py (A k).pz (fdE B (A k).id lb).px (fdE B (A k).id lb).py (fdE B (A k).id lb).pz = true ∧ betwF z4 (A k).ang (fdE B (A k).id lb).ang = true ∧ U16 z4) := Lib.hid (fun h1 h2 => by
          rw [HRP.out, h1]; exact bounds_two hx hy hf h2)
        have HN : Hid (¬ (fdB B (A k).id lb = true ∧ (fdE B (A k).id lb).gen = (A k).gen) → rp k = exactP (A k)) := Lib.hid (fun h => by rw [HRP.out]; unfold btwP; rw [if_neg h])
        clear hc hB
        generalize rp k = pk at *
        generalize fdB B (A k).id lb = fb at *
        generalize fdE B (A k).id lb = y at *
        generalize A k = x at *
        obtain ⟨xid, px, py, pz, vx, vy, vz, ang, gen⟩ := x
        obtain ⟨yid, qx, qy, qz, ux, uy, uz, yang, ygen⟩ := y
        obtain ⟨c0, c1, c2, c3', c4', c5, c6, c7, c8⟩ := hcw
        dsimp only at c0 c1 c2 c3' c4' c5 c6 c7 c8 FD
        have SBr := Lib.hid (KB.out.below HB.out KB.out.lt)
        have SAr := Lib.hid (KA.out.below HB.out KA.out.lt)
        obtain ⟨a0, a1, a2⟩ := sn_cells SAr.out
        obtain ⟨b0, b1, b2⟩ := sn_cells SBr.out
        have l0 := SBr.out.lt
        have l0a := SAr.out.lt
        have l3 : b3 < wr.heap.size := Nat.lt_of_lt_of_le hl3 hsz
        have lb0 : b < wr.heap.size := Nat.lt_of_lt_of_le (Nat.lt_of_lt_of_le hbw HW0.out.size) hsz
        by_cases hm : fb = true ∧ ygen = gen
        · obtain ⟨rfl, rfl⟩ := hm
          obtain ⟨z1, z2, z3, z4, hm1, hv, hav, hu4⟩ := HM.out rfl rfl
          have VB := Lib.hid (vbetw_f z1 z2 z3 px py pz qx qy qz)
          have AB := Lib.hid (betw_f z4 ang yang hu4 hx.ang hy.ang)
          dsimp only at hv hav
          rw [hv] at VB
          rw [hav] at AB
          clear HM HN hv hav
          cases hcu : c.curved
          · have fd := FD.out _ (HW0.out.trans (((HB.out.alloc hsz (.cells #[.int .i64 xid, .int .i64 z1, .int .i64 z2, .int .i64 z3, .int .u16 z4, .int .i64 1] 45)).alloc (by simp; omega) (.cells #[.int .i64 xid, .int .i64 px, .int .i64 py, .int .i64 pz, .int .i64 vx, .int .i64 vy, .int .i64 vz, .int .u16 ang, .int .u8 ygen] 47)).mono HW0.out.size))
            rw [hcu] at hm1
            dsimp only at hm1
            rw [show (if false = true then (2 : Int) else 1) = 1 by decide] at hm1
            rw [hm1] at hq3
            obtain ⟨r0, r1, r2, r3, r4, r5⟩ := PoCells.below hq3 HB.out hl3
            dsimp only at r0 r1 r2 r3 r4 r5
            clear hq3
            go_wp2_with fail
            refine fd.mono ?_; rintro e w5 ⟨rfl, hb5⟩
            have X5 := Lib.hid ((Blk.new (wr.alloc (.cells #[.int .i64 xid, .int .i64 z1, .int .i64 z2, .int .i64 z3, .int .u16 z4, .int .i64 1] 45)) #[.int .i64 xid, .int .i64 px, .int .i64 py, .int .i64 pz, .int .i64 vx, .int .i64 vy, .int .i64 vz, .int .u16 ang, .int .u8 ygen] 47).below hb5 (by simp))
            have P5 := Lib.hid (((Blk.new wr #[.int .i64 xid, .int .i64 z1, .int .i64 z2, .int .i64 z3, .int .u16 z4, .int .i64 1] 45).alloc (.cells #[.int .i64 xid, .int .i64 px, .int .i64 py, .int .i64 pz, .int .i64 vx, .int .i64 vy, .int .i64 vz, .int .u16 ang, .int .u8 ygen] 47)).below hb5 (by simp; omega))
            have HB5 : Hid (Below W0.heap.size W0 w5) := Lib.hid (((HB.out.alloc hsz _).alloc (by simp; omega) _).trans (hb5.mono (by simp; omega)))
            have hx5 := X5.out
            simp only [World.size_alloc] at hx5
            have X5' := Lib.hid hx5
            have l5 := hx5.lt
            have l5p := P5.out.lt
            clear hb5 fd FD c0 c1 c2 c3' c4' c5 c6 c7 c8 HB b0 b1 b2 SBr a0 a1 a2 SAr r0 r1 r2 r3 r4 r5 hx5 X5
            have X6 := Lib.hid (X5'.out.alloc (.cells #[.int .i64 yid, .int .i64 qx, .int .i64 qy, .int .i64 qz, .int .i64 ux, .int .i64 uy, .int .i64 uz, .int .u16 yang, .int .u8 ygen] 47))
            have P6 := Lib.hid (P5.out.alloc (.cells #[.int .i64 yid, .int .i64 qx, .int .i64 qy, .int .i64 qz, .int .i64 ux, .int .i64 uy, .int .i64 uz, .int .u16 yang, .int .u8 ygen] 47))
            have Y6 := Lib.hid (Blk.new w5 #[.int .i64 yid, .int .i64 qx, .int .i64 qy, .int .i64 qz, .int .i64 ux, .int .i64 uy, .int .i64 uz, .int .u16 yang, .int .u8 ygen] 47)
            have HB6 : Hid (Below W0.heap.size W0 (w5.alloc (.cells #[.int .i64 yid, .int .i64 qx, .int .i64 qy, .int .i64 qz, .int .i64 ux, .int .i64 uy, .int .i64 uz, .int .u16 yang, .int .u8 ygen] 47))) := Lib.hid (HB5.out.alloc HB5.out.size _)
            have l6 := X6.out.lt
            have l6p := P6.out.lt
            have l6y := Y6.out.lt
            have SC6 := Lib.hid (BC.out.below HB6.out BC.out.lt)
            obtain ⟨c0, c1, c2, c3', c4', c5, c6, c7, c8⟩ := ent_cells X5'.out
            obtain ⟨r0, r1, r2, r3, r4, r5⟩ := po_cells P5.out
            have SC5 := Lib.hid (BC.out.below HB5.out BC.out.lt)
            have q10 : w5.cell? ⟨w.heap.size, 10, none⟩ = some (.bool c.curved) := (cfg_cells SC5.out).2.2.2.2.2.2.2.2.2.2
            have l5c := SC5.out.lt
            rw [hcu] at q10
            go_wp2_with fail
            refine (VB.out _).mono ?_; rintro e w8 ⟨rfl, hb8⟩
            have X8 := Lib.hid (X6.out.below hb8 X6.out.lt)
            have P8 := Lib.hid (P6.out.below hb8 P6.out.lt)
            have Y8 := Lib.hid (Y6.out.below hb8 Y6.out.lt)
            have HB8 : Hid (Below W0.heap.size W0 w8) := Lib.hid (HB6.out.trans (hb8.mono HB6.out.size))
            clear hb8 c0 c1 c2 c3' c4' c5 c6 c7 c8 r0 r1 r2 r3 r4 r5 q10 X6 P6 Y6 SC6 SC5 HB6
            obtain ⟨c0, c1, c2, c3', c4', c5, c6, c7, c8⟩ := ent_cells X8.out
            obtain ⟨d0, d1, d2, d3, d4, d5, d6, d7, d8⟩ := ent_cells Y8.out
            obtain ⟨r0, r1, r2, r3, r4, r5⟩ := po_cells P8.out
            go_wp2_with fail
            refine (AB.out _).mono ?_; rintro e w9 ⟨rfl, rfl⟩
            go_wp2
            go_roundw
            case rel => exact ⟨k + 1, by omega, by go_num, HB8.out⟩
            case measure => simp [intOf]; omega
          · have fd := FD.out _ (HW0.out.trans (((HB.out.alloc hsz (.cells #[.int .i64 xid, .int .i64 z1, .int .i64 z2, .int .i64 z3, .int .u16 z4, .int .i64 2] 45)).alloc (by simp; omega) (.cells #[.int .i64 xid, .int .i64 px, .int .i64 py, .int .i64 pz, .int .i64 vx, .int .i64 vy, .int .i64 vz, .int .u16 ang, .int .u8 ygen] 47)).mono HW0.out.size))
            rw [hcu] at hm1
            dsimp only at hm1
            rw [show (if true = true then (2 : Int) else 1) = 2 by decide] at hm1
            rw [hm1] at hq3
            obtain ⟨r0, r1, r2, r3, r4, r5⟩ := PoCells.below hq3 HB.out hl3
            dsimp only at r0 r1 r2 r3 r4 r5
            clear hq3
            go_wp2_with fail
            refine fd.mono ?_; rintro e w5 ⟨rfl, hb5⟩
            have X5 := Lib.hid ((Blk.new (wr.alloc (.cells #[.int .i64 xid, .int .i64 z1, .int .i64 z2, .int .i64 z3, .int .u16 z4, .int .i64 2] 45)) #[.int .i64 xid, .int .i64 px, .int .i64 py, .int .i64 pz, .int .i64 vx, .int .i64 vy, .int .i64 vz, .int .u16 ang, .int .u8 ygen] 47).below hb5 (by simp))
            have P5 := Lib.hid (((Blk.new wr #[.int .i64 xid, .int .i64 z1, .int .i64 z2, .int .i64 z3, .int .u16 z4, .int .i64 2] 45).alloc (.cells #[.int .i64 xid, .int .i64 px, .int .i64 py, .int .i64 pz, .int .i64 vx, .int .i64 vy, .int .i64 vz, .int .u16 ang, .int .u8 ygen] 47)).below hb5 (by simp; omega))
            have HB5 : Hid (Below W0.heap.size W0 w5) := Lib.hid (((HB.out.alloc hsz _).alloc (by simp; omega) _).trans (hb5.mono (by simp; omega)))
            have hx5 := X5.out
            simp only [World.size_alloc] at hx5
            have X5' := Lib.hid hx5
            have l5 := hx5.lt
            have l5p := P5.out.lt
            clear hb5 fd FD c0 c1 c2 c3' c4' c5 c6 c7 c8 HB b0 b1 b2 SBr a0 a1 a2 SAr r0 r1 r2 r3 r4 r5 hx5 X5
            have X6 := Lib.hid (X5'.out.alloc (.cells #[.int .i64 yid, .int .i64 qx, .int .i64 qy, .int .i64 qz, .int .i64 ux, .int .i64 uy, .int .i64 uz, .int .u16 yang, .int .u8 ygen] 47))
            have P6 := Lib.hid (P5.out.alloc (.cells #[.int .i64 yid, .int .i64 qx, .int .i64 qy, .int .i64 qz, .int .i64 ux, .int .i64 uy, .int .i64 uz, .int .u16 yang, .int .u8 ygen] 47))
            have Y6 := Lib.hid (Blk.new w5 #[.int .i64 yid, .int .i64 qx, .int .i64 qy, .int .i64 qz, .int .i64 ux, .int .i64 uy, .int .i64 uz, .int .u16 yang, .int .u8 ygen] 47)
            have HB6 : Hid (Below W0.heap.size W0 (w5.alloc (.cells #[.int .i64 yid, .int .i64 qx, .int .i64 qy, .int .i64 qz, .int .i64 ux, .int .i64 uy, .int .i64 uz, .int .u16 yang, .int .u8 ygen] 47))) := Lib.hid (HB5.out.alloc HB5.out.size _)
            have l6 := X6.out.lt
            have l6p := P6.out.lt
            have l6y := Y6.out.lt
            have SC6 := Lib.hid (BC.out.below HB6.out BC.out.lt)
            obtain ⟨c0, c1, c2, c3', c4', c5, c6, c7, c8⟩ := ent_cells X5'.out
            obtain ⟨r0, r1, r2, r3, r4, r5⟩ := po_cells P5.out
            have SC5 := Lib.hid (BC.out.below HB5.out BC.out.lt)
            have q10 : w5.cell? ⟨w.heap.size, 10, none⟩ = some (.bool c.curved) := (cfg_cells SC5.out).2.2.2.2.2.2.2.2.2.2
            have l5c := SC5.out.lt
            rw [hcu] at q10
            go_wp2_with fail
            refine (VB.out _).mono ?_; rintro e w8 ⟨rfl, hb8⟩
            have X8 := Lib.hid (X6.out.below hb8 X6.out.lt)
            have P8 := Lib.hid (P6.out.below hb8 P6.out.lt)
            have Y8 := Lib.hid (Y6.out.below hb8 Y6.out.lt)
            have HB8 : Hid (Below W0.heap.size W0 w8) := Lib.hid (HB6.out.trans (hb8.mono HB6.out.size))
            clear hb8 c0 c1 c2 c3' c4' c5 c6 c7 c8 r0 r1 r2 r3 r4 r5 q10 X6 P6 Y6 SC6 SC5 HB6
            obtain ⟨c0, c1, c2, c3', c4', c5, c6, c7, c8⟩ := ent_cells X8.out
            obtain ⟨d0, d1, d2, d3, d4, d5, d6, d7, d8⟩ := ent_cells Y8.out
            obtain ⟨r0, r1, r2, r3, r4, r5⟩ := po_cells P8.out
            go_wp2_with fail
            refine (AB.out _).mono ?_; rintro e w9 ⟨rfl, rfl⟩
            go_wp2
            go_roundw
            case rel => exact ⟨k + 1, by omega, by go_num, HB8.out⟩
            case measure => simp [intOf]; omega
        · have hm1 := HN.out hm
          unfold exactP at hm1
          dsimp only at hm1
          clear HM HN
          have fd := FD.out _ (HW0.out.trans (((HB.out.alloc hsz (.cells #[.int .i64 xid, .int .i64 px, .int .i64 py, .int .i64 pz, .int .u16 ang, .int .i64 0] 45)).alloc (by simp; omega) (.cells #[.int .i64 xid, .int .i64 px, .int .i64 py, .int .i64 pz, .int .i64 vx, .int .i64 vy, .int .i64 vz, .int .u16 ang, .int .u8 gen] 47)).mono HW0.out.size))
          cases fb
          · clear hm
            rw [hm1] at hq3
            obtain ⟨r0, r1, r2, r3, r4, r5⟩ := PoCells.below hq3 HB.out hl3
            dsimp only at r0 r1 r2 r3 r4 r5
            clear hq3
            go_wp2_with fail
            refine fd.mono ?_; rintro e w5 ⟨rfl, hb5⟩
            have X5 := Lib.hid ((Blk.new (wr.alloc (.cells #[.int .i64 xid, .int .i64 px, .int .i64 py, .int .i64 pz, .int .u16 ang, .int .i64 0] 45)) #[.int .i64 xid, .int .i64 px, .int .i64 py, .int .i64 pz, .int .i64 vx, .int .i64 vy, .int .i64 vz, .int .u16 ang, .int .u8 gen] 47).below hb5 (by simp))
            have P5 := Lib.hid (((Blk.new wr #[.int .i64 xid, .int .i64 px, .int .i64 py, .int .i64 pz, .int .u16 ang, .int .i64 0] 45).alloc (.cells #[.int .i64 xid, .int .i64 px, .int .i64 py, .int .i64 pz, .int .i64 vx, .int .i64 vy, .int .i64 vz, .int .u16 ang, .int .u8 gen] 47)).below hb5 (by simp; omega))
            have HB5 : Hid (Below W0.heap.size W0 w5) := Lib.hid (((HB.out.alloc hsz _).alloc (by simp; omega) _).trans (hb5.mono (by simp; omega)))
            have hx5 := X5.out
            simp only [World.size_alloc] at hx5
            have X5' := Lib.hid hx5
            have l5 := hx5.lt
            have l5p := P5.out.lt
            clear hb5 fd FD c0 c1 c2 c3' c4' c5 c6 c7 c8 HB b0 b1 b2 SBr a0 a1 a2 SAr r0 r1 r2 r3 r4 r5 hx5 X5
            have X6 := Lib.hid (X5'.out.alloc (.cells #[.int .i64 yid, .int .i64 qx, .int .i64 qy, .int .i64 qz, .int .i64 ux, .int .i64 uy, .int .i64 uz, .int .u16 yang, .int .u8 ygen] 47))
            have P6 := Lib.hid (P5.out.alloc (.cells #[.int .i64 yid, .int .i64 qx, .int .i64 qy, .int .i64 qz, .int .i64 ux, .int .i64 uy, .int .i64 uz, .int .u16 yang, .int .u8 ygen] 47))
            have Y6 := Lib.hid (Blk.new w5 #[.int .i64 yid, .int .i64 qx, .int .i64 qy, .int .i64 qz, .int .i64 ux, .int .i64 uy, .int .i64 uz, .int .u16 yang, .int .u8 ygen] 47)
            have HB6 : Hid (Below W0.heap.size W0 (w5.alloc (.cells #[.int .i64 yid, .int .i64 qx, .int .i64 qy, .int .i64 qz, .int .i64 ux, .int .i64 uy, .int .i64 uz, .int .u16 yang, .int .u8 ygen] 47))) := Lib.hid (HB5.out.alloc HB5.out.size _)
            have l6 := X6.out.lt
            have l6p := P6.out.lt
            have l6y := Y6.out.lt
            have SC6 := Lib.hid (BC.out.below HB6.out BC.out.lt)
            obtain ⟨c0, c1, c2, c3', c4', c5, c6, c7, c8⟩ := ent_cells X5'.out
            obtain ⟨r0, r1, r2, r3, r4, r5⟩ := po_cells P5.out
            have SC5 := Lib.hid (BC.out.below HB5.out BC.out.lt)
            have q10 : w5.cell? ⟨w.heap.size, 10, none⟩ = some (.bool c.curved) := (cfg_cells SC5.out).2.2.2.2.2.2.2.2.2.2
            have l5c := SC5.out.lt
            go_wp2
            go_roundw
            case rel => exact ⟨k + 1, by omega, by go_num, HB6.out⟩
            case measure => simp [intOf]; omega
          · have hgg : (gen == ygen) = false := by simp; intro e; exact hm ⟨rfl, e.symm⟩
            clear hm
            rw [hm1] at hq3
            obtain ⟨r0, r1, r2, r3, r4, r5⟩ := PoCells.below hq3 HB.out hl3
            dsimp only at r0 r1 r2 r3 r4 r5
            clear hq3
            go_wp2_with fail
            refine fd.mono ?_; rintro e w5 ⟨rfl, hb5⟩
            have X5 := Lib.hid ((Blk.new (wr.alloc (.cells #[.int .i64 xid, .int .i64 px, .int .i64 py, .int .i64 pz, .int .u16 ang, .int .i64 0] 45)) #[.int .i64 xid, .int .i64 px, .int .i64 py, .int .i64 pz, .int .i64 vx, .int .i64 vy, .int .i64 vz, .int .u16 ang, .int .u8 gen] 47).below hb5 (by simp))
            have P5 := Lib.hid (((Blk.new wr #[.int .i64 xid, .int .i64 px, .int .i64 py, .int .i64 pz, .int .u16 ang, .int .i64 0] 45).alloc (.cells #[.int .i64 xid, .int .i64 px, .int .i64 py, .int .i64 pz, .int .i64 vx, .int .i64 vy, .int .i64 vz, .int .u16 ang, .int .u8 gen] 47)).below hb5 (by simp; omega))
            have HB5 : Hid (Below W0.heap.size W0 w5) := Lib.hid (((HB.out.alloc hsz _).alloc (by simp; omega) _).trans (hb5.mono (by simp; omega)))
            have hx5 := X5.out
            simp only [World.size_alloc] at hx5
            have X5' := Lib.hid hx5
            have l5 := hx5.lt
            have l5p := P5.out.lt
            clear hb5 fd FD c0 c1 c2 c3' c4' c5 c6 c7 c8 HB b0 b1 b2 SBr a0 a1 a2 SAr r0 r1 r2 r3 r4 r5 hx5 X5
            have X6 := Lib.hid (X5'.out.alloc (.cells #[.int .i64 yid, .int .i64 qx, .int .i64 qy, .int .i64 qz, .int .i64 ux, .int .i64 uy, .int .i64 uz, .int .u16 yang, .int .u8 ygen] 47))
            have P6 := Lib.hid (P5.out.alloc (.cells #[.int .i64 yid, .int .i64 qx, .int .i64 qy, .int .i64 qz, .int .i64 ux, .int .i64 uy, .int .i64 uz, .int .u16 yang, .int .u8 ygen] 47))
            have Y6 := Lib.hid (Blk.new w5 #[.int .i64 yid, .int .i64 qx, .int .i64 qy, .int .i64 qz, .int .i64 ux, .int .i64 uy, .int .i64 uz, .int .u16 yang, .int .u8 ygen] 47)
            have HB6 : Hid (Below W0.heap.size W0 (w5.alloc (.cells #[.int .i64 yid, .int .i64 qx, .int .i64 qy, .int .i64 qz, .int .i64 ux, .int .i64 uy, .int .i64 uz, .int .u16 yang, .int .u8 ygen] 47))) := Lib.hid (HB5.out.alloc HB5.out.size _)
            have l6 := X6.out.lt
            have l6p := P6.out.lt
            have l6y := Y6.out.lt
            have SC6 := Lib.hid (BC.out.below HB6.out BC.out.lt)
            obtain ⟨c0, c1, c2, c3', c4', c5, c6, c7, c8⟩ := ent_cells X5'.out
            obtain ⟨r0, r1, r2, r3, r4, r5⟩ := po_cells P5.out
            have SC5 := Lib.hid (BC.out.below HB5.out BC.out.lt)
            have q10 : w5.cell? ⟨w.heap.size, 10, none⟩ = some (.bool c.curved) := (cfg_cells SC5.out).2.2.2.2.2.2.2.2.2.2
            have l5c := SC5.out.lt
            go_wp2
            go_roundw
            case rel => exact ⟨k + 1, by omega, by go_num, HB6.out⟩
            case measure => simp [intOf]; omega
      · obtain rfl : k = rn := by omega
        have HBE : Hid (Below w.heap.size w wr) := Lib.hid (HW0.out.trans (hB.mono HW0.out.size))
        clear hB
        go_wp2_with fail
        refine (alive19_f _).mono ?_; rintro e w9 ⟨rfl, hb9⟩
        have HB9 : Hid (Below w.heap.size w w9) := Lib.hid (HBE.out.trans (hb9.mono HBE.out.size))
        clear hb9
        go_wp2
        go_ret
        exact ⟨rfl, HB9.out⟩
  · have e1 := HRN0.out h0
    have h0b : (re != 0) = true := by simpa using h0
    subst e1
    clear HRN0 HRN1 HIN h0
    go_wp2_with fail
    refine (alive19_f _).mono ?_; rintro e w5 ⟨rfl, hb5⟩
    have HB5 : Hid (Below w.heap.size w w5) := Lib.hid (HW0.out.trans (hb5.mono HW0.out.size))
    clear hb5 a0 a1 a2 b0 b1 b2
    go_wp2
    go_ret
    exact ⟨rfl, HB5.out⟩

theorem poseBounds_walk (r wi bs g l m s n d e : Int) (cu : Bool) (ka ta : Int) (aa : Option Addr) (la ca : Nat) (A : Nat → Ent) (kb tb : Int) (ab : Option Addr) (lb cb : Nat) (B : Nat → Ent) (at0 : Int) (w : World) (h1 : I64 r) (h2 : I64 wi) (h3 : I64 bs) (h4 : I64 g) (h5 : I64 l) (h6 : I64 m) (h7 : I64 s) (h8 : I64 n) (h9 : I64 d) (h10 : I64 e) (hka : I64 ka) (hta : I64 ta) (hkb : I64 kb) (htb : I64 tb) (ha : EntsAt w aa la A) (hb : EntsAt w ab lb B) (hat : I64 at0) :
    Calls Try.prog 8 #[.agg #[.int .i64 r, .int .i64 wi, .int .i64 bs, .int .i64 g, .int .i64 l, .int .i64 m, .int .i64 s, .int .i64 n, .int .i64 d, .int .i64 e, .bool cu], .agg #[.int .i64 ka, .int .i64 ta, .slice aa la ca, .int .i64 kb, .int .i64 tb, .slice ab lb cb], .int .i64 at0] w fun e w' => e = .returned (.bool true) ∧ Below w.heap.size w w' := by
  cases hg : greatB (two (aa, la, ca) (ab, lb, cb)) 2
  · have l0 := great_le hg 0 (by omega)
    have l1 := great_le hg 1 (by omega)
    simp only [two] at l0 l1
    exact poseBounds_c ⟨r, wi, bs, g, l, m, s, n, d, e, cu⟩ ⟨h1, h2, h3, h4, h5, h6, h7, h8, h9, h10⟩ ka ta aa la ca A kb tb ab lb cb B at0 w hka hta hkb htb ha hb hat (by omega) (by omega) hg
  · exact poseBounds_g ⟨r, wi, bs, g, l, m, s, n, d, e, cu⟩ ⟨h1, h2, h3, h4, h5, h6, h7, h8, h9, h10⟩ ka ta aa la ca A kb tb ab lb cb B at0 w hka hta hkb htb ha hb hat hg
end Go.Proofs.Ytobphhbmlhjbcaa
