/- The law PoseBetween, walked: it returns true. -/
import Derived.Test.YtobphhbmlhjbcaaPose13
namespace Go.Proofs.Ytobphhbmlhjbcaa
set_option linter.unusedVariables false
set_option linter.unusedSimpArgs false
open Go.RowKit
set_option maxRecDepth 100000
theorem pair_cells {w : World} {b : Nat} {t : TypeId} {x0 x1 x2 x3 x4 x5 : Value} (h : Blk w b #[x0, x1, x2, x3, x4, x5] t) :
    w.cell? ⟨b, 0, none⟩ = some x0 ∧ w.cell? ⟨b, 1, none⟩ = some x1 ∧ w.cell? ⟨b, 2, none⟩ = some x2 ∧ w.cell? ⟨b, 3, none⟩ = some x3 ∧ w.cell? ⟨b, 4, none⟩ = some x4 ∧ w.cell? ⟨b, 5, none⟩ = some x5 := po_cells h
theorem okN_le (E : Int) (n : Nat) : okN E n ≤ n := by unfold okN; split <;> omega

set_option maxHeartbeats 2000000 in
theorem poseBetween_c (c : Cfg) (ok : c.Ok) (ka ta : Int) (aa : Option Addr) (la ca : Nat) (A : Nat → Ent) (kb tb : Int) (ab : Option Addr) (lb cb : Nat) (B : Nat → Ent) (at0 : Int) (w : World) (hka : I64 ka) (hta : I64 ta) (hkb : I64 kb) (htb : I64 tb) (ha : EntsAt w aa la A) (hb : EntsAt w ab lb B) (hla : (la : Int) ≤ 4611686018427387904) (hlb : (lb : Int) ≤ 4611686018427387904) :
    Calls Try.prog 3 #[cfgV c, .agg #[.int .i64 ka, .int .i64 ta, .slice aa la ca, .int .i64 kb, .int .i64 tb, .slice ab lb cb], .int .i64 at0] w fun e w' => e = .returned (.bool true) ∧ Below w.heap.size w w' := by
  have BC := Lib.hid ((Blk.new w #[.int .i64 c.ring, .int .i64 c.window, .int .i64 c.base, .int .i64 c.gain, .int .i64 c.least, .int .i64 c.most, .int .i64 c.slack, .int .i64 c.num, .int .i64 c.den, .int .i64 c.extra, .bool c.curved] 23).alloc (.cells #[.int .i64 ka, .int .i64 ta, .slice aa la ca, .int .i64 kb, .int .i64 tb, .slice ab lb cb] 27))
  have BP := Lib.hid (Blk.new (w.alloc (.cells #[.int .i64 c.ring, .int .i64 c.window, .int .i64 c.base, .int .i64 c.gain, .int .i64 c.least, .int .i64 c.most, .int .i64 c.slack, .int .i64 c.num, .int .i64 c.den, .int .i64 c.extra, .bool c.curved] 23)) #[.int .i64 ka, .int .i64 ta, .slice aa la ca, .int .i64 kb, .int .i64 tb, .slice ab lb cb] 27)
  have hB0 : Below w.heap.size w ((w.alloc (.cells #[.int .i64 c.ring, .int .i64 c.window, .int .i64 c.base, .int .i64 c.gain, .int .i64 c.least, .int .i64 c.most, .int .i64 c.slack, .int .i64 c.num, .int .i64 c.den, .int .i64 c.extra, .bool c.curved] 23)).alloc (.cells #[.int .i64 ka, .int .i64 ta, .slice aa la ca, .int .i64 kb, .int .i64 tb, .slice ab lb cb] 27)) := ((Below.refl _ _).alloc (Nat.le_refl _) _).alloc (by simp) _
  have GR := great_f (some ⟨((w.alloc (.cells #[.int .i64 c.ring, .int .i64 c.window, .int .i64 c.base, .int .i64 c.gain, .int .i64 c.least, .int .i64 c.most, .int .i64 c.slack, .int .i64 c.num, .int .i64 c.den, .int .i64 c.extra, .bool c.curved] 23)).alloc (.cells #[.int .i64 ka, .int .i64 ta, .slice aa la ca, .int .i64 kb, .int .i64 tb, .slice ab lb cb] 27)).heap.size, 0, none⟩) 2 2 _ _ _ _ (snaps2 ((w.alloc (.cells #[.int .i64 c.ring, .int .i64 c.window, .int .i64 c.base, .int .i64 c.gain, .int .i64 c.least, .int .i64 c.most, .int .i64 c.slack, .int .i64 c.num, .int .i64 c.den, .int .i64 c.extra, .bool c.curved] 23)).alloc (.cells #[.int .i64 ka, .int .i64 ta, .slice aa la ca, .int .i64 kb, .int .i64 tb, .slice ab lb cb] 27)) ka ta kb tb aa ab la ca lb cb) (by decide)
  have hs3 : ((w.alloc (.cells #[.int .i64 c.ring, .int .i64 c.window, .int .i64 c.base, .int .i64 c.gain, .int .i64 c.least, .int .i64 c.most, .int .i64 c.slack, .int .i64 c.num, .int .i64 c.den, .int .i64 c.extra, .bool c.curved] 23)).alloc (.cells #[.int .i64 ka, .int .i64 ta, .slice aa la ca, .int .i64 kb, .int .i64 tb, .slice ab lb cb] 27)).heap.size = w.heap.size + 1 + 1 := by simp
  simp only [World.size_alloc] at BP
  have BT := fun w' hA hB => pbtw_f c ka ta aa la ca A kb tb ab lb cb B at0 w' hA hB hla hlb
  have RT := fun w' hA hB => rbtw_f c ka ta aa la ca A kb tb ab lb cb B at0 w' hA hB hla hlb
  have hn : ((okN (btwE c ka ta aa la ca A kb tb ab lb cb B at0) la : Nat) : Int) ≤ 4611686018427387904 := by have := okN_le (btwE c ka ta aa la ca A kb tb ab lb cb B at0) la; omega
  unfold Rets at BT RT
  generalize okN (btwE c ka ta aa la ca A kb tb ab lb cb B at0) la = rn at *
  generalize btwE c ka ta aa la ca A kb tb ab lb cb B at0 = re at *
  generalize (btwF c.curved A B lb (at0 - ta) (tb - ta)) = rp at *
  generalize greatB (two (aa, la, ca) (ab, lb, cb)) 2 = g at *
  unfold cfgV snapV at BT RT
  unfold cfgV
  go_enter Try.func3, Try.ntmps3
  go_wp2_with fail
  generalize ((w.alloc (.cells #[.int .i64 c.ring, .int .i64 c.window, .int .i64 c.base, .int .i64 c.gain, .int .i64 c.least, .int .i64 c.most, .int .i64 c.slack, .int .i64 c.num, .int .i64 c.den, .int .i64 c.extra, .bool c.curved] 23)).alloc (.cells #[.int .i64 ka, .int .i64 ta, .slice aa la ca, .int .i64 kb, .int .i64 tb, .slice ab lb cb] 27)) = W at *
  rw [hs3] at GR
  refine GR.mono ?_; rintro e w1 ⟨rfl, hb1⟩
  have hW1 : Below W.heap.size W w1 := ((Below.refl _ _).alloc (Nat.le_refl _) _).trans (hb1.mono (by simp))
  have HB1 : Hid (Below w.heap.size w w1) := Lib.hid (hB0.trans (hW1.mono hB0.size))
  have BCn := Lib.hid (BC.out.below hW1 BC.out.lt)
  clear BC
  have BC := BCn
  clear BCn
  have BPn := Lib.hid (BP.out.below hW1 BP.out.lt)
  clear BP
  have BP := BPn
  clear BPn
  clear hb1 hW1 hB0 GR
  cases g
  · obtain ⟨q0, q1, q2, q3, q4, q5, q6, q7, q8, q9, q10⟩ := cfg_cells BC.out
    obtain ⟨p0, p1, p2, p3, p4, p5⟩ := pair_cells BP.out
    have bt := BT w1 (ha.below HB1.out) (hb.below HB1.out)
    go_wp2_with fail
    refine bt.mono ?_; rintro e w2 ⟨s2, c2, rfl, hp2, hb2⟩
    have HP2 := Lib.hid hp2
    have BCn := Lib.hid (BC.out.below hb2 BC.out.lt)
    clear BC
    have BC := BCn
    clear BCn
    have BPn := Lib.hid (BP.out.below hb2 BP.out.lt)
    clear BP
    have BP := BPn
    clear BPn
    have HB2 : Hid (Below w.heap.size w w2) := Lib.hid (HB1.out.trans (hb2.mono HB1.out.size))
    clear hb2 hp2 bt BT HB1 q0 q1 q2 q3 q4 q5 q6 q7 q8 q9 q10 p0 p1 p2 p3 p4 p5
    obtain ⟨q0, q1, q2, q3, q4, q5, q6, q7, q8, q9, q10⟩ := cfg_cells BC.out
    obtain ⟨p0, p1, p2, p3, p4, p5⟩ := pair_cells BP.out
    have bt := RT w2 (ha.below HB2.out) (hb.below HB2.out)
    go_wp2_with fail
    refine bt.mono ?_; rintro e w3 ⟨s3, c3, rfl, hp3, hb3⟩
    have HP3 := Lib.hid hp3
    have HQ3 := Lib.hid (HP2.out.below hb3)
    have HB3 : Hid (Below w.heap.size w w3) := Lib.hid (HB2.out.trans (hb3.mono HB2.out.size))
    clear hb3 hp3 bt RT HB2 HP2 BC BP q0 q1 q2 q3 q4 q5 q6 q7 q8 q9 q10 p0 p1 p2 p3 p4 p5
    go_wp2_with fail
    refine (alive19_f _).mono ?_; rintro e w4 ⟨rfl, hb4⟩
    have sm := same_f s2 s3 rn c2 c3 rp w4 (HQ3.out.below hb4) (HP3.out.below hb4) hn
    have HB4 : Hid (Below w.heap.size w w4) := Lib.hid (HB3.out.trans (hb4.mono HB3.out.size))
    clear hb4
    go_wp2_with fail
    refine sm.mono ?_; rintro e w5 ⟨rfl, hb5⟩
    have HB5 : Hid (Below w.heap.size w w5) := Lib.hid (HB4.out.trans (hb5.mono HB4.out.size))
    clear hb5 sm
    go_wp2
    go_ret
    exact ⟨rfl, HB5.out⟩
  · go_wp2_with fail
    refine (alive19_f _).mono ?_; rintro e w2 ⟨rfl, hb2⟩
    have HB2 : Hid (Below w.heap.size w w2) := Lib.hid (HB1.out.trans (hb2.mono HB1.out.size))
    clear hb2
    go_wp2
    go_ret
    exact ⟨rfl, HB2.out⟩

set_option maxHeartbeats 2000000 in
theorem poseBetween_g (c : Cfg) (ok : c.Ok) (ka ta : Int) (aa : Option Addr) (la ca : Nat) (A : Nat → Ent) (kb tb : Int) (ab : Option Addr) (lb cb : Nat) (B : Nat → Ent) (at0 : Int) (w : World) (hka : I64 ka) (hta : I64 ta) (hkb : I64 kb) (htb : I64 tb) (ha : EntsAt w aa la A) (hb : EntsAt w ab lb B) (hg : greatB (two (aa, la, ca) (ab, lb, cb)) 2 = true) :
    Calls Try.prog 3 #[cfgV c, .agg #[.int .i64 ka, .int .i64 ta, .slice aa la ca, .int .i64 kb, .int .i64 tb, .slice ab lb cb], .int .i64 at0] w fun e w' => e = .returned (.bool true) ∧ Below w.heap.size w w' := by
  have BC := Lib.hid ((Blk.new w #[.int .i64 c.ring, .int .i64 c.window, .int .i64 c.base, .int .i64 c.gain, .int .i64 c.least, .int .i64 c.most, .int .i64 c.slack, .int .i64 c.num, .int .i64 c.den, .int .i64 c.extra, .bool c.curved] 23).alloc (.cells #[.int .i64 ka, .int .i64 ta, .slice aa la ca, .int .i64 kb, .int .i64 tb, .slice ab lb cb] 27))
  have BP := Lib.hid (Blk.new (w.alloc (.cells #[.int .i64 c.ring, .int .i64 c.window, .int .i64 c.base, .int .i64 c.gain, .int .i64 c.least, .int .i64 c.most, .int .i64 c.slack, .int .i64 c.num, .int .i64 c.den, .int .i64 c.extra, .bool c.curved] 23)) #[.int .i64 ka, .int .i64 ta, .slice aa la ca, .int .i64 kb, .int .i64 tb, .slice ab lb cb] 27)
  have hB0 : Below w.heap.size w ((w.alloc (.cells #[.int .i64 c.ring, .int .i64 c.window, .int .i64 c.base, .int .i64 c.gain, .int .i64 c.least, .int .i64 c.most, .int .i64 c.slack, .int .i64 c.num, .int .i64 c.den, .int .i64 c.extra, .bool c.curved] 23)).alloc (.cells #[.int .i64 ka, .int .i64 ta, .slice aa la ca, .int .i64 kb, .int .i64 tb, .slice ab lb cb] 27)) := ((Below.refl _ _).alloc (Nat.le_refl _) _).alloc (by simp) _
  have GR := great_f (some ⟨((w.alloc (.cells #[.int .i64 c.ring, .int .i64 c.window, .int .i64 c.base, .int .i64 c.gain, .int .i64 c.least, .int .i64 c.most, .int .i64 c.slack, .int .i64 c.num, .int .i64 c.den, .int .i64 c.extra, .bool c.curved] 23)).alloc (.cells #[.int .i64 ka, .int .i64 ta, .slice aa la ca, .int .i64 kb, .int .i64 tb, .slice ab lb cb] 27)).heap.size, 0, none⟩) 2 2 _ _ _ _ (snaps2 ((w.alloc (.cells #[.int .i64 c.ring, .int .i64 c.window, .int .i64 c.base, .int .i64 c.gain, .int .i64 c.least, .int .i64 c.most, .int .i64 c.slack, .int .i64 c.num, .int .i64 c.den, .int .i64 c.extra, .bool c.curved] 23)).alloc (.cells #[.int .i64 ka, .int .i64 ta, .slice aa la ca, .int .i64 kb, .int .i64 tb, .slice ab lb cb] 27)) ka ta kb tb aa ab la ca lb cb) (by decide)
  have hs3 : ((w.alloc (.cells #[.int .i64 c.ring, .int .i64 c.window, .int .i64 c.base, .int .i64 c.gain, .int .i64 c.least, .int .i64 c.most, .int .i64 c.slack, .int .i64 c.num, .int .i64 c.den, .int .i64 c.extra, .bool c.curved] 23)).alloc (.cells #[.int .i64 ka, .int .i64 ta, .slice aa la ca, .int .i64 kb, .int .i64 tb, .slice ab lb cb] 27)).heap.size = w.heap.size + 1 + 1 := by simp
  simp only [World.size_alloc] at BP
  rw [hg] at GR
  unfold cfgV
  go_enter Try.func3, Try.ntmps3
  go_wp2_with fail
  generalize ((w.alloc (.cells #[.int .i64 c.ring, .int .i64 c.window, .int .i64 c.base, .int .i64 c.gain, .int .i64 c.least, .int .i64 c.most, .int .i64 c.slack, .int .i64 c.num, .int .i64 c.den, .int .i64 c.extra, .bool c.curved] 23)).alloc (.cells #[.int .i64 ka, .int .i64 ta, .slice aa la ca, .int .i64 kb, .int .i64 tb, .slice ab lb cb] 27)) = W at *
  rw [hs3] at GR
  refine GR.mono ?_; rintro e w1 ⟨rfl, hb1⟩
  have hW1 : Below W.heap.size W w1 := ((Below.refl _ _).alloc (Nat.le_refl _) _).trans (hb1.mono (by simp))
  have HB1 : Hid (Below w.heap.size w w1) := Lib.hid (hB0.trans (hW1.mono hB0.size))
  have BCn := Lib.hid (BC.out.below hW1 BC.out.lt)
  clear BC
  have BC := BCn
  clear BCn
  have BPn := Lib.hid (BP.out.below hW1 BP.out.lt)
  clear BP
  have BP := BPn
  clear BPn
  clear hb1 hW1 hB0 GR
  go_wp2_with fail
  refine (alive19_f _).mono ?_; rintro e w2 ⟨rfl, hb2⟩
  have HB2 : Hid (Below w.heap.size w w2) := Lib.hid (HB1.out.trans (hb2.mono HB1.out.size))
  clear hb2
  go_wp2
  go_ret
  exact ⟨rfl, HB2.out⟩

theorem poseBetween_w (c : Cfg) (ok : c.Ok) (ka ta : Int) (aa : Option Addr) (la ca : Nat) (A : Nat → Ent) (kb tb : Int) (ab : Option Addr) (lb cb : Nat) (B : Nat → Ent) (at0 : Int) (w : World) (hka : I64 ka) (hta : I64 ta) (hkb : I64 kb) (htb : I64 tb) (ha : EntsAt w aa la A) (hb : EntsAt w ab lb B) :
    Calls Try.prog 3 #[cfgV c, .agg #[.int .i64 ka, .int .i64 ta, .slice aa la ca, .int .i64 kb, .int .i64 tb, .slice ab lb cb], .int .i64 at0] w fun e w' => e = .returned (.bool true) ∧ Below w.heap.size w w' := by
  cases hg : greatB (two (aa, la, ca) (ab, lb, cb)) 2
  · have l0 := great_le hg 0 (by omega)
    have l1 := great_le hg 1 (by omega)
    simp only [two] at l0 l1
    exact poseBetween_c c ok ka ta aa la ca A kb tb ab lb cb B at0 w hka hta hkb htb ha hb (by omega) (by omega)
  · exact poseBetween_g c ok ka ta aa la ca A kb tb ab lb cb B at0 w hka hta hkb htb ha hb hg

theorem poseBetween_walk (r wi bs g l m s n d e : Int) (cu : Bool) (ka ta : Int) (aa : Option Addr) (la ca : Nat) (A : Nat → Ent) (kb tb : Int) (ab : Option Addr) (lb cb : Nat) (B : Nat → Ent) (at0 : Int) (w : World) (h1 : I64 r) (h2 : I64 wi) (h3 : I64 bs) (h4 : I64 g) (h5 : I64 l) (h6 : I64 m) (h7 : I64 s) (h8 : I64 n) (h9 : I64 d) (h10 : I64 e) (hka : I64 ka) (hta : I64 ta) (hkb : I64 kb) (htb : I64 tb) (ha : EntsAt w aa la A) (hb : EntsAt w ab lb B) (hat : I64 at0) :
    Calls Try.prog 3 #[.agg #[.int .i64 r, .int .i64 wi, .int .i64 bs, .int .i64 g, .int .i64 l, .int .i64 m, .int .i64 s, .int .i64 n, .int .i64 d, .int .i64 e, .bool cu], .agg #[.int .i64 ka, .int .i64 ta, .slice aa la ca, .int .i64 kb, .int .i64 tb, .slice ab lb cb], .int .i64 at0] w fun e w' => e = .returned (.bool true) ∧ Below w.heap.size w w' :=
  poseBetween_w ⟨r, wi, bs, g, l, m, s, n, d, e, cu⟩ ⟨h1, h2, h3, h4, h5, h6, h7, h8, h9, h10⟩ ka ta aa la ca A kb tb ab lb cb B at0 w hka hta hkb htb ha hb
end Go.Proofs.Ytobphhbmlhjbcaa
