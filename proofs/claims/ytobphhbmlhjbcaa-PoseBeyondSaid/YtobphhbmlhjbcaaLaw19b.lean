/- The law PoseBeyond, walked: it returns true. -/
import Derived.Test.YtobphhbmlhjbcaaLaw19
namespace Go.Proofs.Ytobphhbmlhjbcaa
set_option linter.unusedVariables false
set_option linter.unusedSimpArgs false
open Go.RowKit
set_option maxRecDepth 100000

set_option maxHeartbeats 2000000 in
theorem poseBeyond_c (c : Cfg) (ok : c.Ok) (ka ta : Int) (aa : Option Addr) (la ca : Nat) (A : Nat → Ent) (at0 : Int) (w : World) (hka : I64 ka) (hta : I64 ta) (hat : I64 at0) (ha : EntsAt w aa la A) (hla : (la : Int) ≤ 4611686018427387904) :
    Calls Try.prog 7 #[cfgV c, snapV ka ta aa la ca, .int .i64 at0] w fun e w' => e = .returned (.bool true) ∧ Below w.heap.size w w' := by
  have BC := Lib.hid ((Blk.new w #[.int .i64 c.ring, .int .i64 c.window, .int .i64 c.base, .int .i64 c.gain, .int .i64 c.least, .int .i64 c.most, .int .i64 c.slack, .int .i64 c.num, .int .i64 c.den, .int .i64 c.extra, .bool c.curved] 23).alloc (.cells #[.int .i64 ka, .int .i64 ta, .slice aa la ca] 26))
  have BP := Lib.hid (Blk.new (w.alloc (.cells #[.int .i64 c.ring, .int .i64 c.window, .int .i64 c.base, .int .i64 c.gain, .int .i64 c.least, .int .i64 c.most, .int .i64 c.slack, .int .i64 c.num, .int .i64 c.den, .int .i64 c.extra, .bool c.curved] 23)) #[.int .i64 ka, .int .i64 ta, .slice aa la ca] 26)
  have hB0 : Below w.heap.size w ((w.alloc (.cells #[.int .i64 c.ring, .int .i64 c.window, .int .i64 c.base, .int .i64 c.gain, .int .i64 c.least, .int .i64 c.most, .int .i64 c.slack, .int .i64 c.num, .int .i64 c.den, .int .i64 c.extra, .bool c.curved] 23)).alloc (.cells #[.int .i64 ka, .int .i64 ta, .slice aa la ca] 26)) := ((Below.refl _ _).alloc (Nat.le_refl _) _).alloc (by simp) _
  have GR := great_f (some ⟨((w.alloc (.cells #[.int .i64 c.ring, .int .i64 c.window, .int .i64 c.base, .int .i64 c.gain, .int .i64 c.least, .int .i64 c.most, .int .i64 c.slack, .int .i64 c.num, .int .i64 c.den, .int .i64 c.extra, .bool c.curved] 23)).alloc (.cells #[.int .i64 ka, .int .i64 ta, .slice aa la ca] 26)).heap.size, 0, none⟩) 1 1 _ _ _ _ (snaps1 ((w.alloc (.cells #[.int .i64 c.ring, .int .i64 c.window, .int .i64 c.base, .int .i64 c.gain, .int .i64 c.least, .int .i64 c.most, .int .i64 c.slack, .int .i64 c.num, .int .i64 c.den, .int .i64 c.extra, .bool c.curved] 23)).alloc (.cells #[.int .i64 ka, .int .i64 ta, .slice aa la ca] 26)) ka ta aa la ca) (by decide)
  have hs3 : ((w.alloc (.cells #[.int .i64 c.ring, .int .i64 c.window, .int .i64 c.base, .int .i64 c.gain, .int .i64 c.least, .int .i64 c.most, .int .i64 c.slack, .int .i64 c.num, .int .i64 c.den, .int .i64 c.extra, .bool c.curved] 23)).alloc (.cells #[.int .i64 ka, .int .i64 ta, .slice aa la ca] 26)).heap.size = w.heap.size + 1 + 1 := by simp
  simp only [World.size_alloc] at BP
  have BT := fun w' hA => pbyd_f c ok ka ta aa la ca A at0 w' hta hat hA hla
  have RT := fun w' hA => rbyd_f c ok ka ta aa la ca A at0 w' hta hat hA hla
  have hn : ((okN (bydE c ka ta aa la ca A at0) la : Nat) : Int) ≤ 4611686018427387904 := by have := okN_le (bydE c ka ta aa la ca A at0) la; omega
  unfold Rets at BT RT
  generalize okN (bydE c ka ta aa la ca A at0) la = rn at *
  generalize bydE c ka ta aa la ca A at0 = re at *
  generalize (byF (byM c (subF at0 ta)) (byD c (subF at0 ta)) A) = rp at *
  generalize greatB (fun _ => (aa, la, ca)) 1 = g at *
  unfold cfgV snapV at BT RT
  unfold cfgV snapV
  go_enter Try.func7, Try.ntmps7
  go_wp2_with fail
  generalize ((w.alloc (.cells #[.int .i64 c.ring, .int .i64 c.window, .int .i64 c.base, .int .i64 c.gain, .int .i64 c.least, .int .i64 c.most, .int .i64 c.slack, .int .i64 c.num, .int .i64 c.den, .int .i64 c.extra, .bool c.curved] 23)).alloc (.cells #[.int .i64 ka, .int .i64 ta, .slice aa la ca] 26)) = W at *
  rw [hs3] at GR
  refine GR.mono ?_; rintro e w1 ⟨rfl, hb1⟩
  have hW1 : Below W.heap.size W w1 := ((Below.refl _ _).alloc (Nat.le_refl _) _).trans (hb1.mono (by simp))
  have HB1 : Hid (Below w.heap.size w w1) := Lib.hid (hB0.trans (hW1.mono hB0.size))
  have BCn := Lib.hid (BC.out.below hW1 BC.out.lt)
  clear BC
  have BC := BCn
  clear BCn
  have BPn := Lib.hid (BP.out.below hW1 BP.out.lt)
  clear BP
  have BP := BPn
  clear BPn
  clear hb1 hW1 hB0 GR
  cases g
  · obtain ⟨q0, q1, q2, q3, q4, q5, q6, q7, q8, q9, q10⟩ := cfg_cells BC.out
    obtain ⟨p0, p1, p2⟩ := sn_cells BP.out
    have bt := BT w1 (ha.below HB1.out)
    go_wp2_with fail
    refine bt.mono ?_; rintro e w2 ⟨s2, c2, rfl, hp2, hb2⟩
    have HP2 := Lib.hid hp2
    have BCn := Lib.hid (BC.out.below hb2 BC.out.lt)
    clear BC
    have BC := BCn
    clear BCn
    have BPn := Lib.hid (BP.out.below hb2 BP.out.lt)
    clear BP
    have BP := BPn
    clear BPn
    have HB2 : Hid (Below w.heap.size w w2) := Lib.hid (HB1.out.trans (hb2.mono HB1.out.size))
    clear hb2 hp2 bt BT HB1 q0 q1 q2 q3 q4 q5 q6 q7 q8 q9 q10 p0 p1 p2
    obtain ⟨q0, q1, q2, q3, q4, q5, q6, q7, q8, q9, q10⟩ := cfg_cells BC.out
    obtain ⟨p0, p1, p2⟩ := sn_cells BP.out
    have bt := RT w2 (ha.below HB2.out)
    go_wp2_with fail
    refine bt.mono ?_; rintro e w3 ⟨s3, c3, rfl, hp3, hb3⟩
    have HP3 := Lib.hid hp3
    have HQ3 := Lib.hid (HP2.out.below hb3)
    have HB3 : Hid (Below w.heap.size w w3) := Lib.hid (HB2.out.trans (hb3.mono HB2.out.size))
    clear hb3 hp3 bt RT HB2 HP2 BC BP q0 q1 q2 q3 q4 q5 q6 q7 q8 q9 q10 p0 p1 p2
    go_wp2_with fail
    refine (names_f _).mono ?_; rintro e w4 ⟨nb, rfl, hnl, ⟨n0, n1, n2, n3, n4⟩, hb4⟩
    have HP4 := Lib.hid (HP3.out.below hb4)
    have HQ4 := Lib.hid (HQ3.out.below hb4)
    have HB4 : Hid (Below w.heap.size w w4) := Lib.hid (HB3.out.trans (hb4.mono HB3.out.size))
    have HN := Lib.hid (And.intro hnl (And.intro n0 (And.intro n1 (And.intro n2 (And.intro n3 n4)))))
    clear hb4 n0 n1 n2 n3 n4 hnl HP3 HQ3 HB3
    go_wp2_with fail
    refine (alive19_f _).mono ?_; rintro e w5 ⟨rfl, hb5⟩
    have sm := same_f s2 s3 rn c2 c3 rp w5 (HQ4.out.below hb5) (HP4.out.below hb5) hn
    have H5 := Lib.hid hb5
    have HB5 : Hid (Below w.heap.size w w5) := Lib.hid (HB4.out.trans (hb5.mono HB4.out.size))
    clear hb5
    go_wp2_with fail
    refine sm.mono ?_; rintro e w6 ⟨rfl, hb6⟩
    have HB6 : Hid (Below w.heap.size w w6) := Lib.hid (HB5.out.trans (hb6.mono HB5.out.size))
    have HL : Below w4.heap.size w4 w6 := H5.out.trans (hb6.mono H5.out.size)
    obtain ⟨hnl, n0, n1, n2, n3, n4⟩ := HN.out
    have m0 := (HL.cell (p := ⟨nb, 0, none⟩) hnl).trans n0
    have m1 := (HL.cell (p := ⟨nb, 1, none⟩) hnl).trans n1
    have m2 := (HL.cell (p := ⟨nb, 2, none⟩) hnl).trans n2
    have m3 := (HL.cell (p := ⟨nb, 3, none⟩) hnl).trans n3
    have m4 := (HL.cell (p := ⟨nb, 4, none⟩) hnl).trans n4
    clear hb6 sm n0 n1 n2 n3 n4 HL hnl
    go_wp2
    go_ret
    exact ⟨rfl, HB6.out⟩
  · go_wp2_with fail
    refine (alive19_f _).mono ?_; rintro e w2 ⟨rfl, hb2⟩
    have HB2 : Hid (Below w.heap.size w w2) := Lib.hid (HB1.out.trans (hb2.mono HB1.out.size))
    clear hb2
    go_wp2
    go_ret
    exact ⟨rfl, HB2.out⟩

set_option maxHeartbeats 2000000 in
theorem poseBeyond_g (c : Cfg) (ok : c.Ok) (ka ta : Int) (aa : Option Addr) (la ca : Nat) (A : Nat → Ent) (at0 : Int) (w : World) (hka : I64 ka) (hta : I64 ta) (hat : I64 at0) (ha : EntsAt w aa la A) (hg : greatB (fun _ => (aa, la, ca)) 1 = true) :
    Calls Try.prog 7 #[cfgV c, snapV ka ta aa la ca, .int .i64 at0] w fun e w' => e = .returned (.bool true) ∧ Below w.heap.size w w' := by
  have BC := Lib.hid ((Blk.new w #[.int .i64 c.ring, .int .i64 c.window, .int .i64 c.base, .int .i64 c.gain, .int .i64 c.least, .int .i64 c.most, .int .i64 c.slack, .int .i64 c.num, .int .i64 c.den, .int .i64 c.extra, .bool c.curved] 23).alloc (.cells #[.int .i64 ka, .int .i64 ta, .slice aa la ca] 26))
  have BP := Lib.hid (Blk.new (w.alloc (.cells #[.int .i64 c.ring, .int .i64 c.window, .int .i64 c.base, .int .i64 c.gain, .int .i64 c.least, .int .i64 c.most, .int .i64 c.slack, .int .i64 c.num, .int .i64 c.den, .int .i64 c.extra, .bool c.curved] 23)) #[.int .i64 ka, .int .i64 ta, .slice aa la ca] 26)
  have hB0 : Below w.heap.size w ((w.alloc (.cells #[.int .i64 c.ring, .int .i64 c.window, .int .i64 c.base, .int .i64 c.gain, .int .i64 c.least, .int .i64 c.most, .int .i64 c.slack, .int .i64 c.num, .int .i64 c.den, .int .i64 c.extra, .bool c.curved] 23)).alloc (.cells #[.int .i64 ka, .int .i64 ta, .slice aa la ca] 26)) := ((Below.refl _ _).alloc (Nat.le_refl _) _).alloc (by simp) _
  have GR := great_f (some ⟨((w.alloc (.cells #[.int .i64 c.ring, .int .i64 c.window, .int .i64 c.base, .int .i64 c.gain, .int .i64 c.least, .int .i64 c.most, .int .i64 c.slack, .int .i64 c.num, .int .i64 c.den, .int .i64 c.extra, .bool c.curved] 23)).alloc (.cells #[.int .i64 ka, .int .i64 ta, .slice aa la ca] 26)).heap.size, 0, none⟩) 1 1 _ _ _ _ (snaps1 ((w.alloc (.cells #[.int .i64 c.ring, .int .i64 c.window, .int .i64 c.base, .int .i64 c.gain, .int .i64 c.least, .int .i64 c.most, .int .i64 c.slack, .int .i64 c.num, .int .i64 c.den, .int .i64 c.extra, .bool c.curved] 23)).alloc (.cells #[.int .i64 ka, .int .i64 ta, .slice aa la ca] 26)) ka ta aa la ca) (by decide)
  have hs3 : ((w.alloc (.cells #[.int .i64 c.ring, .int .i64 c.window, .int .i64 c.base, .int .i64 c.gain, .int .i64 c.least, .int .i64 c.most, .int .i64 c.slack, .int .i64 c.num, .int .i64 c.den, .int .i64 c.extra, .bool c.curved] 23)).alloc (.cells #[.int .i64 ka, .int .i64 ta, .slice aa la ca] 26)).heap.size = w.heap.size + 1 + 1 := by simp
  simp only [World.size_alloc] at BP
  rw [hg] at GR
  unfold cfgV snapV
  go_enter Try.func7, Try.ntmps7
  go_wp2_with fail
  generalize ((w.alloc (.cells #[.int .i64 c.ring, .int .i64 c.window, .int .i64 c.base, .int .i64 c.gain, .int .i64 c.least, .int .i64 c.most, .int .i64 c.slack, .int .i64 c.num, .int .i64 c.den, .int .i64 c.extra, .bool c.curved] 23)).alloc (.cells #[.int .i64 ka, .int .i64 ta, .slice aa la ca] 26)) = W at *
  rw [hs3] at GR
  refine GR.mono ?_; rintro e w1 ⟨rfl, hb1⟩
  have hW1 : Below W.heap.size W w1 := ((Below.refl _ _).alloc (Nat.le_refl _) _).trans (hb1.mono (by simp))
  have HB1 : Hid (Below w.heap.size w w1) := Lib.hid (hB0.trans (hW1.mono hB0.size))
  have BCn := Lib.hid (BC.out.below hW1 BC.out.lt)
  clear BC
  have BC := BCn
  clear BCn
  have BPn := Lib.hid (BP.out.below hW1 BP.out.lt)
  clear BP
  have BP := BPn
  clear BPn
  clear hb1 hW1 hB0 GR
  go_wp2_with fail
  refine (alive19_f _).mono ?_; rintro e w2 ⟨rfl, hb2⟩
  have HB2 : Hid (Below w.heap.size w w2) := Lib.hid (HB1.out.trans (hb2.mono HB1.out.size))
  clear hb2
  go_wp2
  go_ret
  exact ⟨rfl, HB2.out⟩

theorem poseBeyond_w (c : Cfg) (ok : c.Ok) (ka ta : Int) (aa : Option Addr) (la ca : Nat) (A : Nat → Ent) (at0 : Int) (w : World) (hka : I64 ka) (hta : I64 ta) (hat : I64 at0) (ha : EntsAt w aa la A) :
    Calls Try.prog 7 #[cfgV c, snapV ka ta aa la ca, .int .i64 at0] w fun e w' => e = .returned (.bool true) ∧ Below w.heap.size w w' := by
  cases hg : greatB (fun _ => (aa, la, ca)) 1
  · have l0 : la ≤ 100 := great_le hg 0 (by omega)
    exact poseBeyond_c c ok ka ta aa la ca A at0 w hka hta hat ha (by omega)
  · exact poseBeyond_g c ok ka ta aa la ca A at0 w hka hta hat ha hg

theorem poseBeyond_walk (r wi bs g l m s n d e : Int) (cu : Bool) (ka ta : Int) (aa : Option Addr) (la ca : Nat) (A : Nat → Ent) (at0 : Int) (w : World) (h1 : I64 r) (h2 : I64 wi) (h3 : I64 bs) (h4 : I64 g) (h5 : I64 l) (h6 : I64 m) (h7 : I64 s) (h8 : I64 n) (h9 : I64 d) (h10 : I64 e) (hka : I64 ka) (hta : I64 ta) (ha : EntsAt w aa la A) (hat : I64 at0) :
    Calls Try.prog 7 #[.agg #[.int .i64 r, .int .i64 wi, .int .i64 bs, .int .i64 g, .int .i64 l, .int .i64 m, .int .i64 s, .int .i64 n, .int .i64 d, .int .i64 e, .bool cu], .agg #[.int .i64 ka, .int .i64 ta, .slice aa la ca], .int .i64 at0] w fun e w' => e = .returned (.bool true) ∧ Below w.heap.size w w' :=
  poseBeyond_w ⟨r, wi, bs, g, l, m, s, n, d, e, cu⟩ ⟨h1, h2, h3, h4, h5, h6, h7, h8, h9, h10⟩ ka ta aa la ca A at0 w hka hta hat ha
end Go.Proofs.Ytobphhbmlhjbcaa
