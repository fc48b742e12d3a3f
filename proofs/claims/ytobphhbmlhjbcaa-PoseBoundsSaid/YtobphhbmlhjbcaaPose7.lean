/- The document's Between. -/
import Derived.Test.YtobphhbmlhjbcaaPose6
namespace Go.Proofs.Ytobphhbmlhjbcaa
set_option linter.unusedVariables false
set_option linter.unusedSimpArgs false
open Go.RowKit
set_option maxRecDepth 100000

set_option maxHeartbeats 4000000 in
theorem rbtw_line (c : Cfg) (hcu : c.curved = false) (ka ta : Int) (aa : Option Addr) (la ca : Nat) (A : Nat → Ent) (kb tb : Int) (ab : Option Addr) (lb cb : Nat) (B : Nat → Ent) (at0 : Int) (w : World) (ha : EntsAt w aa la A) (hb : EntsAt w ab lb B) (hla : (la : Int) ≤ 4611686018427387904) (hlb : (lb : Int) ≤ 4611686018427387904) (h0 : chk2 c ka ta aa la ca A kb tb ab lb cb B = 0) (h1 : partE ta tb at0 = 0) :
    Calls Try.prog 13 #[cfgV c, snapV ka ta aa la ca, snapV kb tb ab lb cb, .int .i64 at0] w fun e w' => ∃ s cp, e = .returned (.tuple #[.slice s la cp, .int .i64 0]) ∧ PosesAt w' s la (btwF false A B lb (at0 - ta) (tb - ta)) ∧ Below w.heap.size w w' := by
  obtain ⟨i0, hi, hz0, hz1, hz2⟩ := info_parts infoPose
  have PT := rbpart_f ka ta kb tb at0 aa ab la ca lb cb
  have hl64 := chk2_len h0
  have HCU := Lib.hid hcu
  clear hcu
  obtain ⟨hfine, _, _, _, _, _, hN, hD⟩ := part_fine h1
  rw [hN, hD] at hfine PT
  rw [h1] at PT
  obtain ⟨num, hnum⟩ : ∃ x, at0 - ta = x := ⟨_, rfl⟩
  obtain ⟨den, hden⟩ : ∃ x, tb - ta = x := ⟨_, rfl⟩
  rw [hnum, hden] at hfine PT ⊢
  clear hN hD h1 hnum hden
  obtain ⟨P, hP⟩ : ∃ P, btwF false A B lb num den = P := ⟨_, rfl⟩
  have HP : Hid (∀ i, P i = btwP false (A i) (fdE B (A i).id lb) (fdB B (A i).id lb) num den) := Lib.hid (fun i => by rw [← hP]; rfl)
  rw [hP]
  clear hP
  have FND := rfind_f
  have EXA := rexact_f
  have hB3 : Below w.heap.size w (((w.alloc (.cells #[.int .i64 c.ring, .int .i64 c.window, .int .i64 c.base, .int .i64 c.gain, .int .i64 c.least, .int .i64 c.most, .int .i64 c.slack, .int .i64 c.num, .int .i64 c.den, .int .i64 c.extra, .bool c.curved] 23)).alloc (.cells #[.int .i64 ka, .int .i64 ta, .slice aa la ca] 26)).alloc (.cells #[.int .i64 kb, .int .i64 tb, .slice ab lb cb] 26)) := (((Below.refl _ _).alloc (Nat.le_refl _) _).alloc (by simp) _).alloc (by simp; omega) _
  have bc := (((Blk.new w #[.int .i64 c.ring, .int .i64 c.window, .int .i64 c.base, .int .i64 c.gain, .int .i64 c.least, .int .i64 c.most, .int .i64 c.slack, .int .i64 c.num, .int .i64 c.den, .int .i64 c.extra, .bool c.curved] 23).alloc (.cells #[.int .i64 ka, .int .i64 ta, .slice aa la ca] 26)).alloc (.cells #[.int .i64 kb, .int .i64 tb, .slice ab lb cb] 26))
  have ba := ((Blk.new (w.alloc (.cells #[.int .i64 c.ring, .int .i64 c.window, .int .i64 c.base, .int .i64 c.gain, .int .i64 c.least, .int .i64 c.most, .int .i64 c.slack, .int .i64 c.num, .int .i64 c.den, .int .i64 c.extra, .bool c.curved] 23)) #[.int .i64 ka, .int .i64 ta, .slice aa la ca] 26).alloc (.cells #[.int .i64 kb, .int .i64 tb, .slice ab lb cb] 26))
  have bb := Blk.new ((w.alloc (.cells #[.int .i64 c.ring, .int .i64 c.window, .int .i64 c.base, .int .i64 c.gain, .int .i64 c.least, .int .i64 c.most, .int .i64 c.slack, .int .i64 c.num, .int .i64 c.den, .int .i64 c.extra, .bool c.curved] 23)).alloc (.cells #[.int .i64 ka, .int .i64 ta, .slice aa la ca] 26)) #[.int .i64 kb, .int .i64 tb, .slice ab lb cb] 26
  have CK := rpcheck_f c (some ⟨(((w.alloc (.cells #[.int .i64 c.ring, .int .i64 c.window, .int .i64 c.base, .int .i64 c.gain, .int .i64 c.least, .int .i64 c.most, .int .i64 c.slack, .int .i64 c.num, .int .i64 c.den, .int .i64 c.extra, .bool c.curved] 23)).alloc (.cells #[.int .i64 ka, .int .i64 ta, .slice aa la ca] 26)).alloc (.cells #[.int .i64 kb, .int .i64 tb, .slice ab lb cb] 26)).heap.size, 0, none⟩) 2 2 _ _ _ _ _ (sns2 (((w.alloc (.cells #[.int .i64 c.ring, .int .i64 c.window, .int .i64 c.base, .int .i64 c.gain, .int .i64 c.least, .int .i64 c.most, .int .i64 c.slack, .int .i64 c.num, .int .i64 c.den, .int .i64 c.extra, .bool c.curved] 23)).alloc (.cells #[.int .i64 ka, .int .i64 ta, .slice aa la ca] 26)).alloc (.cells #[.int .i64 kb, .int .i64 tb, .slice ab lb cb] 26)) ka ta kb tb aa ab la ca lb cb A B (ha.below hB3) (hb.below hB3) hla hlb) (by decide)
  have hs3 : (((w.alloc (.cells #[.int .i64 c.ring, .int .i64 c.window, .int .i64 c.base, .int .i64 c.gain, .int .i64 c.least, .int .i64 c.most, .int .i64 c.slack, .int .i64 c.num, .int .i64 c.den, .int .i64 c.extra, .bool c.curved] 23)).alloc (.cells #[.int .i64 ka, .int .i64 ta, .slice aa la ca] 26)).alloc (.cells #[.int .i64 kb, .int .i64 tb, .slice ab lb cb] 26)).heap.size = w.heap.size + 1 + 1 + 1 := by simp
  change Calls _ _ _ _ (fun e w' => e = .returned (.int .i64 (chk2 c ka ta aa la ca A kb tb ab lb cb B)) ∧ _) at CK
  simp only [World.size_alloc] at ba bb
  unfold cfgV at CK ⊢
  unfold snapV
  go_enter Try.func13, Try.ntmps13
  go_wp2_with fail
  generalize (((w.alloc (.cells #[.int .i64 c.ring, .int .i64 c.window, .int .i64 c.base, .int .i64 c.gain, .int .i64 c.least, .int .i64 c.most, .int .i64 c.slack, .int .i64 c.num, .int .i64 c.den, .int .i64 c.extra, .bool c.curved] 23)).alloc (.cells #[.int .i64 ka, .int .i64 ta, .slice aa la ca] 26)).alloc (.cells #[.int .i64 kb, .int .i64 tb, .slice ab lb cb] 26)) = W at *
  rw [hs3] at CK
  refine CK.mono ?_; rintro e w1 ⟨rfl, hb1⟩
  have hB1 : Below W.heap.size W w1 := ((Below.refl _ _).alloc (Nat.le_refl _) _).trans (hb1.mono (by simp))
  have HB1 : Hid (Below w.heap.size w w1) := Lib.hid (hB3.trans (hB1.mono hB3.size))
  have SC := Lib.hid (bc.below hB1 bc.lt)
  have SA := Lib.hid (ba.below hB1 ba.lt)
  have SB := Lib.hid (bb.below hB1 bb.lt)
  clear hB3 hb1 hB1 CK bc ba bb hs3
  rw [h0]
  clear h0
  have hokA := ha.1
  have HCA : Hid (∀ k, k < la → ∃ b off, aa = some ⟨b, off, none⟩ ∧ b < w.heap.size ∧ EntCells w b (off + k * 9) (A k)) := Lib.hid (fun k hk => by
    rcases ha.2 with h0 | ⟨b, off, e, hb, hc⟩
    · omega
    · exact ⟨b, off, e, hb, hc k hk⟩)
  obtain ⟨a0, a1, a2⟩ := sn_cells SA.out
  obtain ⟨b0, b1, b2⟩ := sn_cells SB.out
  go_wp2_with fail
  refine (PT _).mono ?_; rintro e W0 ⟨rfl, hb2⟩
  have SCn := Lib.hid (SC.out.below hb2 SC.out.lt)
  clear SC
  have SC := SCn
  clear SCn
  have SAn := Lib.hid (SA.out.below hb2 SA.out.lt)
  clear SA
  have SA := SAn
  clear SAn
  have SBn := Lib.hid (SB.out.below hb2 SB.out.lt)
  clear SB
  have SB := SBn
  clear SBn
  have HW0 : Hid (Below w.heap.size w W0) := Lib.hid (HB1.out.trans (hb2.mono HB1.out.size))
  clear hb2 a0 a1 a2 b0 b1 b2 PT HB1
  have hs2 := SB.out.lt
  go_wp2_with fail
  go_loopw [14, 15] (fun v i wr => ∃ k : Nat, k ≤ la ∧ i = .int .i64 k ∧ wr.ownsRow W0.heap.size 45 6 v k (poL P k) ∧ Below W0.heap.size W0 wr) (fun _ i _ => la - (intOf i).toNat)
  case atStart => exact ⟨0, Nat.zero_le _, rfl, World.ownsRow_nil _ _ _ _, Below.refl _ _⟩
  case round =>
      rename_i wr
      obtain ⟨k, hk, rfl, hown, hB⟩ := hrel
      have hsz := hB.size
      by_cases hlt : k < la
      · obtain ⟨b, off, hea, hbw, hc⟩ := HCA.out k hlt
        subst hea
        have hcw := hc.below (HW0.out.trans (hB.mono HW0.out.size)) hbw
        have hx := hokA k hlt
        have hy : (fdE B (A k).id lb).Ok := fdE_ok hb (A k).id
        have HPk := Lib.hid (HP.out k)
        have HL : Hid (poL P (k + 1) = poL P k ++ [.int .i64 (P k).id, .int .i64 (P k).px, .int .i64 (P k).py, .int .i64 (P k).pz, .int .u16 (P k).ang, .int .i64 (P k).mode]) := Lib.hid rfl
        have FD := Lib.hid (fun w' (hw : Below w.heap.size w w') => FND kb tb ab lb cb B (A k).id w' (hb.below hw) hlb)
        have EX := EXA (A k)
        unfold entV poV exactP at EX
        unfold entV snapV at FD
        have hkl : (k : Int) < la := by omega
        have HOWN := Lib.hid hown
        have HLT := Lib.hid (fun j e => (hown.lt j e).2)
        have HB := Lib.hid hB
        clear hc hown hB
        generalize P k = pk at *
        generalize fdB B (A k).id lb = fb at *
        generalize fdE B (A k).id lb = y at *
        generalize A k = x at *
        obtain ⟨xid, px, py, pz, vx, vy, vz, ang, gen⟩ := x
        obtain ⟨yid, qx, qy, qz, ux, uy, uz, yang, ygen⟩ := y
        obtain ⟨c0, c1, c2, c3, c4, c5, c6, c7, c8⟩ := hcw
        dsimp only at c0 c1 c2 c3 c4 c5 c6 c7 c8 EX FD
        have SCr := Lib.hid (SC.out.below HB.out SC.out.lt)
        have SAr := Lib.hid (SA.out.below HB.out SA.out.lt)
        have SBr := Lib.hid (SB.out.below HB.out SB.out.lt)
        obtain ⟨a0, a1, a2⟩ := sn_cells SAr.out
        obtain ⟨b0, b1, b2⟩ := sn_cells SBr.out
        have l0 := SBr.out.lt
        have fd := FD.out _ (HW0.out.trans ((HB.out.alloc hsz (.cells #[.int .i64 xid, .int .i64 px, .int .i64 py, .int .i64 pz, .int .i64 vx, .int .i64 vy, .int .i64 vz, .int .u16 ang, .int .u8 gen] 47)).mono HW0.out.size))
        go_wp2_with fail
        refine fd.mono ?_; rintro e w4 ⟨rfl, hb4⟩
        have X4 := Lib.hid ((Blk.new wr #[.int .i64 xid, .int .i64 px, .int .i64 py, .int .i64 pz, .int .i64 vx, .int .i64 vy, .int .i64 vz, .int .u16 ang, .int .u8 gen] 47).below hb4 (by simp))
        have HB4 : Hid (Below W0.heap.size W0 w4) := Lib.hid ((HB.out.alloc hsz _).trans (hb4.mono (by simp; omega)))
        have OW4 := Lib.hid (own_below (HOWN.out.alloc _) hb4)
        have l4 := X4.out.lt
        clear hb4 fd FD c0 c1 c2 c3 c4 c5 c6 c7 c8 HB HOWN a0 a1 a2 b0 b1 b2 SAr SBr SCr
        obtain ⟨c0, c1, c2, c3, c4, c5, c6, c7, c8⟩ := ent_cells X4.out
        go_wp2_with fail
        refine (EX _).mono ?_; rintro e w6 ⟨rfl, hb6⟩
        have X6 := Lib.hid ((X4.out.alloc (.cells #[.int .i64 yid, .int .i64 qx, .int .i64 qy, .int .i64 qz, .int .i64 ux, .int .i64 uy, .int .i64 uz, .int .u16 yang, .int .u8 ygen] 47)).below hb6 (by simp; omega))
        have Y6 := Lib.hid ((Blk.new w4 #[.int .i64 yid, .int .i64 qx, .int .i64 qy, .int .i64 qz, .int .i64 ux, .int .i64 uy, .int .i64 uz, .int .u16 yang, .int .u8 ygen] 47).below hb6 (by simp))
        have HB6 : Hid (Below W0.heap.size W0 w6) := Lib.hid ((HB4.out.alloc HB4.out.size _).trans (hb6.mono (by have := HB4.out.size; simp; omega)))
        have OW6 := Lib.hid (own_below (OW4.out.alloc _) hb6)
        have l6 := X6.out.lt
        have l6b := Y6.out.lt
        clear hb6 EX c0 c1 c2 c3 c4 c5 c6 c7 c8 HB4 OW4 X4
        obtain ⟨c0, c1, c2, c3, c4, c5, c6, c7, c8⟩ := ent_cells X6.out
        obtain ⟨d0, d1, d2, d3, d4, d5, d6, d7, d8⟩ := ent_cells Y6.out
        have SC6 := Lib.hid (SC.out.below HB6.out SC.out.lt)
        by_cases hm : fb = true ∧ ygen = gen
        · obtain ⟨rfl, rfl⟩ := hm
          have HPK : Hid (pk = ⟨xid, lerpF px qx num den, lerpF py qy num den, lerpF pz qz num den, alerpF ang yang num den, 1⟩) := Lib.hid (by rw [HPk.out]; unfold btwP; rw [if_pos ⟨rfl, rfl⟩]; rfl)
          have PL := Lib.hid (rvlerp_f px py pz qx qy qz num den hx.px hx.py hx.pz hy.px hy.py hy.pz hfine)
          have AL := Lib.hid (rlerpA_f ang yang num den hx.ang hy.ang hfine)
          generalize lerpF px qx num den = z1 at *
          generalize lerpF py qy num den = z2 at *
          generalize lerpF pz qz num den = z3 at *
          generalize alerpF ang yang num den = z4 at *
          go_wp2_with fail
          refine (PL.out _).mono ?_; rintro e w7 ⟨rfl, hb7⟩
          have X7 := Lib.hid ((X6.out.alloc (.cells #[.int .i64 xid, .int .i64 px, .int .i64 py, .int .i64 pz, .int .u16 ang, .int .i64 1] 45)).below hb7 (by simp; omega))
          have Y7 := Lib.hid ((Y6.out.alloc (.cells #[.int .i64 xid, .int .i64 px, .int .i64 py, .int .i64 pz, .int .u16 ang, .int .i64 1] 45)).below hb7 (by simp; omega))
          have P7 := Lib.hid ((Blk.new w6 #[.int .i64 xid, .int .i64 px, .int .i64 py, .int .i64 pz, .int .u16 ang, .int .i64 1] 45).below hb7 (by simp))
          have HB7 : Hid (Below W0.heap.size W0 w7) := Lib.hid ((HB6.out.alloc HB6.out.size _).trans (hb7.mono (by have := HB6.out.size; simp; omega)))
          have OW7 := Lib.hid (own_below (OW6.out.alloc _) hb7)
          have SC7 := Lib.hid (SC.out.below HB7.out SC.out.lt)
          have l7 := P7.out.lt
          have l6c := SC6.out.lt
          clear hb7 c0 c1 c2 c3 c4 c5 c6 c7 c8 d0 d1 d2 d3 d4 d5 d6 d7 d8 X6 Y6 HB6 OW6 SC6
          obtain ⟨c0, c1, c2, c3, c4, c5, c6, c7, c8⟩ := ent_cells X7.out
          obtain ⟨d0, d1, d2, d3, d4, d5, d6, d7, d8⟩ := ent_cells Y7.out
          obtain ⟨p0, p1, p2, p3, p4, p5⟩ := po_cells P7.out
          obtain ⟨f0, f1, f2, f3, f4, f5⟩ := po_free P7.out
          have q10 : w7.cell? ⟨w.heap.size, 10, none⟩ = some (.bool c.curved) := (cfg_cells SC7.out).2.2.2.2.2.2.2.2.2.2
          rw [HCU.out] at q10
          go_wp2_with fail
          refine (AL.out _).mono ?_; rintro e wd ⟨rfl, rfl⟩
          have Z9 := sets4 P7.out 1 (.int .i64 z1) 2 (.int .i64 z2) 3 (.int .i64 z3) 4 (.int .u16 z4)
          have OWZ := Lib.hid (own_only OW7.out Z9.2 (fun j e h => by have := HLT.out j e; have h2 : j = w6.heap.size := h; omega))
          have HBZ := Lib.hid (HB7.out.trans (Z9.2.below HB7.out.size (by rintro i rfl; omega)))
          clear Z9
          go_wp2_with (at_builtin; refine wpList_append_own _ rfl (.tmp 100) (.tmp 102) 30 rfl W0.heap.size 45 i0 (.agg #[.int .i64 0, .int .i64 0, .int .i64 0, .int .i64 0, .int .u16 0, .int .i64 0]) 6 48 Try.underlying30 hi hz0 hz1 hz2 rfl (by decide) _ _ _ rfl (OWZ.out.alloc _) ⟨w7.heap.size, 0, none⟩ 1 1 [.int .i64 xid, .int .i64 z1, .int .i64 z2, .int .i64 z3, .int .u16 z4, .int .i64 1] rfl rfl ?c1 ?c2 ?c3 ?c4 ?c5 ?_)
          case c1 => exact cells_new (by simp)
          case c2 => intro u hu; simp at hu; rcases hu with rfl | rfl | rfl | rfl | rfl | rfl <;> rfl
          case c3 => unfold maxLen; omega
          case c4 => omega
          case c5 => have := HBZ.out.size; simp at *; omega
          intro v' w10 hown' hgrow _
          have hszz := HBZ.out.size
          have hB' : Hid (Below W0.heap.size W0 w10) := Lib.hid ((HBZ.out.alloc hszz _).grown hgrow (by simp at *; omega) (fun j e => (OWZ.out.lt j e).1))
          have HO : Hid (w10.ownsRow W0.heap.size 45 6 v' (k + 1) (poL P (k + 1))) := Lib.hid (by rw [HL.out, HPK.out]; exact hown')
          clear hown' hgrow
          go_wp2
          go_roundw
          case rel => exact ⟨k + 1, by omega, by go_num, HO.out, hB'.out⟩
          case measure => simp [intOf]; omega
        · have HPK : Hid (pk = ⟨xid, px, py, pz, ang, 0⟩) := Lib.hid (by rw [HPk.out]; unfold btwP; rw [if_neg hm]; rfl)
          have HB7 : Hid (Below W0.heap.size W0 (w6.alloc (.cells #[.int .i64 xid, .int .i64 px, .int .i64 py, .int .i64 pz, .int .u16 ang, .int .i64 0] 45))) := Lib.hid (HB6.out.alloc HB6.out.size _)
          have OW7 := Lib.hid (OW6.out.alloc (.cells #[.int .i64 xid, .int .i64 px, .int .i64 py, .int .i64 pz, .int .u16 ang, .int .i64 0] 45))
          cases fb
          · clear hm
            go_wp2_with (at_builtin; refine wpList_append_own _ rfl (.tmp 100) (.tmp 102) 30 rfl W0.heap.size 45 i0 (.agg #[.int .i64 0, .int .i64 0, .int .i64 0, .int .i64 0, .int .u16 0, .int .i64 0]) 6 48 Try.underlying30 hi hz0 hz1 hz2 rfl (by decide) _ _ _ rfl (OW7.out.alloc _) ⟨w6.heap.size + 1, 0, none⟩ 1 1 [.int .i64 xid, .int .i64 px, .int .i64 py, .int .i64 pz, .int .u16 ang, .int .i64 0] rfl rfl ?c1 ?c2 ?c3 ?c4 ?c5 ?_)
            case c1 => exact cells_new (by simp)
            case c2 => intro u hu; simp at hu; rcases hu with rfl | rfl | rfl | rfl | rfl | rfl <;> rfl
            case c3 => unfold maxLen; omega
            case c4 => omega
            case c5 => have := HB7.out.size; simp at *; omega
            intro v' w10 hown' hgrow _
            have hszz := HB7.out.size
            have hB' : Hid (Below W0.heap.size W0 w10) := Lib.hid ((HB7.out.alloc hszz _).grown hgrow (by simp at *; omega) (fun j e => (OW7.out.lt j e).1))
            have HO : Hid (w10.ownsRow W0.heap.size 45 6 v' (k + 1) (poL P (k + 1))) := Lib.hid (by rw [HL.out, HPK.out]; exact hown')
            clear hown' hgrow
            go_wp2
            go_roundw
            case rel => exact ⟨k + 1, by omega, by go_num, HO.out, hB'.out⟩
            case measure => simp [intOf]; omega
          · have hg : (gen == ygen) = false := by
              simp; intro e; exact hm ⟨rfl, e.symm⟩
            clear hm
            go_wp2_with (at_builtin; refine wpList_append_own _ rfl (.tmp 100) (.tmp 102) 30 rfl W0.heap.size 45 i0 (.agg #[.int .i64 0, .int .i64 0, .int .i64 0, .int .i64 0, .int .u16 0, .int .i64 0]) 6 48 Try.underlying30 hi hz0 hz1 hz2 rfl (by decide) _ _ _ rfl (OW7.out.alloc _) ⟨w6.heap.size + 1, 0, none⟩ 1 1 [.int .i64 xid, .int .i64 px, .int .i64 py, .int .i64 pz, .int .u16 ang, .int .i64 0] rfl rfl ?c1 ?c2 ?c3 ?c4 ?c5 ?_)
            case c1 => exact cells_new (by simp)
            case c2 => intro u hu; simp at hu; rcases hu with rfl | rfl | rfl | rfl | rfl | rfl <;> rfl
            case c3 => unfold maxLen; omega
            case c4 => omega
            case c5 => have := HB7.out.size; simp at *; omega
            intro v' w10 hown' hgrow _
            have hszz := HB7.out.size
            have hB' : Hid (Below W0.heap.size W0 w10) := Lib.hid ((HB7.out.alloc hszz _).grown hgrow (by simp at *; omega) (fun j e => (OW7.out.lt j e).1))
            have HO : Hid (w10.ownsRow W0.heap.size 45 6 v' (k + 1) (poL P (k + 1))) := Lib.hid (by rw [HL.out, HPK.out]; exact hown')
            clear hown' hgrow
            go_wp2
            go_roundw
            case rel => exact ⟨k + 1, by omega, by go_num, HO.out, hB'.out⟩
            case measure => simp [intOf]; omega
      · obtain rfl : k = la := by omega
        obtain ⟨s, cp, rfl, hS⟩ := poses_of_row hown
        have HS := Lib.hid hS
        have HBE := Lib.hid (HW0.out.trans (hB.mono HW0.out.size))
        have SAr := Lib.hid (SA.out.below hB SA.out.lt)
        obtain ⟨a0, a1, a2⟩ := sn_cells SAr.out
        clear hS hown hB
        go_wp2
        exact bodyPost_ret (v := .tuple #[.slice s k cp, .int .i64 0]) (by simp [results, Try.results13, go_sem]) rfl ⟨s, cp, rfl, HS.out, HBE.out⟩

set_option maxHeartbeats 4000000 in
theorem rbtw_curved (c : Cfg) (hcu : c.curved = true) (ka ta : Int) (aa : Option Addr) (la ca : Nat) (A : Nat → Ent) (kb tb : Int) (ab : Option Addr) (lb cb : Nat) (B : Nat → Ent) (at0 : Int) (w : World) (ha : EntsAt w aa la A) (hb : EntsAt w ab lb B) (hla : (la : Int) ≤ 4611686018427387904) (hlb : (lb : Int) ≤ 4611686018427387904) (h0 : chk2 c ka ta aa la ca A kb tb ab lb cb B = 0) (h1 : partE ta tb at0 = 0) :
    Calls Try.prog 13 #[cfgV c, snapV ka ta aa la ca, snapV kb tb ab lb cb, .int .i64 at0] w fun e w' => ∃ s cp, e = .returned (.tuple #[.slice s la cp, .int .i64 0]) ∧ PosesAt w' s la (btwF true A B lb (at0 - ta) (tb - ta)) ∧ Below w.heap.size w w' := by
  obtain ⟨i0, hi, hz0, hz1, hz2⟩ := info_parts infoPose
  have PT := rbpart_f ka ta kb tb at0 aa ab la ca lb cb
  have hl64 := chk2_len h0
  have HCU := Lib.hid hcu
  clear hcu
  obtain ⟨hfine, _, _, _, _, _, hN, hD⟩ := part_fine h1
  rw [hN, hD] at hfine PT
  rw [h1] at PT
  obtain ⟨num, hnum⟩ : ∃ x, at0 - ta = x := ⟨_, rfl⟩
  obtain ⟨den, hden⟩ : ∃ x, tb - ta = x := ⟨_, rfl⟩
  rw [hnum, hden] at hfine PT ⊢
  clear hN hD h1 hnum hden
  obtain ⟨P, hP⟩ : ∃ P, btwF true A B lb num den = P := ⟨_, rfl⟩
  have HP : Hid (∀ i, P i = btwP true (A i) (fdE B (A i).id lb) (fdB B (A i).id lb) num den) := Lib.hid (fun i => by rw [← hP]; rfl)
  rw [hP]
  clear hP
  have FND := rfind_f
  have EXA := rexact_f
  have hB3 : Below w.heap.size w (((w.alloc (.cells #[.int .i64 c.ring, .int .i64 c.window, .int .i64 c.base, .int .i64 c.gain, .int .i64 c.least, .int .i64 c.most, .int .i64 c.slack, .int .i64 c.num, .int .i64 c.den, .int .i64 c.extra, .bool c.curved] 23)).alloc (.cells #[.int .i64 ka, .int .i64 ta, .slice aa la ca] 26)).alloc (.cells #[.int .i64 kb, .int .i64 tb, .slice ab lb cb] 26)) := (((Below.refl _ _).alloc (Nat.le_refl _) _).alloc (by simp) _).alloc (by simp; omega) _
  have bc := (((Blk.new w #[.int .i64 c.ring, .int .i64 c.window, .int .i64 c.base, .int .i64 c.gain, .int .i64 c.least, .int .i64 c.most, .int .i64 c.slack, .int .i64 c.num, .int .i64 c.den, .int .i64 c.extra, .bool c.curved] 23).alloc (.cells #[.int .i64 ka, .int .i64 ta, .slice aa la ca] 26)).alloc (.cells #[.int .i64 kb, .int .i64 tb, .slice ab lb cb] 26))
  have ba := ((Blk.new (w.alloc (.cells #[.int .i64 c.ring, .int .i64 c.window, .int .i64 c.base, .int .i64 c.gain, .int .i64 c.least, .int .i64 c.most, .int .i64 c.slack, .int .i64 c.num, .int .i64 c.den, .int .i64 c.extra, .bool c.curved] 23)) #[.int .i64 ka, .int .i64 ta, .slice aa la ca] 26).alloc (.cells #[.int .i64 kb, .int .i64 tb, .slice ab lb cb] 26))
  have bb := Blk.new ((w.alloc (.cells #[.int .i64 c.ring, .int .i64 c.window, .int .i64 c.base, .int .i64 c.gain, .int .i64 c.least, .int .i64 c.most, .int .i64 c.slack, .int .i64 c.num, .int .i64 c.den, .int .i64 c.extra, .bool c.curved] 23)).alloc (.cells #[.int .i64 ka, .int .i64 ta, .slice aa la ca] 26)) #[.int .i64 kb, .int .i64 tb, .slice ab lb cb] 26
  have CK := rpcheck_f c (some ⟨(((w.alloc (.cells #[.int .i64 c.ring, .int .i64 c.window, .int .i64 c.base, .int .i64 c.gain, .int .i64 c.least, .int .i64 c.most, .int .i64 c.slack, .int .i64 c.num, .int .i64 c.den, .int .i64 c.extra, .bool c.curved] 23)).alloc (.cells #[.int .i64 ka, .int .i64 ta, .slice aa la ca] 26)).alloc (.cells #[.int .i64 kb, .int .i64 tb, .slice ab lb cb] 26)).heap.size, 0, none⟩) 2 2 _ _ _ _ _ (sns2 (((w.alloc (.cells #[.int .i64 c.ring, .int .i64 c.window, .int .i64 c.base, .int .i64 c.gain, .int .i64 c.least, .int .i64 c.most, .int .i64 c.slack, .int .i64 c.num, .int .i64 c.den, .int .i64 c.extra, .bool c.curved] 23)).alloc (.cells #[.int .i64 ka, .int .i64 ta, .slice aa la ca] 26)).alloc (.cells #[.int .i64 kb, .int .i64 tb, .slice ab lb cb] 26)) ka ta kb tb aa ab la ca lb cb A B (ha.below hB3) (hb.below hB3) hla hlb) (by decide)
  have hs3 : (((w.alloc (.cells #[.int .i64 c.ring, .int .i64 c.window, .int .i64 c.base, .int .i64 c.gain, .int .i64 c.least, .int .i64 c.most, .int .i64 c.slack, .int .i64 c.num, .int .i64 c.den, .int .i64 c.extra, .bool c.curved] 23)).alloc (.cells #[.int .i64 ka, .int .i64 ta, .slice aa la ca] 26)).alloc (.cells #[.int .i64 kb, .int .i64 tb, .slice ab lb cb] 26)).heap.size = w.heap.size + 1 + 1 + 1 := by simp
  change Calls _ _ _ _ (fun e w' => e = .returned (.int .i64 (chk2 c ka ta aa la ca A kb tb ab lb cb B)) ∧ _) at CK
  simp only [World.size_alloc] at ba bb
  unfold cfgV at CK ⊢
  unfold snapV
  go_enter Try.func13, Try.ntmps13
  go_wp2_with fail
  generalize (((w.alloc (.cells #[.int .i64 c.ring, .int .i64 c.window, .int .i64 c.base, .int .i64 c.gain, .int .i64 c.least, .int .i64 c.most, .int .i64 c.slack, .int .i64 c.num, .int .i64 c.den, .int .i64 c.extra, .bool c.curved] 23)).alloc (.cells #[.int .i64 ka, .int .i64 ta, .slice aa la ca] 26)).alloc (.cells #[.int .i64 kb, .int .i64 tb, .slice ab lb cb] 26)) = W at *
  rw [hs3] at CK
  refine CK.mono ?_; rintro e w1 ⟨rfl, hb1⟩
  have hB1 : Below W.heap.size W w1 := ((Below.refl _ _).alloc (Nat.le_refl _) _).trans (hb1.mono (by simp))
  have HB1 : Hid (Below w.heap.size w w1) := Lib.hid (hB3.trans (hB1.mono hB3.size))
  have SC := Lib.hid (bc.below hB1 bc.lt)
  have SA := Lib.hid (ba.below hB1 ba.lt)
  have SB := Lib.hid (bb.below hB1 bb.lt)
  clear hB3 hb1 hB1 CK bc ba bb hs3
  rw [h0]
  clear h0
  have hokA := ha.1
  have HCA : Hid (∀ k, k < la → ∃ b off, aa = some ⟨b, off, none⟩ ∧ b < w.heap.size ∧ EntCells w b (off + k * 9) (A k)) := Lib.hid (fun k hk => by
    rcases ha.2 with h0 | ⟨b, off, e, hb, hc⟩
    · omega
    · exact ⟨b, off, e, hb, hc k hk⟩)
  obtain ⟨a0, a1, a2⟩ := sn_cells SA.out
  obtain ⟨b0, b1, b2⟩ := sn_cells SB.out
  go_wp2_with fail
  refine (PT _).mono ?_; rintro e W0 ⟨rfl, hb2⟩
  have SCn := Lib.hid (SC.out.below hb2 SC.out.lt)
  clear SC
  have SC := SCn
  clear SCn
  have SAn := Lib.hid (SA.out.below hb2 SA.out.lt)
  clear SA
  have SA := SAn
  clear SAn
  have SBn := Lib.hid (SB.out.below hb2 SB.out.lt)
  clear SB
  have SB := SBn
  clear SBn
  have HW0 : Hid (Below w.heap.size w W0) := Lib.hid (HB1.out.trans (hb2.mono HB1.out.size))
  clear hb2 a0 a1 a2 b0 b1 b2 PT HB1
  have hs2 := SB.out.lt
  go_wp2_with fail
  go_loopw [14, 15] (fun v i wr => ∃ k : Nat, k ≤ la ∧ i = .int .i64 k ∧ wr.ownsRow W0.heap.size 45 6 v k (poL P k) ∧ Below W0.heap.size W0 wr) (fun _ i _ => la - (intOf i).toNat)
  case atStart => exact ⟨0, Nat.zero_le _, rfl, World.ownsRow_nil _ _ _ _, Below.refl _ _⟩
  case round =>
      rename_i wr
      obtain ⟨k, hk, rfl, hown, hB⟩ := hrel
      have hsz := hB.size
      by_cases hlt : k < la
      · obtain ⟨b, off, hea, hbw, hc⟩ := HCA.out k hlt
        subst hea
        have hcw := hc.below (HW0.out.trans (hB.mono HW0.out.size)) hbw
        have hx := hokA k hlt
        have hy : (fdE B (A k).id lb).Ok := fdE_ok hb (A k).id
        have HPk := Lib.hid (HP.out k)
        have HL : Hid (poL P (k + 1) = poL P k ++ [.int .i64 (P k).id, .int .i64 (P k).px, .int .i64 (P k).py, .int .i64 (P k).pz, .int .u16 (P k).ang, .int .i64 (P k).mode]) := Lib.hid rfl
        have FD := Lib.hid (fun w' (hw : Below w.heap.size w w') => FND kb tb ab lb cb B (A k).id w' (hb.below hw) hlb)
        have EX := EXA (A k)
        unfold entV poV exactP at EX
        unfold entV snapV at FD
        have hkl : (k : Int) < la := by omega
        have HOWN := Lib.hid hown
        have HLT := Lib.hid (fun j e => (hown.lt j e).2)
        have HB := Lib.hid hB
        clear hc hown hB
        generalize P k = pk at *
        generalize fdB B (A k).id lb = fb at *
        generalize fdE B (A k).id lb = y at *
        generalize A k = x at *
        obtain ⟨xid, px, py, pz, vx, vy, vz, ang, gen⟩ := x
        obtain ⟨yid, qx, qy, qz, ux, uy, uz, yang, ygen⟩ := y
        obtain ⟨c0, c1, c2, c3, c4, c5, c6, c7, c8⟩ := hcw
        dsimp only at c0 c1 c2 c3 c4 c5 c6 c7 c8 EX FD
        have SCr := Lib.hid (SC.out.below HB.out SC.out.lt)
        have SAr := Lib.hid (SA.out.below HB.out SA.out.lt)
        have SBr := Lib.hid (SB.out.below HB.out SB.out.lt)
        obtain ⟨a0, a1, a2⟩ := sn_cells SAr.out
        obtain ⟨b0, b1, b2⟩ := sn_cells SBr.out
        have l0 := SBr.out.lt
        have fd := FD.out _ (HW0.out.trans ((HB.out.alloc hsz (.cells #[.int .i64 xid, .int .i64 px, .int .i64 py, .int .i64 pz, .int .i64 vx, .int .i64 vy, .int .i64 vz, .int .u16 ang, .int .u8 gen] 47)).mono HW0.out.size))
        go_wp2_with fail
        refine fd.mono ?_; rintro e w4 ⟨rfl, hb4⟩
        have X4 := Lib.hid ((Blk.new wr #[.int .i64 xid, .int .i64 px, .int .i64 py, .int .i64 pz, .int .i64 vx, .int .i64 vy, .int .i64 vz, .int .u16 ang, .int .u8 gen] 47).below hb4 (by simp))
        have HB4 : Hid (Below W0.heap.size W0 w4) := Lib.hid ((HB.out.alloc hsz _).trans (hb4.mono (by simp; omega)))
        have OW4 := Lib.hid (own_below (HOWN.out.alloc _) hb4)
        have l4 := X4.out.lt
        clear hb4 fd FD c0 c1 c2 c3 c4 c5 c6 c7 c8 HB HOWN a0 a1 a2 b0 b1 b2 SAr SBr SCr
        obtain ⟨c0, c1, c2, c3, c4, c5, c6, c7, c8⟩ := ent_cells X4.out
        go_wp2_with fail
        refine (EX _).mono ?_; rintro e w6 ⟨rfl, hb6⟩
        have X6 := Lib.hid ((X4.out.alloc (.cells #[.int .i64 yid, .int .i64 qx, .int .i64 qy, .int .i64 qz, .int .i64 ux, .int .i64 uy, .int .i64 uz, .int .u16 yang, .int .u8 ygen] 47)).below hb6 (by simp; omega))
        have Y6 := Lib.hid ((Blk.new w4 #[.int .i64 yid, .int .i64 qx, .int .i64 qy, .int .i64 qz, .int .i64 ux, .int .i64 uy, .int .i64 uz, .int .u16 yang, .int .u8 ygen] 47).below hb6 (by simp))
        have HB6 : Hid (Below W0.heap.size W0 w6) := Lib.hid ((HB4.out.alloc HB4.out.size _).trans (hb6.mono (by have := HB4.out.size; simp; omega)))
        have OW6 := Lib.hid (own_below (OW4.out.alloc _) hb6)
        have l6 := X6.out.lt
        have l6b := Y6.out.lt
        clear hb6 EX c0 c1 c2 c3 c4 c5 c6 c7 c8 HB4 OW4 X4
        obtain ⟨c0, c1, c2, c3, c4, c5, c6, c7, c8⟩ := ent_cells X6.out
        obtain ⟨d0, d1, d2, d3, d4, d5, d6, d7, d8⟩ := ent_cells Y6.out
        have SC6 := Lib.hid (SC.out.below HB6.out SC.out.lt)
        by_cases hm : fb = true ∧ ygen = gen
        · obtain ⟨rfl, rfl⟩ := hm
          have HPK : Hid (pk = ⟨xid, curveF px vx qx ux num den, curveF py vy qy uy num den, curveF pz vz qz uz num den, alerpF ang yang num den, 2⟩) := Lib.hid (by rw [HPk.out]; unfold btwP; rw [if_pos ⟨rfl, rfl⟩]; rfl)
          have PL := Lib.hid (rvlerp_f px py pz qx qy qz num den hx.px hx.py hx.pz hy.px hy.py hy.pz hfine)
          have AL := Lib.hid (rlerpA_f ang yang num den hx.ang hy.ang hfine)
          have CV := Lib.hid (rcvec_f px py pz vx vy vz qx qy qz ux uy uz num den hx.px hx.py hx.pz hx.vx hx.vy hx.vz hy.px hy.py hy.pz hy.vx hy.vy hy.vz hfine)
          generalize lerpF px qx num den = y1 at *
          generalize lerpF py qy num den = y2 at *
          generalize lerpF pz qz num den = y3 at *
          generalize curveF px vx qx ux num den = z1 at *
          generalize curveF py vy qy uy num den = z2 at *
          generalize curveF pz vz qz uz num den = z3 at *
          generalize alerpF ang yang num den = z4 at *
          go_wp2_with fail
          refine (PL.out _).mono ?_; rintro e w7 ⟨rfl, hb7⟩
          have X7 := Lib.hid ((X6.out.alloc (.cells #[.int .i64 xid, .int .i64 px, .int .i64 py, .int .i64 pz, .int .u16 ang, .int .i64 1] 45)).below hb7 (by simp; omega))
          have Y7 := Lib.hid ((Y6.out.alloc (.cells #[.int .i64 xid, .int .i64 px, .int .i64 py, .int .i64 pz, .int .u16 ang, .int .i64 1] 45)).below hb7 (by simp; omega))
          have P7 := Lib.hid ((Blk.new w6 #[.int .i64 xid, .int .i64 px, .int .i64 py, .int .i64 pz, .int .u16 ang, .int .i64 1] 45).below hb7 (by simp))
          have HB7 : Hid (Below W0.heap.size W0 w7) := Lib.hid ((HB6.out.alloc HB6.out.size _).trans (hb7.mono (by have := HB6.out.size; simp; omega)))
          have OW7 := Lib.hid (own_below (OW6.out.alloc _) hb7)
          have SC7 := Lib.hid (SC.out.below HB7.out SC.out.lt)
          have l7 := P7.out.lt
          have l6c := SC6.out.lt
          clear hb7 c0 c1 c2 c3 c4 c5 c6 c7 c8 d0 d1 d2 d3 d4 d5 d6 d7 d8 X6 Y6 HB6 OW6 SC6
          obtain ⟨c0, c1, c2, c3, c4, c5, c6, c7, c8⟩ := ent_cells X7.out
          obtain ⟨d0, d1, d2, d3, d4, d5, d6, d7, d8⟩ := ent_cells Y7.out
          obtain ⟨p0, p1, p2, p3, p4, p5⟩ := po_cells P7.out
          obtain ⟨f0, f1, f2, f3, f4, f5⟩ := po_free P7.out
          have q10 : w7.cell? ⟨w.heap.size, 10, none⟩ = some (.bool c.curved) := (cfg_cells SC7.out).2.2.2.2.2.2.2.2.2.2
          rw [HCU.out] at q10
          go_wp2_with fail
          have Z9 := sets4 P7.out 1 (.int .i64 y1) 2 (.int .i64 y2) 3 (.int .i64 y3) 5 (.int .i64 2)
          clear c0 c1 c2 c3 c4 c5 c6 c7 c8 d0 d1 d2 d3 d4 d5 d6 d7 d8 p0 p1 p2 p3 p4 p5 f0 f1 f2 f3 f4 f5 q10
          obtain ⟨w9, hw9⟩ : ∃ w9, w9 = ((((w7.setCell ⟨w6.heap.size, 1, none⟩ (.int .i64 y1)).setCell ⟨w6.heap.size, 2, none⟩ (.int .i64 y2)).setCell ⟨w6.heap.size, 3, none⟩ (.int .i64 y3)).setCell ⟨w6.heap.size, 5, none⟩ (.int .i64 2)) := ⟨_, rfl⟩
          rw [← hw9] at Z9 ⊢
          clear hw9
          obtain ⟨Z9, O9⟩ := Z9
          simp at Z9
          have X9 := Lib.hid (O9.blk X7.out (by omega))
          have Y9 := Lib.hid (O9.blk Y7.out (by omega))
          have P9 := Lib.hid Z9
          have HB9 : Hid (Below W0.heap.size W0 w9) := Lib.hid (HB7.out.trans (O9.below HB7.out.size (by rintro i rfl; omega)))
          have OW9 := Lib.hid (own_only OW7.out O9 (fun j e h => by have := HLT.out j e; have h2 : j = w6.heap.size := h; omega))
          clear Z9 O9 X7 Y7 P7 HB7 OW7 SC7
          refine (CV.out _).mono ?_; rintro e w8 ⟨rfl, hb8⟩
          have X8 := Lib.hid (X9.out.below hb8 X9.out.lt)
          have Y8 := Lib.hid (Y9.out.below hb8 Y9.out.lt)
          have P8 := Lib.hid (P9.out.below hb8 P9.out.lt)
          have HB8 : Hid (Below W0.heap.size W0 w8) := Lib.hid (HB9.out.trans (hb8.mono HB9.out.size))
          have OW8 := Lib.hid (own_below OW9.out hb8)
          have l8 := P8.out.lt
          clear hb8 X9 Y9 P9 HB9 OW9
          obtain ⟨c0, c1, c2, c3, c4, c5, c6, c7, c8⟩ := ent_cells X8.out
          obtain ⟨d0, d1, d2, d3, d4, d5, d6, d7, d8⟩ := ent_cells Y8.out
          obtain ⟨p0, p1, p2, p3, p4, p5⟩ := po_cells P8.out
          obtain ⟨f0, f1, f2, f3, f4, f5⟩ := po_free P8.out
          go_wp2_with fail
          refine (AL.out _).mono ?_; rintro e wd ⟨rfl, rfl⟩
          have Z9 := sets4 P8.out 1 (.int .i64 z1) 2 (.int .i64 z2) 3 (.int .i64 z3) 4 (.int .u16 z4)
          have OWZ := Lib.hid (own_only OW8.out Z9.2 (fun j e h => by have := HLT.out j e; have h2 : j = w6.heap.size := h; omega))
          have HBZ := Lib.hid (HB8.out.trans (Z9.2.below HB8.out.size (by rintro i rfl; omega)))
          clear Z9
          go_wp2_with (at_builtin; refine wpList_append_own _ rfl (.tmp 100) (.tmp 102) 30 rfl W0.heap.size 45 i0 (.agg #[.int .i64 0, .int .i64 0, .int .i64 0, .int .i64 0, .int .u16 0, .int .i64 0]) 6 48 Try.underlying30 hi hz0 hz1 hz2 rfl (by decide) _ _ _ rfl (OWZ.out.alloc _) ⟨w8.heap.size, 0, none⟩ 1 1 [.int .i64 xid, .int .i64 z1, .int .i64 z2, .int .i64 z3, .int .u16 z4, .int .i64 2] rfl rfl ?c1 ?c2 ?c3 ?c4 ?c5 ?_)
          case c1 => exact cells_new (by simp)
          case c2 => intro u hu; simp at hu; rcases hu with rfl | rfl | rfl | rfl | rfl | rfl <;> rfl
          case c3 => unfold maxLen; omega
          case c4 => omega
          case c5 => have := HBZ.out.size; simp at *; omega
          intro v' w10 hown' hgrow _
          have hszz := HBZ.out.size
          have hB' : Hid (Below W0.heap.size W0 w10) := Lib.hid ((HBZ.out.alloc hszz _).grown hgrow (by simp at *; omega) (fun j e => (OWZ.out.lt j e).1))
          have HO : Hid (w10.ownsRow W0.heap.size 45 6 v' (k + 1) (poL P (k + 1))) := Lib.hid (by rw [HL.out, HPK.out]; exact hown')
          clear hown' hgrow
          go_wp2
          go_roundw
          case rel => exact ⟨k + 1, by omega, by go_num, HO.out, hB'.out⟩
          case measure => simp [intOf]; omega
        · have HPK : Hid (pk = ⟨xid, px, py, pz, ang, 0⟩) := Lib.hid (by rw [HPk.out]; unfold btwP; rw [if_neg hm]; rfl)
          have HB7 : Hid (Below W0.heap.size W0 (w6.alloc (.cells #[.int .i64 xid, .int .i64 px, .int .i64 py, .int .i64 pz, .int .u16 ang, .int .i64 0] 45))) := Lib.hid (HB6.out.alloc HB6.out.size _)
          have OW7 := Lib.hid (OW6.out.alloc (.cells #[.int .i64 xid, .int .i64 px, .int .i64 py, .int .i64 pz, .int .u16 ang, .int .i64 0] 45))
          cases fb
          · clear hm
            go_wp2_with (at_builtin; refine wpList_append_own _ rfl (.tmp 100) (.tmp 102) 30 rfl W0.heap.size 45 i0 (.agg #[.int .i64 0, .int .i64 0, .int .i64 0, .int .i64 0, .int .u16 0, .int .i64 0]) 6 48 Try.underlying30 hi hz0 hz1 hz2 rfl (by decide) _ _ _ rfl (OW7.out.alloc _) ⟨w6.heap.size + 1, 0, none⟩ 1 1 [.int .i64 xid, .int .i64 px, .int .i64 py, .int .i64 pz, .int .u16 ang, .int .i64 0] rfl rfl ?c1 ?c2 ?c3 ?c4 ?c5 ?_)
            case c1 => exact cells_new (by simp)
            case c2 => intro u hu; simp at hu; rcases hu with rfl | rfl | rfl | rfl | rfl | rfl <;> rfl
            case c3 => unfold maxLen; omega
            case c4 => omega
            case c5 => have := HB7.out.size; simp at *; omega
            intro v' w10 hown' hgrow _
            have hszz := HB7.out.size
            have hB' : Hid (Below W0.heap.size W0 w10) := Lib.hid ((HB7.out.alloc hszz _).grown hgrow (by simp at *; omega) (fun j e => (OW7.out.lt j e).1))
            have HO : Hid (w10.ownsRow W0.heap.size 45 6 v' (k + 1) (poL P (k + 1))) := Lib.hid (by rw [HL.out, HPK.out]; exact hown')
            clear hown' hgrow
            go_wp2
            go_roundw
            case rel => exact ⟨k + 1, by omega, by go_num, HO.out, hB'.out⟩
            case measure => simp [intOf]; omega
          · have hg : (gen == ygen) = false := by
              simp; intro e; exact hm ⟨rfl, e.symm⟩
            clear hm
            go_wp2_with (at_builtin; refine wpList_append_own _ rfl (.tmp 100) (.tmp 102) 30 rfl W0.heap.size 45 i0 (.agg #[.int .i64 0, .int .i64 0, .int .i64 0, .int .i64 0, .int .u16 0, .int .i64 0]) 6 48 Try.underlying30 hi hz0 hz1 hz2 rfl (by decide) _ _ _ rfl (OW7.out.alloc _) ⟨w6.heap.size + 1, 0, none⟩ 1 1 [.int .i64 xid, .int .i64 px, .int .i64 py, .int .i64 pz, .int .u16 ang, .int .i64 0] rfl rfl ?c1 ?c2 ?c3 ?c4 ?c5 ?_)
            case c1 => exact cells_new (by simp)
            case c2 => intro u hu; simp at hu; rcases hu with rfl | rfl | rfl | rfl | rfl | rfl <;> rfl
            case c3 => unfold maxLen; omega
            case c4 => omega
            case c5 => have := HB7.out.size; simp at *; omega
            intro v' w10 hown' hgrow _
            have hszz := HB7.out.size
            have hB' : Hid (Below W0.heap.size W0 w10) := Lib.hid ((HB7.out.alloc hszz _).grown hgrow (by simp at *; omega) (fun j e => (OW7.out.lt j e).1))
            have HO : Hid (w10.ownsRow W0.heap.size 45 6 v' (k + 1) (poL P (k + 1))) := Lib.hid (by rw [HL.out, HPK.out]; exact hown')
            clear hown' hgrow
            go_wp2
            go_roundw
            case rel => exact ⟨k + 1, by omega, by go_num, HO.out, hB'.out⟩
            case measure => simp [intOf]; omega
      · obtain rfl : k = la := by omega
        obtain ⟨s, cp, rfl, hS⟩ := poses_of_row hown
        have HS := Lib.hid hS
        have HBE := Lib.hid (HW0.out.trans (hB.mono HW0.out.size))
        have SAr := Lib.hid (SA.out.below hB SA.out.lt)
        obtain ⟨a0, a1, a2⟩ := sn_cells SAr.out
        clear hS hown hB
        go_wp2
        exact bodyPost_ret (v := .tuple #[.slice s k cp, .int .i64 0]) (by simp [results, Try.results13, go_sem]) rfl ⟨s, cp, rfl, HS.out, HBE.out⟩
end Go.Proofs.Ytobphhbmlhjbcaa
