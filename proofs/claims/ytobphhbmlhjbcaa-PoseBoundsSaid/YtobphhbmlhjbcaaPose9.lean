/- The document's Beyond: the poses beyond a snapshot. -/
import Derived.Test.YtobphhbmlhjbcaaPose8
namespace Go.Proofs.Ytobphhbmlhjbcaa
set_option linter.unusedVariables false
set_option linter.unusedSimpArgs false
open Go.RowKit
set_option maxRecDepth 100000

set_option maxHeartbeats 1000000 in
theorem rbey_bad (c : Cfg) (ka ta : Int) (aa : Option Addr) (la ca : Nat) (A : Nat → Ent) (at0 : Int) (w : World) (hta : I64 ta) (hat : I64 at0) (ha : EntsAt w aa la A) (hla : (la : Int) ≤ 4611686018427387904) (h0 : chk1 c ka ta aa la ca A ≠ 0) :
    Calls Try.prog 20 #[cfgV c, snapV ka ta aa la ca, .int .i64 at0] w fun e w' => e = .returned (.tuple #[.slice none 0 0, .int .i64 (chk1 c ka ta aa la ca A)]) ∧ Below w.heap.size w w' := by
  have hB3 : Below w.heap.size w ((w.alloc (.cells #[.int .i64 c.ring, .int .i64 c.window, .int .i64 c.base, .int .i64 c.gain, .int .i64 c.least, .int .i64 c.most, .int .i64 c.slack, .int .i64 c.num, .int .i64 c.den, .int .i64 c.extra, .bool c.curved] 23)).alloc (.cells #[.int .i64 ka, .int .i64 ta, .slice aa la ca] 26)) := ((Below.refl _ _).alloc (Nat.le_refl _) _).alloc (by simp) _
  have bc := ((Blk.new w #[.int .i64 c.ring, .int .i64 c.window, .int .i64 c.base, .int .i64 c.gain, .int .i64 c.least, .int .i64 c.most, .int .i64 c.slack, .int .i64 c.num, .int .i64 c.den, .int .i64 c.extra, .bool c.curved] 23).alloc (.cells #[.int .i64 ka, .int .i64 ta, .slice aa la ca] 26))
  have ba := Blk.new (w.alloc (.cells #[.int .i64 c.ring, .int .i64 c.window, .int .i64 c.base, .int .i64 c.gain, .int .i64 c.least, .int .i64 c.most, .int .i64 c.slack, .int .i64 c.num, .int .i64 c.den, .int .i64 c.extra, .bool c.curved] 23)) #[.int .i64 ka, .int .i64 ta, .slice aa la ca] 26
  have CK := rpcheck_f c (some ⟨((w.alloc (.cells #[.int .i64 c.ring, .int .i64 c.window, .int .i64 c.base, .int .i64 c.gain, .int .i64 c.least, .int .i64 c.most, .int .i64 c.slack, .int .i64 c.num, .int .i64 c.den, .int .i64 c.extra, .bool c.curved] 23)).alloc (.cells #[.int .i64 ka, .int .i64 ta, .slice aa la ca] 26)).heap.size, 0, none⟩) 1 1 _ _ _ _ _ (sns1 ((w.alloc (.cells #[.int .i64 c.ring, .int .i64 c.window, .int .i64 c.base, .int .i64 c.gain, .int .i64 c.least, .int .i64 c.most, .int .i64 c.slack, .int .i64 c.num, .int .i64 c.den, .int .i64 c.extra, .bool c.curved] 23)).alloc (.cells #[.int .i64 ka, .int .i64 ta, .slice aa la ca] 26)) ka ta aa la ca A (ha.below hB3) hla) (by decide)
  have hs3 : ((w.alloc (.cells #[.int .i64 c.ring, .int .i64 c.window, .int .i64 c.base, .int .i64 c.gain, .int .i64 c.least, .int .i64 c.most, .int .i64 c.slack, .int .i64 c.num, .int .i64 c.den, .int .i64 c.extra, .bool c.curved] 23)).alloc (.cells #[.int .i64 ka, .int .i64 ta, .slice aa la ca] 26)).heap.size = w.heap.size + 1 + 1 := by simp
  change Calls _ _ _ _ (fun e w' => e = .returned (.int .i64 (chk1 c ka ta aa la ca A)) ∧ _) at CK
  simp only [World.size_alloc] at ba
  unfold cfgV at CK ⊢
  unfold snapV
  generalize chk1 c ka ta aa la ca A = z at *
  have hz : (z != 0) = true := by simpa using h0
  go_enter Try.func20, Try.ntmps20
  go_wp2_with fail
  generalize ((w.alloc (.cells #[.int .i64 c.ring, .int .i64 c.window, .int .i64 c.base, .int .i64 c.gain, .int .i64 c.least, .int .i64 c.most, .int .i64 c.slack, .int .i64 c.num, .int .i64 c.den, .int .i64 c.extra, .bool c.curved] 23)).alloc (.cells #[.int .i64 ka, .int .i64 ta, .slice aa la ca] 26)) = W at *
  rw [hs3] at CK
  refine CK.mono ?_; rintro e w1 ⟨rfl, hb1⟩
  have hB1 : Below W.heap.size W w1 := ((Below.refl _ _).alloc (Nat.le_refl _) _).trans (hb1.mono (by simp))
  have HB1 : Hid (Below w.heap.size w w1) := Lib.hid (hB3.trans (hB1.mono hB3.size))
  have SC := Lib.hid (bc.below hB1 bc.lt)
  have SA := Lib.hid (ba.below hB1 ba.lt)
  clear hB3 hb1 hB1 CK bc ba hs3
  go_wp2
  exact bodyPost_ret (v := .tuple #[.slice none 0 0, .int .i64 z]) (by simp [results, Try.results20, go_sem]) rfl ⟨rfl, HB1.out⟩

set_option maxHeartbeats 1000000 in
theorem rbey_bad2 (c : Cfg) (ka ta : Int) (aa : Option Addr) (la ca : Nat) (A : Nat → Ent) (at0 : Int) (w : World) (hta : I64 ta) (hat : I64 at0) (ha : EntsAt w aa la A) (hla : (la : Int) ≤ 4611686018427387904) (h0 : chk1 c ka ta aa la ca A = 0) (h1 : beyE ta at0 ≠ 0) :
    Calls Try.prog 20 #[cfgV c, snapV ka ta aa la ca, .int .i64 at0] w fun e w' => e = .returned (.tuple #[.slice none 0 0, .int .i64 (beyE ta at0)]) ∧ Below w.heap.size w w' := by
  have PT := rbey_f ka ta at0 aa la ca hta hat
  have hB3 : Below w.heap.size w ((w.alloc (.cells #[.int .i64 c.ring, .int .i64 c.window, .int .i64 c.base, .int .i64 c.gain, .int .i64 c.least, .int .i64 c.most, .int .i64 c.slack, .int .i64 c.num, .int .i64 c.den, .int .i64 c.extra, .bool c.curved] 23)).alloc (.cells #[.int .i64 ka, .int .i64 ta, .slice aa la ca] 26)) := ((Below.refl _ _).alloc (Nat.le_refl _) _).alloc (by simp) _
  have bc := ((Blk.new w #[.int .i64 c.ring, .int .i64 c.window, .int .i64 c.base, .int .i64 c.gain, .int .i64 c.least, .int .i64 c.most, .int .i64 c.slack, .int .i64 c.num, .int .i64 c.den, .int .i64 c.extra, .bool c.curved] 23).alloc (.cells #[.int .i64 ka, .int .i64 ta, .slice aa la ca] 26))
  have ba := Blk.new (w.alloc (.cells #[.int .i64 c.ring, .int .i64 c.window, .int .i64 c.base, .int .i64 c.gain, .int .i64 c.least, .int .i64 c.most, .int .i64 c.slack, .int .i64 c.num, .int .i64 c.den, .int .i64 c.extra, .bool c.curved] 23)) #[.int .i64 ka, .int .i64 ta, .slice aa la ca] 26
  have CK := rpcheck_f c (some ⟨((w.alloc (.cells #[.int .i64 c.ring, .int .i64 c.window, .int .i64 c.base, .int .i64 c.gain, .int .i64 c.least, .int .i64 c.most, .int .i64 c.slack, .int .i64 c.num, .int .i64 c.den, .int .i64 c.extra, .bool c.curved] 23)).alloc (.cells #[.int .i64 ka, .int .i64 ta, .slice aa la ca] 26)).heap.size, 0, none⟩) 1 1 _ _ _ _ _ (sns1 ((w.alloc (.cells #[.int .i64 c.ring, .int .i64 c.window, .int .i64 c.base, .int .i64 c.gain, .int .i64 c.least, .int .i64 c.most, .int .i64 c.slack, .int .i64 c.num, .int .i64 c.den, .int .i64 c.extra, .bool c.curved] 23)).alloc (.cells #[.int .i64 ka, .int .i64 ta, .slice aa la ca] 26)) ka ta aa la ca A (ha.below hB3) hla) (by decide)
  have hs3 : ((w.alloc (.cells #[.int .i64 c.ring, .int .i64 c.window, .int .i64 c.base, .int .i64 c.gain, .int .i64 c.least, .int .i64 c.most, .int .i64 c.slack, .int .i64 c.num, .int .i64 c.den, .int .i64 c.extra, .bool c.curved] 23)).alloc (.cells #[.int .i64 ka, .int .i64 ta, .slice aa la ca] 26)).heap.size = w.heap.size + 1 + 1 := by simp
  change Calls _ _ _ _ (fun e w' => e = .returned (.int .i64 (chk1 c ka ta aa la ca A)) ∧ _) at CK
  simp only [World.size_alloc] at ba
  unfold cfgV at CK ⊢
  unfold snapV
  rw [h0] at CK
  clear h0
  generalize beyE ta at0 = z at *
  generalize beyN ta at0 = num at *
  have hz : (z != 0) = true := by simpa using h1
  go_enter Try.func20, Try.ntmps20
  go_wp2_with fail
  generalize ((w.alloc (.cells #[.int .i64 c.ring, .int .i64 c.window, .int .i64 c.base, .int .i64 c.gain, .int .i64 c.least, .int .i64 c.most, .int .i64 c.slack, .int .i64 c.num, .int .i64 c.den, .int .i64 c.extra, .bool c.curved] 23)).alloc (.cells #[.int .i64 ka, .int .i64 ta, .slice aa la ca] 26)) = W at *
  rw [hs3] at CK
  refine CK.mono ?_; rintro e w1 ⟨rfl, hb1⟩
  have hB1 : Below W.heap.size W w1 := ((Below.refl _ _).alloc (Nat.le_refl _) _).trans (hb1.mono (by simp))
  have HB1 : Hid (Below w.heap.size w w1) := Lib.hid (hB3.trans (hB1.mono hB3.size))
  have SC := Lib.hid (bc.below hB1 bc.lt)
  have SA := Lib.hid (ba.below hB1 ba.lt)
  clear hB3 hb1 hB1 CK bc ba hs3
  obtain ⟨a0, a1, a2⟩ := sn_cells SA.out
  go_wp2_with fail
  refine (PT _).mono ?_; rintro e w2 ⟨rfl, hb2⟩
  have HB2 : Hid (Below w.heap.size w w2) := Lib.hid (HB1.out.trans (hb2.mono HB1.out.size))
  clear hb2 a0 a1 a2 PT
  go_wp2
  exact bodyPost_ret (v := .tuple #[.slice none 0 0, .int .i64 z]) (by simp [results, Try.results20, go_sem]) rfl ⟨rfl, HB2.out⟩

set_option maxHeartbeats 4000000 in
theorem rbey_Z (c : Cfg) (ok : c.Ok) (ka ta : Int) (aa : Option Addr) (la ca : Nat) (A : Nat → Ent) (at0 : Int) (w : World) (hta : I64 ta) (hat : I64 at0) (ha : EntsAt w aa la A) (hla : (la : Int) ≤ 4611686018427387904) (h0 : chk1 c ka ta aa la ca A = 0) (h1 : beyE ta at0 = 0) (hd : subF at0 ta = 0) :
    Calls Try.prog 20 #[cfgV c, snapV ka ta aa la ca, .int .i64 at0] w fun e w' => ∃ s cp, e = .returned (.tuple #[.slice s la cp, .int .i64 0]) ∧ PosesAt w' s la (byF 0 0 A) ∧ Below w.heap.size w w' := by
  obtain ⟨i0, hi, hz0, hz1, hz2⟩ := info_parts infoPose
  have PT := rbey_f ka ta at0 aa la ca hta hat
  obtain ⟨hl64, hex, _, _⟩ := chk1_ok h0
  obtain ⟨hle, hN, _, _⟩ := bey_ok h1
  rw [hN, h1] at PT
  have hd64 := subF_i64 at0 ta
  have hd0 : 0 ≤ subF at0 ta := by unfold subF sat; omega
  generalize subF at0 ta = d at *
  clear hN h1 hle
  subst hd
  have hg : decide (c.extra < 0) = false := decide_eq_false (by omega)
  have hdd : I64 0 := by unfold I64; omega
  obtain ⟨P, hP⟩ : ∃ P, byF 0 0 A = P := ⟨_, rfl⟩
  have HP : Hid (∀ i, P i = byP 0 0 (A i)) := Lib.hid (fun i => by rw [← hP]; rfl)
  rw [hP]
  have HDD := Lib.hid hdd
  clear hP hd64 hd0 hex hdd 
  have hB3 : Below w.heap.size w ((w.alloc (.cells #[.int .i64 c.ring, .int .i64 c.window, .int .i64 c.base, .int .i64 c.gain, .int .i64 c.least, .int .i64 c.most, .int .i64 c.slack, .int .i64 c.num, .int .i64 c.den, .int .i64 c.extra, .bool c.curved] 23)).alloc (.cells #[.int .i64 ka, .int .i64 ta, .slice aa la ca] 26)) := ((Below.refl _ _).alloc (Nat.le_refl _) _).alloc (by simp) _
  have bc := ((Blk.new w #[.int .i64 c.ring, .int .i64 c.window, .int .i64 c.base, .int .i64 c.gain, .int .i64 c.least, .int .i64 c.most, .int .i64 c.slack, .int .i64 c.num, .int .i64 c.den, .int .i64 c.extra, .bool c.curved] 23).alloc (.cells #[.int .i64 ka, .int .i64 ta, .slice aa la ca] 26))
  have ba := Blk.new (w.alloc (.cells #[.int .i64 c.ring, .int .i64 c.window, .int .i64 c.base, .int .i64 c.gain, .int .i64 c.least, .int .i64 c.most, .int .i64 c.slack, .int .i64 c.num, .int .i64 c.den, .int .i64 c.extra, .bool c.curved] 23)) #[.int .i64 ka, .int .i64 ta, .slice aa la ca] 26
  have CK := rpcheck_f c (some ⟨((w.alloc (.cells #[.int .i64 c.ring, .int .i64 c.window, .int .i64 c.base, .int .i64 c.gain, .int .i64 c.least, .int .i64 c.most, .int .i64 c.slack, .int .i64 c.num, .int .i64 c.den, .int .i64 c.extra, .bool c.curved] 23)).alloc (.cells #[.int .i64 ka, .int .i64 ta, .slice aa la ca] 26)).heap.size, 0, none⟩) 1 1 _ _ _ _ _ (sns1 ((w.alloc (.cells #[.int .i64 c.ring, .int .i64 c.window, .int .i64 c.base, .int .i64 c.gain, .int .i64 c.least, .int .i64 c.most, .int .i64 c.slack, .int .i64 c.num, .int .i64 c.den, .int .i64 c.extra, .bool c.curved] 23)).alloc (.cells #[.int .i64 ka, .int .i64 ta, .slice aa la ca] 26)) ka ta aa la ca A (ha.below hB3) hla) (by decide)
  have hs3 : ((w.alloc (.cells #[.int .i64 c.ring, .int .i64 c.window, .int .i64 c.base, .int .i64 c.gain, .int .i64 c.least, .int .i64 c.most, .int .i64 c.slack, .int .i64 c.num, .int .i64 c.den, .int .i64 c.extra, .bool c.curved] 23)).alloc (.cells #[.int .i64 ka, .int .i64 ta, .slice aa la ca] 26)).heap.size = w.heap.size + 1 + 1 := by simp
  change Calls _ _ _ _ (fun e w' => e = .returned (.int .i64 (chk1 c ka ta aa la ca A)) ∧ _) at CK
  simp only [World.size_alloc] at ba
  unfold cfgV at CK ⊢
  unfold snapV
  go_enter Try.func20, Try.ntmps20
  go_wp2_with fail
  generalize ((w.alloc (.cells #[.int .i64 c.ring, .int .i64 c.window, .int .i64 c.base, .int .i64 c.gain, .int .i64 c.least, .int .i64 c.most, .int .i64 c.slack, .int .i64 c.num, .int .i64 c.den, .int .i64 c.extra, .bool c.curved] 23)).alloc (.cells #[.int .i64 ka, .int .i64 ta, .slice aa la ca] 26)) = W at *
  rw [hs3] at CK
  refine CK.mono ?_; rintro e w1 ⟨rfl, hb1⟩
  have hB1 : Below W.heap.size W w1 := ((Below.refl _ _).alloc (Nat.le_refl _) _).trans (hb1.mono (by simp))
  have HB1 : Hid (Below w.heap.size w w1) := Lib.hid (hB3.trans (hB1.mono hB3.size))
  have SC := Lib.hid (bc.below hB1 bc.lt)
  have SA := Lib.hid (ba.below hB1 ba.lt)
  clear hB3 hb1 hB1 CK bc ba hs3
  rw [h0]
  clear h0
  have hokA := ha.1
  have HCA : Hid (∀ k, k < la → ∃ b off, aa = some ⟨b, off, none⟩ ∧ b < w.heap.size ∧ EntCells w b (off + k * 9) (A k)) := Lib.hid (fun k hk => by
    rcases ha.2 with h0 | ⟨b, off, e, hb, hc⟩
    · omega
    · exact ⟨b, off, e, hb, hc k hk⟩)
  obtain ⟨a0, a1, a2⟩ := sn_cells SA.out
  go_wp2_with fail
  refine (PT _).mono ?_; rintro e W0 ⟨rfl, hb2⟩
  have SCn := Lib.hid (SC.out.below hb2 SC.out.lt)
  clear SC
  have SC := SCn
  clear SCn
  have SAn := Lib.hid (SA.out.below hb2 SA.out.lt)
  clear SA
  have SA := SAn
  clear SAn
  have HW0 : Hid (Below w.heap.size w W0) := Lib.hid (HB1.out.trans (hb2.mono HB1.out.size))
  clear hb2 a0 a1 a2 PT HB1
  have hs2 := SA.out.lt
  go_wp2_with fail
  go_loopw [11, 12] (fun v i wr => ∃ k : Nat, k ≤ la ∧ i = .int .i64 k ∧ wr.ownsRow W0.heap.size 45 6 v k (poL P k) ∧ Below W0.heap.size W0 wr) (fun _ i _ => la - (intOf i).toNat)
  case atStart => exact ⟨0, Nat.zero_le _, rfl, World.ownsRow_nil _ _ _ _, Below.refl _ _⟩
  case round =>
      rename_i wr
      obtain ⟨k, hk, rfl, hown, hB⟩ := hrel
      have hsz := hB.size
      by_cases hlt : k < la
      · obtain ⟨b, off, hea, hbw, hc⟩ := HCA.out k hlt
        subst hea
        have hcw := hc.below (HW0.out.trans (hB.mono HW0.out.size)) hbw
        have hx := hokA k hlt
        have HPk := Lib.hid (HP.out k)
        have HL : Hid (poL P (k + 1) = poL P k ++ [.int .i64 (P k).id, .int .i64 (P k).px, .int .i64 (P k).py, .int .i64 (P k).pz, .int .u16 (P k).ang, .int .i64 (P k).mode]) := Lib.hid rfl
        have EX := rexact_f (A k)
        unfold entV poV exactP at EX
        have hkl : (k : Int) < la := by omega
        have HOWN := Lib.hid hown
        have HLT := Lib.hid (fun j e => (hown.lt j e).2)
        have HB := Lib.hid hB
        have HCW := Lib.hid hcw
        clear hc hown hB
        generalize P k = pk at *
        generalize A k = x at *
        obtain ⟨xid, px, py, pz, vx, vy, vz, ang, gen⟩ := x
        obtain ⟨c0, c1, c2, c3, c4, c5, c6, c7, c8⟩ := hcw
        dsimp only at c0 c1 c2 c3 c4 c5 c6 c7 c8 EX
        have VG := Lib.hid (rvgo_f px py pz vx vy vz 0 hx.px hx.py hx.pz hx.vx hx.vy hx.vz HDD.out)
        have SAr := Lib.hid (SA.out.below HB.out SA.out.lt)
        obtain ⟨a0, a1, a2⟩ := sn_cells SAr.out
        go_wp2_with fail
        refine (EX _).mono ?_; rintro e w4 ⟨rfl, hb4⟩
        have HB4 : Hid (Below W0.heap.size W0 w4) := Lib.hid (HB.out.trans (hb4.mono hsz))
        have OW4 := Lib.hid (own_below HOWN.out hb4)
        have hs4 := hb4.size
        have SC4 := Lib.hid (SC.out.below HB4.out SC.out.lt)
        have SA4 := Lib.hid (SA.out.below HB4.out SA.out.lt)
        have CE4 := Lib.hid (EntCells.below HCW.out hb4 (by have := HW0.out.size; omega))
        have l4c := SC4.out.lt
        clear hb4 EX c0 c1 c2 c3 c4 c5 c6 c7 c8 HB HOWN a0 a1 a2 SAr HCW
        have q9 := (cfg_cells SC4.out).2.2.2.2.2.2.2.2.2.1
        have HPK : Hid (pk = ⟨xid, px, py, pz, ang, 0⟩) := Lib.hid (by rw [HPk.out]; exact byP_zero hx)
        have HB5 : Hid (Below W0.heap.size W0 (w4.alloc (.cells #[.int .i64 xid, .int .i64 px, .int .i64 py, .int .i64 pz, .int .u16 ang, .int .i64 0] 45))) := Lib.hid (HB4.out.alloc HB4.out.size _)
        have OW5 := Lib.hid (OW4.out.alloc (.cells #[.int .i64 xid, .int .i64 px, .int .i64 py, .int .i64 pz, .int .u16 ang, .int .i64 0] 45))
        go_wp2_with (at_builtin; refine wpList_append_own _ rfl (.tmp 74) (.tmp 76) 30 rfl W0.heap.size 45 i0 (.agg #[.int .i64 0, .int .i64 0, .int .i64 0, .int .i64 0, .int .u16 0, .int .i64 0]) 6 48 Try.underlying30 hi hz0 hz1 hz2 rfl (by decide) _ _ _ rfl (OW5.out.alloc _) ⟨w4.heap.size + 1, 0, none⟩ 1 1 [.int .i64 xid, .int .i64 px, .int .i64 py, .int .i64 pz, .int .u16 ang, .int .i64 0] rfl rfl ?c1 ?c2 ?c3 ?c4 ?c5 ?_)
        case c1 => exact cells_new (by simp)
        case c2 => intro u hu; simp at hu; rcases hu with rfl | rfl | rfl | rfl | rfl | rfl <;> rfl
        case c3 => unfold maxLen; omega
        case c4 => omega
        case c5 => have := HB5.out.size; simp at *; omega
        intro v' w10 hown' hgrow _
        have hszz := HB5.out.size
        have hB' : Hid (Below W0.heap.size W0 w10) := Lib.hid ((HB5.out.alloc hszz _).grown hgrow (by simp at *; omega) (fun j e => (OW5.out.lt j e).1))
        have HO : Hid (w10.ownsRow W0.heap.size 45 6 v' (k + 1) (poL P (k + 1))) := Lib.hid (by rw [HL.out, HPK.out]; exact hown')
        clear hown' hgrow
        go_wp2
        go_roundw
        case rel => exact ⟨k + 1, by omega, by go_num, HO.out, hB'.out⟩
        case measure => simp [intOf]; omega
      · obtain rfl : k = la := by omega
        obtain ⟨s, cp, rfl, hS⟩ := poses_of_row hown
        have HS := Lib.hid hS
        have HBE := Lib.hid (HW0.out.trans (hB.mono HW0.out.size))
        have SAr := Lib.hid (SA.out.below hB SA.out.lt)
        obtain ⟨a0, a1, a2⟩ := sn_cells SAr.out
        clear hS hown hB
        go_wp2
        exact bodyPost_ret (v := .tuple #[.slice s k cp, .int .i64 0]) (by simp [results, Try.results20, go_sem]) rfl ⟨s, cp, rfl, HS.out, HBE.out⟩

set_option maxHeartbeats 4000000 in
theorem rbey_F (c : Cfg) (ok : c.Ok) (ka ta : Int) (aa : Option Addr) (la ca : Nat) (A : Nat → Ent) (at0 : Int) (w : World) (hta : I64 ta) (hat : I64 at0) (ha : EntsAt w aa la A) (hla : (la : Int) ≤ 4611686018427387904) (h0 : chk1 c ka ta aa la ca A = 0) (h1 : beyE ta at0 = 0) (hd : subF at0 ta ≠ 0) (hf : c.extra < subF at0 ta) :
    Calls Try.prog 20 #[cfgV c, snapV ka ta aa la ca, .int .i64 at0] w fun e w' => ∃ s cp, e = .returned (.tuple #[.slice s la cp, .int .i64 0]) ∧ PosesAt w' s la (byF 4 c.extra A) ∧ Below w.heap.size w w' := by
  obtain ⟨i0, hi, hz0, hz1, hz2⟩ := info_parts infoPose
  have PT := rbey_f ka ta at0 aa la ca hta hat
  obtain ⟨hl64, hex, _, _⟩ := chk1_ok h0
  obtain ⟨hle, hN, _, _⟩ := bey_ok h1
  rw [hN, h1] at PT
  have hd64 := subF_i64 at0 ta
  have hd0 : 0 ≤ subF at0 ta := by unfold subF sat; omega
  generalize subF at0 ta = d at *
  clear hN h1 hle
  have hg0 : (d == 0) = false := by simpa using hd
  have hg1 : decide (c.extra < d) = true := decide_eq_true hf
  have hdd : I64 c.extra := ok.extra
  obtain ⟨P, hP⟩ : ∃ P, byF 4 c.extra A = P := ⟨_, rfl⟩
  have HP : Hid (∀ i, P i = byP 4 c.extra (A i)) := Lib.hid (fun i => by rw [← hP]; rfl)
  rw [hP]
  have HDD := Lib.hid hdd
  clear hP hd64 hd0 hex hdd hd hf
  have hB3 : Below w.heap.size w ((w.alloc (.cells #[.int .i64 c.ring, .int .i64 c.window, .int .i64 c.base, .int .i64 c.gain, .int .i64 c.least, .int .i64 c.most, .int .i64 c.slack, .int .i64 c.num, .int .i64 c.den, .int .i64 c.extra, .bool c.curved] 23)).alloc (.cells #[.int .i64 ka, .int .i64 ta, .slice aa la ca] 26)) := ((Below.refl _ _).alloc (Nat.le_refl _) _).alloc (by simp) _
  have bc := ((Blk.new w #[.int .i64 c.ring, .int .i64 c.window, .int .i64 c.base, .int .i64 c.gain, .int .i64 c.least, .int .i64 c.most, .int .i64 c.slack, .int .i64 c.num, .int .i64 c.den, .int .i64 c.extra, .bool c.curved] 23).alloc (.cells #[.int .i64 ka, .int .i64 ta, .slice aa la ca] 26))
  have ba := Blk.new (w.alloc (.cells #[.int .i64 c.ring, .int .i64 c.window, .int .i64 c.base, .int .i64 c.gain, .int .i64 c.least, .int .i64 c.most, .int .i64 c.slack, .int .i64 c.num, .int .i64 c.den, .int .i64 c.extra, .bool c.curved] 23)) #[.int .i64 ka, .int .i64 ta, .slice aa la ca] 26
  have CK := rpcheck_f c (some ⟨((w.alloc (.cells #[.int .i64 c.ring, .int .i64 c.window, .int .i64 c.base, .int .i64 c.gain, .int .i64 c.least, .int .i64 c.most, .int .i64 c.slack, .int .i64 c.num, .int .i64 c.den, .int .i64 c.extra, .bool c.curved] 23)).alloc (.cells #[.int .i64 ka, .int .i64 ta, .slice aa la ca] 26)).heap.size, 0, none⟩) 1 1 _ _ _ _ _ (sns1 ((w.alloc (.cells #[.int .i64 c.ring, .int .i64 c.window, .int .i64 c.base, .int .i64 c.gain, .int .i64 c.least, .int .i64 c.most, .int .i64 c.slack, .int .i64 c.num, .int .i64 c.den, .int .i64 c.extra, .bool c.curved] 23)).alloc (.cells #[.int .i64 ka, .int .i64 ta, .slice aa la ca] 26)) ka ta aa la ca A (ha.below hB3) hla) (by decide)
  have hs3 : ((w.alloc (.cells #[.int .i64 c.ring, .int .i64 c.window, .int .i64 c.base, .int .i64 c.gain, .int .i64 c.least, .int .i64 c.most, .int .i64 c.slack, .int .i64 c.num, .int .i64 c.den, .int .i64 c.extra, .bool c.curved] 23)).alloc (.cells #[.int .i64 ka, .int .i64 ta, .slice aa la ca] 26)).heap.size = w.heap.size + 1 + 1 := by simp
  change Calls _ _ _ _ (fun e w' => e = .returned (.int .i64 (chk1 c ka ta aa la ca A)) ∧ _) at CK
  simp only [World.size_alloc] at ba
  unfold cfgV at CK ⊢
  unfold snapV
  go_enter Try.func20, Try.ntmps20
  go_wp2_with fail
  generalize ((w.alloc (.cells #[.int .i64 c.ring, .int .i64 c.window, .int .i64 c.base, .int .i64 c.gain, .int .i64 c.least, .int .i64 c.most, .int .i64 c.slack, .int .i64 c.num, .int .i64 c.den, .int .i64 c.extra, .bool c.curved] 23)).alloc (.cells #[.int .i64 ka, .int .i64 ta, .slice aa la ca] 26)) = W at *
  rw [hs3] at CK
  refine CK.mono ?_; rintro e w1 ⟨rfl, hb1⟩
  have hB1 : Below W.heap.size W w1 := ((Below.refl _ _).alloc (Nat.le_refl _) _).trans (hb1.mono (by simp))
  have HB1 : Hid (Below w.heap.size w w1) := Lib.hid (hB3.trans (hB1.mono hB3.size))
  have SC := Lib.hid (bc.below hB1 bc.lt)
  have SA := Lib.hid (ba.below hB1 ba.lt)
  clear hB3 hb1 hB1 CK bc ba hs3
  rw [h0]
  clear h0
  have hokA := ha.1
  have HCA : Hid (∀ k, k < la → ∃ b off, aa = some ⟨b, off, none⟩ ∧ b < w.heap.size ∧ EntCells w b (off + k * 9) (A k)) := Lib.hid (fun k hk => by
    rcases ha.2 with h0 | ⟨b, off, e, hb, hc⟩
    · omega
    · exact ⟨b, off, e, hb, hc k hk⟩)
  obtain ⟨a0, a1, a2⟩ := sn_cells SA.out
  go_wp2_with fail
  refine (PT _).mono ?_; rintro e W0 ⟨rfl, hb2⟩
  have SCn := Lib.hid (SC.out.below hb2 SC.out.lt)
  clear SC
  have SC := SCn
  clear SCn
  have SAn := Lib.hid (SA.out.below hb2 SA.out.lt)
  clear SA
  have SA := SAn
  clear SAn
  have HW0 : Hid (Below w.heap.size w W0) := Lib.hid (HB1.out.trans (hb2.mono HB1.out.size))
  clear hb2 a0 a1 a2 PT HB1
  have hs2 := SA.out.lt
  go_wp2_with fail
  go_loopw [11, 12] (fun v i wr => ∃ k : Nat, k ≤ la ∧ i = .int .i64 k ∧ wr.ownsRow W0.heap.size 45 6 v k (poL P k) ∧ Below W0.heap.size W0 wr) (fun _ i _ => la - (intOf i).toNat)
  case atStart => exact ⟨0, Nat.zero_le _, rfl, World.ownsRow_nil _ _ _ _, Below.refl _ _⟩
  case round =>
      rename_i wr
      obtain ⟨k, hk, rfl, hown, hB⟩ := hrel
      have hsz := hB.size
      by_cases hlt : k < la
      · obtain ⟨b, off, hea, hbw, hc⟩ := HCA.out k hlt
        subst hea
        have hcw := hc.below (HW0.out.trans (hB.mono HW0.out.size)) hbw
        have hx := hokA k hlt
        have HPk := Lib.hid (HP.out k)
        have HL : Hid (poL P (k + 1) = poL P k ++ [.int .i64 (P k).id, .int .i64 (P k).px, .int .i64 (P k).py, .int .i64 (P k).pz, .int .u16 (P k).ang, .int .i64 (P k).mode]) := Lib.hid rfl
        have EX := rexact_f (A k)
        unfold entV poV exactP at EX
        have hkl : (k : Int) < la := by omega
        have HOWN := Lib.hid hown
        have HLT := Lib.hid (fun j e => (hown.lt j e).2)
        have HB := Lib.hid hB
        have HCW := Lib.hid hcw
        clear hc hown hB
        generalize P k = pk at *
        generalize A k = x at *
        obtain ⟨xid, px, py, pz, vx, vy, vz, ang, gen⟩ := x
        obtain ⟨c0, c1, c2, c3, c4, c5, c6, c7, c8⟩ := hcw
        dsimp only at c0 c1 c2 c3 c4 c5 c6 c7 c8 EX
        have VG := Lib.hid (rvgo_f px py pz vx vy vz c.extra hx.px hx.py hx.pz hx.vx hx.vy hx.vz HDD.out)
        have SAr := Lib.hid (SA.out.below HB.out SA.out.lt)
        obtain ⟨a0, a1, a2⟩ := sn_cells SAr.out
        go_wp2_with fail
        refine (EX _).mono ?_; rintro e w4 ⟨rfl, hb4⟩
        have HB4 : Hid (Below W0.heap.size W0 w4) := Lib.hid (HB.out.trans (hb4.mono hsz))
        have OW4 := Lib.hid (own_below HOWN.out hb4)
        have hs4 := hb4.size
        have SC4 := Lib.hid (SC.out.below HB4.out SC.out.lt)
        have SA4 := Lib.hid (SA.out.below HB4.out SA.out.lt)
        have CE4 := Lib.hid (EntCells.below HCW.out hb4 (by have := HW0.out.size; omega))
        have l4c := SC4.out.lt
        clear hb4 EX c0 c1 c2 c3 c4 c5 c6 c7 c8 HB HOWN a0 a1 a2 SAr HCW
        have q9 := (cfg_cells SC4.out).2.2.2.2.2.2.2.2.2.1
        go_wp2_with fail
        have HPK : Hid (pk = ⟨xid, addF px (mulF vx c.extra), addF py (mulF vy c.extra), addF pz (mulF vz c.extra), ang, 4⟩) := Lib.hid HPk.out
        generalize addF px (mulF vx c.extra) = z1 at *
        generalize addF py (mulF vy c.extra) = z2 at *
        generalize addF pz (mulF vz c.extra) = z3 at *
        have P5 := Lib.hid (Blk.new w4 #[.int .i64 xid, .int .i64 px, .int .i64 py, .int .i64 pz, .int .u16 ang, .int .i64 4] 45)
        have SC5 := Lib.hid (SC4.out.alloc (.cells #[.int .i64 xid, .int .i64 px, .int .i64 py, .int .i64 pz, .int .u16 ang, .int .i64 4] 45))
        have SA5 := Lib.hid (SA4.out.alloc (.cells #[.int .i64 xid, .int .i64 px, .int .i64 py, .int .i64 pz, .int .u16 ang, .int .i64 4] 45))
        have CE5 := Lib.hid (EntCells.below CE4.out ((Below.refl _ _).alloc (Nat.le_refl _) (.cells #[.int .i64 xid, .int .i64 px, .int .i64 py, .int .i64 pz, .int .u16 ang, .int .i64 4] 45)) (by have := HW0.out.size; have := HB4.out.size; omega))
        have HB5 : Hid (Below W0.heap.size W0 (w4.alloc (.cells #[.int .i64 xid, .int .i64 px, .int .i64 py, .int .i64 pz, .int .u16 ang, .int .i64 4] 45))) := Lib.hid (HB4.out.alloc HB4.out.size _)
        have OW5 := Lib.hid (OW4.out.alloc (.cells #[.int .i64 xid, .int .i64 px, .int .i64 py, .int .i64 pz, .int .u16 ang, .int .i64 4] 45))
        clear q9 SC4 SA4 CE4 HB4 OW4
        generalize w4.alloc (.cells #[.int .i64 xid, .int .i64 px, .int .i64 py, .int .i64 pz, .int .u16 ang, .int .i64 4] 45) = w5 at *
        have q9 := (cfg_cells SC5.out).2.2.2.2.2.2.2.2.2.1
        obtain ⟨a0, a1, a2⟩ := sn_cells SA5.out
        obtain ⟨p0, p1, p2, p3, p4, p5⟩ := po_cells P5.out
        obtain ⟨e0, e1, e2, e3, e4, e5, e6, e7, e8⟩ := CE5.out
        dsimp only at e4 e5 e6
        refine wp_region_calm 12 (by kernel_rfl) (by kernel_rfl) ?_
        simp only [List.take_succ_cons, List.take_zero, List.drop_succ_cons, List.drop_zero]
        repeat (apply wpCalm_step; (next => (intro W hW K hK; have y0 := hW.cell p1; have y1 := hW.cell p2; have y2 := hW.cell p3; have y3 := hW.cell a2; have y4 := hW.cell e4; have y5 := hW.cell e5; have y6 := hW.cell e6; have y7 := hW.cell q9; go_simp; first | exact ⟨hW, hK⟩ | exact hK)); (next => exact CalmI.self _); (try go_simp))
        (apply wpCalm_step; (next => (intro W hW K hK; go_simp; first | exact ⟨_, hW.call (VG.out W), hK⟩ | exact ⟨hW, _, hW.call (VG.out W), hK⟩)); (next => exact CalmI.self _); (try go_simp))
        repeat (apply wpCalm_step; (next => (intro W hW K hK; have y0 := hW.cell p1; have y1 := hW.cell p2; have y2 := hW.cell p3; have y3 := hW.cell a2; have y4 := hW.cell e4; have y5 := hW.cell e5; have y6 := hW.cell e6; have y7 := hW.cell q9; go_simp; first | exact ⟨hW, hK⟩ | exact hK)); (next => exact CalmI.self _); (try go_simp))
        refine wpCalm_nil ?_
        intro WC hWC
        have hWC' : Below w5.heap.size w5 WC := hWC
        have P8 := Lib.hid (P5.out.below hWC' P5.out.lt)
        have HB8 : Hid (Below W0.heap.size W0 WC) := Lib.hid (HB5.out.trans (hWC'.mono HB5.out.size))
        have OW8 := Lib.hid (own_below OW5.out hWC')
        have l8 := P8.out.lt
        clear hWC hWC' q9 a0 a1 a2 p0 p1 p2 p3 p4 p5 e0 e1 e2 e3 e4 e5 e6 e7 e8 P5 SC5 SA5 CE5 HB5 OW5
        obtain ⟨p0, p1, p2, p3, p4, p5⟩ := po_cells P8.out
        obtain ⟨f0, f1, f2, f3, f4, f5⟩ := po_free P8.out
        have Z9 := sets3 P8.out 1 (.int .i64 z1) 2 (.int .i64 z2) 3 (.int .i64 z3)
        have OWZ := Lib.hid (own_only OW8.out Z9.2 (fun j e h => by have := HLT.out j e; have h2 : j = w4.heap.size := h; omega))
        have HBZ := Lib.hid (HB8.out.trans (Z9.2.below HB8.out.size (by rintro i rfl; have := HB8.out.size; omega)))
        clear Z9
        go_wp2_with (at_builtin; refine wpList_append_own _ rfl (.tmp 74) (.tmp 76) 30 rfl W0.heap.size 45 i0 (.agg #[.int .i64 0, .int .i64 0, .int .i64 0, .int .i64 0, .int .u16 0, .int .i64 0]) 6 48 Try.underlying30 hi hz0 hz1 hz2 rfl (by decide) _ _ _ rfl (OWZ.out.alloc _) ⟨WC.heap.size, 0, none⟩ 1 1 [.int .i64 xid, .int .i64 z1, .int .i64 z2, .int .i64 z3, .int .u16 ang, .int .i64 4] rfl rfl ?c1 ?c2 ?c3 ?c4 ?c5 ?_)
        case c1 => exact cells_new (by simp)
        case c2 => intro u hu; simp at hu; rcases hu with rfl | rfl | rfl | rfl | rfl | rfl <;> rfl
        case c3 => unfold maxLen; omega
        case c4 => omega
        case c5 => have := HBZ.out.size; simp at *; omega
        intro v' w10 hown' hgrow _
        have hszz := HBZ.out.size
        have hB' : Hid (Below W0.heap.size W0 w10) := Lib.hid ((HBZ.out.alloc hszz _).grown hgrow (by simp at *; omega) (fun j e => (OWZ.out.lt j e).1))
        have HO : Hid (w10.ownsRow W0.heap.size 45 6 v' (k + 1) (poL P (k + 1))) := Lib.hid (by rw [HL.out, HPK.out]; exact hown')
        clear hown' hgrow
        go_wp2
        go_roundw
        case rel => exact ⟨k + 1, by omega, by go_num, HO.out, hB'.out⟩
        case measure => simp [intOf]; omega
      · obtain rfl : k = la := by omega
        obtain ⟨s, cp, rfl, hS⟩ := poses_of_row hown
        have HS := Lib.hid hS
        have HBE := Lib.hid (HW0.out.trans (hB.mono HW0.out.size))
        have SAr := Lib.hid (SA.out.below hB SA.out.lt)
        obtain ⟨a0, a1, a2⟩ := sn_cells SAr.out
        clear hS hown hB
        go_wp2
        exact bodyPost_ret (v := .tuple #[.slice s k cp, .int .i64 0]) (by simp [results, Try.results20, go_sem]) rfl ⟨s, cp, rfl, HS.out, HBE.out⟩

set_option maxHeartbeats 4000000 in
theorem rbey_N (c : Cfg) (ok : c.Ok) (ka ta : Int) (aa : Option Addr) (la ca : Nat) (A : Nat → Ent) (at0 : Int) (w : World) (hta : I64 ta) (hat : I64 at0) (ha : EntsAt w aa la A) (hla : (la : Int) ≤ 4611686018427387904) (h0 : chk1 c ka ta aa la ca A = 0) (h1 : beyE ta at0 = 0) (hd : subF at0 ta ≠ 0) (hf : ¬ c.extra < subF at0 ta) :
    Calls Try.prog 20 #[cfgV c, snapV ka ta aa la ca, .int .i64 at0] w fun e w' => ∃ s cp, e = .returned (.tuple #[.slice s la cp, .int .i64 0]) ∧ PosesAt w' s la (byF 3 (subF at0 ta) A) ∧ Below w.heap.size w w' := by
  obtain ⟨i0, hi, hz0, hz1, hz2⟩ := info_parts infoPose
  have PT := rbey_f ka ta at0 aa la ca hta hat
  obtain ⟨hl64, hex, _, _⟩ := chk1_ok h0
  obtain ⟨hle, hN, _, _⟩ := bey_ok h1
  rw [hN, h1] at PT
  have hd64 := subF_i64 at0 ta
  have hd0 : 0 ≤ subF at0 ta := by unfold subF sat; omega
  generalize subF at0 ta = d at *
  clear hN h1 hle
  have hg0 : (d == 0) = false := by simpa using hd
  have hg1 : decide (c.extra < d) = false := decide_eq_false hf
  have hg2 : decide (0 < d) = true := decide_eq_true (by omega)
  have hdd : I64 d := hd64
  obtain ⟨P, hP⟩ : ∃ P, byF 3 d A = P := ⟨_, rfl⟩
  have HP : Hid (∀ i, P i = byP 3 d (A i)) := Lib.hid (fun i => by rw [← hP]; rfl)
  rw [hP]
  have HDD := Lib.hid hdd
  clear hP hd64 hd0 hex hdd hd hf
  have hB3 : Below w.heap.size w ((w.alloc (.cells #[.int .i64 c.ring, .int .i64 c.window, .int .i64 c.base, .int .i64 c.gain, .int .i64 c.least, .int .i64 c.most, .int .i64 c.slack, .int .i64 c.num, .int .i64 c.den, .int .i64 c.extra, .bool c.curved] 23)).alloc (.cells #[.int .i64 ka, .int .i64 ta, .slice aa la ca] 26)) := ((Below.refl _ _).alloc (Nat.le_refl _) _).alloc (by simp) _
  have bc := ((Blk.new w #[.int .i64 c.ring, .int .i64 c.window, .int .i64 c.base, .int .i64 c.gain, .int .i64 c.least, .int .i64 c.most, .int .i64 c.slack, .int .i64 c.num, .int .i64 c.den, .int .i64 c.extra, .bool c.curved] 23).alloc (.cells #[.int .i64 ka, .int .i64 ta, .slice aa la ca] 26))
  have ba := Blk.new (w.alloc (.cells #[.int .i64 c.ring, .int .i64 c.window, .int .i64 c.base, .int .i64 c.gain, .int .i64 c.least, .int .i64 c.most, .int .i64 c.slack, .int .i64 c.num, .int .i64 c.den, .int .i64 c.extra, .bool c.curved] 23)) #[.int .i64 ka, .int .i64 ta, .slice aa la ca] 26
  have CK := rpcheck_f c (some ⟨((w.alloc (.cells #[.int .i64 c.ring, .int .i64 c.window, .int .i64 c.base, .int .i64 c.gain, .int .i64 c.least, .int .i64 c.most, .int .i64 c.slack, .int .i64 c.num, .int .i64 c.den, .int .i64 c.extra, .bool c.curved] 23)).alloc (.cells #[.int .i64 ka, .int .i64 ta, .slice aa la ca] 26)).heap.size, 0, none⟩) 1 1 _ _ _ _ _ (sns1 ((w.alloc (.cells #[.int .i64 c.ring, .int .i64 c.window, .int .i64 c.base, .int .i64 c.gain, .int .i64 c.least, .int .i64 c.most, .int .i64 c.slack, .int .i64 c.num, .int .i64 c.den, .int .i64 c.extra, .bool c.curved] 23)).alloc (.cells #[.int .i64 ka, .int .i64 ta, .slice aa la ca] 26)) ka ta aa la ca A (ha.below hB3) hla) (by decide)
  have hs3 : ((w.alloc (.cells #[.int .i64 c.ring, .int .i64 c.window, .int .i64 c.base, .int .i64 c.gain, .int .i64 c.least, .int .i64 c.most, .int .i64 c.slack, .int .i64 c.num, .int .i64 c.den, .int .i64 c.extra, .bool c.curved] 23)).alloc (.cells #[.int .i64 ka, .int .i64 ta, .slice aa la ca] 26)).heap.size = w.heap.size + 1 + 1 := by simp
  change Calls _ _ _ _ (fun e w' => e = .returned (.int .i64 (chk1 c ka ta aa la ca A)) ∧ _) at CK
  simp only [World.size_alloc] at ba
  unfold cfgV at CK ⊢
  unfold snapV
  go_enter Try.func20, Try.ntmps20
  go_wp2_with fail
  generalize ((w.alloc (.cells #[.int .i64 c.ring, .int .i64 c.window, .int .i64 c.base, .int .i64 c.gain, .int .i64 c.least, .int .i64 c.most, .int .i64 c.slack, .int .i64 c.num, .int .i64 c.den, .int .i64 c.extra, .bool c.curved] 23)).alloc (.cells #[.int .i64 ka, .int .i64 ta, .slice aa la ca] 26)) = W at *
  rw [hs3] at CK
  refine CK.mono ?_; rintro e w1 ⟨rfl, hb1⟩
  have hB1 : Below W.heap.size W w1 := ((Below.refl _ _).alloc (Nat.le_refl _) _).trans (hb1.mono (by simp))
  have HB1 : Hid (Below w.heap.size w w1) := Lib.hid (hB3.trans (hB1.mono hB3.size))
  have SC := Lib.hid (bc.below hB1 bc.lt)
  have SA := Lib.hid (ba.below hB1 ba.lt)
  clear hB3 hb1 hB1 CK bc ba hs3
  rw [h0]
  clear h0
  have hokA := ha.1
  have HCA : Hid (∀ k, k < la → ∃ b off, aa = some ⟨b, off, none⟩ ∧ b < w.heap.size ∧ EntCells w b (off + k * 9) (A k)) := Lib.hid (fun k hk => by
    rcases ha.2 with h0 | ⟨b, off, e, hb, hc⟩
    · omega
    · exact ⟨b, off, e, hb, hc k hk⟩)
  obtain ⟨a0, a1, a2⟩ := sn_cells SA.out
  go_wp2_with fail
  refine (PT _).mono ?_; rintro e W0 ⟨rfl, hb2⟩
  have SCn := Lib.hid (SC.out.below hb2 SC.out.lt)
  clear SC
  have SC := SCn
  clear SCn
  have SAn := Lib.hid (SA.out.below hb2 SA.out.lt)
  clear SA
  have SA := SAn
  clear SAn
  have HW0 : Hid (Below w.heap.size w W0) := Lib.hid (HB1.out.trans (hb2.mono HB1.out.size))
  clear hb2 a0 a1 a2 PT HB1
  have hs2 := SA.out.lt
  go_wp2_with fail
  go_loopw [11, 12] (fun v i wr => ∃ k : Nat, k ≤ la ∧ i = .int .i64 k ∧ wr.ownsRow W0.heap.size 45 6 v k (poL P k) ∧ Below W0.heap.size W0 wr) (fun _ i _ => la - (intOf i).toNat)
  case atStart => exact ⟨0, Nat.zero_le _, rfl, World.ownsRow_nil _ _ _ _, Below.refl _ _⟩
  case round =>
      rename_i wr
      obtain ⟨k, hk, rfl, hown, hB⟩ := hrel
      have hsz := hB.size
      by_cases hlt : k < la
      · obtain ⟨b, off, hea, hbw, hc⟩ := HCA.out k hlt
        subst hea
        have hcw := hc.below (HW0.out.trans (hB.mono HW0.out.size)) hbw
        have hx := hokA k hlt
        have HPk := Lib.hid (HP.out k)
        have HL : Hid (poL P (k + 1) = poL P k ++ [.int .i64 (P k).id, .int .i64 (P k).px, .int .i64 (P k).py, .int .i64 (P k).pz, .int .u16 (P k).ang, .int .i64 (P k).mode]) := Lib.hid rfl
        have EX := rexact_f (A k)
        unfold entV poV exactP at EX
        have hkl : (k : Int) < la := by omega
        have HOWN := Lib.hid hown
        have HLT := Lib.hid (fun j e => (hown.lt j e).2)
        have HB := Lib.hid hB
        have HCW := Lib.hid hcw
        clear hc hown hB
        generalize P k = pk at *
        generalize A k = x at *
        obtain ⟨xid, px, py, pz, vx, vy, vz, ang, gen⟩ := x
        obtain ⟨c0, c1, c2, c3, c4, c5, c6, c7, c8⟩ := hcw
        dsimp only at c0 c1 c2 c3 c4 c5 c6 c7 c8 EX
        have VG := Lib.hid (rvgo_f px py pz vx vy vz d hx.px hx.py hx.pz hx.vx hx.vy hx.vz HDD.out)
        have SAr := Lib.hid (SA.out.below HB.out SA.out.lt)
        obtain ⟨a0, a1, a2⟩ := sn_cells SAr.out
        go_wp2_with fail
        refine (EX _).mono ?_; rintro e w4 ⟨rfl, hb4⟩
        have HB4 : Hid (Below W0.heap.size W0 w4) := Lib.hid (HB.out.trans (hb4.mono hsz))
        have OW4 := Lib.hid (own_below HOWN.out hb4)
        have hs4 := hb4.size
        have SC4 := Lib.hid (SC.out.below HB4.out SC.out.lt)
        have SA4 := Lib.hid (SA.out.below HB4.out SA.out.lt)
        have CE4 := Lib.hid (EntCells.below HCW.out hb4 (by have := HW0.out.size; omega))
        have l4c := SC4.out.lt
        clear hb4 EX c0 c1 c2 c3 c4 c5 c6 c7 c8 HB HOWN a0 a1 a2 SAr HCW
        have q9 := (cfg_cells SC4.out).2.2.2.2.2.2.2.2.2.1
        go_wp2_with fail
        have HPK : Hid (pk = ⟨xid, addF px (mulF vx d), addF py (mulF vy d), addF pz (mulF vz d), ang, 3⟩) := Lib.hid HPk.out
        generalize addF px (mulF vx d) = z1 at *
        generalize addF py (mulF vy d) = z2 at *
        generalize addF pz (mulF vz d) = z3 at *
        have P5 := Lib.hid (Blk.new w4 #[.int .i64 xid, .int .i64 px, .int .i64 py, .int .i64 pz, .int .u16 ang, .int .i64 3] 45)
        have SC5 := Lib.hid (SC4.out.alloc (.cells #[.int .i64 xid, .int .i64 px, .int .i64 py, .int .i64 pz, .int .u16 ang, .int .i64 3] 45))
        have SA5 := Lib.hid (SA4.out.alloc (.cells #[.int .i64 xid, .int .i64 px, .int .i64 py, .int .i64 pz, .int .u16 ang, .int .i64 3] 45))
        have CE5 := Lib.hid (EntCells.below CE4.out ((Below.refl _ _).alloc (Nat.le_refl _) (.cells #[.int .i64 xid, .int .i64 px, .int .i64 py, .int .i64 pz, .int .u16 ang, .int .i64 3] 45)) (by have := HW0.out.size; have := HB4.out.size; omega))
        have HB5 : Hid (Below W0.heap.size W0 (w4.alloc (.cells #[.int .i64 xid, .int .i64 px, .int .i64 py, .int .i64 pz, .int .u16 ang, .int .i64 3] 45))) := Lib.hid (HB4.out.alloc HB4.out.size _)
        have OW5 := Lib.hid (OW4.out.alloc (.cells #[.int .i64 xid, .int .i64 px, .int .i64 py, .int .i64 pz, .int .u16 ang, .int .i64 3] 45))
        clear q9 SC4 SA4 CE4 HB4 OW4
        generalize w4.alloc (.cells #[.int .i64 xid, .int .i64 px, .int .i64 py, .int .i64 pz, .int .u16 ang, .int .i64 3] 45) = w5 at *
        have q9 := (cfg_cells SC5.out).2.2.2.2.2.2.2.2.2.1
        obtain ⟨a0, a1, a2⟩ := sn_cells SA5.out
        obtain ⟨p0, p1, p2, p3, p4, p5⟩ := po_cells P5.out
        obtain ⟨e0, e1, e2, e3, e4, e5, e6, e7, e8⟩ := CE5.out
        dsimp only at e4 e5 e6
        refine wp_region_calm 11 (by kernel_rfl) (by kernel_rfl) ?_
        simp only [List.take_succ_cons, List.take_zero, List.drop_succ_cons, List.drop_zero]
        repeat (apply wpCalm_step; (next => (intro W hW K hK; have y0 := hW.cell p1; have y1 := hW.cell p2; have y2 := hW.cell p3; have y3 := hW.cell a2; have y4 := hW.cell e4; have y5 := hW.cell e5; have y6 := hW.cell e6; go_simp; first | exact ⟨hW, hK⟩ | exact hK)); (next => exact CalmI.self _); (try go_simp))
        (apply wpCalm_step; (next => (intro W hW K hK; go_simp; first | exact ⟨_, hW.call (VG.out W), hK⟩ | exact ⟨hW, _, hW.call (VG.out W), hK⟩)); (next => exact CalmI.self _); (try go_simp))
        repeat (apply wpCalm_step; (next => (intro W hW K hK; have y0 := hW.cell p1; have y1 := hW.cell p2; have y2 := hW.cell p3; have y3 := hW.cell a2; have y4 := hW.cell e4; have y5 := hW.cell e5; have y6 := hW.cell e6; go_simp; first | exact ⟨hW, hK⟩ | exact hK)); (next => exact CalmI.self _); (try go_simp))
        refine wpCalm_nil ?_
        intro WC hWC
        have hWC' : Below w5.heap.size w5 WC := hWC
        have P8 := Lib.hid (P5.out.below hWC' P5.out.lt)
        have HB8 : Hid (Below W0.heap.size W0 WC) := Lib.hid (HB5.out.trans (hWC'.mono HB5.out.size))
        have OW8 := Lib.hid (own_below OW5.out hWC')
        have l8 := P8.out.lt
        clear hWC hWC' q9 a0 a1 a2 p0 p1 p2 p3 p4 p5 e0 e1 e2 e3 e4 e5 e6 e7 e8 P5 SC5 SA5 CE5 HB5 OW5
        obtain ⟨p0, p1, p2, p3, p4, p5⟩ := po_cells P8.out
        obtain ⟨f0, f1, f2, f3, f4, f5⟩ := po_free P8.out
        have Z9 := sets3 P8.out 1 (.int .i64 z1) 2 (.int .i64 z2) 3 (.int .i64 z3)
        have OWZ := Lib.hid (own_only OW8.out Z9.2 (fun j e h => by have := HLT.out j e; have h2 : j = w4.heap.size := h; omega))
        have HBZ := Lib.hid (HB8.out.trans (Z9.2.below HB8.out.size (by rintro i rfl; have := HB8.out.size; omega)))
        clear Z9
        go_wp2_with (at_builtin; refine wpList_append_own _ rfl (.tmp 74) (.tmp 76) 30 rfl W0.heap.size 45 i0 (.agg #[.int .i64 0, .int .i64 0, .int .i64 0, .int .i64 0, .int .u16 0, .int .i64 0]) 6 48 Try.underlying30 hi hz0 hz1 hz2 rfl (by decide) _ _ _ rfl (OWZ.out.alloc _) ⟨WC.heap.size, 0, none⟩ 1 1 [.int .i64 xid, .int .i64 z1, .int .i64 z2, .int .i64 z3, .int .u16 ang, .int .i64 3] rfl rfl ?c1 ?c2 ?c3 ?c4 ?c5 ?_)
        case c1 => exact cells_new (by simp)
        case c2 => intro u hu; simp at hu; rcases hu with rfl | rfl | rfl | rfl | rfl | rfl <;> rfl
        case c3 => unfold maxLen; omega
        case c4 => omega
        case c5 => have := HBZ.out.size; simp at *; omega
        intro v' w10 hown' hgrow _
        have hszz := HBZ.out.size
        have hB' : Hid (Below W0.heap.size W0 w10) := Lib.hid ((HBZ.out.alloc hszz _).grown hgrow (by simp at *; omega) (fun j e => (OWZ.out.lt j e).1))
        have HO : Hid (w10.ownsRow W0.heap.size 45 6 v' (k + 1) (poL P (k + 1))) := Lib.hid (by rw [HL.out, HPK.out]; exact hown')
        clear hown' hgrow
        go_wp2
        go_roundw
        case rel => exact ⟨k + 1, by omega, by go_num, HO.out, hB'.out⟩
        case measure => simp [intOf]; omega
      · obtain rfl : k = la := by omega
        obtain ⟨s, cp, rfl, hS⟩ := poses_of_row hown
        have HS := Lib.hid hS
        have HBE := Lib.hid (HW0.out.trans (hB.mono HW0.out.size))
        have SAr := Lib.hid (SA.out.below hB SA.out.lt)
        obtain ⟨a0, a1, a2⟩ := sn_cells SAr.out
        clear hS hown hB
        go_wp2
        exact bodyPost_ret (v := .tuple #[.slice s k cp, .int .i64 0]) (by simp [results, Try.results20, go_sem]) rfl ⟨s, cp, rfl, HS.out, HBE.out⟩
end Go.Proofs.Ytobphhbmlhjbcaa
