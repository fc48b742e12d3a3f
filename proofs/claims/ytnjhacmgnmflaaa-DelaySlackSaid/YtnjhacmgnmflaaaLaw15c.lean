/- A law of layer 15 on when a delay changes, walked: it returns true. -/
import Derived.Test.YtnjhacmgnmflaaaLaw15b
namespace Go.Proofs.Ytnjhacmgnmflaaa
set_option linter.unusedVariables false
set_option linter.unusedSimpArgs false
open Go.RowKit

theorem delaySlack_bad (c : Cfg) (ok : c.Ok) (h0 : dchk c ≠ 0) (a : Option Addr) (len cap : Nat) (w : World) :
    Calls Try.prog 7 #[cfgV c, .slice a len cap] w fun e w' => e = .returned (.bool true) ∧ Below w.heap.size w w' := by
  have nw := dnew_bad c h0
  have ck := dcheck_f c
  have h0' : (dchk c != 0) = true := by simpa using h0
  clear h0
  unfold cfgV at nw ck ⊢
  generalize dchk c = k at *
  go_enter Try.func7, Try.ntmps7
  go_wp2_with fail
  refine (nw _).mono ?_; rintro e w1 ⟨rfl, hb1⟩
  have CB := Lib.hid ((Blk.new w #[.int .i64 c.ring, .int .i64 c.window, .int .i64 c.base, .int .i64 c.gain, .int .i64 c.least, .int .i64 c.most, .int .i64 c.slack, .int .i64 c.num, .int .i64 c.den, .int .i64 c.extra, .bool c.curved] 23).below hb1 (by simp))
  obtain ⟨q0, q1, q2, q3, q4, q5, q6, q7, q8, q9, q10⟩ := cfg_cells CB.out
  have HB : Hid (Below w.heap.size w w1) := Lib.hid (((Below.refl _ _).alloc (Nat.le_refl _) _).trans (hb1.mono (by simp)))
  clear hb1
  go_wp2_with fail
  refine (alive_f _).mono ?_; rintro e w2 ⟨rfl, hb2⟩
  have CBn := Lib.hid (CB.out.below hb2 CB.out.lt)
  clear q0 q1 q2 q3 q4 q5 q6 q7 q8 q9 q10 CB
  have CB := CBn
  clear CBn
  obtain ⟨q0, q1, q2, q3, q4, q5, q6, q7, q8, q9, q10⟩ := cfg_cells CB.out
  have HB2 : Hid (Below w.heap.size w w2) := Lib.hid (HB.out.trans (hb2.mono HB.out.size))
  clear hb2 HB
  go_wp2
  go_ret
  exact ⟨rfl, HB2.out⟩

theorem delaySlack_long (c : Cfg) (ok : c.Ok) (h0 : dchk c = 0) (a : Option Addr) (len cap : Nat) (hl : (len : Int) ≤ 9223372036854775807) (h5 : (300 : Int) < len) (w : World) :
    Calls Try.prog 7 #[cfgV c, .slice a len cap] w fun e w' => e = .returned (.bool true) ∧ Below w.heap.size w w' := by
  have nw := dnew_ok c ok h0
  have ck := dcheck_f c
  rw [h0] at ck
  clear h0
  unfold cfgV at nw ck ⊢
  go_enter Try.func7, Try.ntmps7
  go_wp2_with fail
  refine (nw _).mono ?_; rintro e w1 ⟨b, rfl, hlb, hd, hb1⟩
  have CB := Lib.hid ((Blk.new w #[.int .i64 c.ring, .int .i64 c.window, .int .i64 c.base, .int .i64 c.gain, .int .i64 c.least, .int .i64 c.most, .int .i64 c.slack, .int .i64 c.num, .int .i64 c.den, .int .i64 c.extra, .bool c.curved] 23).below hb1 (by simp))
  obtain ⟨q0, q1, q2, q3, q4, q5, q6, q7, q8, q9, q10⟩ := cfg_cells CB.out
  have HB : Hid (Below w.heap.size w w1) := Lib.hid (((Below.refl _ _).alloc (Nat.le_refl _) _).trans (hb1.mono (by simp)))
  clear hb1 hlb hd
  go_wp2_with fail
  refine (alive_f _).mono ?_; rintro e w2 ⟨rfl, hb2⟩
  have CBn := Lib.hid (CB.out.below hb2 CB.out.lt)
  clear q0 q1 q2 q3 q4 q5 q6 q7 q8 q9 q10 CB
  have CB := CBn
  clear CBn
  obtain ⟨q0, q1, q2, q3, q4, q5, q6, q7, q8, q9, q10⟩ := cfg_cells CB.out
  have HB2 : Hid (Below w.heap.size w w2) := Lib.hid (HB.out.trans (hb2.mono HB.out.size))
  clear hb2 HB
  go_wp2
  go_ret
  exact ⟨rfl, HB2.out⟩

set_option maxRecDepth 100000 in
set_option maxHeartbeats 2000000 in
theorem delaySlack_loop (c : Cfg) (ok : c.Ok) (h0 : dchk c = 0) (a : Option Addr) (len cap : Nat) (zs : List Int) (w : World) (hs : IntsAt .i64 w a len zs) (h5 : len ≤ 300) :
    Calls Try.prog 7 #[cfgV c, .slice a len cap] w fun e w' => e = .returned (.bool true) ∧ Below w.heap.size w w' := by
  have nw := dnew_ok c ok h0
  have wf : ∀ i, i < len → I64 (zs.getD i 0) := fun i hi => wf_i64 (hs.wf hi)
  obtain ⟨_, _, hs⟩ := hs
  have up := fun b now ch j w (hn : InLim c now) (hj : I64 j) (a1 : 0 ≤ ch) (a2 : ch ≤ 4611686018427387904) h => dupdate_f b c now ch j w ok h0 hn hj a1 a2 h
  have tg := fun j (hj : I64 j) w => target_f c j ok hj w
  have ta : ∀ j, targA c j = targF c j := fun j => by unfold targA; rw [if_pos h0]
  have H0 := Lib.hid h0
  have NW := Lib.hid nw
  have WF := Lib.hid wf
  clear nw h0 wf
  unfold cfgV at NW tg ⊢
  have TG := Lib.hid tg
  have UP := Lib.hid up
  clear tg up
  have TA := Lib.hid ta
  clear ta
  have h5' : (len : Int) ≤ 300 := by omega
  rcases hs with hz | ⟨ab, off, rfl, hab, hcell⟩
  all_goals
    go_enter Try.func7, Try.ntmps7
    go_wp2_with fail
    refine (NW.out _).mono ?_; rintro e w1 ⟨b, rfl, hlb, hd, hb1⟩
    have CB := Lib.hid ((Blk.new w #[.int .i64 c.ring, .int .i64 c.window, .int .i64 c.base, .int .i64 c.gain, .int .i64 c.least, .int .i64 c.most, .int .i64 c.slack, .int .i64 c.num, .int .i64 c.den, .int .i64 c.extra, .bool c.curved] 23).below hb1 (by simp))
    obtain ⟨q0, q1, q2, q3, q4, q5, q6, q7, q8, q9, q10⟩ := cfg_cells CB.out
    have HB : Hid (Below w.heap.size w w1) := Lib.hid (((Below.refl _ _).alloc (Nat.le_refl _) _).trans (hb1.mono (by simp)))
    have hbc : w.heap.size < b := by simp at hlb; omega
    have HD : Hid (∃ now : Int, DelAt w1 b c now 0 ∧ InLim c now) := Lib.hid ⟨_, hd, targF_lim H0.out 0⟩
    clear hb1 hlb hd q0 q1 q2 q3 q4 q5 q6 q7 q8 q9 q10
    go_wp2_with fail
    go_loopw [7, 33] (fun g i wr => ∃ k : Nat, k ≤ len ∧ i = .int .i64 k ∧ (∃ ch : Int, g = .int .i64 ch ∧ 0 ≤ ch ∧ ch ≤ k ∧ ∃ now : Int, DelAt wr b c now ch ∧ InLim c now) ∧ Blk wr w.heap.size #[.int .i64 c.ring, .int .i64 c.window, .int .i64 c.base, .int .i64 c.gain, .int .i64 c.least, .int .i64 c.most, .int .i64 c.slack, .int .i64 c.num, .int .i64 c.den, .int .i64 c.extra, .bool c.curved] 23 ∧ Below w.heap.size w wr) (fun _ i _ => len - (intOf i).toNat)
    case atStart => exact ⟨0, Nat.zero_le _, rfl, ⟨0, rfl, by omega, by omega, HD.out⟩, CB.out, HB.out⟩
    case round =>
      rename_i wr
      obtain ⟨k, hk, rfl, ⟨ch, rfl, hc0, hc1, now, hd, hn⟩, hblk, hbw⟩ := hrel
      clear CB HB HD
      by_cases hlt : (k : Int) < len
      · first
        | (exfalso; omega)
        | (have hx := (hbw.cell (p := ⟨ab, off + k, none⟩) hab).trans (hcell k (by omega))
           have hx64 := WF.out k (by omega)
           generalize zs.getD k 0 = x at *
           have hcx := Lib.hid hcell
           clear hcell
           obtain ⟨q0, q1, q2, q3, q4, q5, q6, q7, q8, q9, q10⟩ := cfg_cells hblk
           have hblk2 := hblk
           have hbw2 := hbw
           have tg := TG.out x hx64
           rw [TA.out] at tg
           have HU : Hid (updF c now x = if c.slack < max (targF c x - now) (now - targF c x) then targF c x else now) := Lib.hid rfl
           have HN : Hid (updN c now ch x = if c.slack < max (targF c x - now) (now - targF c x) then ch + 1 else ch) := Lib.hid rfl
           have HG : Hid (InLim c (updF c now x)) := Lib.hid (upd_lim H0.out hn)
           obtain ⟨_, ⟨l1, l2⟩, ⟨l3, l4⟩, ⟨l5, l6⟩, _, _⟩ := dchk_ok H0.out
           obtain ⟨t1, t2⟩ := targF_lim H0.out x
           obtain ⟨n1, n2⟩ := hn
           have UPX := Lib.hid (fun w' h => UP.out b now ch x w' ⟨n1, n2⟩ hx64 hc0 (by omega) h)
           generalize targF c x = t at *
           obtain ⟨mm, hmm⟩ : ∃ m, max (t - now) (now - t) = m := ⟨_, rfl⟩
           rw [hmm] at HU HN
           have HMM := Lib.hid hmm
           clear hmm
           have hnB := hbw2
           go_wp2_with fail
           go_region_held3 (fun w' => (w'.cell? ⟨w.heap.size, 0, none⟩ = some (.int .i64 c.ring) ∧ w'.cell? ⟨w.heap.size, 1, none⟩ = some (.int .i64 c.window) ∧ w'.cell? ⟨w.heap.size, 2, none⟩ = some (.int .i64 c.base) ∧ w'.cell? ⟨w.heap.size, 3, none⟩ = some (.int .i64 c.gain) ∧ w'.cell? ⟨w.heap.size, 4, none⟩ = some (.int .i64 c.least) ∧ w'.cell? ⟨w.heap.size, 5, none⟩ = some (.int .i64 c.most) ∧ w'.cell? ⟨w.heap.size, 6, none⟩ = some (.int .i64 c.slack) ∧ w'.cell? ⟨w.heap.size, 7, none⟩ = some (.int .i64 c.num) ∧ w'.cell? ⟨w.heap.size, 8, none⟩ = some (.int .i64 c.den) ∧ w'.cell? ⟨w.heap.size, 9, none⟩ = some (.int .i64 c.extra) ∧ w'.cell? ⟨w.heap.size, 10, none⟩ = some (.bool c.curved)) ∧ Blk w' w.heap.size #[.int .i64 c.ring, .int .i64 c.window, .int .i64 c.base, .int .i64 c.gain, .int .i64 c.least, .int .i64 c.most, .int .i64 c.slack, .int .i64 c.num, .int .i64 c.den, .int .i64 c.extra, .bool c.curved] 23 ∧ Below w.heap.size w w' ∧ DelAt w' b c now ch)
             (first | (go_keep; done) | (((try dsimp only); repeat' apply And.intro) <;> (first | assumption | exact Below.drew (by assumption) | go_keep)) | (go_split_ands; exact ⟨⟨lm hbk (Blk.lt (b := w.heap.size) (by assumption)) (by assumption), lm hbk (Blk.lt (b := w.heap.size) (by assumption)) (by assumption), lm hbk (Blk.lt (b := w.heap.size) (by assumption)) (by assumption), lm hbk (Blk.lt (b := w.heap.size) (by assumption)) (by assumption), lm hbk (Blk.lt (b := w.heap.size) (by assumption)) (by assumption), lm hbk (Blk.lt (b := w.heap.size) (by assumption)) (by assumption), lm hbk (Blk.lt (b := w.heap.size) (by assumption)) (by assumption), lm hbk (Blk.lt (b := w.heap.size) (by assumption)) (by assumption), lm hbk (Blk.lt (b := w.heap.size) (by assumption)) (by assumption), lm hbk (Blk.lt (b := w.heap.size) (by assumption)) (by assumption), lm hbk (Blk.lt (b := w.heap.size) (by assumption)) (by assumption)⟩, Blk.below (by assumption) hbk (Blk.lt (b := w.heap.size) (by assumption)), Below.trans (by assumption) (hbk.mono (Nat.le_of_lt (Blk.lt (b := w.heap.size) (by assumption)))), Blk.below (by assumption) hbk (Blk.lt (b := b) (by assumption))⟩))
             ((first | (go_at_call 21; refine (dnow_f b c now ch _ (by go_split_ands; assumption)).mono ?_; rintro e wx ⟨rfl, rfl⟩) | (go_at_call 15; ((with_reducible refine (tg _).mono ?_); rintro e wx ⟨rfl, hbk⟩))))
           rename_i hH
           obtain ⟨⟨q0, q1, q2, q3, q4, q5, q6, q7, q8, q9, q10⟩, CBx, HWx, HDx⟩ := hH
           have CB2 := Lib.hid CBx
           have HW2 := Lib.hid HWx
           have v1 := UPX.out _ HDx
           clear CBx HWx
           go_wp2_with fail
           refine v1.mono ?_; rintro e w4 ⟨rfl, hd4, ho4⟩
           have CB4 := Lib.hid (ho4.blk CB2.out (by omega))
           have HW4 : Hid (Below w.heap.size w w4) := Lib.hid (HW2.out.trans (ho4.below HW2.out.size (by rintro i rfl; omega)))
           clear v1 HDx ho4 CB2 HW2 q0 q1 q2 q3 q4 q5 q6 q7 q8 q9 q10
           obtain ⟨q0, q1, q2, q3, q4, q5, q6, q7, q8, q9, q10⟩ := cfg_cells CB4.out
           have mm2 := HMM.out
           by_cases hfar : c.slack < mm
           · rw [HU.out, if_pos hfar] at hd4 HG
             rw [HN.out, if_pos hfar] at hd4
             rw [HU.out, if_pos hfar]
             have y2 := dchanges_f b c t (ch + 1) w4 hd4
             have HD4 := Lib.hid hd4
             clear hd4
             go_wp2_with fail
             refine y2.mono ?_; rintro e w' ⟨rfl, rfl⟩
             go_wp2
             go_roundw
             case rel => exact ⟨k + 1, by omega, by go_num, ⟨ch + 1, rfl, by omega, by omega, t, HD4.out, HG.out⟩, CB4.out, HW4.out⟩
             case measure => simp [intOf]; omega
           · rw [HU.out, if_neg hfar] at hd4 HG
             rw [HN.out, if_neg hfar] at hd4
             rw [HU.out, if_neg hfar]
             have y2 := dchanges_f b c now ch w4 hd4
             have HD4 := Lib.hid hd4
             clear hd4
             go_wp2_with fail
             refine y2.mono ?_; rintro e w' ⟨rfl, rfl⟩
             go_wp2
             go_roundw
             case rel => exact ⟨k + 1, by omega, by go_num, ⟨ch, rfl, by omega, by omega, now, HD4.out, HG.out⟩, CB4.out, HW4.out⟩
             case measure => simp [intOf]; omega)
      · clear hn hd
        go_wp2_with fail
        refine (alive_f _).mono ?_; rintro e w5 ⟨rfl, hb5⟩
        have HW5 : Hid (Below w.heap.size w w5) := Lib.hid (hbw.trans (hb5.mono hbw.size))
        clear hb5
        go_wp2
        go_ret
        exact ⟨rfl, HW5.out⟩

theorem delaySlack_walk (r wi bs g l m s n d e : Int) (cu : Bool) (a : Option Addr) (len cap : Nat) (zs : List Int) (w : World) (h1 : I64 r) (h2 : I64 wi) (h3 : I64 bs) (h4 : I64 g) (h5 : I64 l) (h6 : I64 m) (h7 : I64 s) (h8 : I64 n) (h9 : I64 d) (h10 : I64 e) (hs : IntsAt .i64 w a len zs) (hy : len * 8 ≤ 140737488351232) :
    Calls Try.prog 7 #[.agg #[.int .i64 r, .int .i64 wi, .int .i64 bs, .int .i64 g, .int .i64 l, .int .i64 m, .int .i64 s, .int .i64 n, .int .i64 d, .int .i64 e, .bool cu], .slice a len cap] w fun e w' => e = .returned (.bool true) ∧ Below w.heap.size w w' := by
  have ok : (mkCfg r wi bs g l m s n d e cu).Ok := ⟨h1, h2, h3, h4, h5, h6, h7, h8, h9, h10⟩
  by_cases h0 : dchk (mkCfg r wi bs g l m s n d e cu) = 0
  · by_cases hl : len ≤ 300
    · exact delaySlack_loop (mkCfg r wi bs g l m s n d e cu) ok h0 a len cap zs w hs hl
    · exact delaySlack_long (mkCfg r wi bs g l m s n d e cu) ok h0 a len cap (by omega) (by omega) w
  · exact delaySlack_bad (mkCfg r wi bs g l m s n d e cu) ok h0 a len cap w

end Go.Proofs.Ytnjhacmgnmflaaa
