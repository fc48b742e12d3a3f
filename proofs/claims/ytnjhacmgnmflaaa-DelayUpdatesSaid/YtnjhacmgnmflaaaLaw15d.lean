/- A law of layer 15 that holds a delay against the document's answer, walked: it returns true. -/
import Derived.Test.YtnjhacmgnmflaaaLaw15b
namespace Go.Proofs.Ytnjhacmgnmflaaa
set_option linter.unusedVariables false
set_option linter.unusedSimpArgs false
open Go.RowKit

theorem delayUpdates_bad (c : Cfg) (ok : c.Ok) (h0 : dchk c ≠ 0) (a : Option Addr) (len cap : Nat) (w : World) :
    Calls Try.prog 4 #[cfgV c, .slice a len cap] w fun e w' => e = .returned (.bool true) ∧ Below w.heap.size w w' := by
  have nw := dnew_bad c h0
  have rc := rcheck15_f c
  have u1 := dupdate_nil 5
  have h0' : (dchk c != 0) = true := by simpa using h0
  clear h0
  unfold cfgV at nw rc ⊢
  generalize dchk c = k at *
  go_enter Try.func4, Try.ntmps4
  go_wp2_with fail
  refine (nw _).mono ?_; rintro e w1 ⟨rfl, hb1⟩
  have CB := Lib.hid ((Blk.new w #[.int .i64 c.ring, .int .i64 c.window, .int .i64 c.base, .int .i64 c.gain, .int .i64 c.least, .int .i64 c.most, .int .i64 c.slack, .int .i64 c.num, .int .i64 c.den, .int .i64 c.extra, .bool c.curved] 23).below hb1 (by simp))
  obtain ⟨q0, q1, q2, q3, q4, q5, q6, q7, q8, q9, q10⟩ := cfg_cells CB.out
  have HB : Hid (Below w.heap.size w w1) := Lib.hid (((Below.refl _ _).alloc (Nat.le_refl _) _).trans (hb1.mono (by simp)))
  clear hb1
  go_wp2_with fail
  refine (u1 _).mono ?_; rintro e w' ⟨rfl, rfl⟩
  go_wp2_with fail
  refine (dnow_nil _).mono ?_; rintro e w' ⟨rfl, rfl⟩
  go_wp2_with fail
  refine (dchanges_nil _).mono ?_; rintro e w' ⟨rfl, rfl⟩
  go_wp2_with fail
  refine (rc _).mono ?_; rintro e w2 ⟨rfl, hb2⟩
  have HB2 : Hid (Below w.heap.size w w2) := Lib.hid (HB.out.trans (hb2.mono HB.out.size))
  clear hb2 HB
  go_wp2_with fail
  refine (alive_f _).mono ?_; rintro e w3 ⟨rfl, hb3⟩
  have HB3 : Hid (Below w.heap.size w w3) := Lib.hid (HB2.out.trans (hb3.mono HB2.out.size))
  clear hb3 HB2
  go_wp2
  go_ret
  exact ⟨rfl, HB3.out⟩

theorem delayUpdates_long (c : Cfg) (ok : c.Ok) (h0 : dchk c = 0) (a : Option Addr) (len cap : Nat) (hl : (len : Int) ≤ 9223372036854775807) (h5 : (500 : Int) < len) (w : World) :
    Calls Try.prog 4 #[cfgV c, .slice a len cap] w fun e w' => e = .returned (.bool true) ∧ Below w.heap.size w w' := by
  have nw := dnew_ok c ok h0
  have rc := rcheck15_f c
  have u1 := dupdate_nil 5
  rw [h0] at rc
  clear h0
  unfold cfgV at nw rc ⊢
  go_enter Try.func4, Try.ntmps4
  go_wp2_with fail
  refine (nw _).mono ?_; rintro e w1 ⟨b, rfl, hlb, hd, hb1⟩
  have CB := Lib.hid ((Blk.new w #[.int .i64 c.ring, .int .i64 c.window, .int .i64 c.base, .int .i64 c.gain, .int .i64 c.least, .int .i64 c.most, .int .i64 c.slack, .int .i64 c.num, .int .i64 c.den, .int .i64 c.extra, .bool c.curved] 23).below hb1 (by simp))
  obtain ⟨q0, q1, q2, q3, q4, q5, q6, q7, q8, q9, q10⟩ := cfg_cells CB.out
  have HB : Hid (Below w.heap.size w w1) := Lib.hid (((Below.refl _ _).alloc (Nat.le_refl _) _).trans (hb1.mono (by simp)))
  clear hb1 hlb hd
  go_wp2_with fail
  refine (u1 _).mono ?_; rintro e w' ⟨rfl, rfl⟩
  go_wp2_with fail
  refine (dnow_nil _).mono ?_; rintro e w' ⟨rfl, rfl⟩
  go_wp2_with fail
  refine (dchanges_nil _).mono ?_; rintro e w' ⟨rfl, rfl⟩
  go_wp2_with fail
  refine (rc _).mono ?_; rintro e w2 ⟨rfl, hb2⟩
  have HB2 : Hid (Below w.heap.size w w2) := Lib.hid (HB.out.trans (hb2.mono HB.out.size))
  clear hb2 HB
  go_wp2_with fail
  refine (alive_f _).mono ?_; rintro e w3 ⟨rfl, hb3⟩
  have HB3 : Hid (Below w.heap.size w w3) := Lib.hid (HB2.out.trans (hb3.mono HB2.out.size))
  clear hb3 HB2
  go_wp2
  go_ret
  exact ⟨rfl, HB3.out⟩

set_option maxRecDepth 100000 in
set_option maxHeartbeats 2000000 in
theorem delayUpdates_loop (c : Cfg) (ok : c.Ok) (h0 : dchk c = 0) (a : Option Addr) (len cap : Nat) (zs : List Int) (w : World) (hs : IntsAt .i64 w a len zs) (h5 : len ≤ 500) :
    Calls Try.prog 4 #[cfgV c, .slice a len cap] w fun e w' => e = .returned (.bool true) ∧ Below w.heap.size w w' := by
  have nw := dnew_ok c ok h0
  have rc := rcheck15_f c
  have u1 := dupdate_nil 5
  rw [h0] at rc
  have wf : ∀ i, i < len → I64 (zs.getD i 0) := fun i hi => wf_i64 (hs.wf hi)
  obtain ⟨_, _, hs⟩ := hs
  have up := fun b now ch j w (hn : InLim c now) (hj : I64 j) (a1 : 0 ≤ ch) (a2 : ch ≤ 4611686018427387904) h => dupdate_f b c now ch j w ok h0 hn hj a1 a2 h
  have ru := fun now j (hn : InLim c now) (hj : I64 j) w => rupdate_f c now j ok h0 hn hj w
  have rt := rtarget_f c 0 ok (by unfold I64; omega)
  have H0 := Lib.hid h0
  have NW := Lib.hid nw
  have WF := Lib.hid wf
  clear nw h0 wf
  unfold cfgV at NW ru rc rt ⊢
  have RU := Lib.hid ru
  have UP := Lib.hid up
  have RC := Lib.hid rc
  have RT := Lib.hid rt
  clear ru up rc rt
  have h5' : (len : Int) ≤ 500 := by omega
  rcases hs with hz | ⟨ab, off, rfl, hab, hcell⟩
  all_goals
    go_enter Try.func4, Try.ntmps4
    go_wp2_with fail
    refine (NW.out _).mono ?_; rintro e w1 ⟨b, rfl, hlb, hd, hb1⟩
    have CB := Lib.hid ((Blk.new w #[.int .i64 c.ring, .int .i64 c.window, .int .i64 c.base, .int .i64 c.gain, .int .i64 c.least, .int .i64 c.most, .int .i64 c.slack, .int .i64 c.num, .int .i64 c.den, .int .i64 c.extra, .bool c.curved] 23).below hb1 (by simp))
    obtain ⟨q0, q1, q2, q3, q4, q5, q6, q7, q8, q9, q10⟩ := cfg_cells CB.out
    have HB : Hid (Below w.heap.size w w1) := Lib.hid (((Below.refl _ _).alloc (Nat.le_refl _) _).trans (hb1.mono (by simp)))
    have hbc : w.heap.size < b := by simp at hlb; omega
    have HD := Lib.hid hd
    clear hb1 hlb hd
    go_wp2_with fail
    refine (u1 _).mono ?_; rintro e w' ⟨rfl, rfl⟩
    go_wp2_with fail
    refine (dnow_nil _).mono ?_; rintro e w' ⟨rfl, rfl⟩
    go_wp2_with fail
    refine (dchanges_nil _).mono ?_; rintro e w' ⟨rfl, rfl⟩
    go_wp2_with fail
    refine (RC.out _).mono ?_; rintro e w2 ⟨rfl, hb2⟩
    have CBn := Lib.hid (CB.out.below hb2 CB.out.lt)
    clear q0 q1 q2 q3 q4 q5 q6 q7 q8 q9 q10 CB
    have CB := CBn
    clear CBn
    obtain ⟨q0, q1, q2, q3, q4, q5, q6, q7, q8, q9, q10⟩ := cfg_cells CB.out
    have HD2 := Lib.hid (Blk.below HD.out hb2 HD.out.lt)
    have HB2 : Hid (Below w.heap.size w w2) := Lib.hid (HB.out.trans (hb2.mono HB.out.size))
    clear hb2 HB HD
    go_wp2_with fail
    refine (RT.out _).mono ?_; rintro e w3 ⟨rfl, hb3⟩
    have CBn := Lib.hid (CB.out.below hb3 CB.out.lt)
    clear q0 q1 q2 q3 q4 q5 q6 q7 q8 q9 q10 CB
    have CB := CBn
    clear CBn
    obtain ⟨q0, q1, q2, q3, q4, q5, q6, q7, q8, q9, q10⟩ := cfg_cells CB.out
    have HB3 : Hid (Below w.heap.size w w3) := Lib.hid (HB2.out.trans (hb3.mono HB2.out.size))
    have HD3 : Hid (∃ now : Int, Value.int .i64 (targF c 0) = .int .i64 now ∧ DelAt w3 b c now 0 ∧ InLim c now) := Lib.hid ⟨_, rfl, Blk.below HD2.out hb3 HD2.out.lt, targF_lim H0.out 0⟩
    clear hb3 HB2 HD2 q0 q1 q2 q3 q4 q5 q6 q7 q8 q9 q10
    generalize targF c 0 = t0 at *
    go_wp2_with fail
    go_loopw [8, 9, 50] (fun nv g i wr => ∃ k : Nat, k ≤ len ∧ i = .int .i64 k ∧ (∃ ch : Int, g = .int .i64 ch ∧ 0 ≤ ch ∧ ch ≤ k ∧ ∃ now : Int, nv = .int .i64 now ∧ DelAt wr b c now ch ∧ InLim c now) ∧ Blk wr w.heap.size #[.int .i64 c.ring, .int .i64 c.window, .int .i64 c.base, .int .i64 c.gain, .int .i64 c.least, .int .i64 c.most, .int .i64 c.slack, .int .i64 c.num, .int .i64 c.den, .int .i64 c.extra, .bool c.curved] 23 ∧ Below w.heap.size w wr) (fun _ _ i _ => len - (intOf i).toNat)
    case atStart => exact ⟨0, Nat.zero_le _, rfl, ⟨0, rfl, by omega, by omega, HD3.out⟩, CB.out, HB3.out⟩
    case round =>
      rename_i wr
      obtain ⟨k, hk, rfl, ⟨ch, rfl, hc0, hc1, now, rfl, hd, hn⟩, hblk, hbw⟩ := hrel
      clear CB HB3 HD3
      by_cases hlt : (k : Int) < len
      · first
        | (exfalso; omega)
        | (have hx := (hbw.cell (p := ⟨ab, off + k, none⟩) hab).trans (hcell k (by omega))
           have hx64 := WF.out k (by omega)
           generalize zs.getD k 0 = x at *
           have hcx := Lib.hid hcell
           clear hcell
           obtain ⟨q0, q1, q2, q3, q4, q5, q6, q7, q8, q9, q10⟩ := cfg_cells hblk
           have CB := Lib.hid hblk
           have HW := Lib.hid hbw
           have HD := Lib.hid hd
           have rux := RU.out now x hn hx64
           have HU : Hid (updF c now x = if c.slack < max (targF c x - now) (now - targF c x) then targF c x else now) := Lib.hid rfl
           have HN : Hid (updN c now ch x = if c.slack < max (targF c x - now) (now - targF c x) then ch + 1 else ch) := Lib.hid rfl
           have HG : Hid (InLim c (updF c now x)) := Lib.hid (upd_lim H0.out hn)
           have HS : Hid (0 ≤ c.slack) := Lib.hid (dchk_ok H0.out).2.2.2.1.1
           have UPX := Lib.hid (fun w' h => UP.out b now ch x w' hn hx64 hc0 (by omega) h)
           clear hblk hbw hd hn
           by_cases hfar : c.slack < max (targF c x - now) (now - targF c x)
           · have hne : (targF c x != now) = true := by
               have := HS.out
               rw [bne_iff_ne]; omega
             have HU2 : Hid (updF c now x = targF c x) := Lib.hid (by rw [HU.out, if_pos hfar])
             have HN2 : Hid (updN c now ch x = ch + 1) := Lib.hid (by rw [HN.out, if_pos hfar])
             rw [HU2.out] at rux HG
             rw [HU2.out, HN2.out] at UPX
             clear HU HN HU2 HN2 hfar
             generalize targF c x = t at *
             go_wp2_with fail
             refine (rux _).mono ?_; rintro e w4 ⟨rfl, hb4⟩
             have CB4 := Lib.hid (CB.out.below hb4 CB.out.lt)
             have HD4 := Lib.hid (Blk.below HD.out hb4 HD.out.lt)
             have HW4 : Hid (Below w.heap.size w w4) := Lib.hid (HW.out.trans (hb4.mono HW.out.size))
             have v1 := UPX.out w4 HD4.out
             clear hb4 CB HD HW q0 q1 q2 q3 q4 q5 q6 q7 q8 q9 q10 hx
             go_wp2_with fail
             refine v1.mono ?_; rintro e w5 ⟨rfl, hd5, ho5⟩
             have CB5 := Lib.hid (ho5.blk CB4.out (by omega))
             have HW5 : Hid (Below w.heap.size w w5) := Lib.hid (HW4.out.trans (ho5.below HW4.out.size (by rintro i rfl; omega)))
             have y1 := dnow_f b c t (ch + 1) w5 hd5
             have y2 := dchanges_f b c t (ch + 1) w5 hd5
             have HD5 := Lib.hid hd5
             clear v1 hd5 ho5 CB4 HD4 HW4
             go_wp2_with fail
             refine y1.mono ?_; rintro e w' ⟨rfl, rfl⟩
             go_wp2_with fail
             refine y2.mono ?_; rintro e w' ⟨rfl, rfl⟩
             go_wp2
             go_roundw
             case rel => exact ⟨k + 1, by omega, by go_num, ⟨ch + 1, rfl, by omega, by omega, t, rfl, HD5.out, HG.out⟩, CB5.out, HW5.out⟩
             case measure => simp [intOf]; omega
           · have HU2 : Hid (updF c now x = now) := Lib.hid (by rw [HU.out, if_neg hfar])
             have HN2 : Hid (updN c now ch x = ch) := Lib.hid (by rw [HN.out, if_neg hfar])
             rw [HU2.out] at rux HG
             rw [HU2.out, HN2.out] at UPX
             clear HU HN HU2 HN2 hfar
             go_wp2_with fail
             refine (rux _).mono ?_; rintro e w4 ⟨rfl, hb4⟩
             have CB4 := Lib.hid (CB.out.below hb4 CB.out.lt)
             have HD4 := Lib.hid (Blk.below HD.out hb4 HD.out.lt)
             have HW4 : Hid (Below w.heap.size w w4) := Lib.hid (HW.out.trans (hb4.mono HW.out.size))
             have v1 := UPX.out w4 HD4.out
             clear hb4 CB HD HW q0 q1 q2 q3 q4 q5 q6 q7 q8 q9 q10 hx
             go_wp2_with fail
             refine v1.mono ?_; rintro e w5 ⟨rfl, hd5, ho5⟩
             have CB5 := Lib.hid (ho5.blk CB4.out (by omega))
             have HW5 : Hid (Below w.heap.size w w5) := Lib.hid (HW4.out.trans (ho5.below HW4.out.size (by rintro i rfl; omega)))
             have y1 := dnow_f b c now ch w5 hd5
             have y2 := dchanges_f b c now ch w5 hd5
             have HD5 := Lib.hid hd5
             clear v1 hd5 ho5 CB4 HD4 HW4
             go_wp2_with fail
             refine y1.mono ?_; rintro e w' ⟨rfl, rfl⟩
             go_wp2_with fail
             refine y2.mono ?_; rintro e w' ⟨rfl, rfl⟩
             go_wp2
             go_roundw
             case rel => exact ⟨k + 1, by omega, by go_num, ⟨ch, rfl, by omega, by omega, now, rfl, HD5.out, HG.out⟩, CB5.out, HW5.out⟩
             case measure => simp [intOf]; omega)
      · clear hn hd
        go_wp2_with fail
        refine (alive_f _).mono ?_; rintro e w5 ⟨rfl, hb5⟩
        have HW5 : Hid (Below w.heap.size w w5) := Lib.hid (hbw.trans (hb5.mono hbw.size))
        clear hb5
        go_wp2
        go_ret
        exact ⟨rfl, HW5.out⟩

theorem delayUpdates_walk (r wi bs g l m s n d e : Int) (cu : Bool) (a : Option Addr) (len cap : Nat) (zs : List Int) (w : World) (h1 : I64 r) (h2 : I64 wi) (h3 : I64 bs) (h4 : I64 g) (h5 : I64 l) (h6 : I64 m) (h7 : I64 s) (h8 : I64 n) (h9 : I64 d) (h10 : I64 e) (hs : IntsAt .i64 w a len zs) (hy : len * 8 ≤ 140737488351232) :
    Calls Try.prog 4 #[.agg #[.int .i64 r, .int .i64 wi, .int .i64 bs, .int .i64 g, .int .i64 l, .int .i64 m, .int .i64 s, .int .i64 n, .int .i64 d, .int .i64 e, .bool cu], .slice a len cap] w fun e w' => e = .returned (.bool true) ∧ Below w.heap.size w w' := by
  have ok : (mkCfg r wi bs g l m s n d e cu).Ok := ⟨h1, h2, h3, h4, h5, h6, h7, h8, h9, h10⟩
  by_cases h0 : dchk (mkCfg r wi bs g l m s n d e cu) = 0
  · by_cases hl : len ≤ 500
    · exact delayUpdates_loop (mkCfg r wi bs g l m s n d e cu) ok h0 a len cap zs w hs hl
    · exact delayUpdates_long (mkCfg r wi bs g l m s n d e cu) ok h0 a len cap (by omega) (by omega) w
  · exact delayUpdates_bad (mkCfg r wi bs g l m s n d e cu) ok h0 a len cap w

end Go.Proofs.Ytnjhacmgnmflaaa
