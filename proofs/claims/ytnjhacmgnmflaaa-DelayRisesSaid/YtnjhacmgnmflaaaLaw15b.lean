/- The laws of layer 15 that go on through estimates, walked: each returns true. -/
import Derived.Test.YtnjhacmgnmflaaaLaw15
import Derived.Test.YtnjhacmgnmflaaaSlices
import Derived.Test.YtnjhacmgnmflaaaOpen
namespace Go.Proofs.Ytnjhacmgnmflaaa
set_option linter.unusedVariables false
set_option linter.unusedSimpArgs false
open Go.RowKit

theorem targF_i64 {c : Cfg} (h0 : dchk c = 0) (j : Int) : I64 (targF c j) := inlim_i64 h0 (targF_lim h0 j)
theorem upd_again {c : Cfg} (h0 : dchk c = 0) (now ch j : Int) : updF c (updF c now j) j = updF c now j ∧ updN c (updF c now j) ch j = ch := by
  obtain ⟨_, _, _, ⟨s0, _⟩, _, _⟩ := dchk_ok h0
  unfold updN
  constructor
  · unfold updF; split
    · rw [if_neg (by omega)]
    · rfl
  · rw [if_neg]
    unfold updF; split <;> omega
theorem upd_near {c : Cfg} (h0 : dchk c = 0) (now j : Int) : updF c now j - targF c j ≤ c.slack ∧ targF c j - updF c now j ≤ c.slack := by
  obtain ⟨_, _, _, ⟨s0, _⟩, _, _⟩ := dchk_ok h0
  unfold updF; split <;> omega
theorem updN_step (c : Cfg) (now ch j : Int) : ch ≤ updN c now ch j ∧ updN c now ch j ≤ ch + 1 := by
  unfold updN; split <;> omega

/-- the delay goes on, k rounds done -/
def Going (c : Cfg) (b k : Nat) (wr : World) : Prop := ∃ now ch : Int, DelAt wr b c now ch ∧ InLim c now ∧ 0 ≤ ch ∧ ch ≤ k

theorem delayBounds_bad (c : Cfg) (ok : c.Ok) (h0 : dchk c ≠ 0) (a : Option Addr) (len cap : Nat) (w : World) :
    Calls Try.prog 5 #[cfgV c, .slice a len cap] w fun e w' => e = .returned (.bool true) ∧ Below w.heap.size w w' := by
  have nw := dnew_bad c h0
  have ck := dcheck_f c
  have h0' : (dchk c != 0) = true := by simpa using h0
  clear h0
  unfold cfgV at nw ck ⊢
  generalize dchk c = k at *
  go_enter Try.func5, Try.ntmps5
  go_wp2_with fail
  refine (nw _).mono ?_; rintro e w1 ⟨rfl, hb1⟩
  have CB := Lib.hid ((Blk.new w #[.int .i64 c.ring, .int .i64 c.window, .int .i64 c.base, .int .i64 c.gain, .int .i64 c.least, .int .i64 c.most, .int .i64 c.slack, .int .i64 c.num, .int .i64 c.den, .int .i64 c.extra, .bool c.curved] 23).below hb1 (by simp))
  obtain ⟨q0, q1, q2, q3, q4, q5, q6, q7, q8, q9, q10⟩ := cfg_cells CB.out
  have HB : Hid (Below w.heap.size w w1) := Lib.hid (((Below.refl _ _).alloc (Nat.le_refl _) _).trans (hb1.mono (by simp)))
  clear hb1
  go_wp2_with fail
  refine (alive_f _).mono ?_; rintro e w2 ⟨rfl, hb2⟩
  have CBn := Lib.hid (CB.out.below hb2 CB.out.lt)
  clear q0 q1 q2 q3 q4 q5 q6 q7 q8 q9 q10 CB
  have CB := CBn
  clear CBn
  obtain ⟨q0, q1, q2, q3, q4, q5, q6, q7, q8, q9, q10⟩ := cfg_cells CB.out
  have HB2 : Hid (Below w.heap.size w w2) := Lib.hid (HB.out.trans (hb2.mono HB.out.size))
  clear hb2 HB
  go_wp2_with fail
  refine (ck _).mono ?_; rintro e w3 ⟨rfl, hb3⟩
  have HB3 : Hid (Below w.heap.size w w3) := Lib.hid (HB2.out.trans (hb3.mono HB2.out.size))
  clear hb3 HB2
  go_wp2
  go_ret
  exact ⟨rfl, HB3.out⟩

theorem delayBounds_long (c : Cfg) (ok : c.Ok) (h0 : dchk c = 0) (a : Option Addr) (len cap : Nat) (hl : (len : Int) ≤ 9223372036854775807) (h5 : (500 : Int) < len) (w : World) :
    Calls Try.prog 5 #[cfgV c, .slice a len cap] w fun e w' => e = .returned (.bool true) ∧ Below w.heap.size w w' := by
  have nw := dnew_ok c ok h0
  have ck := dcheck_f c
  rw [h0] at ck
  clear h0
  unfold cfgV at nw ck ⊢
  go_enter Try.func5, Try.ntmps5
  go_wp2_with fail
  refine (nw _).mono ?_; rintro e w1 ⟨b, rfl, hlb, hd, hb1⟩
  have CB := Lib.hid ((Blk.new w #[.int .i64 c.ring, .int .i64 c.window, .int .i64 c.base, .int .i64 c.gain, .int .i64 c.least, .int .i64 c.most, .int .i64 c.slack, .int .i64 c.num, .int .i64 c.den, .int .i64 c.extra, .bool c.curved] 23).below hb1 (by simp))
  obtain ⟨q0, q1, q2, q3, q4, q5, q6, q7, q8, q9, q10⟩ := cfg_cells CB.out
  have HB : Hid (Below w.heap.size w w1) := Lib.hid (((Below.refl _ _).alloc (Nat.le_refl _) _).trans (hb1.mono (by simp)))
  clear hb1 hlb hd
  go_wp2_with fail
  refine (alive_f _).mono ?_; rintro e w2 ⟨rfl, hb2⟩
  have CBn := Lib.hid (CB.out.below hb2 CB.out.lt)
  clear q0 q1 q2 q3 q4 q5 q6 q7 q8 q9 q10 CB
  have CB := CBn
  clear CBn
  obtain ⟨q0, q1, q2, q3, q4, q5, q6, q7, q8, q9, q10⟩ := cfg_cells CB.out
  have HB2 : Hid (Below w.heap.size w w2) := Lib.hid (HB.out.trans (hb2.mono HB.out.size))
  clear hb2 HB
  go_wp2_with fail
  refine (ck _).mono ?_; rintro e w3 ⟨rfl, hb3⟩
  have HB3 : Hid (Below w.heap.size w w3) := Lib.hid (HB2.out.trans (hb3.mono HB2.out.size))
  clear hb3 HB2
  go_wp2
  go_ret
  exact ⟨rfl, HB3.out⟩

set_option maxHeartbeats 2000000 in
theorem delayBounds_loop (c : Cfg) (ok : c.Ok) (h0 : dchk c = 0) (a : Option Addr) (len cap : Nat) (zs : List Int) (w : World) (hs : IntsAt .i64 w a len zs) (h5 : len ≤ 500) :
    Calls Try.prog 5 #[cfgV c, .slice a len cap] w fun e w' => e = .returned (.bool true) ∧ Below w.heap.size w w' := by
  have nw := dnew_ok c ok h0
  have wf : ∀ i, i < len → I64 (zs.getD i 0) := fun i hi => wf_i64 (hs.wf hi)
  obtain ⟨_, _, hs⟩ := hs
  have up := fun b now ch j w (hn : InLim c now) (hj : I64 j) (a1 : 0 ≤ ch) (a2 : ch ≤ 4611686018427387904) h => dupdate_f b c now ch j w ok h0 hn hj a1 a2 h
  have tg := fun j (hj : I64 j) w => target_f c j ok hj w
  have ta : ∀ j, targA c j = targF c j := fun j => by unfold targA; rw [if_pos h0]
  have H0 := Lib.hid h0
  have NW := Lib.hid nw
  have WF := Lib.hid wf
  clear nw h0 wf
  unfold cfgV at NW tg ⊢
  have TG := Lib.hid tg
  have UP := Lib.hid up
  clear tg up
  have TA := Lib.hid ta
  clear ta
  have h5' : (len : Int) ≤ 500 := by omega
  rcases hs with hz | ⟨ab, off, rfl, hab, hcell⟩
  all_goals
    go_enter Try.func5, Try.ntmps5
    go_wp2_with fail
    refine (NW.out _).mono ?_; rintro e w1 ⟨b, rfl, hlb, hd, hb1⟩
    have CB := Lib.hid ((Blk.new w #[.int .i64 c.ring, .int .i64 c.window, .int .i64 c.base, .int .i64 c.gain, .int .i64 c.least, .int .i64 c.most, .int .i64 c.slack, .int .i64 c.num, .int .i64 c.den, .int .i64 c.extra, .bool c.curved] 23).below hb1 (by simp))
    obtain ⟨q0, q1, q2, q3, q4, q5, q6, q7, q8, q9, q10⟩ := cfg_cells CB.out
    have HB : Hid (Below w.heap.size w w1) := Lib.hid (((Below.refl _ _).alloc (Nat.le_refl _) _).trans (hb1.mono (by simp)))
    have hbc : w.heap.size < b := by simp at hlb; omega
    have HD : Hid (Going c b 0 w1) := Lib.hid ⟨_, _, hd, targF_lim H0.out 0, by omega, by omega⟩
    clear hb1 hlb hd q0 q1 q2 q3 q4 q5 q6 q7 q8 q9 q10
    go_wp2_with fail
    go_loopw [37] (fun i wr => ∃ k : Nat, k ≤ len ∧ i = .int .i64 k ∧ Going c b k wr ∧ Blk wr w.heap.size #[.int .i64 c.ring, .int .i64 c.window, .int .i64 c.base, .int .i64 c.gain, .int .i64 c.least, .int .i64 c.most, .int .i64 c.slack, .int .i64 c.num, .int .i64 c.den, .int .i64 c.extra, .bool c.curved] 23 ∧ Below w.heap.size w wr) (fun i _ => len - (intOf i).toNat)
    case atStart => exact ⟨0, Nat.zero_le _, rfl, HD.out, CB.out, HB.out⟩
    case round =>
      rename_i wr
      obtain ⟨k, hk, rfl, ⟨now, ch, hd, hn, hc0, hc1⟩, hblk, hbw⟩ := hrel
      clear CB HB HD
      by_cases hlt : (k : Int) < len
      · first
        | (exfalso; omega)
        | (have hx := (hbw.cell (p := ⟨ab, off + k, none⟩) hab).trans (hcell k (by omega))
           have hx64 := WF.out k (by omega)
           generalize zs.getD k 0 = x at *
           have HW := Lib.hid hbw
           have HBK := Lib.hid hblk
           clear hbw hblk hcell
           have v1 := UP.out b now ch x wr hn hx64 hc0 (by omega) hd
           obtain ⟨g1, g2⟩ := upd_lim H0.out hn (j := x)
           obtain ⟨g3, g4⟩ := upd_near H0.out now x
           obtain ⟨g5, g6⟩ := upd_again H0.out now (updN c now ch x) x
           obtain ⟨g7, g8⟩ := updN_step c now ch x
           obtain ⟨_, ⟨l1, l2⟩, ⟨l3, l4⟩, ⟨l5, l6⟩, _, _⟩ := dchk_ok H0.out
           obtain ⟨t1, t2⟩ := targF_lim H0.out x
           have tg := TG.out x hx64
           rw [TA.out] at tg
           have v2 := fun w h => UP.out b (updF c now x) (updN c now ch x) x w ⟨g1, g2⟩ hx64 (by omega) (by omega) h
           rw [g5, g6] at v2
           have HG : Hid (InLim c (updF c now x)) := Lib.hid ⟨g1, g2⟩
           generalize updF c now x = n at *
           generalize updN c now ch x = m at *
           generalize targF c x = t at *
           have hd0 := Lib.hid hd
           clear hd hn g5 g6
           go_wp2_with fail
           refine v1.mono ?_; rintro e w2 ⟨rfl, hd2, ho2⟩
           have CB2 := Lib.hid (ho2.blk HBK.out (by omega))
           have HW2 : Hid (Below w.heap.size w w2) := Lib.hid (HW.out.trans (ho2.below HW.out.size (by rintro i rfl; omega)))
           have HD2 := Lib.hid hd2
           clear v1 hd0 hd2 ho2 HBK HW hx
           obtain ⟨q0, q1, q2, q3, q4, q5, q6, q7, q8, q9, q10⟩ := cfg_cells CB2.out
           go_wp2_with fail
           refine (tg _).mono ?_; rintro e w3 ⟨rfl, hb3⟩
           have CB2n := Lib.hid (CB2.out.below hb3 CB2.out.lt)
           clear q0 q1 q2 q3 q4 q5 q6 q7 q8 q9 q10 CB2
           have CB2 := CB2n
           clear CB2n
           obtain ⟨q0, q1, q2, q3, q4, q5, q6, q7, q8, q9, q10⟩ := cfg_cells CB2.out
           have HD3 : Hid (DelAt w3 b c n m) := Lib.hid (HD2.out.below hb3 HD2.out.lt)
           have HW3 : Hid (Below w.heap.size w w3) := Lib.hid (HW2.out.trans (hb3.mono HW2.out.size))
           clear hb3 HD2 HW2 tg
           have y1 := dchanges_f b c n m w3 HD3.out
           go_wp2_with fail
           refine y1.mono ?_; rintro e w' ⟨rfl, rfl⟩
           have v3 := v2 w3 HD3.out
           clear y1 v2
           go_wp2_with fail
           refine v3.mono ?_; rintro e w4 ⟨rfl, hd4, ho4⟩
           have CB4 := Lib.hid (ho4.blk CB2.out (by omega))
           have HW4 : Hid (Below w.heap.size w w4) := Lib.hid (HW3.out.trans (ho4.below HW3.out.size (by rintro i rfl; omega)))
           have HD4 := Lib.hid hd4
           have y2 := dchanges_f b c n m w4 hd4
           clear v3 HD3 hd4 ho4 CB2 HW3 q0 q1 q2 q3 q4 q5 q6 q7 q8 q9 q10
           go_wp2_with fail
           refine y2.mono ?_; rintro e w' ⟨rfl, rfl⟩
           clear y2
           go_wp2
           go_roundw
           case rel => exact ⟨k + 1, by omega, by go_num, ⟨n, m, HD4.out, HG.out, by omega, by omega⟩, CB4.out, HW4.out⟩
           case measure => simp [intOf]; omega)
      · clear hn hd
        go_wp2_with fail
        refine (alive_f _).mono ?_; rintro e w5 ⟨rfl, hb5⟩
        have HW5 : Hid (Below w.heap.size w w5) := Lib.hid (hbw.trans (hb5.mono hbw.size))
        clear hb5
        go_wp2
        go_ret
        exact ⟨rfl, HW5.out⟩

theorem delayBounds_walk (r wi bs g l m s n d e : Int) (cu : Bool) (a : Option Addr) (len cap : Nat) (zs : List Int) (w : World) (h1 : I64 r) (h2 : I64 wi) (h3 : I64 bs) (h4 : I64 g) (h5 : I64 l) (h6 : I64 m) (h7 : I64 s) (h8 : I64 n) (h9 : I64 d) (h10 : I64 e) (hs : IntsAt .i64 w a len zs) (hy : len * 8 ≤ 140737488351232) :
    Calls Try.prog 5 #[.agg #[.int .i64 r, .int .i64 wi, .int .i64 bs, .int .i64 g, .int .i64 l, .int .i64 m, .int .i64 s, .int .i64 n, .int .i64 d, .int .i64 e, .bool cu], .slice a len cap] w fun e w' => e = .returned (.bool true) ∧ Below w.heap.size w w' := by
  have ok : (mkCfg r wi bs g l m s n d e cu).Ok := ⟨h1, h2, h3, h4, h5, h6, h7, h8, h9, h10⟩
  by_cases h0 : dchk (mkCfg r wi bs g l m s n d e cu) = 0
  · by_cases hl : len ≤ 500
    · exact delayBounds_loop (mkCfg r wi bs g l m s n d e cu) ok h0 a len cap zs w hs hl
    · exact delayBounds_long (mkCfg r wi bs g l m s n d e cu) ok h0 a len cap (by omega) (by omega) w
  · exact delayBounds_bad (mkCfg r wi bs g l m s n d e cu) ok h0 a len cap w

end Go.Proofs.Ytnjhacmgnmflaaa
