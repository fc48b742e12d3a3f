/- ClockActs, walked. -/
import Derived.Test.YtbpbkdpjolcofaaLaw17b
import Derived.Test.YtbpbkdpjolcofaaLaw17c
import Derived.Test.YtbpbkdpjolcofaaRef17
namespace Go.Proofs.Ytbpbkdpjolcofaa
set_option linter.unusedVariables false
set_option linter.unusedSimpArgs false
open Go.RowKit

set_option maxRecDepth 8000 in
set_option maxHeartbeats 1000000 in
theorem clockActs_bad (c : Cfg) (hc : cchk c ≠ 0) (a : Option Addr) (len cap : Nat) (w : World) :
    Calls Try.prog 7 #[cfgV c, .slice a len cap] w fun e w' => e = .returned (.bool true) ∧ Below w.heap.size w w' := by
  have nw := cnew_bad c hc
  have rk := rcheck_f c
  have ck := ccheck_f c
  have al := alive17_f
  have h0' : (cchk c != 0) = true := by simpa using hc
  clear hc
  generalize cchk c = k at *
  unfold cfgV at nw rk ck ⊢
  go_enter Try.func7, Try.ntmps7
  go_wp2_with fail
  refine (nw _).mono ?_; rintro e w1 ⟨rfl, hb1⟩
  have CB := Lib.hid ((Blk.new w #[.int .i64 c.ring, .int .i64 c.window, .int .i64 c.base, .int .i64 c.gain, .int .i64 c.least, .int .i64 c.most, .int .i64 c.slack, .int .i64 c.num, .int .i64 c.den, .int .i64 c.extra, .bool c.curved] 23).below hb1 (by simp))
  obtain ⟨q0, q1, q2, q3, q4, q5, q6, q7, q8, q9, q10⟩ := cfg_cells CB.out
  have HB1 : Hid (Below w.heap.size w w1) := Lib.hid (((Below.refl _ _).alloc (Nat.le_refl _) _).trans (hb1.mono (by simp)))
  clear hb1
  go_wp2_with fail
  refine (rk _).mono ?_; rintro e w2 ⟨rfl, hb2⟩
  have CBn := Lib.hid (CB.out.below hb2 CB.out.lt)
  clear q0 q1 q2 q3 q4 q5 q6 q7 q8 q9 q10 CB
  have CB := CBn
  clear CBn
  obtain ⟨q0, q1, q2, q3, q4, q5, q6, q7, q8, q9, q10⟩ := cfg_cells CB.out
  have HB2 : Hid (Below w.heap.size w w2) := Lib.hid (HB1.out.trans (hb2.mono HB1.out.size))
  clear hb2
  go_wp2_with fail
  refine (ck _).mono ?_; rintro e w3 ⟨rfl, hb3⟩
  have HB3 : Hid (Below w.heap.size w w3) := Lib.hid (HB2.out.trans (hb3.mono HB2.out.size))
  clear hb3
  go_wp2_with fail
  refine (al _).mono ?_; rintro e w4 ⟨rfl, hb4⟩
  have HB4 : Hid (Below w.heap.size w w4) := Lib.hid (HB3.out.trans (hb4.mono HB3.out.size))
  clear hb4
  go_wp2
  go_ret
  exact ⟨rfl, HB4.out⟩

set_option maxRecDepth 8000 in
set_option maxHeartbeats 8000000 in
theorem clockActs_ok (c : Cfg) (okc : c.Ok) (hc : cchk c = 0) (a : Option Addr) (len cap : Nat) (K X Y : Nat → Int) (w : World) (hs : ActsAt w a len K X Y) (hl : (len : Int) ≤ 4611686018427387904) :
    Calls Try.prog 7 #[cfgV c, .slice a len cap] w fun e w' => e = .returned (.bool true) ∧ Below w.heap.size w w' := by
  have nw := cnew_ok c okc hc
  have rw' := rnew_f c okc hc
  have rk := rcheck_f c
  have ck := ccheck_f c
  rw [hc] at rk ck
  have al := alive17_f
  have OKC := Lib.hid okc
  have HC := Lib.hid hc
  clear okc hc
  unfold cfgV at nw rw' rk ck ⊢
  obtain ⟨hi, hz | ⟨ab, off, rfl, hab, hcell⟩⟩ := hs
  all_goals
    have HI := Lib.hid hi
    clear hi
    go_enter Try.func7, Try.ntmps7
    go_wp2_with fail
    refine (nw _).mono ?_; rintro e w1 ⟨b1, S1, rfl, hk1, hup1, hb1⟩
    have CB := Lib.hid ((Blk.new w #[.int .i64 c.ring, .int .i64 c.window, .int .i64 c.base, .int .i64 c.gain, .int .i64 c.least, .int .i64 c.most, .int .i64 c.slack, .int .i64 c.num, .int .i64 c.den, .int .i64 c.extra, .bool c.curved] 23).below hb1 (by simp))
    obtain ⟨q0, q1, q2, q3, q4, q5, q6, q7, q8, q9, q10⟩ := cfg_cells CB.out
    have HB1 : Hid (Below w.heap.size w w1) := Lib.hid (((Below.refl _ _).alloc (Nat.le_refl _) _).trans (hb1.mono (by simp)))
    have HK1 := Lib.hid hk1
    have HU1 := Lib.hid hup1
    have z1 : w.heap.size < w1.heap.size := by have := hb1.size; simp at this; omega
    clear hb1 hk1 hup1 nw
    go_wp2_with fail
    refine (rk _).mono ?_; rintro e w2 ⟨rfl, hb2⟩
    have CBn := Lib.hid (CB.out.below hb2 CB.out.lt)
    clear q0 q1 q2 q3 q4 q5 q6 q7 q8 q9 q10 CB
    have CB := CBn
    clear CBn
    obtain ⟨q0, q1, q2, q3, q4, q5, q6, q7, q8, q9, q10⟩ := cfg_cells CB.out
    have HB2 : Hid (Below w.heap.size w w2) := Lib.hid (HB1.out.trans (hb2.mono HB1.out.size))
    have HK2 := Lib.hid (HK1.out.only (Only.of_below (S := noB) hb2) (fun _ _ hf => hf))
    have z2 : w.heap.size < w2.heap.size := by have := hb2.size; omega
    clear hb2 rk HK1
    go_wp2_with fail
    refine (ck _).mono ?_; rintro e w3 ⟨rfl, hb3⟩
    have CBn := Lib.hid (CB.out.below hb3 CB.out.lt)
    clear q0 q1 q2 q3 q4 q5 q6 q7 q8 q9 q10 CB
    have CB := CBn
    clear CBn
    obtain ⟨q0, q1, q2, q3, q4, q5, q6, q7, q8, q9, q10⟩ := cfg_cells CB.out
    have HB3 : Hid (Below w.heap.size w w3) := Lib.hid (HB2.out.trans (hb3.mono HB2.out.size))
    have HK3 := Lib.hid (HK2.out.only (Only.of_below (S := noB) hb3) (fun _ _ hf => hf))
    have z3 : w.heap.size < w3.heap.size := by have := hb3.size; omega
    clear hb3 ck HK2
    by_cases hlen : len ≤ 300
    · go_wp2_with fail
      refine (rw' _).mono ?_; rintro e w4 ⟨b2, T1, rfl, hr4, hup4, hb4⟩
      have HB : Hid (Below w.heap.size w w4) := Lib.hid (HB3.out.trans (hb4.mono HB3.out.size))
      have R0 := Lib.hid (show Run c b1 (w.heap.size + 1) w4 0 (cs0 c) S1 w4 from ⟨HK3.out.only (Only.of_below (S := noB) hb4) (fun _ _ hf => hf), fun k e => by have := HU1.out k e; simpa using this, cs0_ok HC.out, Nat.le_refl _, Below.refl _ _, by have := hb4.size; omega⟩)
      have AP0 := Lib.hid (show ∀ k, S1 k → ¬ T1 k from fun k e1 e2 => by have := HK3.out.lt k e1; have := hup4 k e2; omega)
      have UP0 := Lib.hid (show ∀ k, T1 k → w.heap.size + 1 ≤ k from fun k e => by have := hup4 k e; omega)
      have RF0 := Lib.hid hr4
      clear hr4 hup4 hb4 HK3 HU1 rw' q0 q1 q2 q3 q4 q5 q6 q7 q8 q9 q10 CB
      go_wp2_with fail
      go_loopw [54] (fun i wr => ∃ (k : Nat) (s : CS) (S T : Nat → Prop), i = .int .i64 k ∧ k ≤ len ∧ Run c b1 (w.heap.size + 1) w4 k s S wr ∧ RkAt wr b2 c s T ∧ (∀ j, S j → ¬ T j) ∧ (∀ j, T j → w.heap.size + 1 ≤ j)) (fun i _ => len - (intOf i).toNat)
      case atStart => exact ⟨0, cs0 c, S1, T1, rfl, Nat.zero_le _, R0.out, RF0.out, AP0.out, UP0.out⟩
      case round =>
        rename_i wr
        obtain ⟨k, s, S, T, rfl, hk, hR, hrf, hap, hupT⟩ := hrel
        have HRR := Lib.hid hR
        have HRF := Lib.hid hrf
        have AP := Lib.hid hap
        have UP := Lib.hid hupT
        clear hR hrf hap hupT
        have hsz : w.heap.size + 1 ≤ wr.heap.size := HRR.out.size
        have hltS := Lib.hid (HRR.out.at'.lt)
        have hltT := Lib.hid (HRF.out.lt)
        by_cases hlt : k < len
        · first
          | (exfalso; omega)
          | (skip
             have e0 := ((HRR.out.below.cell (p := ⟨ab, off + k * 3, none⟩) (by simp; omega)).trans (HB.out.cell (p := ⟨ab, off + k * 3, none⟩) hab)).trans (hcell k hlt).1
             have e1 := ((HRR.out.below.cell (p := ⟨ab, off + k * 3 + 1, none⟩) (by simp; omega)).trans (HB.out.cell (p := ⟨ab, off + k * 3 + 1, none⟩) hab)).trans (hcell k hlt).2.1
             have e2 := ((HRR.out.below.cell (p := ⟨ab, off + k * 3 + 2, none⟩) (by simp; omega)).trans (HB.out.cell (p := ⟨ab, off + k * 3 + 2, none⟩) hab)).trans (hcell k hlt).2.2
             obtain ⟨hik, hix, hiy⟩ := HI.out k hlt
             have HC2 := Lib.hid hcell
             have hlt' : (k : Int) < len := by omega
             clear hcell
             generalize X k = x at *
             generalize Y k = y at *
             generalize K k = kd at *

             by_cases hK : kd = 0
             · subst hK
               have hlenS : s.L.length < 1000 := by have := HRR.out.len; omega
               go_wp2_with fail
               refine (run_sample OKC.out HC.out (n := k) (by omega) (HRR.out.under ((Below.refl _ _).alloc (Nat.le_refl _) _)) x y hix hiy).mono ?_; rintro e v1 ⟨rfl, R1, o1⟩
               have BA := o1.blk (Blk.new wr #[.int .i64 0, .int .i64 x, .int .i64 y] 31) (fun e => by have := hltS.out _ e; omega)
               have g1 := BA.cell 1; have g2 := BA.cell 2
               simp at g1 g2
               have F1 := Lib.hid ((HRF.out.only ((Only.refl noB wr).alloc (.cells #[.int .i64 0, .int .i64 x, .int .i64 y] 31)) (fun _ _ hf => hf)).only o1 (fun j e1 e2 => AP.out j e2 e1))
               have Z1 := Lib.hid o1.size
               have R1h := Lib.hid R1
               clear R1 o1 BA
               go_wp2_with fail
               refine (rsample_f b2 c OKC.out HC.out s HRR.out.ok hlenS x y hix hiy T v1 F1.out).mono ?_; rintro e v2 ⟨rfl, RF, o2⟩
               have RR := R1h.out.other o2 UP.out (fun j e1 e2 => e1.1.elim (fun h => AP.out j h e2) (fun hh => by have := hltT.out j e2; simp at hh; omega))
               have AP2 := Lib.hid (show ∀ j, (Grow S (wr.alloc (.cells #[.int .i64 0, .int .i64 x, .int .i64 y] 31)) v1) j → ¬ (Grow T v1 v2) j from fun j e1 e2 => e2.1.elim (fun h2 => e1.1.elim (fun h1 => AP.out j h1 h2) (fun hh => by have := hltT.out j h2; simp at hh; omega)) (fun hh => by have := e1.2; omega))
               have UP2 := Lib.hid (show ∀ j, (Grow T v1 v2) j → w.heap.size + 1 ≤ j from fun j e => e.1.elim (UP.out j) (fun hh => by have := Z1.out; simp at this; omega))
               clear AP UP o2 g1 g2 R1h F1 Z1
               have AP := AP2
               have UP := UP2
               clear AP2 UP2
               generalize smp c s (subF x y) = s' at *
               have RRh := Lib.hid RR
               have RFh := Lib.hid RF
               clear RR RF
               have co1 := coffset_f b1 c s' _ _ RRh.out.at'
               have co2 := roffset_f b2 c HC.out s' (by have := RRh.out.ok.len; omega) _ _ RFh.out
               generalize leastF (lastN c.window.toNat s'.L) = m0 at *
               generalize decide (lastN c.window.toNat s'.L ≠ []) = tb at *
               go_wp2_with fail
               refine co1.mono ?_; rintro e w' ⟨rfl, rfl⟩
               go_wp2_with fail
               refine co2.mono ?_; rintro e v3 ⟨rfl, n9, hv3⟩
               clear co1 co2
               have B3 : Below v2.heap.size v2 v3 := by rw [hv3]; exact below_drewN (Below.refl _ _) _
               clear hv3
               have RR3 := Lib.hid (RRh.out.under B3)
               have RF3 := Lib.hid (RFh.out.only (Only.of_below (S := noB) B3) (fun _ _ hf => hf))
               clear B3 RRh RFh
               have CJ := fun n => cjitter_f b1 c s' _ _ (RR3.out.at'.only ((Only.refl noB v3).draws n) (fun _ _ hf => hf))
               have CD := fun n => cdelay_f b1 c s' _ _ (RR3.out.at'.only ((Only.refl noB v3).draws n) (fun _ _ hf => hf))
               have CN := fun n => csamples_f b1 c s' _ _ (RR3.out.at'.only ((Only.refl noB v3).draws n) (fun _ _ hf => hf))
               obtain ⟨bs, rv, g, hrk⟩ := RF3.out
               obtain ⟨ra, rcap, rfl⟩ := row_val hrk.row
               have q11 := hrk.blk.cell 11; have q12 := hrk.blk.cell 12; have q13 := hrk.blk.cell 13
               simp at q11 q12 q13
               clear hrk
               obtain ⟨n0, hn0⟩ : ∃ n0, s'.L.length = n0 := ⟨_, rfl⟩
               rw [hn0] at CN q11
               obtain ⟨j0, hj0⟩ : ∃ j0, s'.jit = j0 := ⟨_, rfl⟩
               rw [hj0] at CJ q12
               obtain ⟨d0, hd0⟩ : ∃ d0, s'.dly = d0 := ⟨_, rfl⟩
               rw [hd0] at CD q13
               clear hn0 hj0 hd0
               go_wp2_with fail
               go_quiet (first | (go_at_call 19; exact qsameS (CJ _)) | (go_at_call 20; exact qsameS (CD _)) | (go_at_call 28; exact qsameS (CN _)))
               go_wp2
               go_roundw
               case rel => exact ⟨k + 1, s', _, _, by go_num, by omega, RR3.out.under (below_drewN (Below.refl _ _) _), RF3.out.only ((Only.refl noB v3).draws _) (fun _ _ hf => hf), AP.out, UP.out⟩
               case measure => simp [intOf]; omega

             · have hK2 : (kd == 0) = false := by simpa using hK
               by_cases hL : s.L = []
               · have U1 := HRR.out.under (w' := wr.alloc (.cells #[.int .i64 kd, .int .i64 x, .int .i64 y] 31)) ((Below.refl _ _).alloc (Nat.le_refl _) _)
                 have F1 := HRF.out.only ((Only.refl noB wr).alloc (.cells #[.int .i64 kd, .int .i64 x, .int .i64 y] 31)) (fun _ _ hf => hf)
                 have c1 := cframe_none b1 c HC.out s x S _ U1.at' hL
                 have c2 := rframe_none b2 c HC.out s x T _ F1 hL
                 have U1h := Lib.hid (U1.more (Nat.le_succ k))
                 have F1h := Lib.hid F1
                 clear U1 F1
                 go_wp2_with fail
                 refine c1.mono ?_; rintro e v1 ⟨rfl, rfl⟩
                 go_wp2_with fail
                 refine c2.mono ?_; rintro e w' ⟨rfl, n8, hv2⟩
                 obtain ⟨v2, hv3⟩ : ∃ v2, v2 = w' := ⟨_, rfl⟩
                 rw [← hv3]
                 have RR : Run c b1 (w.heap.size + 1) w4 (k + 1) s S v2 := by rw [hv3, hv2]; exact U1h.out.under (below_drewN (Below.refl _ _) _)
                 have RF : RkAt v2 b2 c s T := by rw [hv3, hv2]; exact F1h.out.only ((Only.refl noB _).draws _) (fun _ _ hf => hf)
                 clear hv2 hv3 c1 c2 U1h F1h e0 e1 e2
                 obtain ⟨s', rfl⟩ : ∃ s', s' = s := ⟨_, rfl⟩
                 have RRh := Lib.hid RR
                 have RFh := Lib.hid RF
                 clear RR RF
                 have co1 := coffset_f b1 c s' _ _ RRh.out.at'
                 have co2 := roffset_f b2 c HC.out s' (by have := RRh.out.ok.len; omega) _ _ RFh.out
                 generalize leastF (lastN c.window.toNat s'.L) = m0 at *
                 generalize decide (lastN c.window.toNat s'.L ≠ []) = tb at *
                 go_wp2_with fail
                 refine co1.mono ?_; rintro e w' ⟨rfl, rfl⟩
                 go_wp2_with fail
                 refine co2.mono ?_; rintro e v3 ⟨rfl, n9, hv3⟩
                 clear co1 co2
                 have B3 : Below v2.heap.size v2 v3 := by rw [hv3]; exact below_drewN (Below.refl _ _) _
                 clear hv3
                 have RR3 := Lib.hid (RRh.out.under B3)
                 have RF3 := Lib.hid (RFh.out.only (Only.of_below (S := noB) B3) (fun _ _ hf => hf))
                 clear B3 RRh RFh
                 have CJ := fun n => cjitter_f b1 c s' _ _ (RR3.out.at'.only ((Only.refl noB v3).draws n) (fun _ _ hf => hf))
                 have CD := fun n => cdelay_f b1 c s' _ _ (RR3.out.at'.only ((Only.refl noB v3).draws n) (fun _ _ hf => hf))
                 have CN := fun n => csamples_f b1 c s' _ _ (RR3.out.at'.only ((Only.refl noB v3).draws n) (fun _ _ hf => hf))
                 obtain ⟨bs, rv, g, hrk⟩ := RF3.out
                 obtain ⟨ra, rcap, rfl⟩ := row_val hrk.row
                 have q11 := hrk.blk.cell 11; have q12 := hrk.blk.cell 12; have q13 := hrk.blk.cell 13
                 simp at q11 q12 q13
                 clear hrk
                 obtain ⟨n0, hn0⟩ : ∃ n0, s'.L.length = n0 := ⟨_, rfl⟩
                 rw [hn0] at CN q11
                 obtain ⟨j0, hj0⟩ : ∃ j0, s'.jit = j0 := ⟨_, rfl⟩
                 rw [hj0] at CJ q12
                 obtain ⟨d0, hd0⟩ : ∃ d0, s'.dly = d0 := ⟨_, rfl⟩
                 rw [hd0] at CD q13
                 clear hn0 hj0 hd0
                 go_wp2_with fail
                 go_quiet (first | (go_at_call 19; exact qsameS (CJ _)) | (go_at_call 20; exact qsameS (CD _)) | (go_at_call 28; exact qsameS (CN _)))
                 go_wp2
                 go_roundw
                 case rel => exact ⟨k + 1, s', _, _, by go_num, by omega, RR3.out.under (below_drewN (Below.refl _ _) _), RF3.out.only ((Only.refl noB v3).draws _) (fun _ _ hf => hf), AP.out, UP.out⟩
                 case measure => simp [intOf]; omega

               · have HL := Lib.hid hL
                 clear hL
                 go_wp2_with fail
                 refine (run_frame HC.out (HRR.out.under ((Below.refl _ _).alloc (Nat.le_refl _) _)) x hix HL.out).mono ?_; rintro e v1 ⟨rfl, R1, o1⟩
                 have BA := o1.blk (Blk.new wr #[.int .i64 kd, .int .i64 x, .int .i64 y] 31) (fun e => by have := hltS.out _ e; omega)
                 have g1 := BA.cell 1
                 simp at g1
                 have F1 := Lib.hid ((HRF.out.only ((Only.refl noB wr).alloc (.cells #[.int .i64 kd, .int .i64 x, .int .i64 y] 31)) (fun _ _ hf => hf)).only o1 (fun j e1 e2 => AP.out j e2 e1))
                 have R1h := Lib.hid (R1.more (Nat.le_succ k))
                 clear R1 o1 BA
                 go_wp2_with fail
                 refine (rframe_f b2 c HC.out s HRR.out.ok x hix T v1 F1.out HL.out).mono ?_; rintro e v2 ⟨rfl, RF, o2⟩
                 have RR := R1h.out.other o2 UP.out AP.out
                 clear o2 R1h F1 g1
                 generalize frm c s x = s' at *
                 obtain ⟨x0, hx0⟩ : ∃ x0, s'.at0 = x0 := ⟨_, rfl⟩
                 rw [hx0]
                 clear hx0
                 have RRh := Lib.hid RR
                 have RFh := Lib.hid RF
                 clear RR RF
                 have co1 := coffset_f b1 c s' _ _ RRh.out.at'
                 have co2 := roffset_f b2 c HC.out s' (by have := RRh.out.ok.len; omega) _ _ RFh.out
                 generalize leastF (lastN c.window.toNat s'.L) = m0 at *
                 generalize decide (lastN c.window.toNat s'.L ≠ []) = tb at *
                 go_wp2_with fail
                 refine co1.mono ?_; rintro e w' ⟨rfl, rfl⟩
                 go_wp2_with fail
                 refine co2.mono ?_; rintro e v3 ⟨rfl, n9, hv3⟩
                 clear co1 co2
                 have B3 : Below v2.heap.size v2 v3 := by rw [hv3]; exact below_drewN (Below.refl _ _) _
                 clear hv3
                 have RR3 := Lib.hid (RRh.out.under B3)
                 have RF3 := Lib.hid (RFh.out.only (Only.of_below (S := noB) B3) (fun _ _ hf => hf))
                 clear B3 RRh RFh
                 have CJ := fun n => cjitter_f b1 c s' _ _ (RR3.out.at'.only ((Only.refl noB v3).draws n) (fun _ _ hf => hf))
                 have CD := fun n => cdelay_f b1 c s' _ _ (RR3.out.at'.only ((Only.refl noB v3).draws n) (fun _ _ hf => hf))
                 have CN := fun n => csamples_f b1 c s' _ _ (RR3.out.at'.only ((Only.refl noB v3).draws n) (fun _ _ hf => hf))
                 obtain ⟨bs, rv, g, hrk⟩ := RF3.out
                 obtain ⟨ra, rcap, rfl⟩ := row_val hrk.row
                 have q11 := hrk.blk.cell 11; have q12 := hrk.blk.cell 12; have q13 := hrk.blk.cell 13
                 simp at q11 q12 q13
                 clear hrk
                 obtain ⟨n0, hn0⟩ : ∃ n0, s'.L.length = n0 := ⟨_, rfl⟩
                 rw [hn0] at CN q11
                 obtain ⟨j0, hj0⟩ : ∃ j0, s'.jit = j0 := ⟨_, rfl⟩
                 rw [hj0] at CJ q12
                 obtain ⟨d0, hd0⟩ : ∃ d0, s'.dly = d0 := ⟨_, rfl⟩
                 rw [hd0] at CD q13
                 clear hn0 hj0 hd0
                 go_wp2_with fail
                 go_quiet (first | (go_at_call 19; exact qsameS (CJ _)) | (go_at_call 20; exact qsameS (CD _)) | (go_at_call 28; exact qsameS (CN _)))
                 go_wp2
                 go_roundw
                 case rel => exact ⟨k + 1, s', _, _, by go_num, by omega, RR3.out.under (below_drewN (Below.refl _ _) _), RF3.out.only ((Only.refl noB v3).draws _) (fun _ _ hf => hf), AP.out, UP.out⟩
                 case measure => simp [intOf]; omega)
        · obtain rfl : k = len := by omega
          go_wp2_with fail
          refine (al _).mono ?_; rintro e w5 ⟨rfl, hb5⟩
          have HB5 : Hid (Below w.heap.size w w5) := Lib.hid ((HB.out.trans (HRR.out.below.mono (by omega))).trans (hb5.mono (by omega)))
          clear hb5
          go_wp2
          go_ret
          exact ⟨rfl, HB5.out⟩
    · first
      | (exfalso; omega)
      | (go_wp2_with fail
         refine (al _).mono ?_; rintro e w5 ⟨rfl, hb5⟩
         have HB5 : Hid (Below w.heap.size w w5) := Lib.hid (HB3.out.trans (hb5.mono HB3.out.size))
         clear hb5
         go_wp2
         go_ret
         exact ⟨rfl, HB5.out⟩)

theorem clockActs_walk (r wi bs g l m s n d e : Int) (cu : Bool) (a : Option Addr) (len cap : Nat) (K X Y : Nat → Int) (w : World) (h1 : I64 r) (h2 : I64 wi) (h3 : I64 bs) (h4 : I64 g) (h5 : I64 l) (h6 : I64 m) (h7 : I64 s) (h8 : I64 n) (h9 : I64 d) (h10 : I64 e) (hs : ActsAt w a len K X Y) (hy : len * 24 ≤ 140737488351232) :
    Calls Try.prog 7 #[.agg #[.int .i64 r, .int .i64 wi, .int .i64 bs, .int .i64 g, .int .i64 l, .int .i64 m, .int .i64 s, .int .i64 n, .int .i64 d, .int .i64 e, .bool cu], .slice a len cap] w fun e w' => e = .returned (.bool true) ∧ Below w.heap.size w w' := by
  have ok : (mkC r wi bs g l m s n d e cu).Ok := ⟨h1, h2, h3, h4, h5, h6, h7, h8, h9, h10⟩
  by_cases h0 : cchk (mkC r wi bs g l m s n d e cu) = 0
  · exact clockActs_ok (mkC r wi bs g l m s n d e cu) ok h0 a len cap K X Y w hs (by omega)
  · exact clockActs_bad (mkC r wi bs g l m s n d e cu) h0 a len cap w
end Go.Proofs.Ytbpbkdpjolcofaa
