/- ClockApart, walked. -/
import Derived.Test.YtbpbkdpjolcofaaLaw17b
namespace Go.Proofs.Ytbpbkdpjolcofaa
set_option linter.unusedVariables false
set_option linter.unusedSimpArgs false
open Go.RowKit

/-- what samples tell is the same -/
def Alike (s t : CS) : Prop := s.L = t.L ∧ s.jit = t.jit ∧ s.dly = t.dly
theorem Alike.smp {c : Cfg} {s t : CS} (h : Alike s t) (d : Int) : Alike (smp c s d) (smp c t d) := by
  obtain ⟨h1, h2, h3⟩ := h
  simp only [Alike, Go.Proofs.Ytbpbkdpjolcofaa.smp, h1, h2, h3, and_self]
theorem Alike.frm {c : Cfg} {s t : CS} (h : Alike s t) (x : Int) : Alike s (frm c t x) := h

theorem Run.other {c : Cfg} {b B : Nat} {w0 : World} {n : Nat} {s : CS} {S T : Nat → Prop} {w w' : World} (h : Run c b B w0 n s S w) (ho : Only T w w') (hT : ∀ k, T k → B ≤ k) (hd : ∀ k, S k → ¬ T k) : Run c b B w0 n s S w' :=
  ⟨h.at'.only ho hd, h.up, h.ok, h.len, h.below.trans (ho.below h.size hT), Nat.le_trans h.size ho.size⟩
/-- two clocks -/
structure Run2 (c : Cfg) (b1 b2 B : Nat) (w0 : World) (n : Nat) (s1 s2 : CS) (S1 S2 : Nat → Prop) (wr : World) : Prop where
  one : Run c b1 B w0 n s1 S1 wr
  two : Run c b2 B w0 n s2 S2 wr
  apart : ∀ k, S1 k → ¬ S2 k
theorem Run2.flip {c : Cfg} {b1 b2 B : Nat} {w0 : World} {n : Nat} {s1 s2 : CS} {S1 S2 : Nat → Prop} {w : World} (h : Run2 c b1 b2 B w0 n s1 s2 S1 S2 w) : Run2 c b2 b1 B w0 n s2 s1 S2 S1 w :=
  ⟨h.two, h.one, fun k h2 h1 => h.apart k h1 h2⟩
theorem Run2.under {c : Cfg} {b1 b2 B : Nat} {w0 : World} {n : Nat} {s1 s2 : CS} {S1 S2 : Nat → Prop} {w w' : World} (h : Run2 c b1 b2 B w0 n s1 s2 S1 S2 w) (hb : Below w.heap.size w w') : Run2 c b1 b2 B w0 n s1 s2 S1 S2 w' :=
  ⟨h.one.under hb, h.two.under hb, h.apart⟩
theorem Run2.more {c : Cfg} {b1 b2 B : Nat} {w0 : World} {n m : Nat} {s1 s2 : CS} {S1 S2 : Nat → Prop} {w : World} (h : Run2 c b1 b2 B w0 n s1 s2 S1 S2 w) (hm : n ≤ m) : Run2 c b1 b2 B w0 m s1 s2 S1 S2 w :=
  ⟨h.one.more hm, h.two.more hm, h.apart⟩

theorem run2_sample {c : Cfg} (okc : c.Ok) (hc : cchk c = 0) {b1 b2 B : Nat} {w0 : World} {n : Nat} (hn : n < 1000) {s1 s2 : CS} {S1 S2 : Nat → Prop} {w : World} (h : Run2 c b1 b2 B w0 n s1 s2 S1 S2 w) (hl : s1.L.length + 1 ≤ n ∨ True) (x y : Int) (hx : I64 x) (hy : I64 y) :
    Calls Try.prog 12 #[.pointer (some ⟨b1, 0, none⟩), .int .i64 x, .int .i64 y] w fun e w' => e = .returned (.int .i64 0) ∧ (∃ S, Run2 c b1 b2 B w0 (n + 1) (smp c s1 (subF x y)) s2 S S2 w') ∧ Only S1 w w' :=
  (run_sample okc hc hn h.one x y hx hy).mono fun e w' ⟨he, hR, ho⟩ =>
    ⟨he, ⟨_, hR, (h.two.other ho h.one.up (fun k h2 h1 => h.apart k h1 h2)).more (Nat.le_succ n), fun k hg h2 => hg.1.elim (fun h1 => h.apart k h1 h2) (fun hh => by have := h.two.at'.lt k h2; omega)⟩, ho⟩
theorem run2_frame {c : Cfg} (hc : cchk c = 0) {b1 b2 B : Nat} {w0 : World} {n : Nat} {s1 s2 : CS} {S1 S2 : Nat → Prop} {w : World} (h : Run2 c b1 b2 B w0 n s1 s2 S1 S2 w) (x : Int) (hx : I64 x) (hL : s1.L ≠ []) :
    Calls Try.prog 13 #[.pointer (some ⟨b1, 0, none⟩), .int .i64 x] w fun e w' => e = .returned (.tuple #[.int .i64 (frm c s1 x).at0, .bool true]) ∧ Run2 c b1 b2 B w0 n (frm c s1 x) s2 S1 S2 w' ∧ Only S1 w w' :=
  (run_frame hc h.one x hx hL).mono fun e w' ⟨he, hR, ho⟩ =>
    ⟨he, ⟨hR, h.two.other ho h.one.up (fun k h2 h1 => h.apart k h1 h2), h.apart⟩, ho⟩
/-- two new ones -/
theorem run2_new {c : Cfg} (hc : cchk c = 0) {b1 b2 B : Nat} {S1 S2 : Nat → Prop} {w1 w2 : World} (h1 : CkAt w1 b1 c (cs0 c) S1) (u1 : ∀ k, S1 k → B ≤ k) (z : B ≤ w1.heap.size) (h2 : CkAt w2 b2 c (cs0 c) S2) (u2 : ∀ k, S2 k → w1.heap.size ≤ k) (hb : Below w1.heap.size w1 w2) :
    Run2 c b1 b2 B w2 0 (cs0 c) (cs0 c) S1 S2 w2 :=
  ⟨⟨h1.only (Only.of_below (S := noB) hb) (fun _ _ hf => hf), u1, cs0_ok hc, Nat.le_refl _, Below.refl _ _, Nat.le_trans z hb.size⟩, ⟨h2, fun k e => Nat.le_trans z (u2 k e), cs0_ok hc, Nat.le_refl _, Below.refl _ _, Nat.le_trans z hb.size⟩, fun k e1 e2 => by have := h1.lt k e1; have := u2 k e2; omega⟩

set_option maxHeartbeats 1000000 in
theorem clockApart_bad (c : Cfg) (hc : cchk c ≠ 0) (a : Option Addr) (len cap : Nat) (w : World) :
    Calls Try.prog 9 #[cfgV c, .slice a len cap] w fun e w' => e = .returned (.bool true) ∧ Below w.heap.size w w' := by
  have nw := cnew_bad c hc
  have al := alive17_f
  have h0' : (cchk c != 0) = true := by simpa using hc
  clear hc
  generalize cchk c = k at *
  unfold cfgV at nw ⊢
  go_enter Try.func9, Try.ntmps9
  go_wp2_with fail
  refine (nw _).mono ?_; rintro e w1 ⟨rfl, hb1⟩
  have CB := Lib.hid ((Blk.new w #[.int .i64 c.ring, .int .i64 c.window, .int .i64 c.base, .int .i64 c.gain, .int .i64 c.least, .int .i64 c.most, .int .i64 c.slack, .int .i64 c.num, .int .i64 c.den, .int .i64 c.extra, .bool c.curved] 23).below hb1 (by simp))
  obtain ⟨q0, q1, q2, q3, q4, q5, q6, q7, q8, q9, q10⟩ := cfg_cells CB.out
  have HB1 : Hid (Below w.heap.size w w1) := Lib.hid (((Below.refl _ _).alloc (Nat.le_refl _) _).trans (hb1.mono (by simp)))
  clear hb1
  go_wp2_with fail
  refine (nw _).mono ?_; rintro e w1b ⟨rfl, hb1⟩
  have HB : Hid (Below w.heap.size w w1b) := Lib.hid (HB1.out.trans (hb1.mono HB1.out.size))
  clear hb1
  go_wp2_with fail
  refine (al _).mono ?_; rintro e w2 ⟨rfl, hb2⟩
  have HB2 : Hid (Below w.heap.size w w2) := Lib.hid (HB.out.trans (hb2.mono HB.out.size))
  clear hb2
  go_wp2
  go_ret
  exact ⟨rfl, HB2.out⟩

set_option maxRecDepth 8000 in
set_option maxHeartbeats 4000000 in
theorem clockApart_ok (c : Cfg) (okc : c.Ok) (hc : cchk c = 0) (a : Option Addr) (len cap : Nat) (K X Y : Nat → Int) (w : World) (hs : ActsAt w a len K X Y) (hl : (len : Int) ≤ 4611686018427387904) :
    Calls Try.prog 9 #[cfgV c, .slice a len cap] w fun e w' => e = .returned (.bool true) ∧ Below w.heap.size w w' := by
  have nw := cnew_ok c okc hc
  have al := alive17_f
  have OKC := Lib.hid okc
  have HC := Lib.hid hc
  clear okc hc
  unfold cfgV at nw ⊢
  obtain ⟨hi, hz | ⟨ab, off, rfl, hab, hcell⟩⟩ := hs
  all_goals
    have HI := Lib.hid hi
    clear hi
    go_enter Try.func9, Try.ntmps9
    go_wp2_with fail
    refine (nw _).mono ?_; rintro e w1 ⟨b1, S1, rfl, hk1, hup1, hb1⟩
    have CB := Lib.hid ((Blk.new w #[.int .i64 c.ring, .int .i64 c.window, .int .i64 c.base, .int .i64 c.gain, .int .i64 c.least, .int .i64 c.most, .int .i64 c.slack, .int .i64 c.num, .int .i64 c.den, .int .i64 c.extra, .bool c.curved] 23).below hb1 (by simp))
    obtain ⟨q0, q1, q2, q3, q4, q5, q6, q7, q8, q9, q10⟩ := cfg_cells CB.out
    have HB1 : Hid (Below w.heap.size w w1) := Lib.hid (((Below.refl _ _).alloc (Nat.le_refl _) _).trans (hb1.mono (by simp)))
    have HK1 := Lib.hid hk1
    have HU1 := Lib.hid hup1
    have z1 : w.heap.size < w1.heap.size := by have := hb1.size; simp at this; omega
    clear hb1 hk1 hup1
    go_wp2_with fail
    refine (nw _).mono ?_; rintro e w2 ⟨b2, S2, rfl, hk2, hup2, hb2⟩
    have HB : Hid (Below w.heap.size w w2) := Lib.hid (HB1.out.trans (hb2.mono HB1.out.size))
    have R0 := Lib.hid (run2_new (B := w.heap.size + 1) HC.out HK1.out (fun k e => by have := HU1.out k e; simpa using this) (by omega) hk2 hup2 hb2)
    clear hk2 hup2 hb2 nw HK1 HU1 q0 q1 q2 q3 q4 q5 q6 q7 q8 q9 q10
    by_cases hlen : len ≤ 300
    · go_wp2_with fail
      go_loopw [47] (fun i wr => ∃ (k : Nat) (s t : CS) (S T : Nat → Prop), i = .int .i64 k ∧ k ≤ len ∧ Run2 c b1 b2 (w.heap.size + 1) w2 k s t S T wr ∧ Alike s t) (fun i _ => len - (intOf i).toNat)
      case atStart => exact ⟨0, cs0 c, cs0 c, S1, S2, rfl, Nat.zero_le _, R0.out, rfl, rfl, rfl⟩
      case round =>
        rename_i wr
        obtain ⟨k, s, t, S, T, rfl, hk, hR, hal⟩ := hrel
        have HAL := Lib.hid hal
        have HR2 := Lib.hid hR
        have HRR := Lib.hid hR.one
        clear hal hR
        have hsz : w.heap.size + 1 ≤ wr.heap.size := HRR.out.size
        have hltS := Lib.hid (HR2.out.one.at'.lt)
        have hltT := Lib.hid (HR2.out.two.at'.lt)
        by_cases hlt : k < len
        · first
          | (exfalso; omega)
          | (skip
             have e0 := ((HRR.out.below.cell (p := ⟨ab, off + k * 3, none⟩) (by simp; omega)).trans (HB.out.cell (p := ⟨ab, off + k * 3, none⟩) hab)).trans (hcell k hlt).1
             have e1 := ((HRR.out.below.cell (p := ⟨ab, off + k * 3 + 1, none⟩) (by simp; omega)).trans (HB.out.cell (p := ⟨ab, off + k * 3 + 1, none⟩) hab)).trans (hcell k hlt).2.1
             have e2 := ((HRR.out.below.cell (p := ⟨ab, off + k * 3 + 2, none⟩) (by simp; omega)).trans (HB.out.cell (p := ⟨ab, off + k * 3 + 2, none⟩) hab)).trans (hcell k hlt).2.2
             obtain ⟨hik, hix, hiy⟩ := HI.out k hlt
             have HC2 := Lib.hid hcell
             have hlt' : (k : Int) < len := by omega
             clear hcell
             generalize X k = x at *
             generalize Y k = y at *
             generalize K k = kd at *

             by_cases hK : kd = 0
             · subst hK
               go_wp2_with fail
               refine (run2_sample OKC.out HC.out (by omega) (HR2.out.under ((Below.refl _ _).alloc (Nat.le_refl _) _)) (.inr trivial) x y hix hiy).mono ?_; rintro e v1 ⟨rfl, ⟨SS, R1⟩, o1⟩
               have BA := o1.blk (Blk.new wr #[.int .i64 0, .int .i64 x, .int .i64 y] 31) (fun e => by have := hltS.out _ e; omega)
               have g1 := BA.cell 1; have g2 := BA.cell 2
               simp at g1 g2
               have R1h := Lib.hid R1
               clear R1 o1 BA
               go_wp2_with fail
               refine (run_sample OKC.out HC.out (n := k) (by omega) ⟨R1h.out.two.at', R1h.out.two.up, R1h.out.two.ok, HR2.out.two.len, R1h.out.two.below, R1h.out.two.size⟩ x y hix hiy).mono ?_; rintro e v2 ⟨rfl, R2, o2⟩
               have RR : Run2 c b1 b2 (w.heap.size + 1) w2 (k + 1) (smp c s (subF x y)) (smp c t (subF x y)) SS (Grow T v1 v2) v2 := ⟨R1h.out.one.other o2 R1h.out.two.up R1h.out.apart, R2, fun j e1 e2 => e2.1.elim (fun h2 => R1h.out.apart j e1 h2) (fun hh => by have := R1h.out.one.at'.lt j e1; omega)⟩
               have RRh := Lib.hid RR
               have AL := Lib.hid (HAL.out.smp (c := c) (subF x y))
               clear R2 RR o2 R1h g1 g2
               generalize smp c s (subF x y) = s' at *
               generalize smp c t (subF x y) = t' at *
               have co1 := coffset_f b1 c s' _ _ RRh.out.one.at'
               have co2 := coffset_f b2 c t' _ _ RRh.out.two.at'
               have cj1 := cjitter_f b1 c s' _ _ RRh.out.one.at'
               have cj2 := cjitter_f b2 c t' _ _ RRh.out.two.at'
               have cd1 := cdelay_f b1 c s' _ _ RRh.out.one.at'
               have cd2 := cdelay_f b2 c t' _ _ RRh.out.two.at'
               have cn1 := csamples_f b1 c s' _ _ RRh.out.one.at'
               have cn2 := csamples_f b2 c t' _ _ RRh.out.two.at'
               obtain ⟨a1, a2, a3⟩ := AL.out
               rw [← a1] at co2 cn2
               rw [← a2] at cj2
               rw [← a3] at cd2
               clear a1 a2 a3
               generalize leastF (lastN c.window.toNat s'.L) = m0 at *
               generalize decide (lastN c.window.toNat s'.L ≠ []) = tb at *
               generalize (s'.L.length : Int) = n0 at *
               obtain ⟨j0, hj0⟩ : ∃ j0, s'.jit = j0 := ⟨_, rfl⟩
               rw [hj0] at cj1 cj2
               obtain ⟨d0, hd0⟩ : ∃ d0, s'.dly = d0 := ⟨_, rfl⟩
               rw [hd0] at cd1 cd2
               clear hj0 hd0
               go_wp2_with fail
               refine co1.mono ?_; rintro e w' ⟨rfl, rfl⟩
               go_wp2_with fail
               refine co2.mono ?_; rintro e w' ⟨rfl, rfl⟩
               go_wp2_with fail
               refine cj1.mono ?_; rintro e w' ⟨rfl, rfl⟩
               go_wp2_with fail
               refine cj2.mono ?_; rintro e w' ⟨rfl, rfl⟩
               go_wp2_with fail
               refine cd1.mono ?_; rintro e w' ⟨rfl, rfl⟩
               go_wp2_with fail
               refine cd2.mono ?_; rintro e w' ⟨rfl, rfl⟩
               go_wp2_with fail
               refine cn1.mono ?_; rintro e w' ⟨rfl, rfl⟩
               go_wp2_with fail
               refine cn2.mono ?_; rintro e w' ⟨rfl, rfl⟩
               clear co1 co2 cj1 cj2 cd1 cd2 cn1 cn2
               go_wp2
               go_roundw
               case rel => exact ⟨k + 1, s', t', _, _, by go_num, by omega, RRh.out, AL.out⟩
               case measure => simp [intOf]; omega
             · have hK2 : (kd == 0) = false := by simpa using hK
               by_cases hL : t.L = []
               · go_wp2_with fail
                 refine (cframe_none b2 c HC.out t x T _ (HR2.out.two.under ((Below.refl _ _).alloc (Nat.le_refl _) _)).at' hL).mono ?_; rintro e v2 ⟨rfl, rfl⟩
                 have RRh := Lib.hid ((HR2.out.under ((Below.refl _ _).alloc (Nat.le_refl _) (.cells #[.int .i64 kd, .int .i64 x, .int .i64 y] 31))).more (Nat.le_succ k))
                 have AL := HAL
                 obtain ⟨s', rfl⟩ : ∃ s', s' = s := ⟨_, rfl⟩
                 obtain ⟨t', rfl⟩ : ∃ t', t' = t := ⟨_, rfl⟩
                 have co1 := coffset_f b1 c s' _ _ RRh.out.one.at'
                 have co2 := coffset_f b2 c t' _ _ RRh.out.two.at'
                 have cj1 := cjitter_f b1 c s' _ _ RRh.out.one.at'
                 have cj2 := cjitter_f b2 c t' _ _ RRh.out.two.at'
                 have cd1 := cdelay_f b1 c s' _ _ RRh.out.one.at'
                 have cd2 := cdelay_f b2 c t' _ _ RRh.out.two.at'
                 have cn1 := csamples_f b1 c s' _ _ RRh.out.one.at'
                 have cn2 := csamples_f b2 c t' _ _ RRh.out.two.at'
                 obtain ⟨a1, a2, a3⟩ := AL.out
                 rw [← a1] at co2 cn2
                 rw [← a2] at cj2
                 rw [← a3] at cd2
                 clear a1 a2 a3
                 generalize leastF (lastN c.window.toNat s'.L) = m0 at *
                 generalize decide (lastN c.window.toNat s'.L ≠ []) = tb at *
                 generalize (s'.L.length : Int) = n0 at *
                 obtain ⟨j0, hj0⟩ : ∃ j0, s'.jit = j0 := ⟨_, rfl⟩
                 rw [hj0] at cj1 cj2
                 obtain ⟨d0, hd0⟩ : ∃ d0, s'.dly = d0 := ⟨_, rfl⟩
                 rw [hd0] at cd1 cd2
                 clear hj0 hd0
                 go_wp2_with fail
                 refine co1.mono ?_; rintro e w' ⟨rfl, rfl⟩
                 go_wp2_with fail
                 refine co2.mono ?_; rintro e w' ⟨rfl, rfl⟩
                 go_wp2_with fail
                 refine cj1.mono ?_; rintro e w' ⟨rfl, rfl⟩
                 go_wp2_with fail
                 refine cj2.mono ?_; rintro e w' ⟨rfl, rfl⟩
                 go_wp2_with fail
                 refine cd1.mono ?_; rintro e w' ⟨rfl, rfl⟩
                 go_wp2_with fail
                 refine cd2.mono ?_; rintro e w' ⟨rfl, rfl⟩
                 go_wp2_with fail
                 refine cn1.mono ?_; rintro e w' ⟨rfl, rfl⟩
                 go_wp2_with fail
                 refine cn2.mono ?_; rintro e w' ⟨rfl, rfl⟩
                 clear co1 co2 cj1 cj2 cd1 cd2 cn1 cn2
                 go_wp2
                 go_roundw
                 case rel => exact ⟨k + 1, s', t', _, _, by go_num, by omega, RRh.out, AL.out⟩
                 case measure => simp [intOf]; omega
               · have HL := Lib.hid hL
                 clear hL
                 go_wp2_with fail
                 refine (run2_frame HC.out (HR2.out.under ((Below.refl _ _).alloc (Nat.le_refl _) _)).flip x hix HL.out).mono ?_; rintro e v2 ⟨rfl, R1, o1⟩
                 have RRh := Lib.hid (R1.flip.more (Nat.le_succ k))
                 have AL := Lib.hid (HAL.out.frm (c := c) x)
                 clear R1 o1
                 obtain ⟨s', rfl⟩ : ∃ s', s' = s := ⟨_, rfl⟩
                 generalize frm c t x = t' at *
                 have co1 := coffset_f b1 c s' _ _ RRh.out.one.at'
                 have co2 := coffset_f b2 c t' _ _ RRh.out.two.at'
                 have cj1 := cjitter_f b1 c s' _ _ RRh.out.one.at'
                 have cj2 := cjitter_f b2 c t' _ _ RRh.out.two.at'
                 have cd1 := cdelay_f b1 c s' _ _ RRh.out.one.at'
                 have cd2 := cdelay_f b2 c t' _ _ RRh.out.two.at'
                 have cn1 := csamples_f b1 c s' _ _ RRh.out.one.at'
                 have cn2 := csamples_f b2 c t' _ _ RRh.out.two.at'
                 obtain ⟨a1, a2, a3⟩ := AL.out
                 rw [← a1] at co2 cn2
                 rw [← a2] at cj2
                 rw [← a3] at cd2
                 clear a1 a2 a3
                 generalize leastF (lastN c.window.toNat s'.L) = m0 at *
                 generalize decide (lastN c.window.toNat s'.L ≠ []) = tb at *
                 generalize (s'.L.length : Int) = n0 at *
                 obtain ⟨j0, hj0⟩ : ∃ j0, s'.jit = j0 := ⟨_, rfl⟩
                 rw [hj0] at cj1 cj2
                 obtain ⟨d0, hd0⟩ : ∃ d0, s'.dly = d0 := ⟨_, rfl⟩
                 rw [hd0] at cd1 cd2
                 clear hj0 hd0
                 go_wp2_with fail
                 refine co1.mono ?_; rintro e w' ⟨rfl, rfl⟩
                 go_wp2_with fail
                 refine co2.mono ?_; rintro e w' ⟨rfl, rfl⟩
                 go_wp2_with fail
                 refine cj1.mono ?_; rintro e w' ⟨rfl, rfl⟩
                 go_wp2_with fail
                 refine cj2.mono ?_; rintro e w' ⟨rfl, rfl⟩
                 go_wp2_with fail
                 refine cd1.mono ?_; rintro e w' ⟨rfl, rfl⟩
                 go_wp2_with fail
                 refine cd2.mono ?_; rintro e w' ⟨rfl, rfl⟩
                 go_wp2_with fail
                 refine cn1.mono ?_; rintro e w' ⟨rfl, rfl⟩
                 go_wp2_with fail
                 refine cn2.mono ?_; rintro e w' ⟨rfl, rfl⟩
                 clear co1 co2 cj1 cj2 cd1 cd2 cn1 cn2
                 go_wp2
                 go_roundw
                 case rel => exact ⟨k + 1, s', t', _, _, by go_num, by omega, RRh.out, AL.out⟩
                 case measure => simp [intOf]; omega)
        · obtain rfl : k = len := by omega
          go_wp2_with fail
          refine (al _).mono ?_; rintro e w5 ⟨rfl, hb5⟩
          have HB2 : Hid (Below w.heap.size w w5) := Lib.hid ((HB.out.trans (HRR.out.below.mono (by omega))).trans (hb5.mono (by omega)))
          clear hb5
          go_wp2
          go_ret
          exact ⟨rfl, HB2.out⟩
    · first
      | (exfalso; omega)
      | (go_wp2_with fail
         refine (al _).mono ?_; rintro e w5 ⟨rfl, hb5⟩
         have HB2 : Hid (Below w.heap.size w w5) := Lib.hid (HB.out.trans (hb5.mono HB.out.size))
         clear hb5
         go_wp2
         go_ret
         exact ⟨rfl, HB2.out⟩)

theorem clockApart_walk (r wi bs g l m s n d e : Int) (cu : Bool) (a : Option Addr) (len cap : Nat) (K X Y : Nat → Int) (w : World) (h1 : I64 r) (h2 : I64 wi) (h3 : I64 bs) (h4 : I64 g) (h5 : I64 l) (h6 : I64 m) (h7 : I64 s) (h8 : I64 n) (h9 : I64 d) (h10 : I64 e) (hs : ActsAt w a len K X Y) (hy : len * 24 ≤ 140737488351232) :
    Calls Try.prog 9 #[.agg #[.int .i64 r, .int .i64 wi, .int .i64 bs, .int .i64 g, .int .i64 l, .int .i64 m, .int .i64 s, .int .i64 n, .int .i64 d, .int .i64 e, .bool cu], .slice a len cap] w fun e w' => e = .returned (.bool true) ∧ Below w.heap.size w w' := by
  have ok : (mkC r wi bs g l m s n d e cu).Ok := ⟨h1, h2, h3, h4, h5, h6, h7, h8, h9, h10⟩
  by_cases h0 : cchk (mkC r wi bs g l m s n d e cu) = 0
  · exact clockApart_ok (mkC r wi bs g l m s n d e cu) ok h0 a len cap K X Y w hs (by omega)
  · exact clockApart_bad (mkC r wi bs g l m s n d e cu) h0 a len cap w
end Go.Proofs.Ytbpbkdpjolcofaa
