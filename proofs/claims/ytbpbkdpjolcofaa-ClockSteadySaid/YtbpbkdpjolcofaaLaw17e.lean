/- ClockSteady, walked. -/
import Derived.Test.YtbpbkdpjolcofaaLaw17b
import Derived.Test.YtbpbkdpjolcofaaSlices
namespace Go.Proofs.Ytbpbkdpjolcofaa
set_option linter.unusedVariables false
set_option linter.unusedSimpArgs false
open Go.RowKit

theorem drewN_size (w : World) (n : Nat) : (w.drewN n).heap.size = w.heap.size := rfl
/-- each sample had the difference p -/
def Steady (c : Cfg) (p : Int) (k : Nat) (s : CS) : Prop := s.L = List.replicate k p ∧ s.jit = 0 ∧ s.dly = targF c 0 ∧ s.st = 0
theorem leastF_rep {p : Int} {n k : Nat} (hn : 1 ≤ n) (hk : 1 ≤ k) : leastF (lastN n (List.replicate k p)) = p := by
  have h : lastN n (List.replicate k p) ≠ [] := fun e => by
    have := (lastN_nil hn).1 e
    have := congrArg List.length this
    simp at this; omega
  have := lastN_mem (leastF_spec h).1
  exact (List.mem_replicate.1 this).2
theorem subF_self' (x : Int) : subF x x = 0 := by unfold subF sat; omega
theorem Steady.smp {c : Cfg} (hc : cchk c = 0) {p : Int} {k : Nat} {s : CS} (h : Steady c p k s) : Steady c p (k + 1) (smp c s p) := by
  obtain ⟨h1, h2, h3, h4⟩ := h
  obtain ⟨hw, h0, _⟩ := cchk_ok hc
  obtain ⟨_, _, w1, w2⟩ := winOk_iff.1 hw
  have hL : s.L ++ [p] = List.replicate (k + 1) p := by rw [h1, List.replicate_succ']
  have hj : jstep s.jit (subF p (leastF (lastN c.window.toNat (s.L ++ [p])))) = 0 := by
    rw [hL, leastF_rep (by omega) (by omega), subF_self', h2]; rfl
  refine ⟨hL, hj, ?_, h4⟩
  show updF c s.dly (jstep s.jit (subF p (leastF (lastN c.window.toNat (s.L ++ [p]))))) = targF c 0
  rw [hj, h3]
  obtain ⟨_, _, _, ⟨s0, _⟩, _, _⟩ := dchk_ok h0
  unfold updF
  rw [if_neg (by omega)]

set_option maxRecDepth 8000 in
set_option maxHeartbeats 1000000 in
theorem clockSteady_bad (c : Cfg) (hc : cchk c ≠ 0) (a : Option Addr) (len cap : Nat) (p q : Int) (w : World) :
    Calls Try.prog 5 #[cfgV c, .slice a len cap, .agg #[.int .i32 p, .int .i32 q]] w fun e w' => e = .returned (.bool true) ∧ Below w.heap.size w w' := by
  have nw := cnew_bad c hc
  have al := alive17_f
  have h0' : (cchk c != 0) = true := by simpa using hc
  clear hc
  generalize cchk c = k at *
  unfold cfgV at nw ⊢
  go_enter Try.func5, Try.ntmps5
  go_wp2_with fail
  go_quiet (fail)
  go_wp2_with fail
  refine (nw _).mono ?_; rintro e w1 ⟨rfl, hb1⟩
  have HB : Hid (Below w.heap.size w w1) := Lib.hid ((below_drewN (((Below.refl _ _).alloc (Nat.le_refl _) _).alloc (by simp) _) nq).trans (hb1.mono (by simp [drewN_size]; omega)))
  clear hb1
  go_wp2_with fail
  refine (al _).mono ?_; rintro e w2 ⟨rfl, hb2⟩
  have HB2 : Hid (Below w.heap.size w w2) := Lib.hid (HB.out.trans (hb2.mono HB.out.size))
  clear hb2
  go_wp2
  go_ret
  exact ⟨rfl, HB2.out⟩

set_option maxRecDepth 8000 in
set_option maxHeartbeats 4000000 in
theorem clockSteady_ok (c : Cfg) (okc : c.Ok) (hc : cchk c = 0) (a : Option Addr) (len cap : Nat) (zs : List Int) (p q : Int) (w : World) (hs : IntsAt .i32 w a len zs) (hl : (len : Int) ≤ 4611686018427387904) (hp : -2147483648 ≤ p ∧ p ≤ 2147483647) (hq : -2147483648 ≤ q ∧ q ≤ 2147483647) :
    Calls Try.prog 5 #[cfgV c, .slice a len cap, .agg #[.int .i32 p, .int .i32 q]] w fun e w' => e = .returned (.bool true) ∧ Below w.heap.size w w' := by
  have nw := cnew_ok c okc hc
  have al := alive17_f
  have tg := target_f c 0 okc i64_0
  rw [show targA c 0 = targF c 0 by unfold targA; rw [if_pos (cchk_ok hc).2.1]] at tg
  have T0 := Lib.hid (inlim_i64 (cchk_ok hc).2.1 (targF_lim (cchk_ok hc).2.1 0))
  have OKC := Lib.hid okc
  have HC := Lib.hid hc
  have WN := Lib.hid (winOk_iff.1 (cchk_ok hc).1)
  have WF := Lib.hid (fun i (h : i < len) => wf_i32 (hs.wf h))
  obtain ⟨hp1, hp2⟩ := hp
  obtain ⟨hq1, hq2⟩ := hq
  clear okc hc
  unfold cfgV at nw tg ⊢
  obtain ⟨hzl, _, hz | ⟨ab, off, rfl, hab, hcell⟩⟩ := hs
  all_goals
    clear hzl
    go_enter Try.func5, Try.ntmps5
    go_wp2_with fail
    go_quiet (fail)
    go_wp2_with fail
    refine (nw _).mono ?_; rintro e w1 ⟨b1, S1, rfl, hk1, hup1, hb1⟩
    have CB := Lib.hid ((((Blk.new w #[.int .i64 c.ring, .int .i64 c.window, .int .i64 c.base, .int .i64 c.gain, .int .i64 c.least, .int .i64 c.most, .int .i64 c.slack, .int .i64 c.num, .int .i64 c.den, .int .i64 c.extra, .bool c.curved] 23).alloc (.cells #[.int .i32 p, .int .i32 q] 42)).draws nq).below hb1 (by simp [drewN_size]; omega))
    have HB : Hid (Below w.heap.size w w1) := Lib.hid ((below_drewN (((Below.refl _ _).alloc (Nat.le_refl _) _).alloc (by simp) _) nq).trans (hb1.mono (by simp [drewN_size]; omega)))
    have R0 := Lib.hid (show Run c b1 (w.heap.size + 1) w1 0 (cs0 c) S1 w1 from ⟨hk1, fun k e => by have := hup1 k e; simp [drewN_size] at this; omega, cs0_ok HC.out, Nat.le_refl _, Below.refl _ _, by have := hb1.size; simp [drewN_size] at this; omega⟩)
    clear hk1 hup1 hb1 nw
    by_cases hlen : len = 0 ∨ 200 < len
    · have HB := HB
      first
      | (have hg : ((len : Int) == 0) = true := by simp; omega
         have hl0 : ¬ (200 : Int) < len := by omega
         go_wp2_with fail
         refine (al _).mono ?_; rintro e w5 ⟨rfl, hb5⟩
         have HB2 : Hid (Below w.heap.size w w5) := Lib.hid (HB.out.trans (hb5.mono HB.out.size))
         clear hb5
         go_wp2
         go_ret
         exact ⟨rfl, HB2.out⟩)
      | (by_cases h0 : len = 0
         · subst h0
           go_wp2_with fail
           refine (al _).mono ?_; rintro e w5 ⟨rfl, hb5⟩
           have HB2 : Hid (Below w.heap.size w w5) := Lib.hid (HB.out.trans (hb5.mono HB.out.size))
           clear hb5
           go_wp2
           go_ret
           exact ⟨rfl, HB2.out⟩
         · have hl0 : (200 : Int) < len := by omega
           go_wp2_with fail
           refine (al _).mono ?_; rintro e w5 ⟨rfl, hb5⟩
           have HB2 : Hid (Below w.heap.size w w5) := Lib.hid (HB.out.trans (hb5.mono HB.out.size))
           clear hb5
           go_wp2
           go_ret
           exact ⟨rfl, HB2.out⟩)
    · first
      | (exfalso; omega)
      | (have hl1 : ((len : Int) == 0) = false := by simp; omega
         have hl2 : (len : Int) ≤ 200 := by omega
         have hl3 : 0 < len := by omega
         clear hlen
         go_wp2_with fail
         go_loopw [46] (fun i wr => ∃ (k : Nat) (s : CS) (S : Nat → Prop), i = .int .i64 k ∧ k ≤ len ∧ Run c b1 (w.heap.size + 1) w1 k s S wr ∧ Steady c p k s) (fun i _ => len - (intOf i).toNat)
         case atStart => exact ⟨0, cs0 c, S1, rfl, Nat.zero_le _, R0.out, rfl, rfl, rfl, rfl⟩
         case round =>
           rename_i wr
           obtain ⟨k, s, S, rfl, hk, hR, hst⟩ := hrel
           have HRR := Lib.hid hR
           have HST := Lib.hid hst
           clear hR hst
           have hsz : w.heap.size + 1 ≤ wr.heap.size := HRR.out.size
           by_cases hlt : k < len
           · have e0 := ((HRR.out.below.cell (p := ⟨ab, off + k, none⟩) (by simp; omega)).trans (HB.out.cell (p := ⟨ab, off + k, none⟩) hab)).trans (hcell k hlt)
             obtain ⟨x1, x2⟩ := WF.out k hlt
             have hlt' : (k : Int) < len := by omega
             have HC2 := Lib.hid hcell
             clear hcell
             generalize zs.getD k 0 = t at *
             have hsub : subF (t + p) t = p := by unfold subF sat; omega
             have sm := run_sample OKC.out HC.out (by omega) HRR.out (t + p) t (by unfold I64; omega) (by unfold I64; omega)
             rw [hsub] at sm
             go_wp2_with fail
             refine sm.mono ?_; rintro e w' ⟨rfl, R1, _⟩
             have RRh := Lib.hid R1
             clear R1 sm
             go_wp2
             go_roundw
             case rel => exact ⟨k + 1, _, _, by go_num, by omega, RRh.out, HST.out.smp HC.out⟩
             case measure => simp [intOf]; omega
           · obtain rfl : k = len := by omega
             have st := HST.out
             obtain ⟨st1, st2, st3, st4⟩ := st
             have hne : s.L ≠ [] := by rw [st1]; intro h; have := congrArg List.length h; simp at this; omega
             obtain ⟨wn1, wn2⟩ : 1 ≤ c.window ∧ c.window ≤ 64 := ⟨WN.out.2.2.1, WN.out.2.2.2⟩
             have hnn : lastN c.window.toNat s.L ≠ [] := fun e => hne ((lastN_nil (by omega)).1 e)
             have hlf : leastF (lastN c.window.toNat s.L) = p := by rw [st1]; exact leastF_rep (by omega) (by omega)
             have co := coffset_f b1 c s _ _ HRR.out.at'
             rw [show decide (lastN c.window.toNat s.L ≠ []) = true by simpa using hnn, hlf] at co
             have hwt : (frm c s q).at0 = subF (q - p) (targF c 0) := by
               show (if s.st = 0 then wantF c s q else _) = _
               rw [if_pos st4]
               unfold wantF
               rw [hlf, st3]
               congr 1
               unfold subF sat; omega
             have cs9 := sub_f (q - p) (targF c 0) (by unfold I64; omega) T0.out
             have HNE := Lib.hid hne
             have HJ : Hid ((frm c s q).jit = 0 ∧ (frm c s q).dly = targF c 0) := Lib.hid ⟨st2, st3⟩
             clear st1 st2 st3 st4 hne hnn hlf hcell
             have CB2 := CB.out.below HRR.out.below (by simp)
             obtain ⟨q0, q1, q2, q3, q4, q5, q6, q7, q8, q9, q10⟩ := cfg_cells CB2
             clear CB2
             go_wp2_with fail
             refine co.mono ?_; rintro e w' ⟨rfl, rfl⟩
             go_wp2_with fail
             refine (tg _).mono ?_; rintro e w2 ⟨rfl, hb2⟩
             have R2h := Lib.hid (HRR.out.under hb2)
             clear hb2 q0 q1 q2 q3 q4 q5 q6 q7 q8 q9 q10 co tg
             have fr := run_frame HC.out R2h.out q (by unfold I64; omega) HNE.out
             rw [hwt] at fr
             generalize subF (q - p) (targF c 0) = res at *
             generalize targF c 0 = d0 at *
             go_wp2_with fail
             refine fr.mono ?_; rintro e w3 ⟨rfl, R3, _⟩
             have R3h := Lib.hid R3
             clear R3 fr
             go_wp2_with fail
             refine (al _).mono ?_; rintro e w4 ⟨rfl, hb4⟩
             have R4h := Lib.hid (R3h.out.under hb4)
             clear hb4
             have cj := cjitter_f b1 c _ _ _ R4h.out.at'
             have cd := cdelay_f b1 c _ _ _ R4h.out.at'
             rw [HJ.out.1] at cj
             rw [HJ.out.2] at cd
             go_wp2_with fail
             refine cj.mono ?_; rintro e w' ⟨rfl, rfl⟩
             go_wp2_with fail
             refine cd.mono ?_; rintro e w' ⟨rfl, rfl⟩
             go_wp2_with fail
             refine (cs9 _).mono ?_; rintro e w' ⟨rfl, rfl⟩
             have HB2 : Hid (Below w.heap.size w w4) := Lib.hid (HB.out.trans (R4h.out.below.mono (by omega)))
             go_wp2
             go_ret
             exact ⟨rfl, HB2.out⟩)

theorem clockSteady_walk (r wi bs g l m s n d e : Int) (cu : Bool) (a : Option Addr) (len cap : Nat) (zs : List Int) (p q : Int) (w : World) (h1 : I64 r) (h2 : I64 wi) (h3 : I64 bs) (h4 : I64 g) (h5 : I64 l) (h6 : I64 m) (h7 : I64 s) (h8 : I64 n) (h9 : I64 d) (h10 : I64 e) (hs : IntsAt .i32 w a len zs) (hy : len * 4 ≤ 140737488351232) (hp : -2147483648 ≤ p ∧ p ≤ 2147483647) (hq : -2147483648 ≤ q ∧ q ≤ 2147483647) :
    Calls Try.prog 5 #[.agg #[.int .i64 r, .int .i64 wi, .int .i64 bs, .int .i64 g, .int .i64 l, .int .i64 m, .int .i64 s, .int .i64 n, .int .i64 d, .int .i64 e, .bool cu], .slice a len cap, .agg #[.int .i32 p, .int .i32 q]] w fun e w' => e = .returned (.bool true) ∧ Below w.heap.size w w' := by
  have ok : (mkC r wi bs g l m s n d e cu).Ok := ⟨h1, h2, h3, h4, h5, h6, h7, h8, h9, h10⟩
  by_cases h0 : cchk (mkC r wi bs g l m s n d e cu) = 0
  · exact clockSteady_ok (mkC r wi bs g l m s n d e cu) ok h0 a len cap zs p q w hs (by omega) hp hq
  · exact clockSteady_bad (mkC r wi bs g l m s n d e cu) h0 a len cap p q w
end Go.Proofs.Ytbpbkdpjolcofaa
