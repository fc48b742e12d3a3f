/- ClockMoved, walked. -/
import Derived.Test.YtbpbkdpjolcofaaLaw17c
namespace Go.Proofs.Ytbpbkdpjolcofaa
set_option linter.unusedVariables false
set_option linter.unusedSimpArgs false
open Go.RowKit

theorem lastN_map (f : Int → Int) (n : Nat) (L : List Int) : lastN n (L.map f) = (lastN n L).map f := by
  unfold lastN; rw [List.map_drop, List.length_map]
theorem leastF_map {L : List Int} (h : L ≠ []) (b : Int) : leastF (L.map (· + b)) = leastF L + b := by
  obtain ⟨h1, h2⟩ := leastF_spec h
  obtain ⟨k1, k2⟩ := leastF_spec (L := L.map (· + b)) (by simpa using h)
  obtain ⟨z, hz, e⟩ := List.mem_map.1 k1
  have a1 := h2 z hz
  have a2 := k2 (leastF L + b) (List.mem_map.2 ⟨_, h1, rfl⟩)
  have e' : z + b = leastF (L.map (· + b)) := e
  omega

/-- t's client's clock is set by so much -/
structure Moved (b : Int) (s t : CS) : Prop where
  L : t.L = s.L.map (· + b)
  bd : ∀ x ∈ s.L, -2199023255552 ≤ x ∧ x ≤ 2199023255552
  jit : t.jit = s.jit
  dly : t.dly = s.dly
  at0 : t.at0 = s.at0
  st : t.st = s.st
  last : s.st = 1 → t.last = s.last + b ∧ -1099511627776 ≤ s.last ∧ s.last ≤ 1099511627776

theorem Moved.least {b : Int} {s t : CS} (h : Moved b s t) (n : Nat) (hn : 1 ≤ n) (hL : s.L ≠ []) : leastF (lastN n t.L) = leastF (lastN n s.L) + b ∧ -2199023255552 ≤ leastF (lastN n s.L) ∧ leastF (lastN n s.L) ≤ 2199023255552 := by
  have hne : lastN n s.L ≠ [] := fun e => hL ((lastN_nil hn).1 e)
  rw [h.L, lastN_map]
  exact ⟨leastF_map hne b, h.bd _ (lastN_mem (leastF_spec hne).1)⟩
theorem subF_move {x y b : Int} (hx : -4398046511104 ≤ x ∧ x ≤ 4398046511104) (hy : -4398046511104 ≤ y ∧ y ≤ 4398046511104) (hb : -2147483648 ≤ b ∧ b ≤ 2147483647) : subF (x + b) (y + b) = subF x y := by
  unfold subF sat; omega

theorem Moved.smp {c : Cfg} (hc : cchk c = 0) {b d : Int} {s t : CS} (h : Moved b s t) (hd : -2199023255552 ≤ d ∧ d ≤ 2199023255552) (hb : -2147483648 ≤ b ∧ b ≤ 2147483647) : Moved b (smp c s d) (smp c t (d + b)) := by
  obtain ⟨_, _, w1, w2⟩ := winOk_iff.1 (cchk_ok hc).1
  have hL : t.L ++ [d + b] = (s.L ++ [d]).map (· + b) := by rw [h.L]; simp
  have hbd : ∀ x ∈ s.L ++ [d], -2199023255552 ≤ x ∧ x ≤ 2199023255552 := fun x hx => by
    rcases List.mem_append.1 hx with h1 | h1
    · exact h.bd x h1
    · simp at h1; subst h1; exact hd
  have hne : lastN c.window.toNat (s.L ++ [d]) ≠ [] := fun e => by
    have := (lastN_nil (by omega)).1 e
    simp at this
  have hl : leastF (lastN c.window.toNat (t.L ++ [d + b])) = leastF (lastN c.window.toNat (s.L ++ [d])) + b := by
    rw [hL, lastN_map]; exact leastF_map hne b
  have hlb := hbd _ (lastN_mem (leastF_spec hne).1)
  have hj : jstep t.jit (subF (d + b) (leastF (lastN c.window.toNat (t.L ++ [d + b])))) = jstep s.jit (subF d (leastF (lastN c.window.toNat (s.L ++ [d])))) := by
    rw [hl, h.jit, subF_move (by omega) (by omega) hb]
  refine ⟨hL, hbd, hj, ?_, h.at0, h.st, h.last⟩
  show updF c t.dly (jstep t.jit (subF (d + b) (leastF (lastN c.window.toNat (t.L ++ [d + b]))))) = updF c s.dly (jstep s.jit (subF d (leastF (lastN c.window.toNat (s.L ++ [d])))))
  rw [hj, h.dly]

theorem Moved.frm {c : Cfg} (hc : cchk c = 0) {b x : Int} {s t : CS} (h : Moved b s t) (hL : s.L ≠ []) (hx : -1099511627776 ≤ x ∧ x ≤ 1099511627776) (hb : -2147483648 ≤ b ∧ b ≤ 2147483647) (hst : s.st = 0 ∨ s.st = 1) :
    Moved b (frm c s x) (frm c t (x + b)) := by
  obtain ⟨_, _, w1, w2⟩ := winOk_iff.1 (cchk_ok hc).1
  obtain ⟨l1, l2⟩ := h.least c.window.toNat (by omega) hL
  have hw : wantF c t (x + b) = wantF c s x := by
    unfold wantF
    rw [l1, h.dly, subF_move (by omega) (by omega) hb]
  refine ⟨h.L, h.bd, h.jit, h.dly, ?_, rfl, fun _ => ?_⟩
  · show (if t.st = 0 then wantF c t (x + b) else toF t.at0 t.last (x + b) (wantF c t (x + b)) c.num c.den) = if s.st = 0 then wantF c s x else toF s.at0 s.last x (wantF c s x) c.num c.den
    rw [hw, h.st, h.at0]
    rcases hst with h0 | h0
    · rw [if_pos h0, if_pos h0]
    · rw [if_neg (by omega), if_neg (by omega)]
      obtain ⟨e1, e2, e3⟩ := h.last h0
      unfold toF
      rw [e1, show max (x + b) (s.last + b) = max x s.last + b by omega, subF_move (by omega) (by omega) hb]
  · show (if t.st = 0 then x + b else max t.last (x + b)) = (if s.st = 0 then x else max s.last x) + b ∧ _ ≤ (if s.st = 0 then x else max s.last x) ∧ (if s.st = 0 then x else max s.last x) ≤ _
    rw [h.st]
    rcases hst with h0 | h0
    · rw [if_pos h0, if_pos h0]; exact ⟨rfl, hx⟩
    · rw [if_neg (by omega), if_neg (by omega)]
      obtain ⟨e1, e2, e3⟩ := h.last h0
      rw [e1]
      omega

theorem tmod_bd (x : Int) : -1099511627776 ≤ x.tmod 1099511627776 ∧ x.tmod 1099511627776 ≤ 1099511627776 := by
  have h1 := Int.tmod_lt_of_pos x (show (0 : Int) < 1099511627776 by omega)
  have h2 := Int.lt_tmod_of_pos x (show (0 : Int) < 1099511627776 by omega)
  omega

set_option maxHeartbeats 1000000 in
theorem clockMoved_bad (c : Cfg) (hc : cchk c ≠ 0) (a : Option Addr) (len cap : Nat) (b : Int) (w : World) :
    Calls Try.prog 6 #[cfgV c, .slice a len cap, .int .i32 b] w fun e w' => e = .returned (.bool true) ∧ Below w.heap.size w w' := by
  have nw := cnew_bad c hc
  have al := alive17_f
  have h0' : (cchk c != 0) = true := by simpa using hc
  clear hc
  generalize cchk c = k at *
  unfold cfgV at nw ⊢
  go_enter Try.func6, Try.ntmps6
  go_wp2_with fail
  refine (nw _).mono ?_; rintro e w1 ⟨rfl, hb1⟩
  have CB := Lib.hid ((Blk.new w #[.int .i64 c.ring, .int .i64 c.window, .int .i64 c.base, .int .i64 c.gain, .int .i64 c.least, .int .i64 c.most, .int .i64 c.slack, .int .i64 c.num, .int .i64 c.den, .int .i64 c.extra, .bool c.curved] 23).below hb1 (by simp))
  obtain ⟨q0, q1, q2, q3, q4, q5, q6, q7, q8, q9, q10⟩ := cfg_cells CB.out
  have HB1 : Hid (Below w.heap.size w w1) := Lib.hid (((Below.refl _ _).alloc (Nat.le_refl _) _).trans (hb1.mono (by simp)))
  clear hb1
  go_wp2_with fail
  refine (nw _).mono ?_; rintro e w1b ⟨rfl, hb1⟩
  have HB : Hid (Below w.heap.size w w1b) := Lib.hid (HB1.out.trans (hb1.mono HB1.out.size))
  clear hb1
  go_wp2_with fail
  refine (al _).mono ?_; rintro e w2 ⟨rfl, hb2⟩
  have HB2 : Hid (Below w.heap.size w w2) := Lib.hid (HB.out.trans (hb2.mono HB.out.size))
  clear hb2
  go_wp2
  go_ret
  exact ⟨rfl, HB2.out⟩

set_option maxRecDepth 8000 in
set_option maxHeartbeats 4000000 in
theorem clockMoved_ok (c : Cfg) (okc : c.Ok) (hc : cchk c = 0) (a : Option Addr) (len cap : Nat) (K X Y : Nat → Int) (b : Int) (w : World) (hs : ActsAt w a len K X Y) (hl : (len : Int) ≤ 4611686018427387904) (hbb : -2147483648 ≤ b ∧ b ≤ 2147483647) :
    Calls Try.prog 6 #[cfgV c, .slice a len cap, .int .i32 b] w fun e w' => e = .returned (.bool true) ∧ Below w.heap.size w w' := by
  have nw := cnew_ok c okc hc
  have al := alive17_f
  have fi := rfine16_f c.num c.den
  rw [(cchk_ok hc).2.2] at fi
  have OKC := Lib.hid okc
  have HC := Lib.hid hc
  have HBB := Lib.hid hbb
  obtain ⟨b1', b2'⟩ := hbb
  clear okc hc
  unfold cfgV at nw ⊢
  obtain ⟨hi, hz | ⟨ab, off, rfl, hab, hcell⟩⟩ := hs
  all_goals
    have HI := Lib.hid hi
    clear hi
    go_enter Try.func6, Try.ntmps6
    go_wp2_with fail
    refine (nw _).mono ?_; rintro e w1 ⟨b1, S1, rfl, hk1, hup1, hb1⟩
    have CB := Lib.hid ((Blk.new w #[.int .i64 c.ring, .int .i64 c.window, .int .i64 c.base, .int .i64 c.gain, .int .i64 c.least, .int .i64 c.most, .int .i64 c.slack, .int .i64 c.num, .int .i64 c.den, .int .i64 c.extra, .bool c.curved] 23).below hb1 (by simp))
    obtain ⟨q0, q1, q2, q3, q4, q5, q6, q7, q8, q9, q10⟩ := cfg_cells CB.out
    have HB1 : Hid (Below w.heap.size w w1) := Lib.hid (((Below.refl _ _).alloc (Nat.le_refl _) _).trans (hb1.mono (by simp)))
    have HK1 := Lib.hid hk1
    have HU1 := Lib.hid hup1
    have z1 : w.heap.size < w1.heap.size := by have := hb1.size; simp at this; omega
    clear hb1 hk1 hup1
    go_wp2_with fail
    refine (nw _).mono ?_; rintro e w2 ⟨b2, S2, rfl, hk2, hup2, hb2⟩
    have HB : Hid (Below w.heap.size w w2) := Lib.hid (HB1.out.trans (hb2.mono HB1.out.size))
    have CB2 := Lib.hid (CB.out.below hb2 (by omega))
    have R0 := Lib.hid (run2_new (B := w.heap.size + 1) HC.out HK1.out (fun k e => by have := HU1.out k e; simpa using this) (by omega) hk2 hup2 hb2)
    clear hk2 hup2 hb2 nw HK1 HU1 q0 q1 q2 q3 q4 q5 q6 q7 q8 q9 q10 CB
    by_cases hlen : len ≤ 200
    · go_wp2_with fail
      go_loopw [51] (fun i wr => ∃ (k : Nat) (s t : CS) (S T : Nat → Prop), i = .int .i64 k ∧ k ≤ len ∧ Run2 c b1 b2 (w.heap.size + 1) w2 k s t S T wr ∧ Moved b s t) (fun i _ => len - (intOf i).toNat)
      case atStart => exact ⟨0, cs0 c, cs0 c, S1, S2, rfl, Nat.zero_le _, R0.out, ⟨rfl, fun x hx => by simp [cs0] at hx, rfl, rfl, rfl, rfl, fun h => by simp [cs0] at h⟩⟩
      case round =>
        rename_i wr
        obtain ⟨k, s, t, S, T, rfl, hk, hR, hal⟩ := hrel
        have HAL := Lib.hid hal
        have HR2 := Lib.hid hR
        have HRR := Lib.hid hR.one
        clear hal hR
        have hsz : w.heap.size + 1 ≤ wr.heap.size := HRR.out.size
        have hltS := Lib.hid (HR2.out.one.at'.lt)
        have hltT := Lib.hid (HR2.out.two.at'.lt)
        by_cases hlt : k < len
        · first
          | (exfalso; omega)
          | (skip
             have e0 := ((HRR.out.below.cell (p := ⟨ab, off + k * 3, none⟩) (by simp; omega)).trans (HB.out.cell (p := ⟨ab, off + k * 3, none⟩) hab)).trans (hcell k hlt).1
             have e1 := ((HRR.out.below.cell (p := ⟨ab, off + k * 3 + 1, none⟩) (by simp; omega)).trans (HB.out.cell (p := ⟨ab, off + k * 3 + 1, none⟩) hab)).trans (hcell k hlt).2.1
             have e2 := ((HRR.out.below.cell (p := ⟨ab, off + k * 3 + 2, none⟩) (by simp; omega)).trans (HB.out.cell (p := ⟨ab, off + k * 3 + 2, none⟩) hab)).trans (hcell k hlt).2.2
             obtain ⟨hik, hix, hiy⟩ := HI.out k hlt
             have HC2 := Lib.hid hcell
             have hlt' : (k : Int) < len := by omega
             clear hcell
             generalize X k = x at *
             generalize Y k = y at *
             generalize K k = kd at *

             have tx := tmod_bd x
             have ty := tmod_bd y
             obtain ⟨at1, hat1⟩ : ∃ v, x.tmod 1099511627776 = v := ⟨_, rfl⟩
             obtain ⟨to1, hto1⟩ : ∃ v, y.tmod 1099511627776 = v := ⟨_, rfl⟩
             rw [hat1] at tx
             rw [hto1] at ty
             obtain ⟨tx1, tx2⟩ := tx
             obtain ⟨ty1, ty2⟩ := ty
             by_cases hK : kd = 0
             · subst hK
               have hs1 : subF at1 to1 = at1 - to1 := by unfold subF sat; omega
               have hs2 : subF (at1 + b) to1 = at1 - to1 + b := by unfold subF sat; omega
               have AL := Lib.hid (HAL.out.smp (d := at1 - to1) HC.out (by omega) HBB.out)
               have HS1 := Lib.hid hs1
               have HS2 := Lib.hid hs2
               clear hs1 hs2
               go_wp2_with fail
               go_quiet (fail)
               go_wp2_with fail
               refine (run2_sample OKC.out HC.out (by omega) (HR2.out.under (below_drewN ((Below.refl _ _).alloc (Nat.le_refl _) _) nq)) (.inr trivial) at1 to1 (by unfold I64; omega) (by unfold I64; omega)).mono ?_; rintro e v1 ⟨rfl, ⟨SS, R1⟩, _⟩
               have R1h := Lib.hid R1
               clear R1
               go_wp2_with fail
               refine (run_sample OKC.out HC.out (n := k) (by omega) ⟨R1h.out.two.at', R1h.out.two.up, R1h.out.two.ok, HR2.out.two.len, R1h.out.two.below, R1h.out.two.size⟩ (at1 + b) to1 (by unfold I64; omega) (by unfold I64; omega)).mono ?_; rintro e v2 ⟨rfl, R2, o2⟩
               rw [HS2.out] at R2
               have R1' := R1h.out
               rw [HS1.out] at R1'
               have RR : Run2 c b1 b2 (w.heap.size + 1) w2 (k + 1) (smp c s (at1 - to1)) (smp c t (at1 - to1 + b)) SS (Grow T v1 v2) v2 := ⟨R1'.one.other o2 R1'.two.up R1'.apart, R2, fun j e1 e2 => e2.1.elim (fun h2 => R1'.apart j e1 h2) (fun hh => by have := R1'.one.at'.lt j e1; omega)⟩
               have RRh := Lib.hid RR
               clear R2 RR o2 R1h R1'
               go_wp2
               go_roundw
               case rel => exact ⟨k + 1, _, _, _, _, by go_num, by omega, RRh.out, AL.out⟩
               case measure => simp [intOf]; omega
             · have hK2 : (kd == 0) = false := by simpa using hK
               by_cases hL : s.L = []
               · have hLt : t.L = [] := by rw [HAL.out.L, hL]; rfl
                 go_wp2_with fail
                 go_quiet (fail)
                 go_wp2_with fail
                 have U := HR2.out.under (w' := (wr.alloc (.cells #[.int .i64 kd, .int .i64 x, .int .i64 y] 31)).drewN nq) (below_drewN ((Below.refl _ _).alloc (Nat.le_refl _) _) nq)
                 have c1 := cframe_none b1 c HC.out s at1 S _ U.one.at' hL
                 have c2 := cframe_none b2 c HC.out t (at1 + b) T _ U.two.at' hLt
                 have RRh := Lib.hid (U.more (Nat.le_succ k))
                 clear U
                 refine c1.mono ?_; rintro e v2 ⟨rfl, rfl⟩
                 go_wp2_with fail
                 refine c2.mono ?_; rintro e v2 ⟨rfl, rfl⟩
                 go_wp2
                 go_roundw
                 case rel => exact ⟨k + 1, _, _, _, _, by go_num, by omega, RRh.out, HAL.out⟩
                 case measure => simp [intOf]; omega
               · have HL := Lib.hid hL
                 have HLt : Hid (t.L ≠ []) := Lib.hid (by rw [HAL.out.L]; simpa using hL)
                 have AL := Lib.hid (HAL.out.frm (x := at1) HC.out hL ⟨tx1, tx2⟩ HBB.out HRR.out.ok.st)
                 have EA : Hid ((frm c t (at1 + b)).at0 = (frm c s at1).at0) := Lib.hid AL.out.at0
                 clear hL
                 go_wp2_with fail
                 go_quiet (fail)
                 go_wp2_with fail
                 refine (run2_frame HC.out (HR2.out.under (below_drewN ((Below.refl _ _).alloc (Nat.le_refl _) _) nq)) at1 (by unfold I64; omega) HL.out).mono ?_; rintro e v1 ⟨rfl, R1, _⟩
                 have R1h := Lib.hid R1
                 clear R1
                 go_wp2_with fail
                 refine (run2_frame HC.out R1h.out.flip (at1 + b) (by unfold I64; omega) HLt.out).mono ?_; rintro e v2 ⟨rfl, R2, _⟩
                 have RRh := Lib.hid (R2.flip.more (Nat.le_succ k))
                 clear R2 R1h
                 rw [EA.out]
                 clear EA
                 generalize frm c s at1 = s' at *
                 generalize frm c t (at1 + b) = t' at *
                 obtain ⟨a0, ha0⟩ : ∃ a0, s'.at0 = a0 := ⟨_, rfl⟩
                 rw [ha0]
                 clear ha0
                 go_wp2
                 go_roundw
                 case rel => exact ⟨k + 1, _, _, _, _, by go_num, by omega, RRh.out, AL.out⟩
                 case measure => simp [intOf]; omega)
        · obtain rfl : k = len := by omega
          go_wp2_with fail
          refine (al _).mono ?_; rintro e w5 ⟨rfl, hb5⟩
          have U := HR2.out.under hb5
          have HB2 : Hid (Below w.heap.size w w5) := Lib.hid ((HB.out.trans (HRR.out.below.mono (by omega))).trans (hb5.mono (by omega)))
          have cj1 := cjitter_f b1 c s _ _ U.one.at'
          have cj2 := cjitter_f b2 c t _ _ U.two.at'
          have cd1 := cdelay_f b1 c s _ _ U.one.at'
          have cd2 := cdelay_f b2 c t _ _ U.two.at'
          rw [HAL.out.jit] at cj2
          rw [HAL.out.dly] at cd2
          have CB3 := CB2.out.below U.one.below (by omega)
          have q7 := CB3.cell 7
          have q8 := CB3.cell 8
          simp at q7 q8
          clear hb5 U CB3
          obtain ⟨j0, hj0⟩ : ∃ j0, s.jit = j0 := ⟨_, rfl⟩
          rw [hj0] at cj1 cj2
          obtain ⟨d0, hd0⟩ : ∃ d0, s.dly = d0 := ⟨_, rfl⟩
          rw [hd0] at cd1 cd2
          clear hj0 hd0
          go_wp2_with fail
          refine cj1.mono ?_; rintro e w' ⟨rfl, rfl⟩
          go_wp2_with fail
          refine cj2.mono ?_; rintro e w' ⟨rfl, rfl⟩
          go_wp2_with fail
          refine cd1.mono ?_; rintro e w' ⟨rfl, rfl⟩
          go_wp2_with fail
          refine cd2.mono ?_; rintro e w' ⟨rfl, rfl⟩
          go_wp2_with fail
          refine (fi _).mono ?_; rintro e w' ⟨rfl, rfl⟩
          go_wp2
          go_ret
          exact ⟨rfl, HB2.out⟩
    · first
      | (exfalso; omega)
      | (go_wp2_with fail
         refine (al _).mono ?_; rintro e w5 ⟨rfl, hb5⟩
         have HB2 : Hid (Below w.heap.size w w5) := Lib.hid (HB.out.trans (hb5.mono HB.out.size))
         clear hb5
         go_wp2
         go_ret
         exact ⟨rfl, HB2.out⟩)

theorem clockMoved_walk (r wi bs g l m s n d e : Int) (cu : Bool) (a : Option Addr) (len cap : Nat) (K X Y : Nat → Int) (b : Int) (w : World) (h1 : I64 r) (h2 : I64 wi) (h3 : I64 bs) (h4 : I64 g) (h5 : I64 l) (h6 : I64 m) (h7 : I64 s) (h8 : I64 n) (h9 : I64 d) (h10 : I64 e) (hs : ActsAt w a len K X Y) (hy : len * 24 ≤ 140737488351232) (hb : -2147483648 ≤ b ∧ b ≤ 2147483647) :
    Calls Try.prog 6 #[.agg #[.int .i64 r, .int .i64 wi, .int .i64 bs, .int .i64 g, .int .i64 l, .int .i64 m, .int .i64 s, .int .i64 n, .int .i64 d, .int .i64 e, .bool cu], .slice a len cap, .int .i32 b] w fun e w' => e = .returned (.bool true) ∧ Below w.heap.size w w' := by
  have ok : (mkC r wi bs g l m s n d e cu).Ok := ⟨h1, h2, h3, h4, h5, h6, h7, h8, h9, h10⟩
  by_cases h0 : cchk (mkC r wi bs g l m s n d e cu) = 0
  · exact clockMoved_ok (mkC r wi bs g l m s n d e cu) ok h0 a len cap K X Y b w hs (by omega) hb
  · exact clockMoved_bad (mkC r wi bs g l m s n d e cu) h0 a len cap b w
end Go.Proofs.Ytbpbkdpjolcofaa
