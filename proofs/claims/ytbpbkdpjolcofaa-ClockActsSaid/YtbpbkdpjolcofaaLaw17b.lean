/- ClockForward, walked. -/
import Derived.Test.YtbpbkdpjolcofaaLaw17
namespace Go.Proofs.Ytbpbkdpjolcofaa
set_option linter.unusedVariables false
set_option linter.unusedSimpArgs false
open Go.RowKit

theorem subF_max' (r l : Int) : subF (max r l) l = max 0 (subF r l) := by unfold subF sat; omega
theorem addF_up' {a r : Int} (ha : I64 a) (hr : 1 ≤ r) : a ≤ addF a r := by unfold I64 at ha; unfold addF sat; omega
theorem toF_between {at0 last r want num den : Int} (ha : I64 at0) (hn : 0 ≤ num) (hd : 0 < den) :
    at0 ≤ toF at0 last r want num den ∧ toF at0 last r want num den ≤ addF at0 (roomF (max 0 (subF r last)) num den) := by
  have h1 := roomF_bounds (adv := max 0 (subF r last)) hn hd
  have h2 := addF_up' ha h1.1
  unfold toF
  rw [subF_max']
  omega

def mkC (r wi bs g l m s n d e : Int) (cu : Bool) : Cfg := ⟨r, wi, bs, g, l, m, s, n, d, e, cu⟩

set_option maxHeartbeats 1000000 in
theorem clockForward_bad (c : Cfg) (hc : cchk c ≠ 0) (a : Option Addr) (len cap : Nat) (w : World) :
    Calls Try.prog 3 #[cfgV c, .slice a len cap] w fun e w' => e = .returned (.bool true) ∧ Below w.heap.size w w' := by
  have nw := cnew_bad c hc
  have al := alive17_f
  have h0' : (cchk c != 0) = true := by simpa using hc
  clear hc
  generalize cchk c = k at *
  unfold cfgV at nw ⊢
  go_enter Try.func3, Try.ntmps3
  go_wp2_with fail
  refine (nw _).mono ?_; rintro e w1 ⟨rfl, hb1⟩
  have HB : Hid (Below w.heap.size w w1) := Lib.hid (((Below.refl _ _).alloc (Nat.le_refl _) _).trans (hb1.mono (by simp)))
  clear hb1
  go_wp2_with fail
  refine (al _).mono ?_; rintro e w2 ⟨rfl, hb2⟩
  have HB2 : Hid (Below w.heap.size w w2) := Lib.hid (HB.out.trans (hb2.mono HB.out.size))
  clear hb2
  go_wp2
  go_ret
  exact ⟨rfl, HB2.out⟩

set_option maxHeartbeats 4000000 in
theorem clockForward_ok (c : Cfg) (okc : c.Ok) (hc : cchk c = 0) (a : Option Addr) (len cap : Nat) (K X Y : Nat → Int) (w : World) (hs : ActsAt w a len K X Y) (hl : (len : Int) ≤ 4611686018427387904) :
    Calls Try.prog 3 #[cfgV c, .slice a len cap] w fun e w' => e = .returned (.bool true) ∧ Below w.heap.size w w' := by
  have nw := cnew_ok c okc hc
  have al := alive17_f
  have OKC := Lib.hid okc
  have HC := Lib.hid hc
  obtain ⟨_, _, hr⟩ := cchk_ok hc
  have hnd := ratioB_iff.1 hr
  have HND := Lib.hid hnd
  have HR := Lib.hid hr
  clear okc hc hr hnd
  unfold cfgV at nw ⊢
  obtain ⟨hi, hz | ⟨ab, off, rfl, hab, hcell⟩⟩ := hs
  all_goals
    have HI := Lib.hid hi
    clear hi
    go_enter Try.func3, Try.ntmps3
    go_wp2_with fail
    refine (nw _).mono ?_; rintro e w1 ⟨b, S, rfl, hk, hup, hb1⟩
    have CB := Lib.hid ((Blk.new w #[.int .i64 c.ring, .int .i64 c.window, .int .i64 c.base, .int .i64 c.gain, .int .i64 c.least, .int .i64 c.most, .int .i64 c.slack, .int .i64 c.num, .int .i64 c.den, .int .i64 c.extra, .bool c.curved] 23).below hb1 (by simp))
    obtain ⟨q0, q1, q2, q3, q4, q5, q6, q7, q8, q9, q10⟩ := cfg_cells CB.out
    have HB : Hid (Below w.heap.size w w1) := Lib.hid (((Below.refl _ _).alloc (Nat.le_refl _) _).trans (hb1.mono (by simp)))
    have R0 := Lib.hid (show Run c b (w.heap.size + 1) w1 0 (cs0 c) S w1 from ⟨hk, fun k e => by have := hup k e; simpa using this, cs0_ok HC.out, Nat.le_refl _, Below.refl _ _, by have := hb1.size; simpa using this⟩)
    clear hk hup hb1 nw
    by_cases hlen : len ≤ 300
    · go_wp2_with fail
      go_loopw [7, 8, 9, 35] (fun bg la tp i wr => ∃ (k : Nat) (s : CS) (S : Nat → Prop) (lv tv : Int), i = .int .i64 k ∧ k ≤ len ∧ Run c b (w.heap.size + 1) w1 k s S wr ∧ bg = .bool (decide (s.st = 1)) ∧ la = .int .i64 lv ∧ tp = .int .i64 tv ∧ (s.st = 1 → lv = s.at0 ∧ tv = s.last)) (fun _ _ _ i _ => len - (intOf i).toNat)
      case atStart => exact ⟨0, cs0 c, S, 0, 0, rfl, Nat.zero_le _, R0.out, rfl, rfl, rfl, fun h => by simp [cs0] at h⟩
      case round =>
        rename_i wr
        obtain ⟨k, s, S1, lv, tv, rfl, hk, hR, rfl, rfl, rfl, hinv⟩ := hrel
        have HIV := Lib.hid hinv
        have HRR := Lib.hid hR
        clear hinv hR
        have hsz : w.heap.size + 1 ≤ wr.heap.size := HRR.out.size
        have hlt2 := fun j (e : S1 j) => HRR.out.at'.lt j e
        by_cases hlt : k < len
        · first
          | (exfalso; omega)
          | (have e0 := ((HRR.out.below.cell (p := ⟨ab, off + k * 3, none⟩) (by simp; omega)).trans (HB.out.cell (p := ⟨ab, off + k * 3, none⟩) hab)).trans (hcell k hlt).1
             have e1 := ((HRR.out.below.cell (p := ⟨ab, off + k * 3 + 1, none⟩) (by simp; omega)).trans (HB.out.cell (p := ⟨ab, off + k * 3 + 1, none⟩) hab)).trans (hcell k hlt).2.1
             have e2 := ((HRR.out.below.cell (p := ⟨ab, off + k * 3 + 2, none⟩) (by simp; omega)).trans (HB.out.cell (p := ⟨ab, off + k * 3 + 2, none⟩) hab)).trans (hcell k hlt).2.2
             obtain ⟨hik, hix, hiy⟩ := HI.out k hlt
             have HC2 := Lib.hid hcell
             have hlt' : (k : Int) < len := by omega
             clear hcell q0 q1 q2 q3 q4 q5 q6 q9 q10
             have Q7 := Lib.hid q7
             have Q8 := Lib.hid q8
             clear q7 q8
             generalize X k = x at *
             generalize Y k = y at *
             generalize K k = kd at *
             by_cases hK : kd = 0
             · subst hK
               go_wp2_with fail
               refine (run_sample OKC.out HC.out (by omega) (HRR.out.under ((Below.refl _ _).alloc (Nat.le_refl _) _)) x y hix hiy).mono ?_; rintro e w' ⟨rfl, R', _⟩
               have R2 := Lib.hid R'
               clear R'
               go_wp2
               go_roundw
               case rel => exact ⟨k + 1, _, _, lv, tv, by go_num, by omega, R2.out, rfl, rfl, rfl, HIV.out⟩
               case measure => simp [intOf]; omega
             · have hK2 : (kd == 0) = false := by simpa using hK
               by_cases hL : s.L = []
               · go_wp2_with fail
                 refine (cframe_none b c HC.out s x S1 _ (HRR.out.under ((Below.refl _ _).alloc (Nat.le_refl _) _)).at' hL).mono ?_; rintro e w' ⟨rfl, rfl⟩
                 have R2 := Lib.hid ((HRR.out.under ((Below.refl _ _).alloc (Nat.le_refl _) (.cells #[.int .i64 kd, .int .i64 x, .int .i64 y] 31))).more (Nat.le_succ k))
                 go_wp2
                 go_roundw
                 case rel => exact ⟨k + 1, _, _, lv, tv, by go_num, by omega, R2.out, rfl, rfl, rfl, HIV.out⟩
                 case measure => simp [intOf]; omega
               · have HL := Lib.hid hL
                 clear hL
                 go_wp2_with fail
                 refine (run_frame HC.out (HRR.out.under ((Below.refl _ _).alloc (Nat.le_refl _) _)) x hix HL.out).mono ?_; rintro e w' ⟨rfl, R', ho⟩
                 have BA := ho.blk (Blk.new wr #[.int .i64 kd, .int .i64 x, .int .i64 y] 31) (fun e => by have := hlt2 _ e; omega)
                 have f1 := BA.cell 1
                 simp at f1
                 have n7 := (R'.below.cell (p := ⟨w.heap.size, 7, none⟩) (by simp)).trans Q7.out
                 have n8 := (R'.below.cell (p := ⟨w.heap.size, 8, none⟩) (by simp)).trans Q8.out
                 have R2 := Lib.hid (R'.more (Nat.le_succ k))
                 have ok := HRR.out.ok
                 have hF : Hid ((frm c s x).st = 1 ∧ (frm c s x).at0 = (if s.st = 0 then wantF c s x else toF s.at0 s.last x (wantF c s x) c.num c.den) ∧ (frm c s x).last = if s.st = 0 then x else max s.last x) := Lib.hid ⟨rfl, rfl, rfl⟩
                 clear BA R' ho
                 rcases ok.st with hst | hst
                 · have hd : decide (s.st = 1) = false := by rw [hst]; rfl
                   have hl2 : (frm c s x).last = x := by rw [hF.out.2.2, if_pos hst]
                   have hs2 : decide ((frm c s x).st = 1) = true := by rw [hF.out.1]; rfl
                   have HL2 := Lib.hid hl2
                   have HS2 := Lib.hid hs2
                   clear hst hl2 hs2 hF
                   generalize frm c s x = s' at *
                   obtain ⟨x0, hx0⟩ : ∃ x0, s'.at0 = x0 := ⟨_, rfl⟩
                   rw [hx0]
                   have HX0 := Lib.hid hx0
                   clear hx0 ok
                   rw [hd]
                   go_wp2
                   go_roundw
                   case rel => exact ⟨k + 1, s', _, x0, x, by go_num, by omega, R2.out, by rw [HS2.out], rfl, rfl, fun _ => ⟨HX0.out.symm, HL2.out.symm⟩⟩
                   case measure => simp [intOf]; omega
                 · have hd : decide (s.st = 1) = true := by rw [hst]; rfl
                   obtain ⟨e3, e4⟩ := HIV.out hst
                   subst e3
                   subst e4
                   have hne : ¬ s.st = 0 := by omega
                   have bt := toF_between (r := x) (last := s.last) (want := wantF c s x) (num := c.num) (den := c.den) ok.at0 (by have := HND.out; omega) (by have := HND.out; omega)
                   have hl2 : (frm c s x).last = max s.last x := by rw [hF.out.2.2, if_neg hne]
                   have ha2 : (frm c s x).at0 = toF s.at0 s.last x (wantF c s x) c.num c.den := by rw [hF.out.2.1, if_neg hne]
                   rw [← ha2] at bt
                   have hs2 : decide ((frm c s x).st = 1) = true := by rw [hF.out.1]; rfl
                   have HL2 := Lib.hid hl2
                   have HS2 := Lib.hid hs2
                   have sc := sub_f x s.last hix ok.last
                   have r1 := room_f (max 0 (subF x s.last)) c.num c.den (i64_max (subF_i64 _ _)) HR.out
                   have rb := roomF_bounds (adv := max 0 (subF x s.last)) (num := c.num) (den := c.den) (by have := HND.out; omega) (by have := HND.out; omega)
                   have ac := add_f s.at0 (roomF (max 0 (subF x s.last)) c.num c.den) ok.at0 ⟨by omega, rb.2⟩
                   clear hl2 hs2 hF ha2 hst hne ok rb
                   generalize roomF (max 0 (subF x s.last)) c.num c.den = rm at *
                   generalize addF s.at0 rm = far at *
                   generalize subF x s.last = sb at *
                   generalize frm c s x = s' at *
                   obtain ⟨b1, b2⟩ := bt
                   rw [hd]
                   obtain ⟨x0, hx0⟩ : ∃ x0, s'.at0 = x0 := ⟨_, rfl⟩
                   rw [hx0] at b1 b2 ⊢
                   have HX0 := Lib.hid hx0
                   obtain ⟨a0, ha0⟩ : ∃ a0, s.at0 = a0 := ⟨_, rfl⟩
                   rw [ha0] at b1 ac ⊢
                   obtain ⟨l0, hl0⟩ : ∃ l0, s.last = l0 := ⟨_, rfl⟩
                   rw [hl0] at sc HL2 ⊢
                   clear hx0 ha0 hl0
                   go_wp2_with fail
                   go_quiet (first | (go_at_call 15; exact qsameS (sc _)) | (go_at_call 14; exact Calls.quiet_of (r1 _)))
                   go_wp2_with fail
                   refine (ac _).mono ?_; rintro e w9 ⟨rfl, rfl⟩
                   go_wp2
                   go_roundw
                   case rel => exact ⟨k + 1, s', _, x0, max l0 x, by go_num, by omega, R2.out.under (below_drewN (Below.refl _ _) _), by rw [HS2.out], rfl, rfl, fun _ => ⟨HX0.out.symm, HL2.out.symm⟩⟩
                   case measure => simp [intOf]; omega)
        · obtain rfl : k = len := by omega
          go_wp2_with fail
          refine (al _).mono ?_; rintro e w2 ⟨rfl, hb2⟩
          have HB2 : Hid (Below w.heap.size w w2) := Lib.hid ((HB.out.trans (HRR.out.below.mono (by omega))).trans (hb2.mono (by omega)))
          clear hb2
          go_wp2
          go_ret
          exact ⟨rfl, HB2.out⟩
    · first
      | (exfalso; omega)
      | (go_wp2_with fail
         refine (al _).mono ?_; rintro e w2 ⟨rfl, hb2⟩
         have HB2 : Hid (Below w.heap.size w w2) := Lib.hid (HB.out.trans (hb2.mono HB.out.size))
         clear hb2
         go_wp2
         go_ret
         exact ⟨rfl, HB2.out⟩)

theorem clockForward_walk (r wi bs g l m s n d e : Int) (cu : Bool) (a : Option Addr) (len cap : Nat) (K X Y : Nat → Int) (w : World) (h1 : I64 r) (h2 : I64 wi) (h3 : I64 bs) (h4 : I64 g) (h5 : I64 l) (h6 : I64 m) (h7 : I64 s) (h8 : I64 n) (h9 : I64 d) (h10 : I64 e) (hs : ActsAt w a len K X Y) (hy : len * 24 ≤ 140737488351232) :
    Calls Try.prog 3 #[.agg #[.int .i64 r, .int .i64 wi, .int .i64 bs, .int .i64 g, .int .i64 l, .int .i64 m, .int .i64 s, .int .i64 n, .int .i64 d, .int .i64 e, .bool cu], .slice a len cap] w fun e w' => e = .returned (.bool true) ∧ Below w.heap.size w w' := by
  have ok : (mkC r wi bs g l m s n d e cu).Ok := ⟨h1, h2, h3, h4, h5, h6, h7, h8, h9, h10⟩
  by_cases h0 : cchk (mkC r wi bs g l m s n d e cu) = 0
  · exact clockForward_ok (mkC r wi bs g l m s n d e cu) ok h0 a len cap K X Y w hs (by omega)
  · exact clockForward_bad (mkC r wi bs g l m s n d e cu) h0 a len cap w
end Go.Proofs.Ytbpbkdpjolcofaa
