/- The law BracketNear, walked: it returns true (printed by gen/br11.py). -/
import Derived.Test.YtkfebgdflbplbaaBr10
namespace Go.Proofs.Ytkfebgdflbplbaa
set_option linter.unusedVariables false
set_option linter.unusedSimpArgs false
open Go.RowKit

theorem lastLe_ge {T : Nat → Int} {t : Int} {i : Nat} (h : T i ≤ t) : ∀ n, i < n → i + 1 ≤ lastLe T t n
  | 0, hi => by omega
  | n + 1, hi => by
    rw [lastLe]
    split
    · omega
    · by_cases e : i = n
      · rename_i hx; rw [e] at h; exact absurd h hx
      · exact lastLe_ge h n (by omega)
theorem lerp_part {a b t : Int} (hab : a < b) : lerpF a b (t - a) (b - a) = t := by
  unfold lerpF
  rw [Int.mul_ediv_cancel_left _ (by omega)]
  omega
theorem bey_at {a t : Int} (h0 : -2305843009213693952 ≤ a) (h1 : a ≤ 2305843009213693952) (h2 : a ≤ t) (h3 : t ≤ 2305843009213693952) : beyE a t = 0 ∧ beyN a t = t - a := by
  have e : beyE a t = 0 := by unfold beyE; rw [if_pos (chk_one h0 h1), if_neg (by omega)]
  refine ⟨e, ?_⟩
  unfold beyN; rw [if_pos e]; unfold subF sat; omega

set_option maxRecDepth 100000 in
set_option maxHeartbeats 2000000 in
theorem bracketNear_walk (a : Option Addr) (len cap : Nat) (zs : List Int) (at0 : Int) (w : World) (hs : IntsAt .u32 w a len zs) (hl : len ≤ 1048576) (hat : I64 at0) :
    Calls Try.prog 8 #[.slice a len cap, .int .i64 at0] w fun e w' => e = .returned (.bool true) ∧ Below w.heap.size w w' := by
  have RS := rising_f a len cap zs w hs hl (ints_small hs)
  have sm := ints_small hs
  generalize (fun i => zs.getD i 0) = Z at *
  have hl1 : (len : Int) ≤ 1048576 := by omega
  have CH := Lib.hid (rise_chk sm hl)
  have UP := Lib.hid (fun (i j : Nat) (h : i < j) => riseT_up sm h)
  have BD := Lib.hid (fun i => riseN_bounds sm i)
  clear hs sm
  by_cases h0 : len = 0 ∨ 200 < len
  · clear hat
    go_enter Try.func8, Try.ntmps8
    go_wp2_with fail
    refine RS.mono ?_; rintro e w1 ⟨s, cp, rfl, hS, hb1⟩
    have HB1 := Lib.hid hb1
    have HS1 := Lib.hid hS
    clear hb1 RS hS
    go_wp2_with fail
    refine (alive18_f _).mono ?_; rintro e w2 ⟨rfl, hb2⟩
    have HB2 : Hid (Below w.heap.size w w2) := Lib.hid (HB1.out.trans (hb2.mono HB1.out.size))
    have HS2 := Lib.hid (HS1.out.below hb2)
    clear hb2 HS1 HB1
    rcases h0 with h0 | h0
    · have g0 : ((len : Int) == 0) = true := by simp; omega
      go_wp2_with fail
      refine (alive18_f _).mono ?_; rintro e w3 ⟨rfl, hb3⟩
      have HB3 : Hid (Below w.heap.size w w3) := Lib.hid (HB2.out.trans (hb3.mono HB2.out.size))
      clear hb3
      go_wp2
      go_ret
      exact ⟨rfl, HB3.out⟩
    · have g0 : ((len : Int) == 0) = false := by simp; omega
      have g1 : decide ((200 : Int) < (len : Int)) = true := decide_eq_true (by omega)
      have g2 : decide (200 < len) = true := decide_eq_true h0
      go_wp2_with fail
      refine (alive18_f _).mono ?_; rintro e w3 ⟨rfl, hb3⟩
      have HB3 : Hid (Below w.heap.size w w3) := Lib.hid (HB2.out.trans (hb3.mono HB2.out.size))
      clear hb3
      go_wp2
      go_ret
      exact ⟨rfl, HB3.out⟩
  · have hp : 0 < len := by omega
    have h2 : len ≤ 200 := by omega
    clear h0
    have g0 : ((len : Int) == 0) = false := by simp; omega
    have ge0 : (len == 0) = false := by simp; omega
    have g1 : decide ((200 : Int) < (len : Int)) = false := decide_eq_false (by omega)
    have g2 : decide (200 < len) = false := decide_eq_false (by omega)
    have hpi : (0 : Int) < len := by omega
    obtain ⟨T, hT⟩ : ∃ T, riseT Z = T := ⟨_, rfl⟩
    have BT : Hid (∀ i, i < len → -1099511627776 ≤ T i ∧ T i ≤ 4503599627370496) := Lib.hid (fun i hi => by rw [← hT]; have := BD.out (i + 1); unfold riseT; omega)
    rw [hT] at CH RS
    have UPT : Hid (∀ i j : Nat, i < j → T i < T j) := Lib.hid (by rw [← hT]; exact UP.out)
    clear hT BD UP
    obtain ⟨r, hr⟩ : ∃ r, at0.tmod 2199023255552 = r := ⟨_, rfl⟩
    have r1 : -2199023255552 < r ∧ r < 2199023255552 := by
      have e := Int.emod_lt_of_pos at0 (show (0 : Int) < 2199023255552 by decide)
      have e2 := Int.emod_nonneg at0 (show (2199023255552 : Int) ≠ 0 by decide)
      rw [← hr, Int.tmod_eq_emod]
      split <;> omega
    obtain ⟨r1, r2⟩ := r1
    obtain ⟨t, ht⟩ : ∃ t, -1099511627776 + r = t := ⟨_, rfl⟩
    have t1 : -3298534883328 < t := by omega
    have t2 : t < 1099511627776 := by omega
    have bt0 := BT.out 0 hp
    by_cases hz : t < T 0
    · obtain ⟨y1, y2, y3⟩ := pick_none (T := T) (t := t) CH.out (fun j hj => by
        by_cases e : j = 0
        · rw [e]; exact hz
        · have := UPT.out 0 j (by omega); omega)
      have P1 := fun s cp w' h => pick_t t s len cp (fun i => (i : Int)) T (fun _ => (none, 0, 0)) w' h (by omega) y1 y2 y3
      clear y1 y2 y3
      go_enter Try.func8, Try.ntmps8
      go_wp2_with fail
      refine RS.mono ?_; rintro e w1 ⟨s, cp, rfl, hS, hb1⟩
      have HB1 := Lib.hid hb1
      have HS1 := Lib.hid hS
      clear hb1 RS hS
      go_wp2_with fail
      refine (alive18_f _).mono ?_; rintro e w2 ⟨rfl, hb2⟩
      have HB2 : Hid (Below w.heap.size w w2) := Lib.hid (HB1.out.trans (hb2.mono HB1.out.size))
      have HS2 := Lib.hid (HS1.out.below hb2)
      clear hb2 HS1 HB1
      obtain ⟨b, off, rfl, hbw0, hc0⟩ := (HS2.out).resolve_left (by omega)
      have p1 := P1 _ cp _ HS2.out
      go_wp2_with fail
      refine p1.mono ?_; rintro e w3 ⟨rfl, hb3⟩
      have hB : Below w.heap.size w w3 := HB2.out.trans (hb3.mono HB2.out.size)
      have hbw := Nat.lt_of_lt_of_le hbw0 hb3.size
      have z1 := (hb3.cell (p := ⟨b, off + 0 * 3 + 1, none⟩) hbw0).trans (hc0 0 (by omega)).2.1
      simp only [Nat.zero_mul, Nat.add_zero] at z1
      generalize T 0 = tz at *
      clear hb3 p1 HB2 HS2 hc0
      go_wp2
      go_ret
      exact ⟨rfl, hB⟩
    · have hz2 : decide (t < T 0) = false := decide_eq_false hz
      have ge := lastLe_ge (T := T) (t := t) (i := 0) (by omega) len hp
      have hle := lastLe_le T t len
      have hsp := lastLe_spec (T := T) (t := t) (n := len) (by omega)
      have hno : Hid (∀ j, lastLe T t len ≤ j → j < len → t < T j) := Lib.hid (fun j h1 h2 => Classical.byContradiction fun hh => by have := lastLe_ge (T := T) (t := t) (i := j) (by omega) len h2; omega)
      obtain ⟨m, hm⟩ : ∃ m, lastLe T t len = m := ⟨_, rfl⟩
      rw [hm] at ge hle hsp hno
      clear hm
      obtain ⟨x1, x2, x3⟩ := pick_at (T := T) (t := t) (m := m) CH.out hle (by omega) hsp hno.out
      obtain ⟨j, hj⟩ : ∃ j, m - 1 = j := ⟨_, rfl⟩
      rw [hj] at hsp
      have xj : (m : Int) - 1 = (j : Int) := by omega
      rw [xj] at x1
      have hjl : j < len := by omega
      have bj := BT.out j hjl
      have hjl' : (j : Int) < len := by omega
      have k2 : decide ((j : Int) < 0) = false := decide_eq_false (by omega)
      have k3 : decide ((len : Int) ≤ (j : Int)) = false := decide_eq_false (by omega)
      have j0 : 0 ≤ (j : Int) := by omega
      by_cases hml : m = len
      · rw [if_pos hml] at x2
        have P1 := fun s cp w' h => pick_t t s len cp (fun i => (i : Int)) T (fun _ => (none, 0, 0)) w' h (by omega) x1 x2 x3
        have by1 := bey_at (a := T j) (t := t) (by omega) (by omega) hsp (by omega)
        have q := bey_f (j : Int) (T j) t none 0 0 (by unfold I64; omega) (by unfold I64; omega)
        rw [by1.1, by1.2] at q
        have gj : decide (t < T j) = false := decide_eq_false (by omega)
        have hlj : (len : Int) - 1 = (j : Int) := by omega
        have wlj : IntKind.i64.wrap ((len : Int) - 1) = (j : Int) := by rw [IntKind.wrap_i64]; omega
        clear x1 x2 x3 by1 hml hat ge hle hno xj hj
        go_enter Try.func8, Try.ntmps8
        go_wp2_with fail
        refine RS.mono ?_; rintro e w1 ⟨s, cp, rfl, hS, hb1⟩
        have HB1 := Lib.hid hb1
        have HS1 := Lib.hid hS
        clear hb1 RS hS
        go_wp2_with fail
        refine (alive18_f _).mono ?_; rintro e w2 ⟨rfl, hb2⟩
        have HB2 : Hid (Below w.heap.size w w2) := Lib.hid (HB1.out.trans (hb2.mono HB1.out.size))
        have HS2 := Lib.hid (HS1.out.below hb2)
        clear hb2 HS1 HB1
        obtain ⟨b, off, rfl, hbw0, hc0⟩ := (HS2.out).resolve_left (by omega)
        have p1 := P1 _ cp _ HS2.out
        go_wp2_with fail
        refine p1.mono ?_; rintro e w3 ⟨rfl, hb3⟩
        have hB : Below w.heap.size w w3 := HB2.out.trans (hb3.mono HB2.out.size)
        have hbw := Nat.lt_of_lt_of_le hbw0 hb3.size
        have z1 := (hb3.cell (p := ⟨b, off + 0 * 3 + 1, none⟩) hbw0).trans (hc0 0 (by omega)).2.1
        simp only [Nat.zero_mul, Nat.add_zero] at z1
        have a0 := (hb3.cell (p := ⟨b, off + j * 3, none⟩) hbw0).trans (hc0 j hjl).1
        have a1 := (hb3.cell (p := ⟨b, off + j * 3 + 1, none⟩) hbw0).trans (hc0 j hjl).2.1
        have a2 := (hb3.cell (p := ⟨b, off + j * 3 + 2, none⟩) hbw0).trans (hc0 j hjl).2.2
        try simp only at a2
        generalize T 0 = tz at *
        generalize T j = tj at *
        clear hb3 p1 HB2 HS2 hc0 hbw0
        have HBX := Lib.hid hB
        clear hB
        go_wp2_with fail
        refine (q _).mono ?_; rintro e w4 ⟨rfl, hb4⟩
        have c1 := (hb4.cell (p := ⟨b, off + j * 3 + 1, none⟩) hbw).trans a1
        have hB : Below w.heap.size w w4 := HBX.out.trans (hb4.mono HBX.out.size)
        clear hb4 a0 a1 a2 z1 q
        obtain ⟨df, hdf⟩ : ∃ df, t - tj = df := ⟨_, rfl⟩
        have df1 : -9223372036854775808 ≤ df := by omega
        have df2 : df ≤ 9223372036854775807 := by omega
        go_wp2
        go_ret
        exact ⟨rfl, hB⟩
      · rw [if_neg hml] at x2
        have P1 := fun s cp w' h => pick_t t s len cp (fun i => (i : Int)) T (fun _ => (none, 0, 0)) w' h (by omega) x1 x2 x3
        have hmn : m < len := by omega
        have bm := BT.out m hmn
        have ujm := UPT.out j m (by omega)
        have tm := hno.out m (Nat.le_refl _) hmn
        have q1 := part_in (a := T j) (b := T m) (t := t) (by omega) (by omega) ujm hsp (by omega)
        have p2 := bpart_f (j : Int) (T j) (m : Int) (T m) t none none 0 0 0 0
        rw [q1.1, q1.2.1, q1.2.2] at p2
        have lr := lerp_f (T j) (T m) (t - T j) (T m - T j) (by unfold I64; omega) (by unfold I64; omega) (fineB_iff.2 ⟨by omega, by omega, by omega, by omega⟩)
        rw [lerp_part ujm] at lr
        have gj : decide (t < T j) = false := decide_eq_false (by omega)
        have gm : decide (T m ≤ t) = false := decide_eq_false (by omega)
        have hm1 : ((m : Int) == -1) = false := by simp <;> omega
        have hmj : (j : Int) + 1 = (m : Int) := by omega
        have wmj : IntKind.i64.wrap ((j : Int) + 1) = (m : Int) := by rw [IntKind.wrap_i64]; omega
        have hml' : (m : Int) < len := by omega
        have k4 : decide ((len : Int) ≤ (m : Int)) = false := decide_eq_false (by omega)
        have m0 : 0 ≤ (m : Int) := by omega
        clear x1 x2 x3 q1 hml hat ge hle hno xj hj
        go_enter Try.func8, Try.ntmps8
        go_wp2_with fail
        refine RS.mono ?_; rintro e w1 ⟨s, cp, rfl, hS, hb1⟩
        have HB1 := Lib.hid hb1
        have HS1 := Lib.hid hS
        clear hb1 RS hS
        go_wp2_with fail
        refine (alive18_f _).mono ?_; rintro e w2 ⟨rfl, hb2⟩
        have HB2 : Hid (Below w.heap.size w w2) := Lib.hid (HB1.out.trans (hb2.mono HB1.out.size))
        have HS2 := Lib.hid (HS1.out.below hb2)
        clear hb2 HS1 HB1
        obtain ⟨b, off, rfl, hbw0, hc0⟩ := (HS2.out).resolve_left (by omega)
        have p1 := P1 _ cp _ HS2.out
        go_wp2_with fail
        refine p1.mono ?_; rintro e w3 ⟨rfl, hb3⟩
        have hB : Below w.heap.size w w3 := HB2.out.trans (hb3.mono HB2.out.size)
        have hbw := Nat.lt_of_lt_of_le hbw0 hb3.size
        have z1 := (hb3.cell (p := ⟨b, off + 0 * 3 + 1, none⟩) hbw0).trans (hc0 0 (by omega)).2.1
        simp only [Nat.zero_mul, Nat.add_zero] at z1
        have a0 := (hb3.cell (p := ⟨b, off + j * 3, none⟩) hbw0).trans (hc0 j hjl).1
        have a1 := (hb3.cell (p := ⟨b, off + j * 3 + 1, none⟩) hbw0).trans (hc0 j hjl).2.1
        have a2 := (hb3.cell (p := ⟨b, off + j * 3 + 2, none⟩) hbw0).trans (hc0 j hjl).2.2
        have b0 := (hb3.cell (p := ⟨b, off + m * 3, none⟩) hbw0).trans (hc0 m hmn).1
        have b1 := (hb3.cell (p := ⟨b, off + m * 3 + 1, none⟩) hbw0).trans (hc0 m hmn).2.1
        have b2 := (hb3.cell (p := ⟨b, off + m * 3 + 2, none⟩) hbw0).trans (hc0 m hmn).2.2
        try simp only at a2 b2
        generalize T 0 = tz at *
        generalize T j = tj at *
        generalize T m = tn at *
        generalize t - tj = df at *
        generalize tn - tj = dd at *
        clear hb3 p1 HB2 HS2 hc0 hbw0 bj bm bt0 ujm
        go_wp2_with fail
        go_region_held3 (fun w' => (w'.cell? ⟨b, off + j * 3, none⟩ = some (.int .i64 (j : Int)) ∧ w'.cell? ⟨b, off + j * 3 + 1, none⟩ = some (.int .i64 tj) ∧ w'.cell? ⟨b, off + j * 3 + 2, none⟩ = some (.slice none 0 0) ∧ w'.cell? ⟨b, off + m * 3, none⟩ = some (.int .i64 (m : Int)) ∧ w'.cell? ⟨b, off + m * 3 + 1, none⟩ = some (.int .i64 tn) ∧ w'.cell? ⟨b, off + m * 3 + 2, none⟩ = some (.slice none 0 0)) ∧ b < w'.heap.size ∧ Below w.heap.size w w')
          (first | (go_keep; done) | (((try dsimp only); repeat' apply And.intro) <;> (first | assumption | exact Below.drew (by assumption) | go_keep)) | (go_split_ands; exact ⟨⟨(hbk.cell (p := ⟨b, off + j * 3, none⟩) (by assumption)).trans (by assumption), (hbk.cell (p := ⟨b, off + j * 3 + 1, none⟩) (by assumption)).trans (by assumption), (hbk.cell (p := ⟨b, off + j * 3 + 2, none⟩) (by assumption)).trans (by assumption), (hbk.cell (p := ⟨b, off + m * 3, none⟩) (by assumption)).trans (by assumption), (hbk.cell (p := ⟨b, off + m * 3 + 1, none⟩) (by assumption)).trans (by assumption), (hbk.cell (p := ⟨b, off + m * 3 + 2, none⟩) (by assumption)).trans (by assumption)⟩, Nat.lt_of_lt_of_le (by assumption) hbk.size, Below.trans (by assumption) (hbk.mono (Below.size (by assumption)))⟩))
          ((first | (go_at_call 16; ((with_reducible refine (p2 _).mono ?_); rintro e wx ⟨rfl, hbk⟩))))
        all_goals
          rename_i hH
          clear a0 a1 a2 b0 b1 b2 hbw hB
          obtain ⟨⟨a0, a1, a2, b0, b1, b2⟩, hbw, hB⟩ := hH
          go_wp2_with fail
          go_quiet (first | (go_at_call 20; exact Calls.quiet_of (lr _)))
          go_wp2
          go_ret
          exact ⟨rfl, below_drewN hB nq⟩

end Go.Proofs.Ytkfebgdflbplbaa
