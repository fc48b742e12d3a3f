/- The law BracketMoved, walked: it returns true. -/
import Derived.Test.YtkfebgdflbplbaaBr9
namespace Go.Proofs.Ytkfebgdflbplbaa
set_option linter.unusedVariables false
set_option linter.unusedSimpArgs false
open Go.RowKit

def movT (T : Nat → Int) (d : Int) (i : Nat) : Int := T i + d
theorem lastLe_moved (T : Nat → Int) (t d : Int) : ∀ n, lastLe (movT T d) (t + d) n = lastLe T t n
  | 0 => rfl
  | n + 1 => by
    rw [lastLe, lastLe, lastLe_moved T t d n]
    by_cases h : T n ≤ t
    · rw [if_pos h, if_pos (by unfold movT; omega)]
    · rw [if_neg h, if_neg (by unfold movT; omega)]
theorem pick_moved {T : Nat → Int} {t d : Int} {len : Nat} (hc : chkT T len = 0) (hc' : chkT (movT T d) len = 0) :
    pickA (movT T d) (t + d) len = pickA T t len ∧ pickB (movT T d) (t + d) len = pickB T t len ∧ pickE (movT T d) (t + d) len = pickE T t len := by
  unfold pickA pickB pickE
  rw [if_pos hc, if_pos hc, if_pos hc, if_pos hc', if_pos hc', if_pos hc', lastLe_moved]
  exact ⟨rfl, rfl, rfl⟩
theorem part_in {a b t : Int} (h0 : -2305843009213693952 ≤ a) (h1 : b ≤ 2305843009213693952) (hab : a < b) (h2 : a ≤ t) (h3 : t ≤ b) : partE a b t = 0 ∧ partN a b t = t - a ∧ partD a b t = b - a := by
  have hc : chkT (two a b) 2 = 0 := by
    unfold chkT
    rw [chkFrom, if_neg (by simp only [two]; omega), if_neg (by omega), chkFrom, if_neg (by simp only [two]; omega), if_neg (by simp only [two]; omega)]
    rfl
  have e : partE a b t = 0 := by unfold partE; rw [if_pos hc, if_neg (by omega)]
  exact ⟨e, by unfold partN; rw [if_pos e], by unfold partD; rw [if_pos e]⟩
theorem rise_chk_moved {Z : Nat → Int} (h : Small Z) {len : Nat} (hl : len ≤ 1048576) {d : Int} (hd : -2147483648 ≤ d ∧ d ≤ 2147483647) : chkT (movT (riseT Z) d) len = 0 :=
  chk_of (fun i hi => by have := riseN_bounds h (i + 1); unfold movT riseT; omega) (fun i hi => by have := riseT_up h (show i - 1 < i by omega); unfold movT; omega) len 0 (by omega)
/-- which neighbours there are -/
theorem pick_ways {T : Nat → Int} {t : Int} {len : Nat} (hc : chkT T len = 0) :
    pickE T t len = 5 ∨ (pickE T t len = 0 ∧ pickB T t len = -1) ∨ ∃ j : Nat, j + 1 < len ∧ pickE T t len = 0 ∧ pickA T t len = (j : Int) ∧ pickB T t len = ((j + 1 : Nat) : Int) ∧ T j ≤ t ∧ t < T (j + 1) := by
  unfold pickA pickB pickE
  rw [if_pos hc, if_pos hc, if_pos hc]
  by_cases h0 : lastLe T t len = 0
  · exact .inl (if_pos h0)
  · rw [if_neg h0, if_neg h0, if_neg h0]
    by_cases h1 : lastLe T t len = len
    · exact .inr (.inl ⟨rfl, if_pos h1⟩)
    · have hle := lastLe_le T t len
      have hs := lastLe_spec h0
      obtain ⟨m, hm⟩ : ∃ m, lastLe T t len = m := ⟨_, rfl⟩
      rw [hm] at h0 h1 hle hs ⊢
      refine .inr (.inr ⟨m - 1, by omega, rfl, by omega, by rw [if_neg h1, show m - 1 + 1 = m by omega], hs, ?_⟩)
      rw [show m - 1 + 1 = m by omega]
      refine Classical.byContradiction fun hh => ?_
      -- a later one that is not behind t would have been found
      have key : ∀ n, m < n → n ≤ len → m + 1 ≤ lastLe T t n := fun n => by
        induction n with
        | zero => intro h _; omega
        | succ n ih =>
          intro h h2
          rw [lastLe]
          split
          · omega
          · by_cases e : m = n
            · rename_i hx; rw [e] at hh; exact absurd (by omega) hx
            · exact ih (by omega) (by omega)
      have := key len (by omega) (Nat.le_refl _)
      omega

set_option maxRecDepth 100000 in
set_option maxHeartbeats 2000000 in
theorem bracketMoved_walk (a : Option Addr) (len cap : Nat) (zs : List Int) (at0 d : Int) (w : World) (hs : IntsAt .u32 w a len zs) (hl : len ≤ 1048576) (hat : -2147483648 ≤ at0 ∧ at0 ≤ 2147483647) (hd : -2147483648 ≤ d ∧ d ≤ 2147483647) :
    Calls Try.prog 5 #[.slice a len cap, .int .i32 at0, .int .i32 d] w fun e w' => e = .returned (.bool true) ∧ Below w.heap.size w w' := by
  have RS := rising_f a len cap zs w hs hl (ints_small hs)
  have sm := ints_small hs
  generalize (fun i => zs.getD i 0) = Z at *
  have hl1 : (len : Int) ≤ 1048576 := by omega
  obtain ⟨at1, at2⟩ := hat
  obtain ⟨dl, dh⟩ := hd
  have CH := Lib.hid (rise_chk sm hl)
  have CH2 := Lib.hid (rise_chk_moved sm hl ⟨dl, dh⟩)
  have BD := Lib.hid (fun i => riseN_bounds sm i)
  have UP := Lib.hid (fun (i j : Nat) (h : i < j) => riseT_up sm h)
  clear hs sm
  by_cases h2 : 200 < len
  · have g1 : decide ((200 : Int) < (len : Int)) = true := decide_eq_true (by omega)
    have g2 : decide (200 < len) = true := decide_eq_true h2
    go_enter Try.func5, Try.ntmps5
    go_wp2_with fail
    refine RS.mono ?_; rintro e w1 ⟨s, cp, rfl, _, hb1⟩
    have HB1 := Lib.hid hb1
    clear hb1 RS
    go_wp2_with fail
    refine (alive18_f _).mono ?_; rintro e w2 ⟨rfl, hb2⟩
    have HB2 : Hid (Below w.heap.size w w2) := Lib.hid (HB1.out.trans (hb2.mono HB1.out.size))
    clear hb2
    go_wp2_with fail
    refine (alive18_f _).mono ?_; rintro e w3 ⟨rfl, hb3⟩
    have HB3 : Hid (Below w.heap.size w w3) := Lib.hid (HB2.out.trans (hb3.mono HB2.out.size))
    clear hb3
    go_wp2
    go_ret
    exact ⟨rfl, HB3.out⟩
  · have hl2 : (len : Int) ≤ 200 := by omega
    have g1 : decide ((200 : Int) < (len : Int)) = false := decide_eq_false (by omega)
    have g2 : decide (200 < len) = false := decide_eq_false h2
    clear h2
    obtain ⟨i0, hi, hz0, hz1, hz2⟩ := info_parts infoSnap
    obtain ⟨T, hT⟩ : ∃ T, riseT Z = T := ⟨_, rfl⟩
    have BT : Hid (∀ i, i < len → -1099511627776 ≤ T i ∧ T i ≤ 4503599627370496) := Lib.hid (fun i hi => by rw [← hT]; have := BD.out (i + 1); unfold riseT; omega)
    rw [hT] at CH CH2 RS
    have UPT : Hid (∀ i j : Nat, i < j → T i < T j) := Lib.hid (by rw [← hT]; exact UP.out)
    clear hT BD UP
    obtain ⟨t, ht⟩ : ∃ t, at0 - 1099511627776 = t := ⟨_, rfl⟩
    have t1 : -1101659111424 ≤ t := by omega
    have t2 : t ≤ -1097364144129 := by omega
    obtain ⟨tm, htm⟩ : ∃ tm, t + d = tm := ⟨_, rfl⟩
    have tm1 : -1103806595072 ≤ tm := by omega
    have tm2 : tm ≤ -1095216660482 := by omega
    have WY := Lib.hid (pick_ways (t := t) CH.out)
    obtain ⟨m1, m2, m3⟩ := pick_moved (t := t) CH.out CH2.out
    rw [htm] at m1 m2 m3
    have P1 := Lib.hid (fun s cp w' h => pick_t t s len cp (fun i => (i : Int)) T (fun _ => (none, 0, 0)) w' h (by omega) rfl rfl rfl)
    have P2 := Lib.hid (fun s cp w' h => pick_t tm s len cp (fun i => (i : Int)) (movT T d) (fun _ => (none, 0, 0)) w' h (by omega) m1 m2 m3)
    clear m1 m2 m3
    generalize pickA T t len = pa at *
    generalize pickB T t len = pb at *
    generalize pickE T t len = pe at *
    have HTM := Lib.hid htm
    go_enter Try.func5, Try.ntmps5
    go_wp2_with fail
    refine RS.mono ?_; rintro e w1 ⟨s, cp, rfl, hS, hb1⟩
    have HB1 := Lib.hid hb1
    have HS1 := Lib.hid hS
    clear hb1 RS hS
    go_wp2_with fail
    refine (alive18_f _).mono ?_; rintro e w2 ⟨rfl, hb2⟩
    have HB2 : Hid (Below w.heap.size w w2) := Lib.hid (HB1.out.trans (hb2.mono HB1.out.size))
    have HS2 := Lib.hid (HS1.out.below hb2)
    clear hb2 HS1 HB1
    go_wp2_with fail
    go_loopw [8, 36] (fun v i wr => ∃ k : Nat, k ≤ len ∧ i = .int .i64 k ∧ wr.ownsRow w2.heap.size 39 3 v k (snL (movT T d) k) ∧ Below w2.heap.size w2 wr) (fun _ i _ => len - (intOf i).toNat)
    case atStart => exact ⟨0, Nat.zero_le _, rfl, World.ownsRow_nil _ _ _ _, Below.refl _ _⟩
    case round =>
      rename_i wr
      obtain ⟨k, hk, rfl, hown, hB⟩ := hrel
      by_cases hlt : k < len
      · obtain ⟨b, off, rfl, hbw, hc⟩ := (HS2.out).resolve_left (by omega)
        have e0 := (hB.cell (p := ⟨b, off + k * 3, none⟩) hbw).trans (hc k hlt).1
        have e1 := (hB.cell (p := ⟨b, off + k * 3 + 1, none⟩) hbw).trans (hc k hlt).2.1
        have e2 := (hB.cell (p := ⟨b, off + k * 3 + 2, none⟩) hbw).trans (hc k hlt).2.2
        have bt := BT.out k hlt
        have HSN : Hid (snL (movT T d) (k + 1) = snL (movT T d) k ++ [.int .i64 (k : Int), .int .i64 (T k + d), .slice none 0 0]) := Lib.hid rfl
        generalize T k = tk at *
        obtain ⟨td, htd⟩ : ∃ td, tk + d = td := ⟨_, rfl⟩
        rw [htd] at HSN
        have td1 : -9223372036854775808 ≤ td := by omega
        have td2 : td ≤ 9223372036854775807 := by omega
        have hlt' : (k : Int) < len := by omega
        have hsz := hB.size
        clear hc bt
        simp only at e2
        go_wp2_with (at_builtin; refine wpList_append_own _ rfl (.tmp 46) (.tmp 48) 24 rfl w2.heap.size 39 i0 (.agg #[.int .i64 0, .int .i64 0, .slice none 0 0]) 3 40 Try.underlying24 hi hz0 hz1 hz2 rfl (by decide) _ _ _ rfl ((hown.alloc _).alloc _) ⟨wr.heap.size + 1, 0, none⟩ 1 1 [.int .i64 (k : Int), .int .i64 td, .slice none 0 0] rfl rfl ?c1 ?c2 ?c3 ?c4 ?c5 ?_)
        case c2 => exact ⟨rfl, rfl, rfl⟩
        case c3 => unfold maxLen; omega
        case c4 => omega
        case c5 => omega
        intro v' w3 hown' hgrow _
        have hB' : Hid (Below w2.heap.size w2 w3) := Lib.hid (((hB.alloc hsz _).alloc (by simp; omega) _).grown hgrow (by simp; omega) (fun j e => (hown.lt j e).1))
        have HO : Hid (w3.ownsRow w2.heap.size 39 3 v' (k + 1) (snL (movT T d) (k + 1))) := Lib.hid (by rw [HSN.out]; exact hown')
        clear hown' hgrow hown hB e0 e1 e2
        go_wp2
        go_roundw
        case rel => exact ⟨k + 1, by omega, by go_num, HO.out, hB'.out⟩
        case measure => simp [intOf]; omega
      · obtain rfl : k = len := by omega
        obtain ⟨s2, cp2, rfl, hS2⟩ := snaps_of_row hown
        have HM := Lib.hid hS2
        have HL := Lib.hid (HS2.out.below hB)
        have HBR : Hid (Below w.heap.size w wr) := Lib.hid (HB2.out.trans (hB.mono HB2.out.size))
        clear hS2 hown hB HS2 HB2
        have p1 := P1.out _ cp _ HL.out
        go_wp2_with fail
        refine p1.mono ?_; rintro e w4 ⟨rfl, hb4⟩
        have HM4 := Lib.hid (HM.out.below hb4)
        have HL4 := Lib.hid (HL.out.below hb4)
        have HB4 : Hid (Below w.heap.size w w4) := Lib.hid (HBR.out.trans (hb4.mono HBR.out.size))
        have p2 := P2.out _ cp2 _ HM4.out
        clear hb4 HM HL HBR p1
        go_wp2_with fail
        refine p2.mono ?_; rintro e w5 ⟨rfl, hb5⟩
        have HM5 := Lib.hid (HM4.out.below hb5)
        have HL5 := Lib.hid (HL4.out.below hb5)
        have hB5 : Below w.heap.size w w5 := HB4.out.trans (hb5.mono HB4.out.size)
        clear hb5 HM4 HL4 HB4 p2 P1 P2
        rcases WY.out with h5 | ⟨h0, hm⟩ | ⟨j, hj, h0, ha, hb, hj1, hj2⟩
        · have h5' : (pe != 0) = true := by simp; omega
          clear h5
          go_wp2
          go_ret
          exact ⟨rfl, hB5⟩
        · subst h0; subst hm
          go_wp2
          go_ret
          exact ⟨rfl, hB5⟩
        · obtain ⟨n, hn⟩ : ∃ n, j + 1 = n := ⟨_, rfl⟩
          rw [hn] at hj hb hj2
          subst h0; subst ha; subst hb
          obtain ⟨b, off, rfl, hbw, hc⟩ := (HL5.out).resolve_left (by omega)
          obtain ⟨bm, om, rfl, hbm, hcm⟩ := (HM5.out).resolve_left (by omega)
          obtain ⟨a0, a1, a2⟩ := hc j (by omega)
          obtain ⟨b0, b1, b2⟩ := hc n (by omega)
          obtain ⟨x0, x1, x2⟩ := hcm j (by omega)
          obtain ⟨y0, y1, y2⟩ := hcm n (by omega)
          have bj := BT.out j (by omega)
          have bn := BT.out n (by omega)
          have uj := UPT.out j n (by omega)
          simp only [movT] at x1 y1
          clear hc hcm HL5 HM5
          generalize T j = tj at *
          generalize T n = tn at *
          have q1 := part_in (a := tj) (b := tn) (t := t) (by omega) (by omega) uj hj1 (by omega)
          have q2 := part_in (a := tj + d) (b := tn + d) (t := tm) (by omega) (by omega) (by omega) (by omega) (by omega)
          have p1 := bpart_f (j : Int) tj (n : Int) tn t none none 0 0 0 0
          have p2 := bpart_f (j : Int) (tj + d) (n : Int) (tn + d) tm none none 0 0 0 0
          rw [q1.1, q1.2.1, q1.2.2] at p1
          rw [q2.1, q2.2.1, q2.2.2, show tm - (tj + d) = t - tj by have := HTM.out; omega, show tn + d - (tj + d) = tn - tj by omega] at p2
          generalize t - tj = pn at *
          generalize tn - tj = pd at *
          obtain ⟨vj, hvj⟩ : ∃ v, tj + d = v := ⟨_, rfl⟩
          obtain ⟨vn, hvn⟩ : ∃ v, tn + d = v := ⟨_, rfl⟩
          rw [hvj] at p2 x1
          rw [hvn] at p2 y1
          have hj' : (j : Int) < k := by omega
          have hn' : (n : Int) < k := by omega
          have hn1 : 1 ≤ (n : Int) := by omega
          have j0 : 0 ≤ (j : Int) := by omega
          have k0 : decide ((n : Int) < 1) = false := decide_eq_false (by omega)
          have k1 : decide ((k : Int) ≤ (n : Int)) = false := decide_eq_false (by omega)
          have k2 : decide ((j : Int) < 0) = false := decide_eq_false (by omega)
          have k3 : decide ((k : Int) ≤ (j : Int)) = false := decide_eq_false (by omega)
          have hwd : IntKind.i64.wrap d = d := by rw [IntKind.wrap_i64]; omega
          have hwt : IntKind.i64.wrap tm = tm := by rw [IntKind.wrap_i64]; omega
          clear q1 q2 bj bn uj hj1 hj2 hvj hvn hn
          go_wp2_with fail
          go_region_held3 (fun w' => ((w'.cell? ⟨b, off + j * 3, none⟩ = some (.int .i64 (j : Int)) ∧ w'.cell? ⟨b, off + j * 3 + 1, none⟩ = some (.int .i64 tj) ∧ w'.cell? ⟨b, off + j * 3 + 2, none⟩ = some (.slice none 0 0) ∧ w'.cell? ⟨b, off + n * 3, none⟩ = some (.int .i64 (n : Int)) ∧ w'.cell? ⟨b, off + n * 3 + 1, none⟩ = some (.int .i64 tn) ∧ w'.cell? ⟨b, off + n * 3 + 2, none⟩ = some (.slice none 0 0)) ∧ (w'.cell? ⟨bm, om + j * 3, none⟩ = some (.int .i64 (j : Int)) ∧ w'.cell? ⟨bm, om + j * 3 + 1, none⟩ = some (.int .i64 vj) ∧ w'.cell? ⟨bm, om + j * 3 + 2, none⟩ = some (.slice none 0 0) ∧ w'.cell? ⟨bm, om + n * 3, none⟩ = some (.int .i64 (n : Int)) ∧ w'.cell? ⟨bm, om + n * 3 + 1, none⟩ = some (.int .i64 vn) ∧ w'.cell? ⟨bm, om + n * 3 + 2, none⟩ = some (.slice none 0 0))) ∧ (b < w'.heap.size ∧ bm < w'.heap.size) ∧ Below w.heap.size w w')
            (first | (go_keep; done) | (((try dsimp only); repeat' apply And.intro) <;> (first | assumption | exact Below.drew (by assumption) | go_keep)) | (go_split_ands; exact ⟨⟨⟨(hbk.cell (p := ⟨b, off + j * 3, none⟩) (by assumption)).trans (by assumption), (hbk.cell (p := ⟨b, off + j * 3 + 1, none⟩) (by assumption)).trans (by assumption), (hbk.cell (p := ⟨b, off + j * 3 + 2, none⟩) (by assumption)).trans (by assumption), (hbk.cell (p := ⟨b, off + n * 3, none⟩) (by assumption)).trans (by assumption), (hbk.cell (p := ⟨b, off + n * 3 + 1, none⟩) (by assumption)).trans (by assumption), (hbk.cell (p := ⟨b, off + n * 3 + 2, none⟩) (by assumption)).trans (by assumption)⟩, (hbk.cell (p := ⟨bm, om + j * 3, none⟩) (by assumption)).trans (by assumption), (hbk.cell (p := ⟨bm, om + j * 3 + 1, none⟩) (by assumption)).trans (by assumption), (hbk.cell (p := ⟨bm, om + j * 3 + 2, none⟩) (by assumption)).trans (by assumption), (hbk.cell (p := ⟨bm, om + n * 3, none⟩) (by assumption)).trans (by assumption), (hbk.cell (p := ⟨bm, om + n * 3 + 1, none⟩) (by assumption)).trans (by assumption), (hbk.cell (p := ⟨bm, om + n * 3 + 2, none⟩) (by assumption)).trans (by assumption)⟩, ⟨Nat.lt_of_lt_of_le (by assumption) hbk.size, Nat.lt_of_lt_of_le (by assumption) hbk.size⟩, Below.trans (by assumption) (hbk.mono (Below.size (by assumption)))⟩))
            ((first | (go_at_call 16; ((with_reducible refine (p1 _).mono ?_); rintro e wx ⟨rfl, hbk⟩))))
          all_goals
            rename_i hH
            clear a0 a1 a2 b0 b1 b2 x0 x1 x2 y0 y1 y2 hbw hbm hB5
            obtain ⟨⟨_, x0, x1, x2, y0, y1, y2⟩, ⟨_, hbm⟩, hB6⟩ := hH
            go_wp2_with fail
            go_region_held3 (fun w' => (w'.cell? ⟨bm, om + j * 3, none⟩ = some (.int .i64 (j : Int)) ∧ w'.cell? ⟨bm, om + j * 3 + 1, none⟩ = some (.int .i64 vj) ∧ w'.cell? ⟨bm, om + j * 3 + 2, none⟩ = some (.slice none 0 0) ∧ w'.cell? ⟨bm, om + n * 3, none⟩ = some (.int .i64 (n : Int)) ∧ w'.cell? ⟨bm, om + n * 3 + 1, none⟩ = some (.int .i64 vn) ∧ w'.cell? ⟨bm, om + n * 3 + 2, none⟩ = some (.slice none 0 0)) ∧ bm < w'.heap.size ∧ Below w.heap.size w w')
              (first | (go_keep; done) | (((try dsimp only); repeat' apply And.intro) <;> (first | assumption | exact Below.drew (by assumption) | go_keep)) | (go_split_ands; exact ⟨⟨(hbk.cell (p := ⟨bm, om + j * 3, none⟩) (by assumption)).trans (by assumption), (hbk.cell (p := ⟨bm, om + j * 3 + 1, none⟩) (by assumption)).trans (by assumption), (hbk.cell (p := ⟨bm, om + j * 3 + 2, none⟩) (by assumption)).trans (by assumption), (hbk.cell (p := ⟨bm, om + n * 3, none⟩) (by assumption)).trans (by assumption), (hbk.cell (p := ⟨bm, om + n * 3 + 1, none⟩) (by assumption)).trans (by assumption), (hbk.cell (p := ⟨bm, om + n * 3 + 2, none⟩) (by assumption)).trans (by assumption)⟩, Nat.lt_of_lt_of_le (by assumption) hbk.size, Below.trans (by assumption) (hbk.mono (Below.size (by assumption)))⟩))
              ((first | (go_at_call 16; ((with_reducible refine (p2 _).mono ?_); rintro e wx ⟨rfl, hbk⟩))))
            all_goals
              rename_i hH
              obtain ⟨_, _, hZ⟩ := hH
              go_wp2
              go_ret
              exact ⟨rfl, hZ⟩
end Go.Proofs.Ytkfebgdflbplbaa
