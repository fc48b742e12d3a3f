/- The laws BracketPicks, BracketParts and BracketBeyond, walked: each returns true (printed by gen/br8.py). -/
import Derived.Test.YtkfebgdflbplbaaBr7
namespace Go.Proofs.Ytkfebgdflbplbaa
set_option linter.unusedVariables false
set_option linter.unusedSimpArgs false
open Go.RowKit

set_option maxHeartbeats 1000000 in
theorem bracketPicks_walk (at0 : Int) (a : Option Addr) (len cap : Nat) (zs : List Int) (w : World) (_ : I64 at0) (hs : IntsAt .i64 w a len zs) (hy : len * 8 ≤ 140737488351232) :
    Calls Try.prog 3 #[.int .i64 at0, .slice a len cap] w fun e w' => e = .returned (.bool true) ∧ Below w.heap.size w w' := by
  by_cases hl : len ≤ 300
  · have hl2 : (len : Int) ≤ 300 := by omega
    have SN := snaps_f a len cap zs w hs (by omega)
    generalize (fun i => zs.getD i 0) = T at *
    clear hs hy
    go_enter Try.func3, Try.ntmps3
    go_wp2_with fail
    refine SN.mono ?_; rintro e w1 ⟨s, cp, rfl, hS, hb1⟩
    have HB1 := Lib.hid hb1
    have c1 := pick_f at0 s len cp _ T _ w1 hS (by omega)
    have HS := Lib.hid hS
    clear hb1 hS SN
    go_wp2_with fail
    refine c1.mono ?_; rintro e w2 ⟨rfl, hb2⟩
    have hS := HS.out.below hb2
    have HB2 : Hid (Below w.heap.size w w2) := Lib.hid (HB1.out.trans (hb2.mono HB1.out.size))
    have c2 := rpick_f at0 s len cp _ T _ w2 hS (by omega)
    have HS2 := Lib.hid hS
    clear hb2 hS HS HB1 c1
    generalize pickA T at0 len = pa at *
    generalize pickB T at0 len = pb at *
    generalize pickE T at0 len = pe at *
    go_wp2_with fail
    refine c2.mono ?_; rintro e w3 ⟨rfl, hb3⟩
    have HS3 := Lib.hid (HS2.out.below hb3)
    have HB3 : Hid (Below w.heap.size w w3) := Lib.hid (HB2.out.trans (hb3.mono HB2.out.size))
    clear hb3 HS2 HB2 c2
    go_wp2_with fail
    refine (alive18_f _).mono ?_; rintro e w4 ⟨rfl, hb4⟩
    have HS4 := Lib.hid (HS3.out.below hb4)
    have HB4 : Hid (Below w.heap.size w w4) := Lib.hid (HB3.out.trans (hb4.mono HB3.out.size))
    have c3 := bcheck_b s len cp _ T _ w4 HS4.out (by omega)
    clear hb4 HS3 HB3
    go_wp2_with fail
    refine c3.mono ?_; rintro e w5 ⟨rfl, hb5⟩
    have HS5 := Lib.hid (HS4.out.below hb5)
    have HB5 : Hid (Below w.heap.size w w5) := Lib.hid (HB4.out.trans (hb5.mono HB4.out.size))
    have c4 := rcheck_b s len cp _ T _ w5 HS5.out (by omega)
    clear hb5 HS4 HB4 c3
    generalize chkT T len = cc at *
    go_wp2_with fail
    refine c4.mono ?_; rintro e w6 ⟨rfl, hb6⟩
    have HB6 : Hid (Below w.heap.size w w6) := Lib.hid (HB5.out.trans (hb6.mono HB5.out.size))
    clear hb6 HS5 HB5 c4
    go_wp2
    go_ret
    exact ⟨rfl, HB6.out⟩
  · have hl2 : (300 : Int) < len := by omega
    have hl3 : (len : Int) ≤ 9223372036854775807 := by omega
    clear hs
    go_enter Try.func3, Try.ntmps3
    go_wp2_with fail
    refine (alive18_f _).mono ?_; rintro e w1 ⟨rfl, hb1⟩
    go_wp2
    go_ret
    exact ⟨rfl, hb1⟩

set_option maxRecDepth 100000 in
set_option maxHeartbeats 2000000 in
theorem bracketParts_walk (x y at0 : Int) (hx : I64 x) (hy : I64 y) (ha : I64 at0) (w : World) :
    Calls Try.prog 6 #[.int .i64 x, .int .i64 y, .int .i64 at0] w fun e w' => e = .returned (.bool true) ∧ Below w.heap.size w w' := by
  have IA : IntsAt .i64 (w.alloc (.cells #[.int .i64 x, .int .i64 y] 2)) (some ⟨w.heap.size, 0, none⟩) 2 [x, y] := by
    refine ⟨rfl, fun z hz => ?_, .inr ⟨w.heap.size, 0, rfl, by simp, fun i hi => ?_⟩⟩
    · unfold I64 at hx hy
      simp at hz
      rcases hz with rfl | rfl <;> simp [Lit.wf, IntKind.min, IntKind.max, IntKind.bits, IntKind.signed] <;> omega
    have b := Blk.new w #[.int .i64 x, .int .i64 y] 2
    match i, hi with
    | 0, _ => exact b.cell 0
    | 1, _ => exact b.cell 1
  have SN := snaps_f (some ⟨w.heap.size, 0, none⟩) 2 2 [x, y] _ IA (by decide)
  have HBW : Hid (Below w.heap.size w (w.alloc (.cells #[.int .i64 x, .int .i64 y] 2))) := Lib.hid (by (repeat (first | exact Below.refl _ _ | assumption | (refine Below.drew ?_) | (refine below_drewN ?_ _) | (refine Below.alloc ?_ (by simp <;> omega) _) | (refine Below.setCell ?_ (by simp <;> omega) _))))
  have p1 := bpart_f 0 x 1 y at0 none none 0 0 0 0
  have p2 := rbpart_f 0 x 1 y at0 none none 0 0 0 0
  have q1 := bey_f 0 x at0 none 0 0 hx ha
  have q2 := rbey_f 0 x at0 none 0 0 hx ha
  generalize partN x y at0 = pn at *
  generalize partD x y at0 = pd at *
  generalize partE x y at0 = pe at *
  generalize beyN x at0 = bn at *
  generalize beyE x at0 = be at *
  clear IA hx hy ha
  go_enter Try.func6, Try.ntmps6
  go_wp2_with fail
  refine SN.mono ?_; rintro e w1 ⟨s, cp, rfl, hS, hb1⟩
  have hB : Below w.heap.size w w1 := HBW.out.trans (hb1.mono HBW.out.size)
  clear hb1 HBW SN
  rcases hS with h0 | ⟨b, off, rfl, hbw, hc⟩
  · exact absurd h0 (by decide)
  obtain ⟨a0, a1, a2⟩ := hc 0 (by decide)
  obtain ⟨b0, b1, b2⟩ := hc 1 (by decide)
  clear hc
  simp at a0 a1 a2 b0 b1 b2
  go_wp2_with fail
  go_region_held3 (fun w' => (w'.cell? ⟨b, off, none⟩ = some (.int .i64 0) ∧ w'.cell? ⟨b, off + 1, none⟩ = some (.int .i64 x) ∧ w'.cell? ⟨b, off + 2, none⟩ = some (.slice none 0 0) ∧ w'.cell? ⟨b, off + 3, none⟩ = some (.int .i64 1) ∧ w'.cell? ⟨b, off + 3 + 1, none⟩ = some (.int .i64 y) ∧ w'.cell? ⟨b, off + 3 + 2, none⟩ = some (.slice none 0 0)) ∧ b < w'.heap.size ∧ Below w.heap.size w w')
    (first | (go_keep; done) | (((try dsimp only); repeat' apply And.intro) <;> (first | assumption | exact Below.drew (by assumption) | go_keep)) | (go_split_ands; exact ⟨⟨(hbk.cell (p := ⟨b, off, none⟩) (by assumption)).trans (by assumption), (hbk.cell (p := ⟨b, off + 1, none⟩) (by assumption)).trans (by assumption), (hbk.cell (p := ⟨b, off + 2, none⟩) (by assumption)).trans (by assumption), (hbk.cell (p := ⟨b, off + 3, none⟩) (by assumption)).trans (by assumption), (hbk.cell (p := ⟨b, off + 3 + 1, none⟩) (by assumption)).trans (by assumption), (hbk.cell (p := ⟨b, off + 3 + 2, none⟩) (by assumption)).trans (by assumption)⟩, Nat.lt_of_lt_of_le (by assumption) hbk.size, Below.trans (by assumption) (hbk.mono (Below.size (by assumption)))⟩))
    ((first | (go_at_call 16; ((with_reducible refine (p1 _).mono ?_); rintro e wx ⟨rfl, hbk⟩))))
  all_goals
    rename_i hH
    clear a0 a1 a2 b0 b1 b2 hbw hB
    obtain ⟨⟨a0, a1, a2, b0, b1, b2⟩, hbw, hB⟩ := hH
    go_wp2_with fail
    go_region_held3 (fun w' => (w'.cell? ⟨b, off, none⟩ = some (.int .i64 0) ∧ w'.cell? ⟨b, off + 1, none⟩ = some (.int .i64 x) ∧ w'.cell? ⟨b, off + 2, none⟩ = some (.slice none 0 0) ∧ w'.cell? ⟨b, off + 3, none⟩ = some (.int .i64 1) ∧ w'.cell? ⟨b, off + 3 + 1, none⟩ = some (.int .i64 y) ∧ w'.cell? ⟨b, off + 3 + 2, none⟩ = some (.slice none 0 0)) ∧ b < w'.heap.size ∧ Below w.heap.size w w')
      (first | (go_keep; done) | (((try dsimp only); repeat' apply And.intro) <;> (first | assumption | exact Below.drew (by assumption) | go_keep)) | (go_split_ands; exact ⟨⟨(hbk.cell (p := ⟨b, off, none⟩) (by assumption)).trans (by assumption), (hbk.cell (p := ⟨b, off + 1, none⟩) (by assumption)).trans (by assumption), (hbk.cell (p := ⟨b, off + 2, none⟩) (by assumption)).trans (by assumption), (hbk.cell (p := ⟨b, off + 3, none⟩) (by assumption)).trans (by assumption), (hbk.cell (p := ⟨b, off + 3 + 1, none⟩) (by assumption)).trans (by assumption), (hbk.cell (p := ⟨b, off + 3 + 2, none⟩) (by assumption)).trans (by assumption)⟩, Nat.lt_of_lt_of_le (by assumption) hbk.size, Below.trans (by assumption) (hbk.mono (Below.size (by assumption)))⟩))
      ((first | (go_at_call 17; ((with_reducible refine (p2 _).mono ?_); rintro e wx ⟨rfl, hbk⟩))))
    all_goals
      rename_i hH
      clear a0 a1 a2 b0 b1 b2 hbw hB
      obtain ⟨⟨a0, a1, a2, b0, b1, b2⟩, hbw, hB⟩ := hH
    all_goals
      go_wp2_with fail
      refine (q1 _).mono ?_; rintro e w4 ⟨rfl, hb⟩
      have a0' := (hb.cell (p := ⟨b, off, none⟩) hbw).trans a0
      have a1' := (hb.cell (p := ⟨b, off + 1, none⟩) hbw).trans a1
      have a2' := (hb.cell (p := ⟨b, off + 2, none⟩) hbw).trans a2
      have hbw := Nat.lt_of_lt_of_le hbw hb.size
      have hB := hB.trans (hb.mono hB.size)
      clear hb a0 a1 a2
      have a0 := a0'; have a1 := a1'; have a2 := a2'
      clear a0' a1' a2'
      go_wp2_with fail
      refine (q2 _).mono ?_; rintro e w5 ⟨rfl, hb⟩
      have a0' := (hb.cell (p := ⟨b, off, none⟩) hbw).trans a0
      have a1' := (hb.cell (p := ⟨b, off + 1, none⟩) hbw).trans a1
      have a2' := (hb.cell (p := ⟨b, off + 2, none⟩) hbw).trans a2
      have hbw := Nat.lt_of_lt_of_le hbw hb.size
      have hB := hB.trans (hb.mono hB.size)
      clear hb a0 a1 a2
      have a0 := a0'; have a1 := a1'; have a2 := a2'
      clear a0' a1' a2'
      go_wp2_with fail
      refine (alive18_f _).mono ?_; rintro e w6 ⟨rfl, hb⟩
      have hB := hB.trans (hb.mono hB.size)
      clear hb a0 a1 a2 b0 b1 b2
      go_wp2
      go_ret
      exact ⟨rfl, hB⟩

theorem chk_one {a : Int} (h0 : -2305843009213693952 ≤ a) (h1 : a ≤ 2305843009213693952) : chkT (fun _ => a) 1 = 0 := by
  unfold chkT chkFrom
  rw [if_neg (by omega), if_neg (by omega)]
  rfl
theorem bey_in {a d : Int} (h0 : -2305843009213693952 ≤ a) (h1 : a ≤ 2305843009213693952) (hd0 : 0 ≤ d) (hd1 : d ≤ 2305843009213693952) : beyE a (a + d) = 0 ∧ beyN a (a + d) = d := by
  have e : beyE a (a + d) = 0 := by unfold beyE; rw [if_pos (chk_one h0 h1), if_neg (by omega)]
  refine ⟨e, ?_⟩
  unfold beyN; rw [if_pos e]; unfold subF sat; omega
theorem bey_out {a d : Int} (h0 : -2305843009213693952 ≤ a) (h1 : a ≤ 2305843009213693952) (hd0 : d < a) : beyE a d = 3 ∧ beyN a d = 0 := by
  have e : beyE a d = 3 := by unfold beyE; rw [if_pos (chk_one h0 h1), if_pos hd0]
  refine ⟨e, ?_⟩
  unfold beyN; rw [e]; rfl

set_option maxRecDepth 100000 in
set_option maxHeartbeats 2000000 in
theorem bracketBeyond_walk (time s0 s1 : Int) (ht : I64 time) (h0 : 0 ≤ s0 ∧ s0 ≤ 4294967295) (h1 : 0 ≤ s1 ∧ s1 ≤ 4294967295) (w : World) :
    Calls Try.prog 7 #[.int .i64 time, .agg #[.int .u32 s0, .int .u32 s1]] w fun e w' => e = .returned (.bool true) ∧ Below w.heap.size w w' := by
  obtain ⟨t, htt⟩ : ∃ t, time.tmod 1152921504606846976 = t := ⟨_, rfl⟩
  have t1 : -1152921504606846976 < t ∧ t < 1152921504606846976 := by
    have a := Int.lt_of_lt_of_le (Int.emod_lt_of_pos time (show (0 : Int) < 1152921504606846976 by decide)) (Int.le_refl _)
    rw [← htt, Int.tmod_eq_emod]; unfold I64 at ht
    split <;> omega
  obtain ⟨t1, t2⟩ := t1
  obtain ⟨a1, a2⟩ := h0
  obtain ⟨b1, b2⟩ := h1
  have it : I64 t := by unfold I64; omega
  have c1 := bey_f 0 t t none 0 0 it it
  have e1 := bey_in (a := t) (d := 0) (by omega) (by omega) (by omega) (by omega)
  rw [Int.add_zero] at e1
  rw [e1.1, e1.2] at c1
  have c2 := bey_f 0 t (t + s0) none 0 0 it (by unfold I64; omega)
  have e2 := bey_in (a := t) (d := s0) (by omega) (by omega) (by omega) (by omega)
  rw [e2.1, e2.2] at c2
  have c3 := bey_f 0 t (t + s0 + s1) none 0 0 it (by unfold I64; omega)
  have e3 := bey_in (a := t) (d := s0 + s1) (by omega) (by omega) (by omega) (by omega)
  rw [← Int.add_assoc] at e3
  rw [e3.1, e3.2] at c3
  have c4 := bey_f 0 t (t - 1 - s0) none 0 0 it (by unfold I64; omega)
  have e4 := bey_out (a := t) (d := t - 1 - s0) (by omega) (by omega) (by omega)
  rw [e4.1, e4.2] at c4
  clear e1 e2 e3 e4 it ht
  have W2 := fun w1 (hb1 : Below (w.heap.size + 1 + 1) ((w.alloc (.cells #[.int .u32 s0, .int .u32 s1] 52)).alloc (.cells #[.int .i64 0, .int .i64 t, .slice none 0 0] 39)) w1) => (show Blk w1 w.heap.size #[.int .u32 s0, .int .u32 s1] 52 ∧ Blk w1 (w.heap.size + 1) #[.int .i64 0, .int .i64 t, .slice none 0 0] 39 ∧ Below w.heap.size w w1 from ⟨((Blk.new w #[.int .u32 s0, .int .u32 s1] 52).alloc _).below hb1 (by omega), (show Blk _ (w.heap.size + 1) _ _ by have e := Blk.new (w.alloc (.cells #[.int .u32 s0, .int .u32 s1] 52)) #[.int .i64 0, .int .i64 t, .slice none 0 0] 39; simpa using e).below hb1 (by omega), Below.trans (by (repeat (first | exact Below.refl _ _ | assumption | (refine Below.drew ?_) | (refine below_drewN ?_ _) | (refine Below.alloc ?_ (by simp <;> omega) _) | (refine Below.setCell ?_ (by simp <;> omega) _)))) (hb1.mono (by omega))⟩)
  have W2 := Lib.hid W2
  go_enter Try.func7, Try.ntmps7
  go_wp2_with fail
  refine (c1 _).mono ?_; rintro e w1 ⟨rfl, hb1⟩
  obtain ⟨BS, BN, hB⟩ := W2.out w1 (by simpa using hb1)
  clear hb1 W2 c1
  have qs0 := BS.cell 0; have qs1 := BS.cell 1; have qn0 := BN.cell 0; have qn1 := BN.cell 1; have qn2 := BN.cell 2
  simp at qs0 qs1 qn0 qn1 qn2
  have HS := Lib.hid BS; have HN := Lib.hid BN; have HB := Lib.hid hB
  clear BS BN hB
  go_wp2_with fail
  refine (c2 _).mono ?_; rintro e w2 ⟨rfl, hb⟩
  have BS := HS.out.below hb HS.out.lt
  have BN := HN.out.below hb HN.out.lt
  have hB := HB.out.trans (hb.mono HB.out.size)
  clear hb HS HN HB qs0 qs1 qn0 qn1 qn2
  have qs0 := BS.cell 0; have qs1 := BS.cell 1; have qn0 := BN.cell 0; have qn1 := BN.cell 1; have qn2 := BN.cell 2
  simp at qs0 qs1 qn0 qn1 qn2
  have HS := Lib.hid BS; have HN := Lib.hid BN; have HB := Lib.hid hB
  clear BS BN hB
  go_wp2_with fail
  refine (c3 _).mono ?_; rintro e w3 ⟨rfl, hb⟩
  have BS := HS.out.below hb HS.out.lt
  have BN := HN.out.below hb HN.out.lt
  have hB := HB.out.trans (hb.mono HB.out.size)
  clear hb HS HN HB qs0 qs1 qn0 qn1 qn2
  have qs0 := BS.cell 0; have qs1 := BS.cell 1; have qn0 := BN.cell 0; have qn1 := BN.cell 1; have qn2 := BN.cell 2
  simp at qs0 qs1 qn0 qn1 qn2
  have HS := Lib.hid BS; have HN := Lib.hid BN; have HB := Lib.hid hB
  clear BS BN hB
  go_wp2_with fail
  refine (c4 _).mono ?_; rintro e w4 ⟨rfl, hb⟩
  have BS := HS.out.below hb HS.out.lt
  have BN := HN.out.below hb HN.out.lt
  have hB := HB.out.trans (hb.mono HB.out.size)
  clear hb HS HN HB qs0 qs1 qn0 qn1 qn2
  have qs0 := BS.cell 0; have qs1 := BS.cell 1; have qn0 := BN.cell 0; have qn1 := BN.cell 1; have qn2 := BN.cell 2
  simp at qs0 qs1 qn0 qn1 qn2
  have HS := Lib.hid BS; have HN := Lib.hid BN; have HB := Lib.hid hB
  clear BS BN hB
  go_wp2_with fail
  refine (alive18_f _).mono ?_; rintro e w5 ⟨rfl, hb⟩
  have BS := HS.out.below hb HS.out.lt
  have BN := HN.out.below hb HN.out.lt
  have hB := HB.out.trans (hb.mono HB.out.size)
  clear hb HS HN HB qs0 qs1 qn0 qn1 qn2
  have qs0 := BS.cell 0; have qs1 := BS.cell 1; have qn0 := BN.cell 0; have qn1 := BN.cell 1; have qn2 := BN.cell 2
  simp at qs0 qs1 qn0 qn1 qn2
  have HS := Lib.hid BS; have HN := Lib.hid BN; have HB := Lib.hid hB
  clear BS BN hB
  go_wp2
  go_ret
  exact ⟨rfl, HB.out⟩

end Go.Proofs.Ytkfebgdflbplbaa
