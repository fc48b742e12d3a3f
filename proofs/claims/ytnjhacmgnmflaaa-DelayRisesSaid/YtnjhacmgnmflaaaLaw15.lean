/- The laws of layer 15, walked: each returns true. -/
import Derived.Test.YtnjhacmgnmflaaaRef15
namespace Go.Proofs.Ytnjhacmgnmflaaa
set_option linter.unusedVariables false
set_option linter.unusedSimpArgs false
open Go.RowKit

/-- the example's config -/
def exC : Cfg := { ring := 0, window := 0, base := 10, gain := 131072, least := 5, most := 100, slack := 8, num := 0, den := 0, extra := 0, curved := false }
theorem exC_ok : exC.Ok := by constructor <;> (unfold I64 exC; decide)
theorem exC_val : cfgV exC = .agg #[.int .i64 0, .int .i64 0, .int .i64 10, .int .i64 131072, .int .i64 5, .int .i64 100, .int .i64 8, .int .i64 0, .int .i64 0, .int .i64 0, .bool false] := rfl

theorem example_f (w : World) :
    Calls Try.prog 41 #[] w fun e w' => e = .returned (cfgV exC) ∧ Below w.heap.size w w' := by
  go_enter Try.func41, Try.ntmps41
  go_wp2
  exact bodyPost_ret (v := cfgV exC) (by rw [exC_val]; simp [results, Try.results41, go_sem]) rfl ⟨rfl, (Below.refl _ _).alloc (Nat.le_refl _) _⟩

set_option maxRecDepth 100000 in
theorem alive_f (w : World) : Calls Try.prog 19 #[] w fun e w' => e = .returned (.bool true) ∧ Below w.heap.size w w' := by
  have ex := example_f
  have nw := dnew_ok exC exC_ok (by decide)
  rw [exC_val] at ex nw
  have l1 : InLim exC 10 := by unfold InLim exC; decide
  have u1 := fun b w h => dupdate_f b exC 10 0 4 w exC_ok (by decide) l1 (by unfold I64; omega) (by omega) (by omega) h
  rw [show updF exC 10 4 = 10 by decide, show updN exC 10 0 4 = 0 by decide] at u1
  have u2 := fun b w h => dupdate_f b exC 10 0 5 w exC_ok (by decide) l1 (by unfold I64; omega) (by omega) (by omega) h
  rw [show updF exC 10 5 = 20 by decide, show updN exC 10 0 5 = 1 by decide] at u2
  clear l1
  go_enter Try.func19, Try.ntmps19
  go_wp2_with fail
  refine (ex _).mono ?_; rintro e w1 ⟨rfl, hb1⟩
  have HB1 := Lib.hid hb1; clear hb1
  go_wp2_with fail
  refine (nw _).mono ?_; rintro e w2 ⟨b, rfl, hlb, hd, hb2⟩
  rw [show targF exC 0 = 10 by decide] at hd
  have hlb2 : w.heap.size ≤ b := Nat.le_trans HB1.out.size hlb
  have HB2 : Hid (Below w.heap.size w w2) := Lib.hid (HB1.out.trans (hb2.mono HB1.out.size))
  clear HB1 hb2 hlb
  have n1 := dnow_f b exC 10 0 w2 hd
  have v1 := u1 b w2 hd
  clear hd
  go_wp2_with fail
  refine n1.mono ?_; rintro e w' ⟨rfl, rfl⟩
  go_wp2_with fail
  refine v1.mono ?_; rintro e w3 ⟨rfl, hd3, ho3⟩
  have v2 := u2 b w3 hd3
  clear n1 v1 hd3
  go_wp2_with fail
  refine v2.mono ?_; rintro e w4 ⟨rfl, hd4, ho4⟩
  have n2 := dchanges_f b exC 20 1 w4 hd4
  clear v2 hd4
  go_wp2_with fail
  refine n2.mono ?_; rintro e w' ⟨rfl, rfl⟩
  go_wp2
  go_ret
  have e1 := ho3.below HB2.out.size (by rintro k rfl; exact hlb2)
  have e2 := ho4.below (Nat.le_trans HB2.out.size e1.size) (by rintro k rfl; exact hlb2)
  exact ⟨rfl, (HB2.out.trans e1).trans e2⟩

theorem lm {b i : Nat} {wa wb : World} {v : Value} (h : Below wa.heap.size wa wb) (l : b < wa.heap.size) (hc : wa.cell? ⟨b, i, none⟩ = some v) : wb.cell? ⟨b, i, none⟩ = some v :=
  (h.cell (p := ⟨b, i, none⟩) l).trans hc

set_option maxRecDepth 100000 in
set_option maxHeartbeats 1000000 in
theorem delayTargets_go (c : Cfg) (j : Int) (ok : c.Ok) (hj : I64 j) (w : World) :
    Calls Try.prog 3 #[cfgV c, .int .i64 j] w fun e w' => e = .returned (.bool true) ∧ Below w.heap.size w w' := by
  have tg := target_f c j ok hj
  have rc := rcheck15_f c
  have ck := dcheck_f c
  have HA : Hid (targA c j = if dchk c = 0 then targF c j else 0) := Lib.hid rfl
  by_cases h0 : dchk c = 0
  · have nw := dnew_ok c ok h0
    rw [show targA c j = targF c j by rw [HA.out, if_pos h0]] at tg
    have r1 := rtarget_f c j ok hj
    have r2 := rtarget_f c 0 ok (by unfold I64; omega)
    rw [h0] at rc ck
    clear h0 HA
    unfold cfgV at tg rc ck nw r1 r2 ⊢
    generalize targF c j = t at *
    go_enter Try.func3, Try.ntmps3
    go_wp2_with fail
    refine (tg _).mono ?_; rintro e w1 ⟨rfl, hb1⟩
    have CB := Lib.hid ((Blk.new w #[.int .i64 c.ring, .int .i64 c.window, .int .i64 c.base, .int .i64 c.gain, .int .i64 c.least, .int .i64 c.most, .int .i64 c.slack, .int .i64 c.num, .int .i64 c.den, .int .i64 c.extra, .bool c.curved] 23).below hb1 (by simp))
    obtain ⟨q0, q1, q2, q3, q4, q5, q6, q7, q8, q9, q10⟩ := cfg_cells CB.out
    have HB : Hid (Below w.heap.size w w1) := Lib.hid (((Below.refl _ _).alloc (Nat.le_refl _) _).trans (hb1.mono (by simp)))
    clear hb1
    go_wp2_with fail
    refine (rc _).mono ?_; rintro e w2 ⟨rfl, hb2⟩
    have CBn := Lib.hid (CB.out.below hb2 CB.out.lt)
    clear q0 q1 q2 q3 q4 q5 q6 q7 q8 q9 q10 CB
    have CB := CBn
    clear CBn
    obtain ⟨q0, q1, q2, q3, q4, q5, q6, q7, q8, q9, q10⟩ := cfg_cells CB.out
    have HB2 : Hid (Below w.heap.size w w2) := Lib.hid (HB.out.trans (hb2.mono HB.out.size))
    clear hb2 HB
    go_wp2_with fail
    refine (nw _).mono ?_; rintro e w3 ⟨b, rfl, hlb, hd, hb3⟩
    have CBn := Lib.hid (CB.out.below hb3 CB.out.lt)
    clear q0 q1 q2 q3 q4 q5 q6 q7 q8 q9 q10 CB
    have CB := CBn
    clear CBn
    obtain ⟨q0, q1, q2, q3, q4, q5, q6, q7, q8, q9, q10⟩ := cfg_cells CB.out
    have HB3 : Hid (Below w.heap.size w w3) := Lib.hid (HB2.out.trans (hb3.mono HB2.out.size))
    clear hb3 HB2 hlb
    have HD := Lib.hid hd
    clear hd
    go_wp2_with fail
    refine (ck _).mono ?_; rintro e w4 ⟨rfl, hb4⟩
    have CBn := Lib.hid (CB.out.below hb4 CB.out.lt)
    clear q0 q1 q2 q3 q4 q5 q6 q7 q8 q9 q10 CB
    have CB := CBn
    clear CBn
    obtain ⟨q0, q1, q2, q3, q4, q5, q6, q7, q8, q9, q10⟩ := cfg_cells CB.out
    have hd : DelAt w4 b c (targF c 0) 0 := HD.out.below hb4 HD.out.lt
    have HB4 : Hid (Below w.heap.size w w4) := Lib.hid (HB3.out.trans (hb4.mono HB3.out.size))
    clear hb4 HB3 HD
    generalize targF c 0 = t0 at *
    have lc := CB.out.lt
    have ld := hd.lt
    go_wp2_with fail
    have hB4 := HB4.out
    go_region_held3 (fun w' => (w'.cell? ⟨w.heap.size, 0, none⟩ = some (.int .i64 c.ring) ∧ w'.cell? ⟨w.heap.size, 1, none⟩ = some (.int .i64 c.window) ∧ w'.cell? ⟨w.heap.size, 2, none⟩ = some (.int .i64 c.base) ∧ w'.cell? ⟨w.heap.size, 3, none⟩ = some (.int .i64 c.gain) ∧ w'.cell? ⟨w.heap.size, 4, none⟩ = some (.int .i64 c.least) ∧ w'.cell? ⟨w.heap.size, 5, none⟩ = some (.int .i64 c.most) ∧ w'.cell? ⟨w.heap.size, 6, none⟩ = some (.int .i64 c.slack) ∧ w'.cell? ⟨w.heap.size, 7, none⟩ = some (.int .i64 c.num) ∧ w'.cell? ⟨w.heap.size, 8, none⟩ = some (.int .i64 c.den) ∧ w'.cell? ⟨w.heap.size, 9, none⟩ = some (.int .i64 c.extra) ∧ w'.cell? ⟨w.heap.size, 10, none⟩ = some (.bool c.curved)) ∧ DelAt w' b c t0 0 ∧ w.heap.size < w'.heap.size ∧ Below w.heap.size w w')
      (first | (go_keep; done) | (((try dsimp only); repeat' apply And.intro) <;> (first | assumption | exact Below.drew (by assumption) | go_keep)) | (go_split_ands; exact ⟨⟨lm hbk (by assumption) (by assumption), lm hbk (by assumption) (by assumption), lm hbk (by assumption) (by assumption), lm hbk (by assumption) (by assumption), lm hbk (by assumption) (by assumption), lm hbk (by assumption) (by assumption), lm hbk (by assumption) (by assumption), lm hbk (by assumption) (by assumption), lm hbk (by assumption) (by assumption), lm hbk (by assumption) (by assumption), lm hbk (by assumption) (by assumption)⟩, Blk.below (by assumption) hbk (Blk.lt (by assumption)), Nat.lt_of_lt_of_le (by assumption) hbk.size, Below.trans (by assumption) (hbk.mono (Nat.le_of_lt (by assumption)))⟩))
      ((first | (go_at_call 19; refine (alive_f _).mono ?_; rintro e wx ⟨rfl, hbk⟩) | (go_at_call 20; ((with_reducible refine (r1 _).mono ?_); rintro e wx ⟨rfl, hbk⟩)) | (go_at_call 20; ((with_reducible refine (r2 _).mono ?_); rintro e wx ⟨rfl, hbk⟩)) | (go_at_call 21; refine (dnow_f b c t0 0 _ (by go_split_ands; assumption)).mono ?_; rintro e wx ⟨rfl, rfl⟩) | (go_at_call 22; refine (dchanges_f b c t0 0 _ (by go_split_ands; assumption)).mono ?_; rintro e wx ⟨rfl, rfl⟩)))
    all_goals
      go_wp2
      go_ret
      go_split_ands
      exact ⟨rfl, by assumption⟩
  · have nw := dnew_bad c h0
    rw [show targA c j = 0 by rw [HA.out, if_neg h0]] at tg
    have h0' : (dchk c != 0) = true := by simpa using h0
    clear h0 HA
    unfold cfgV at tg rc ck nw ⊢
    generalize dchk c = k at *
    go_enter Try.func3, Try.ntmps3
    go_wp2_with fail
    refine (tg _).mono ?_; rintro e w1 ⟨rfl, hb1⟩
    have CB := Lib.hid ((Blk.new w #[.int .i64 c.ring, .int .i64 c.window, .int .i64 c.base, .int .i64 c.gain, .int .i64 c.least, .int .i64 c.most, .int .i64 c.slack, .int .i64 c.num, .int .i64 c.den, .int .i64 c.extra, .bool c.curved] 23).below hb1 (by simp))
    obtain ⟨q0, q1, q2, q3, q4, q5, q6, q7, q8, q9, q10⟩ := cfg_cells CB.out
    have HB : Hid (Below w.heap.size w w1) := Lib.hid (((Below.refl _ _).alloc (Nat.le_refl _) _).trans (hb1.mono (by simp)))
    clear hb1
    go_wp2_with fail
    refine (rc _).mono ?_; rintro e w2 ⟨rfl, hb2⟩
    have CBn := Lib.hid (CB.out.below hb2 CB.out.lt)
    clear q0 q1 q2 q3 q4 q5 q6 q7 q8 q9 q10 CB
    have CB := CBn
    clear CBn
    obtain ⟨q0, q1, q2, q3, q4, q5, q6, q7, q8, q9, q10⟩ := cfg_cells CB.out
    have HB2 : Hid (Below w.heap.size w w2) := Lib.hid (HB.out.trans (hb2.mono HB.out.size))
    clear hb2 HB
    go_wp2_with fail
    refine (nw _).mono ?_; rintro e w3 ⟨rfl, hb3⟩
    have CBn := Lib.hid (CB.out.below hb3 CB.out.lt)
    clear q0 q1 q2 q3 q4 q5 q6 q7 q8 q9 q10 CB
    have CB := CBn
    clear CBn
    obtain ⟨q0, q1, q2, q3, q4, q5, q6, q7, q8, q9, q10⟩ := cfg_cells CB.out
    have HB3 : Hid (Below w.heap.size w w3) := Lib.hid (HB2.out.trans (hb3.mono HB2.out.size))
    clear hb3 HB2
    go_wp2_with fail
    refine (ck _).mono ?_; rintro e w4 ⟨rfl, hb4⟩
    have CBn := Lib.hid (CB.out.below hb4 CB.out.lt)
    clear q0 q1 q2 q3 q4 q5 q6 q7 q8 q9 q10 CB
    have CB := CBn
    clear CBn
    obtain ⟨q0, q1, q2, q3, q4, q5, q6, q7, q8, q9, q10⟩ := cfg_cells CB.out
    have HB4 : Hid (Below w.heap.size w w4) := Lib.hid (HB3.out.trans (hb4.mono HB3.out.size))
    clear hb4 HB3
    go_wp2_with fail
    refine (alive_f _).mono ?_; rintro e w5 ⟨rfl, hb5⟩
    have HB5 : Hid (Below w.heap.size w w5) := Lib.hid (HB4.out.trans (hb5.mono HB4.out.size))
    clear hb5 HB4
    go_wp2
    go_ret
    exact ⟨rfl, HB5.out⟩

/-- a config of what came in -/
def mkCfg (r wi b g l m s n d e : Int) (cu : Bool) : Cfg := { ring := r, window := wi, base := b, gain := g, least := l, most := m, slack := s, num := n, den := d, extra := e, curved := cu }

theorem delayTargets_walk (r wi b g l m s n d e : Int) (cu : Bool) (j : Int) (h1 : I64 r) (h2 : I64 wi) (h3 : I64 b) (h4 : I64 g) (h5 : I64 l) (h6 : I64 m) (h7 : I64 s) (h8 : I64 n) (h9 : I64 d) (h10 : I64 e) (hj : I64 j) (w : World) :
    Calls Try.prog 3 #[.agg #[.int .i64 r, .int .i64 wi, .int .i64 b, .int .i64 g, .int .i64 l, .int .i64 m, .int .i64 s, .int .i64 n, .int .i64 d, .int .i64 e, .bool cu], .int .i64 j] w fun e w' => e = .returned (.bool true) ∧ Below w.heap.size w w' :=
  delayTargets_go (mkCfg r wi b g l m s n d e cu) j ⟨h1, h2, h3, h4, h5, h6, h7, h8, h9, h10⟩ hj w

end Go.Proofs.Ytnjhacmgnmflaaa
