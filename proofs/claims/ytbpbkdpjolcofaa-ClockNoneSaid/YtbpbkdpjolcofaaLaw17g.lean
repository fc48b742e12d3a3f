/- ClockNone, walked. -/
import Derived.Test.YtbpbkdpjolcofaaLaw17b
namespace Go.Proofs.Ytbpbkdpjolcofaa
set_option linter.unusedVariables false
set_option linter.unusedSimpArgs false
open Go.RowKit

theorem lm17 {b i : Nat} {wa wb : World} {v : Value} (h : Below wa.heap.size wa wb) (l : b < wa.heap.size) (hc : wa.cell? ⟨b, i, none⟩ = some v) : wb.cell? ⟨b, i, none⟩ = some v :=
  (h.cell (p := ⟨b, i, none⟩) l).trans hc

set_option maxRecDepth 8000 in
set_option maxHeartbeats 1000000 in
theorem clockNone_bad (c : Cfg) (hc : cchk c ≠ 0) (x : Int) (w : World) :
    Calls Try.prog 8 #[cfgV c, .int .i64 x] w fun e w' => e = .returned (.bool true) ∧ Below w.heap.size w w' := by
  have nw := cnew_bad c hc
  have ck := ccheck_f c
  have al := alive17_f
  have h0' : (cchk c != 0) = true := by simpa using hc
  clear hc
  generalize cchk c = k at *
  unfold cfgV at nw ck ⊢
  go_enter Try.func8, Try.ntmps8
  go_wp2_with fail
  refine (nil_frame x _).mono ?_; rintro e w' ⟨rfl, rfl⟩
  go_wp2_with fail
  refine (nil_offset _).mono ?_; rintro e w' ⟨rfl, rfl⟩
  go_wp2_with fail
  refine (nil_sample 1 2 _).mono ?_; rintro e w' ⟨rfl, rfl⟩
  go_wp2_with fail
  refine (nil_jitter _).mono ?_; rintro e w' ⟨rfl, rfl⟩
  go_wp2_with fail
  refine (nil_delay _).mono ?_; rintro e w' ⟨rfl, rfl⟩
  go_wp2_with fail
  refine (nil_samples _).mono ?_; rintro e w' ⟨rfl, rfl⟩
  go_wp2_with fail
  refine (nw _).mono ?_; rintro e w1 ⟨rfl, hb1⟩
  have CB := Lib.hid ((Blk.new w #[.int .i64 c.ring, .int .i64 c.window, .int .i64 c.base, .int .i64 c.gain, .int .i64 c.least, .int .i64 c.most, .int .i64 c.slack, .int .i64 c.num, .int .i64 c.den, .int .i64 c.extra, .bool c.curved] 23).below hb1 (by simp))
  obtain ⟨q0, q1, q2, q3, q4, q5, q6, q7, q8, q9, q10⟩ := cfg_cells CB.out
  have HB : Hid (Below w.heap.size w w1) := Lib.hid (((Below.refl _ _).alloc (Nat.le_refl _) _).trans (hb1.mono (by simp)))
  clear hb1
  go_wp2_with fail
  refine (al _).mono ?_; rintro e w2 ⟨rfl, hb2⟩
  have CBn := Lib.hid (CB.out.below hb2 CB.out.lt)
  clear q0 q1 q2 q3 q4 q5 q6 q7 q8 q9 q10 CB
  have CB := CBn
  clear CBn
  obtain ⟨q0, q1, q2, q3, q4, q5, q6, q7, q8, q9, q10⟩ := cfg_cells CB.out
  have HB2 : Hid (Below w.heap.size w w2) := Lib.hid (HB.out.trans (hb2.mono HB.out.size))
  clear hb2
  go_wp2_with fail
  refine (ck _).mono ?_; rintro e w3 ⟨rfl, hb3⟩
  have HB3 : Hid (Below w.heap.size w w3) := Lib.hid (HB2.out.trans (hb3.mono HB2.out.size))
  clear hb3
  go_wp2
  go_ret
  exact ⟨rfl, HB3.out⟩

set_option maxRecDepth 100000 in
set_option maxHeartbeats 4000000 in
theorem clockNone_ok (c : Cfg) (okc : c.Ok) (hc : cchk c = 0) (x : Int) (w : World) :
    Calls Try.prog 8 #[cfgV c, .int .i64 x] w fun e w' => e = .returned (.bool true) ∧ Below w.heap.size w w' := by
  have nw := cnew_ok c okc hc
  have al := alive17_f
  have tg := target_f c 0 okc i64_0
  rw [show targA c 0 = targF c 0 by unfold targA; rw [if_pos (cchk_ok hc).2.1]] at tg
  have HC := Lib.hid hc
  clear okc hc
  unfold cfgV at nw tg ⊢
  go_enter Try.func8, Try.ntmps8
  go_wp2_with fail
  refine (nil_frame x _).mono ?_; rintro e w' ⟨rfl, rfl⟩
  go_wp2_with fail
  refine (nil_offset _).mono ?_; rintro e w' ⟨rfl, rfl⟩
  go_wp2_with fail
  refine (nil_sample 1 2 _).mono ?_; rintro e w' ⟨rfl, rfl⟩
  go_wp2_with fail
  refine (nil_jitter _).mono ?_; rintro e w' ⟨rfl, rfl⟩
  go_wp2_with fail
  refine (nil_delay _).mono ?_; rintro e w' ⟨rfl, rfl⟩
  go_wp2_with fail
  refine (nil_samples _).mono ?_; rintro e w' ⟨rfl, rfl⟩
  go_wp2_with fail
  refine (nw _).mono ?_; rintro e w1 ⟨b1, S1, rfl, hk1, hup1, hb1⟩
  have hcfg := (Blk.new w #[.int .i64 c.ring, .int .i64 c.window, .int .i64 c.base, .int .i64 c.gain, .int .i64 c.least, .int .i64 c.most, .int .i64 c.slack, .int .i64 c.num, .int .i64 c.den, .int .i64 c.extra, .bool c.curved] 23).below hb1 (by simp)
  obtain ⟨q0, q1, q2, q3, q4, q5, q6, q7, q8, q9, q10⟩ := cfg_cells hcfg
  have hB4 : Below w.heap.size w w1 := ((Below.refl _ _).alloc (Nat.le_refl _) _).trans (hb1.mono (by simp))
  have hcw := hcfg.lt
  have fr := cframe_none b1 c HC.out (cs0 c) x S1 w1 hk1 rfl
  have co := coffset_f b1 c (cs0 c) S1 w1 hk1
  rw [show lastN c.window.toNat (cs0 c).L = [] by simp [lastN, cs0], show leastF [] = 0 from rfl, show decide (([] : List Int) ≠ []) = false from rfl] at co
  have cj := fun (w' : World) (h : CkAt w' b1 c (cs0 c) S1) => cjitter_f b1 c (cs0 c) S1 w' h
  have cd := fun (w' : World) (h : CkAt w' b1 c (cs0 c) S1) => cdelay_f b1 c (cs0 c) S1 w' h
  have cn := fun (w' : World) (h : CkAt w' b1 c (cs0 c) S1) => csamples_f b1 c (cs0 c) S1 w' h
  rw [show (cs0 c).jit = 0 from rfl] at cj
  rw [show (cs0 c).dly = targF c 0 from rfl] at cd
  rw [show ((cs0 c).L.length : Int) = 0 from rfl] at cn
  generalize targF c 0 = t0 at *
  clear hup1 hb1 nw
  go_wp2_with fail
  refine fr.mono ?_; rintro e w' ⟨rfl, rfl⟩
  go_wp2_with fail
  refine co.mono ?_; rintro e w' ⟨rfl, rfl⟩
  go_wp2_with fail
  clear fr co
  go_region_held3 (fun w' => (w'.cell? ⟨w.heap.size, 0, none⟩ = some (.int .i64 c.ring) ∧ w'.cell? ⟨w.heap.size, 1, none⟩ = some (.int .i64 c.window) ∧ w'.cell? ⟨w.heap.size, 2, none⟩ = some (.int .i64 c.base) ∧ w'.cell? ⟨w.heap.size, 3, none⟩ = some (.int .i64 c.gain) ∧ w'.cell? ⟨w.heap.size, 4, none⟩ = some (.int .i64 c.least) ∧ w'.cell? ⟨w.heap.size, 5, none⟩ = some (.int .i64 c.most) ∧ w'.cell? ⟨w.heap.size, 6, none⟩ = some (.int .i64 c.slack) ∧ w'.cell? ⟨w.heap.size, 7, none⟩ = some (.int .i64 c.num) ∧ w'.cell? ⟨w.heap.size, 8, none⟩ = some (.int .i64 c.den) ∧ w'.cell? ⟨w.heap.size, 9, none⟩ = some (.int .i64 c.extra) ∧ w'.cell? ⟨w.heap.size, 10, none⟩ = some (.bool c.curved)) ∧ CkAt w' b1 c (cs0 c) S1 ∧ w.heap.size < w'.heap.size ∧ Below w.heap.size w w')
    (first | (go_keep; done) | (((try dsimp only); repeat' apply And.intro) <;> (first | assumption | exact Below.drew (by assumption) | exact CkAt.only (by assumption) (onlyDrew noB _) (fun _ _ hf => hf) | go_keep)) | (go_split_ands; exact ⟨⟨lm17 hbk (by assumption) (by assumption), lm17 hbk (by assumption) (by assumption), lm17 hbk (by assumption) (by assumption), lm17 hbk (by assumption) (by assumption), lm17 hbk (by assumption) (by assumption), lm17 hbk (by assumption) (by assumption), lm17 hbk (by assumption) (by assumption), lm17 hbk (by assumption) (by assumption), lm17 hbk (by assumption) (by assumption), lm17 hbk (by assumption) (by assumption), lm17 hbk (by assumption) (by assumption)⟩, CkAt.only (by assumption) (Only.of_below (S := noB) hbk) (fun _ _ hf => hf), Nat.lt_of_lt_of_le (by assumption) hbk.size, Below.trans (by assumption) (hbk.mono (Nat.le_of_lt (by assumption)))⟩))
    ((first | (go_at_call 11; refine (al _).mono ?_; rintro e wx ⟨rfl, hbk⟩) | (go_at_call 19; refine (cj _ (by go_split_ands; assumption)).mono ?_; rintro e wx ⟨rfl, rfl⟩) | (go_at_call 20; refine (cd _ (by go_split_ands; assumption)).mono ?_; rintro e wx ⟨rfl, rfl⟩) | (go_at_call 28; refine (cn _ (by go_split_ands; assumption)).mono ?_; rintro e wx ⟨rfl, rfl⟩) | (go_at_call 18; refine (tg _).mono ?_; rintro e wx ⟨rfl, hbk⟩)))
  all_goals
    go_wp2
    go_ret
    go_split_ands
    exact ⟨rfl, by assumption⟩

theorem clockNone_walk (r wi bs g l m s n d e : Int) (cu : Bool) (x : Int) (h1 : I64 r) (h2 : I64 wi) (h3 : I64 bs) (h4 : I64 g) (h5 : I64 l) (h6 : I64 m) (h7 : I64 s) (h8 : I64 n) (h9 : I64 d) (h10 : I64 e) (hx : I64 x) (w : World) :
    Calls Try.prog 8 #[.agg #[.int .i64 r, .int .i64 wi, .int .i64 bs, .int .i64 g, .int .i64 l, .int .i64 m, .int .i64 s, .int .i64 n, .int .i64 d, .int .i64 e, .bool cu], .int .i64 x] w fun e w' => e = .returned (.bool true) ∧ Below w.heap.size w w' := by
  have ok : (mkC r wi bs g l m s n d e cu).Ok := ⟨h1, h2, h3, h4, h5, h6, h7, h8, h9, h10⟩
  by_cases h0 : cchk (mkC r wi bs g l m s n d e cu) = 0
  · exact clockNone_ok (mkC r wi bs g l m s n d e cu) ok h0 x w
  · exact clockNone_bad (mkC r wi bs g l m s n d e cu) h0 x w
end Go.Proofs.Ytbpbkdpjolcofaa
