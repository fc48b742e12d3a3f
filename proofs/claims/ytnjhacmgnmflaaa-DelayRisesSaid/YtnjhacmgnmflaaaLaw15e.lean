/- The law DelayRises, walked: it returns true (printed by gen/law15e.py). -/
import Derived.Test.YtnjhacmgnmflaaaLaw15b
namespace Go.Proofs.Ytnjhacmgnmflaaa
set_option linter.unusedVariables false
set_option linter.unusedSimpArgs false
open Go.RowKit

theorem targF_mono {c : Cfg} (h0 : dchk c = 0) {i j : Int} (h : i ≤ j) : targF c i ≤ targF c j := by
  obtain ⟨_, _, _, _, ⟨g0, _⟩, _⟩ := dchk_ok h0
  have h1 : mulF (max 0 i) c.gain ≤ mulF (max 0 j) c.gain := mulF_mono (by omega) g0
  have h2 : addF (mulF (max 0 i) c.gain) c.base ≤ addF (mulF (max 0 j) c.gain) c.base := addF_mono h1
  unfold targF
  rw [mulF_comm c.gain, mulF_comm c.gain, addF_comm c.base, addF_comm c.base]
  unfold clampF; omega
theorem targF_flat {c : Cfg} (h : c.gain = 0) (i j : Int) : targF c i = targF c j := by
  unfold targF
  rw [h, mulF_comm, mulF_zero, mulF_comm, mulF_zero]
theorem dchk_of {c d : Cfg} (h : dchk c = 0) (hb : d.base = c.base) (hl : d.least = c.least) (hm : d.most = c.most) (hs : d.slack = 0) (hg : d.gain = c.gain ∨ d.gain = 0) : dchk d = 0 := by
  obtain ⟨⟨a1, a2⟩, ⟨b1, b2⟩, ⟨c1, c2⟩, _, ⟨e1, e2⟩, f1⟩ := dchk_ok h
  have x0 : inB d.base 2305843009213693952 = true := by rw [hb]; exact inB_true (by omega) (by omega)
  have x1 : inB d.least 2305843009213693952 = true := by rw [hl]; exact inB_true (by omega) (by omega)
  have x2 : inB d.most 2305843009213693952 = true := by rw [hm]; exact inB_true (by omega) (by omega)
  have x3 : inB d.slack 2305843009213693952 = true := by rw [hs]; exact inB_true (by omega) (by omega)
  have x4 : inB d.gain 68719476736 = true := by rcases hg with hg | hg <;> rw [hg] <;> exact inB_true (by omega) (by omega)
  unfold dchk
  rw [x0, x1, x2, x3, x4, hl, hm]
  simp only [Bool.and_self, if_true]
  exact if_neg (by omega)
theorem updF_free {c : Cfg} (h : c.slack = 0) (now j : Int) : updF c now j = targF c j := by
  unfold updF; rw [h]; split <;> omega

/-- a delay of this config is at b -/
def DelSome (w : World) (b : Nat) (c : Cfg) : Prop := ∃ now ch : Int, DelAt w b c now ch ∧ InLim c now ∧ I64 ch
theorem DelSome.drew {w : World} {b : Nat} {c : Cfg} (h : DelSome w b c) : DelSome w.drew b c := h
theorem DelSome.below {w w' : World} {b B : Nat} {c : Cfg} (h : DelSome w b c) (hb : Below B w w') (hB : w.heap.size ≤ B) : DelSome w' b c := by
  obtain ⟨now, ch, hd, hl, hc⟩ := h
  exact ⟨now, ch, Blk.below hd hb (Nat.lt_of_lt_of_le (Blk.lt hd) hB), hl, hc⟩

set_option maxRecDepth 100000 in
theorem dupdate_free (b : Nat) (c : Cfg) (j : Int) (w : World) (ok : c.Ok) (h0 : dchk c = 0) (hs : c.slack = 0) (hj : I64 j) (h : DelSome w b c) :
    Calls Try.prog 23 #[.pointer (some ⟨b, 0, none⟩), .int .i64 j] w fun e w' => e = .returned (.int .i64 (targF c j)) ∧ DelSome w' b c ∧ Only (· = b) w w' := by
  obtain ⟨now, ch, h, hn, hch⟩ := h
  have tg := target_f c j ok hj
  rw [show targA c j = targF c j by unfold targA; rw [if_pos h0]] at tg
  obtain ⟨_, ⟨l1, l2⟩, ⟨l3, l4⟩, ⟨l5, l6⟩, _, _⟩ := dchk_ok h0
  have HL := Lib.hid (targF_lim h0 j)
  have HN := Lib.hid hn
  obtain ⟨t1, t2⟩ := targF_lim h0 j
  obtain ⟨n1, n2⟩ := hn
  generalize targF c j = t at *
  obtain ⟨m, hm⟩ : ∃ m, max (t - now) (now - t) = m := ⟨_, rfl⟩
  have HM : Hid (m ≤ c.slack → now = t) := Lib.hid (by intro hh; omega)
  obtain ⟨ch', hch'⟩ : ∃ c, wrap64 (ch + 1) = c := ⟨_, rfl⟩
  have HC' : Hid (I64 ch') := Lib.hid (by rw [← hch']; unfold wrap64 I64; omega)
  have HC : Hid (I64 ch) := Lib.hid hch
  have lb := h.lt
  obtain ⟨⟨q0, q1, q2, q3, q4, q5, q6, q7, q8, q9, q10⟩, q11, q12, f11, f12⟩ := del_cells h
  have H := Lib.hid h
  clear h h0 hch hs
  unfold cfgV at tg
  go_enter Try.func23, Try.ntmps23
  go_wp2_with fail
  refine (tg _).mono ?_; rintro e w1 ⟨rfl, hb1⟩
  have H1 : DelAt w1 b c now ch := H.out.below hb1 lb
  clear q0 q1 q2 q3 q4 q5 q6 q7 q8 q9 q10 q11 q12 f11 f12
  obtain ⟨⟨q0, q1, q2, q3, q4, q5, q6, q7, q8, q9, q10⟩, q11, q12, f11, f12⟩ := del_cells H1
  have HH := Lib.hid H1
  clear H1
  have HB := Lib.hid hb1
  clear hb1
  go_wp2_with fail
  go_quiet (fail)
  by_cases hs : c.slack < m
  · go_wp2
    go_ret
    exact ⟨rfl, ⟨t, ch', ((HH.out.draws _).set 11 _).set 12 _, HL.out, HC'.out⟩, Only.setCell (S := (· = b)) (p := ⟨b, 12, none⟩) (Only.setCell (S := (· = b)) (p := ⟨b, 11, none⟩) ((Only.of_below HB.out).draws _) (.inl rfl) _) (.inl rfl) _⟩
  · have hh := HM.out (by omega)
    subst hh
    have hs : ¬ c.slack < m := by omega
    go_wp2
    go_ret
    exact ⟨rfl, ⟨now, ch, HH.out.draws _, HL.out, HC.out⟩, (Only.of_below HB.out).draws _⟩

theorem delayRises_bad (c : Cfg) (ok : c.Ok) (a b : Int) (ha : I64 a) (hb : I64 b) (h0 : dchk c ≠ 0) (w : World) :
    Calls Try.prog 6 #[cfgV c, .int .i64 a, .int .i64 b] w fun e w' => e = .returned (.bool true) ∧ Below w.heap.size w w' := by
  have ck := dcheck_f c
  have h0' : (dchk c != 0) = true := by simpa using h0
  clear h0
  unfold cfgV at ck ⊢
  generalize dchk c = k at *
  go_enter Try.func6, Try.ntmps6
  go_wp2_with fail
  refine (ck _).mono ?_; rintro e w1 ⟨rfl, hb1⟩
  have HB : Hid (Below w.heap.size w w1) := Lib.hid (((Below.refl _ _).alloc (Nat.le_refl _) _).trans (hb1.mono (by simp)))
  clear hb1
  go_wp2_with fail
  refine (alive_f _).mono ?_; rintro e w2 ⟨rfl, hb2⟩
  have HB2 : Hid (Below w.heap.size w w2) := Lib.hid (HB.out.trans (hb2.mono HB.out.size))
  clear hb2
  go_wp2
  go_ret
  exact ⟨rfl, HB2.out⟩

set_option maxRecDepth 100000 in
set_option maxHeartbeats 4000000 in
theorem delayRises_ok (c : Cfg) (ok : c.Ok) (a b : Int) (ha : I64 a) (hb : I64 b) (h0 : dchk c = 0) (w : World) :
    Calls Try.prog 6 #[cfgV c, .int .i64 a, .int .i64 b] w fun e w' => e = .returned (.bool true) ∧ Below w.heap.size w w' := by
  have ck := dcheck_f c
  rw [h0] at ck
  have r1 := target_f c (min a b) ok (by unfold I64 at *; omega)
  have r2 := target_f c (max a b) ok (by unfold I64 at *; omega)
  rw [show targA c (min a b) = targF c (min a b) by unfold targA; rw [if_pos h0]] at r1
  rw [show targA c (max a b) = targF c (max a b) by unfold targA; rw [if_pos h0]] at r2
  have mo : decide (targF c (max a b) < targF c (min a b)) = false := decide_eq_false (by have := targF_mono h0 (show min a b ≤ max a b by omega); omega)
  generalize targF c (min a b) = ta at *
  generalize targF c (max a b) = tb at *
  obtain ⟨d, hd⟩ : ∃ d : Cfg, d = { c with slack := 0 } := ⟨_, rfl⟩
  obtain ⟨f, hf⟩ : ∃ f : Cfg, f = { c with gain := 0, slack := 0 } := ⟨_, rfl⟩
  have dok : d.Ok := by rw [hd]; exact ⟨ok.ring, ok.window, ok.base, ok.gain, ok.least, ok.most, by unfold I64; dsimp only; omega, ok.num, ok.den, ok.extra⟩
  have fok : f.Ok := by rw [hf]; exact ⟨ok.ring, ok.window, ok.base, by unfold I64; dsimp only; omega, ok.least, ok.most, by unfold I64; dsimp only; omega, ok.num, ok.den, ok.extra⟩
  have d0 : dchk d = 0 := dchk_of h0 (by rw [hd]) (by rw [hd]) (by rw [hd]) (by rw [hd]) (.inl (by rw [hd]))
  have f0 : dchk f = 0 := dchk_of h0 (by rw [hf]) (by rw [hf]) (by rw [hf]) (by rw [hf]) (.inr (by rw [hf]))
  have ds : d.slack = 0 := by rw [hd]
  have nw := dnew_ok d dok d0
  have g1 := target_f f a fok ha
  have g2 := target_f f b fok hb
  rw [show targA f a = targF f a by unfold targA; rw [if_pos f0], targF_flat (c := f) (by rw [hf]) a 0] at g1
  rw [show targA f b = targF f b by unfold targA; rw [if_pos f0], targF_flat (c := f) (by rw [hf]) b 0] at g2
  generalize targF f 0 = tf at *
  have e1 := target_f d a dok ha
  have e2 := target_f d b dok hb
  rw [show targA d a = targF d a by unfold targA; rw [if_pos d0]] at e1
  rw [show targA d b = targF d b by unfold targA; rw [if_pos d0]] at e2
  have UA := fun bx w h => dupdate_free bx d a w dok d0 ds ha h
  have UB := fun bx w h => dupdate_free bx d b w dok d0 ds hb h
  have D0 := Lib.hid (targF_lim d0 0)
  generalize targF d a = xa at *
  generalize targF d b = xb at *
  have HF : Hid ((#[.int .i64 f.ring, .int .i64 f.window, .int .i64 f.base, .int .i64 f.gain, .int .i64 f.least, .int .i64 f.most, .int .i64 f.slack, .int .i64 f.num, .int .i64 f.den, .int .i64 f.extra, .bool f.curved] : Array Value) = #[.int .i64 c.ring, .int .i64 c.window, .int .i64 c.base, .int .i64 0, .int .i64 c.least, .int .i64 c.most, .int .i64 0, .int .i64 c.num, .int .i64 c.den, .int .i64 c.extra, .bool c.curved]) := Lib.hid (by rw [hf])
  have HD : Hid ((#[.int .i64 d.ring, .int .i64 d.window, .int .i64 d.base, .int .i64 d.gain, .int .i64 d.least, .int .i64 d.most, .int .i64 d.slack, .int .i64 d.num, .int .i64 d.den, .int .i64 d.extra, .bool d.curved] : Array Value) = #[.int .i64 c.ring, .int .i64 c.window, .int .i64 c.base, .int .i64 c.gain, .int .i64 c.least, .int .i64 c.most, .int .i64 0, .int .i64 c.num, .int .i64 c.den, .int .i64 c.extra, .bool c.curved]) := Lib.hid (by rw [hd])
  have FC : Hid (f.ring = c.ring ∧ f.window = c.window ∧ f.base = c.base ∧ f.gain = 0 ∧ f.least = c.least ∧ f.most = c.most ∧ f.slack = 0 ∧ f.num = c.num ∧ f.den = c.den ∧ f.extra = c.extra ∧ f.curved = c.curved) := Lib.hid (by rw [hf]; exact ⟨rfl, rfl, rfl, rfl, rfl, rfl, rfl, rfl, rfl, rfl, rfl⟩)
  have DC : Hid (d.ring = c.ring ∧ d.window = c.window ∧ d.base = c.base ∧ d.gain = c.gain ∧ d.least = c.least ∧ d.most = c.most ∧ d.slack = 0 ∧ d.num = c.num ∧ d.den = c.den ∧ d.extra = c.extra ∧ d.curved = c.curved) := Lib.hid (by rw [hd]; exact ⟨rfl, rfl, rfl, rfl, rfl, rfl, rfl, rfl, rfl, rfl, rfl⟩)
  clear h0 hd hf dok fok d0 f0 ds ok ha hb
  unfold cfgV at ck r1 r2 nw g1 g2 e1 e2 ⊢
  have NW := Lib.hid nw; have G1 := Lib.hid g1; have G2 := Lib.hid g2; have E1 := Lib.hid e1; have E2 := Lib.hid e2; have UA := Lib.hid UA; have UB := Lib.hid UB
  clear nw g1 g2 e1 e2
  go_enter Try.func6, Try.ntmps6
  go_wp2_with fail
  refine (ck _).mono ?_; rintro e w1 ⟨rfl, hb1⟩
  have CB := (Blk.new w #[.int .i64 c.ring, .int .i64 c.window, .int .i64 c.base, .int .i64 c.gain, .int .i64 c.least, .int .i64 c.most, .int .i64 c.slack, .int .i64 c.num, .int .i64 c.den, .int .i64 c.extra, .bool c.curved] 23).below hb1 (by simp)
  have HB : Below w.heap.size w w1 := ((Below.refl _ _).alloc (Nat.le_refl _) _).trans (hb1.mono (by simp))
  obtain ⟨q0, q1, q2, q3, q4, q5, q6, q7, q8, q9, q10⟩ := cfg_cells CB
  clear hb1 ck
  go_wp2_with fail

  go_region_held3 (fun w' => (w'.cell? ⟨w.heap.size, 0, none⟩ = some (.int .i64 c.ring) ∧ w'.cell? ⟨w.heap.size, 1, none⟩ = some (.int .i64 c.window) ∧ w'.cell? ⟨w.heap.size, 2, none⟩ = some (.int .i64 c.base) ∧ w'.cell? ⟨w.heap.size, 3, none⟩ = some (.int .i64 c.gain) ∧ w'.cell? ⟨w.heap.size, 4, none⟩ = some (.int .i64 c.least) ∧ w'.cell? ⟨w.heap.size, 5, none⟩ = some (.int .i64 c.most) ∧ w'.cell? ⟨w.heap.size, 6, none⟩ = some (.int .i64 c.slack) ∧ w'.cell? ⟨w.heap.size, 7, none⟩ = some (.int .i64 c.num) ∧ w'.cell? ⟨w.heap.size, 8, none⟩ = some (.int .i64 c.den) ∧ w'.cell? ⟨w.heap.size, 9, none⟩ = some (.int .i64 c.extra) ∧ w'.cell? ⟨w.heap.size, 10, none⟩ = some (.bool c.curved)) ∧ Blk w' (w.heap.size) #[.int .i64 c.ring, .int .i64 c.window, .int .i64 c.base, .int .i64 c.gain, .int .i64 c.least, .int .i64 c.most, .int .i64 c.slack, .int .i64 c.num, .int .i64 c.den, .int .i64 c.extra, .bool c.curved] 23 ∧ Below w.heap.size w w')
    (first | (go_keep; done) | (((try dsimp only); repeat' apply And.intro) <;> (first | assumption | exact Below.drew (by assumption) | exact DelSome.drew (by assumption) | go_keep)) | (go_split_ands; exact ⟨cfg_cells (Blk.below (b := w.heap.size) (by assumption) hbk (Blk.lt (b := w.heap.size) (by assumption))), Blk.below (b := w.heap.size) (by assumption) hbk (Blk.lt (b := w.heap.size) (by assumption)), Below.trans (by assumption) (hbk.mono (Below.size (by assumption)))⟩))
    ((first | (go_at_call 15; ((with_reducible refine (r1 _).mono ?_); rintro e wx ⟨rfl, hbk⟩)) | (go_at_call 15; ((with_reducible refine (r2 _).mono ?_); rintro e wx ⟨rfl, hbk⟩))))

  all_goals
    rename_i hH
    clear q0 q1 q2 q3 q4 q5 q6 q7 q8 q9 q10 CB HB r1 r2
    obtain ⟨⟨q0, q1, q2, q3, q4, q5, q6, q7, q8, q9, q10⟩, CB, HB⟩ := hH
    have fr6 := CB.free 6
    have ltc := CB.lt
    have CB := Lib.hid CB
    have HB := Lib.hid HB
    obtain ⟨p0, p1, p2, p3, p4, p5, p6, p7, p8, p9, p10⟩ := DC.out
    have nw := NW.out
    simp only [p0, p1, p2, p3, p4, p5, p6, p7, p8, p9, p10] at nw
    clear p0 p1 p2 p3 p4 p5 p6 p7 p8 p9 p10 NW
    go_wp2_with fail
    refine (nw _).mono ?_; rintro e w8 ⟨bd, rfl, hlb, hdl, hb8⟩
    have BD : Blk w8 w.heap.size #[.int .i64 d.ring, .int .i64 d.window, .int .i64 d.base, .int .i64 d.gain, .int .i64 d.least, .int .i64 d.most, .int .i64 d.slack, .int .i64 d.num, .int .i64 d.den, .int .i64 d.extra, .bool d.curved] 23 := by
      rw [HD.out]
      exact Blk.below (Blk.alloc (by simpa using CB.out.set 6 (.int .i64 0)) _) hb8 (by simp; omega)
    have BF : Blk w8 wx.heap.size #[.int .i64 f.ring, .int .i64 f.window, .int .i64 f.base, .int .i64 f.gain, .int .i64 f.least, .int .i64 f.most, .int .i64 f.slack, .int .i64 f.num, .int .i64 f.den, .int .i64 f.extra, .bool f.curved] 23 := by
      rw [HF.out]
      exact Blk.below (by simpa using Blk.new (wx.setCell ⟨w.heap.size, 6, none⟩ (.int .i64 0)) #[.int .i64 c.ring, .int .i64 c.window, .int .i64 c.base, .int .i64 0, .int .i64 c.least, .int .i64 c.most, .int .i64 0, .int .i64 c.num, .int .i64 c.den, .int .i64 c.extra, .bool c.curved] 23) hb8 (by simp)
    have HB8 : Below w.heap.size w w8 := Below.trans ((HB.out.setCell (p := ⟨w.heap.size, 6, none⟩) (Nat.le_refl _) _).alloc (by simp; omega) _) (hb8.mono (by simp; omega))
    have SD : DelSome w8 bd d := ⟨_, 0, hdl, D0.out, by unfold I64; omega⟩
    have hlb2 : wx.heap.size + 1 ≤ bd := by simpa using hlb
    have hne : ¬ (w.heap.size = bd) := by omega
    have hle : ∀ k, k = bd → w.heap.size ≤ k := by rintro k rfl; omega
    obtain ⟨bf, hbf⟩ : ∃ n, wx.heap.size = n := ⟨_, rfl⟩
    rw [hbf] at BF hlb2
    rw [hbf]
    have f0 := G1.out
    have f1 := G2.out
    clear hb8 hdl hlb nw hbf q0 q1 q2 q3 q4 q5 q6 q7 q8 q9 q10 fr6 CB HB FC DC HD HF G1 G2
    obtain ⟨q0, q1, q2, q3, q4, q5, q6, q7, q8, q9, q10⟩ := cfg_cells BF
    go_wp2_with fail

    go_region_held3 (fun w' => (w'.cell? ⟨bf, 0, none⟩ = some (.int .i64 f.ring) ∧ w'.cell? ⟨bf, 1, none⟩ = some (.int .i64 f.window) ∧ w'.cell? ⟨bf, 2, none⟩ = some (.int .i64 f.base) ∧ w'.cell? ⟨bf, 3, none⟩ = some (.int .i64 f.gain) ∧ w'.cell? ⟨bf, 4, none⟩ = some (.int .i64 f.least) ∧ w'.cell? ⟨bf, 5, none⟩ = some (.int .i64 f.most) ∧ w'.cell? ⟨bf, 6, none⟩ = some (.int .i64 f.slack) ∧ w'.cell? ⟨bf, 7, none⟩ = some (.int .i64 f.num) ∧ w'.cell? ⟨bf, 8, none⟩ = some (.int .i64 f.den) ∧ w'.cell? ⟨bf, 9, none⟩ = some (.int .i64 f.extra) ∧ w'.cell? ⟨bf, 10, none⟩ = some (.bool f.curved)) ∧ Blk w' (bf) #[.int .i64 f.ring, .int .i64 f.window, .int .i64 f.base, .int .i64 f.gain, .int .i64 f.least, .int .i64 f.most, .int .i64 f.slack, .int .i64 f.num, .int .i64 f.den, .int .i64 f.extra, .bool f.curved] 23 ∧ Blk w' (w.heap.size) #[.int .i64 d.ring, .int .i64 d.window, .int .i64 d.base, .int .i64 d.gain, .int .i64 d.least, .int .i64 d.most, .int .i64 d.slack, .int .i64 d.num, .int .i64 d.den, .int .i64 d.extra, .bool d.curved] 23 ∧ Below w.heap.size w w' ∧ DelSome w' bd d)
      (first | (go_keep; done) | (((try dsimp only); repeat' apply And.intro) <;> (first | assumption | exact Below.drew (by assumption) | exact DelSome.drew (by assumption) | go_keep)) | (go_split_ands; exact ⟨cfg_cells (Blk.below (b := bf) (by assumption) hbk (Blk.lt (b := bf) (by assumption))), Blk.below (b := bf) (by assumption) hbk (Blk.lt (b := bf) (by assumption)), Blk.below (b := w.heap.size) (by assumption) hbk (Blk.lt (b := w.heap.size) (by assumption)), Below.trans (by assumption) (hbk.mono (Below.size (by assumption))), DelSome.below (by assumption) hbk (Nat.le_refl _)⟩))
      ((first | (go_at_call 15; ((with_reducible refine (f0 _).mono ?_); rintro e wx ⟨rfl, hbk⟩)) | (go_at_call 15; ((with_reducible refine (f1 _).mono ?_); rintro e wx ⟨rfl, hbk⟩))))

    all_goals
      rename_i hH
      clear q0 q1 q2 q3 q4 q5 q6 q7 q8 q9 q10 BF BD HB8 SD f0 f1
      obtain ⟨_, _, BD, HB8, SD⟩ := hH
      obtain ⟨q0, q1, q2, q3, q4, q5, q6, q7, q8, q9, q10⟩ := cfg_cells BD
      have f0 := E1.out
      have f1 := E2.out
      go_wp2_with fail

      go_region_held3 (fun w' => (w'.cell? ⟨w.heap.size, 0, none⟩ = some (.int .i64 d.ring) ∧ w'.cell? ⟨w.heap.size, 1, none⟩ = some (.int .i64 d.window) ∧ w'.cell? ⟨w.heap.size, 2, none⟩ = some (.int .i64 d.base) ∧ w'.cell? ⟨w.heap.size, 3, none⟩ = some (.int .i64 d.gain) ∧ w'.cell? ⟨w.heap.size, 4, none⟩ = some (.int .i64 d.least) ∧ w'.cell? ⟨w.heap.size, 5, none⟩ = some (.int .i64 d.most) ∧ w'.cell? ⟨w.heap.size, 6, none⟩ = some (.int .i64 d.slack) ∧ w'.cell? ⟨w.heap.size, 7, none⟩ = some (.int .i64 d.num) ∧ w'.cell? ⟨w.heap.size, 8, none⟩ = some (.int .i64 d.den) ∧ w'.cell? ⟨w.heap.size, 9, none⟩ = some (.int .i64 d.extra) ∧ w'.cell? ⟨w.heap.size, 10, none⟩ = some (.bool d.curved)) ∧ Blk w' (w.heap.size) #[.int .i64 d.ring, .int .i64 d.window, .int .i64 d.base, .int .i64 d.gain, .int .i64 d.least, .int .i64 d.most, .int .i64 d.slack, .int .i64 d.num, .int .i64 d.den, .int .i64 d.extra, .bool d.curved] 23 ∧ Below w.heap.size w w' ∧ DelSome w' bd d)
        (first | (go_keep; done) | (((try dsimp only); repeat' apply And.intro) <;> (first | assumption | exact Below.drew (by assumption) | exact DelSome.drew (by assumption) | go_keep)) | (go_split_ands; exact ⟨cfg_cells (Blk.below (b := w.heap.size) (by assumption) hbk (Blk.lt (b := w.heap.size) (by assumption))), Blk.below (b := w.heap.size) (by assumption) hbk (Blk.lt (b := w.heap.size) (by assumption)), Below.trans (by assumption) (hbk.mono (Below.size (by assumption))), DelSome.below (by assumption) hbk (Nat.le_refl _)⟩) | (go_split_ands; exact ⟨cfg_cells (hod.blk (b := w.heap.size) (by assumption) hne), hod.blk (b := w.heap.size) (by assumption) hne, Below.trans (by assumption) (hod.below (Below.size (by assumption)) hle), hds⟩))
        ((first | (go_at_call 19; ((with_reducible refine (alive_f _).mono ?_); rintro e wx ⟨rfl, hbk⟩)) | (go_at_call 15; ((with_reducible refine (f0 _).mono ?_); rintro e wx ⟨rfl, hbk⟩)) | (go_at_call 15; ((with_reducible refine (f1 _).mono ?_); rintro e wx ⟨rfl, hbk⟩)) | (go_at_call 23; ((with_reducible refine (UA.out bd _ (by go_split_ands; assumption)).mono ?_); rintro e wx ⟨rfl, hds, hod⟩)) | (go_at_call 23; ((with_reducible refine (UB.out bd _ (by go_split_ands; assumption)).mono ?_); rintro e wx ⟨rfl, hds, hod⟩))))

      all_goals
        rename_i hH
        obtain ⟨_, _, HBZ, _⟩ := hH
        go_wp2
        go_ret
        exact ⟨rfl, HBZ⟩

theorem delayRises_walk (r wi bs g l m s n d e : Int) (cu : Bool) (a b : Int) (h1 : I64 r) (h2 : I64 wi) (h3 : I64 bs) (h4 : I64 g) (h5 : I64 l) (h6 : I64 m) (h7 : I64 s) (h8 : I64 n) (h9 : I64 d) (h10 : I64 e) (ha : I64 a) (hb : I64 b) (w : World) :
    Calls Try.prog 6 #[.agg #[.int .i64 r, .int .i64 wi, .int .i64 bs, .int .i64 g, .int .i64 l, .int .i64 m, .int .i64 s, .int .i64 n, .int .i64 d, .int .i64 e, .bool cu], .int .i64 a, .int .i64 b] w fun e w' => e = .returned (.bool true) ∧ Below w.heap.size w w' := by
  have ok : (mkCfg r wi bs g l m s n d e cu).Ok := ⟨h1, h2, h3, h4, h5, h6, h7, h8, h9, h10⟩
  by_cases h0 : dchk (mkCfg r wi bs g l m s n d e cu) = 0
  · exact delayRises_ok (mkCfg r wi bs g l m s n d e cu) ok a b ha hb h0 w
  · exact delayRises_bad (mkCfg r wi bs g l m s n d e cu) ok a b ha hb h0 w

end Go.Proofs.Ytnjhacmgnmflaaa
