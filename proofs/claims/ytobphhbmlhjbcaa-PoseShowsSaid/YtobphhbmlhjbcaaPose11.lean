/- Show: the poses at a time; the examples. -/
import Derived.Test.YtobphhbmlhjbcaaPose10
import Derived.Deep.RegionWith
namespace Go.Proofs.Ytobphhbmlhjbcaa
set_option linter.unusedVariables false
set_option linter.unusedSimpArgs false
open Go.RowKit
set_option maxRecDepth 100000

def shA (T : Nat → Int) (at0 : Int) (len : Nat) : Nat := (pickA T at0 len).toNat
def shB (T : Nat → Int) (at0 : Int) (len : Nat) : Nat := (pickB T at0 len).toNat
/-- the error of Show; how many poses; which -/
def shE (c : Cfg) (at0 : Int) (K T : Nat → Int) (E : Nat → Option Addr × Nat × Nat) (EE : Nat → Nat → Ent) (len : Nat) : Int :=
  if pchk c K T E EE len = 0 then (if pickE T at0 len = 0 then
    (if pickB T at0 len < 0 then bydE c (K (shA T at0 len)) (T (shA T at0 len)) (E (shA T at0 len)).1 (E (shA T at0 len)).2.1 (E (shA T at0 len)).2.2 (EE (shA T at0 len)) at0
     else btwE c (K (shA T at0 len)) (T (shA T at0 len)) (E (shA T at0 len)).1 (E (shA T at0 len)).2.1 (E (shA T at0 len)).2.2 (EE (shA T at0 len)) (K (shB T at0 len)) (T (shB T at0 len)) (E (shB T at0 len)).1 (E (shB T at0 len)).2.1 (E (shB T at0 len)).2.2 (EE (shB T at0 len)) at0)
    else pickE T at0 len) else pchk c K T E EE len
def shN (c : Cfg) (at0 : Int) (K T : Nat → Int) (E : Nat → Option Addr × Nat × Nat) (EE : Nat → Nat → Ent) (len : Nat) : Nat :=
  if shE c at0 K T E EE len = 0 then (E (shA T at0 len)).2.1 else 0
def shP (c : Cfg) (at0 : Int) (K T : Nat → Int) (E : Nat → Option Addr × Nat × Nat) (EE : Nat → Nat → Ent) (len : Nat) : Nat → Po :=
  if pickB T at0 len < 0 then byF (byM c (subF at0 (T (shA T at0 len)))) (byD c (subF at0 (T (shA T at0 len)))) (EE (shA T at0 len))
  else btwF c.curved (EE (shA T at0 len)) (EE (shB T at0 len)) (E (shB T at0 len)).2.1 (at0 - T (shA T at0 len)) (T (shB T at0 len) - T (shA T at0 len))
theorem pick_in {T : Nat → Int} {at0 : Int} {len : Nat} (h : pickE T at0 len = 0) : pickA T at0 len = ((shA T at0 len : Nat) : Int) ∧ shA T at0 len < len ∧ (¬ pickB T at0 len < 0 → pickB T at0 len = ((shB T at0 len : Nat) : Int) ∧ shB T at0 len < len) := by
  have hc : chkT T len = 0 := by
    unfold pickE at h
    split at h
    · assumption
    · contradiction
  have h0 : lastLe T at0 len ≠ 0 := by
    unfold pickE at h
    rw [if_pos hc] at h
    intro e
    rw [if_pos e] at h
    exact absurd h (by decide)
  have hl := lastLe_le T at0 len
  unfold shA shB pickA pickB
  rw [if_pos hc, if_neg h0, if_pos hc, if_neg h0]
  refine ⟨by omega, by omega, fun hb => ?_⟩
  split
  · rename_i e; rw [if_pos e] at hb; omega
  · omega
theorem fromPick {T : Nat → Int} {at0 : Int} {len : Nat} (h : pickE T at0 len ≠ 0) : pickA T at0 len = 0 ∧ pickB T at0 len = 0 := by
  unfold pickE pickA pickB at *
  by_cases hc : chkT T len = 0
  · rw [if_pos hc] at h
    rw [if_pos hc, if_pos hc]
    by_cases h0 : lastLe T at0 len = 0
    · rw [if_pos h0, if_pos h0]; exact ⟨rfl, rfl⟩
    · rw [if_neg h0] at h; exact absurd rfl h
  · rw [if_neg hc, if_neg hc]; exact ⟨rfl, rfl⟩
theorem okN_bad {E : Int} {n : Nat} (h : E ≠ 0) : okN E n = 0 := by unfold okN; rw [if_neg h]

set_option maxHeartbeats 1000000 in
theorem psh_a (c : Cfg) (ok : c.Ok) (at0 : Int) (hat : I64 at0) (s : Option Addr) (len cap : Nat) (K T : Nat → Int) (E : Nat → Option Addr × Nat × Nat) (EE : Nat → Nat → Ent) (w : World) (h : SnsAt w s len K T E EE) (hT : ∀ i, i < len → I64 (T i)) (hlen : (len : Int) ≤ 4611686018427387904) (h0 : pchk c K T E EE len ≠ 0) :
    Calls Try.prog 24 #[cfgV c, .int .i64 at0, .slice s len cap] w fun e w' => e = .returned (.tuple #[.slice none 0 0, .int .i64 (pchk c K T E EE len)]) ∧ Below w.heap.size w w' := by
  have CK := pcheck_f c s len cap K T E EE (w.alloc (.cells #[.int .i64 c.ring, .int .i64 c.window, .int .i64 c.base, .int .i64 c.gain, .int .i64 c.least, .int .i64 c.most, .int .i64 c.slack, .int .i64 c.num, .int .i64 c.den, .int .i64 c.extra, .bool c.curved] 23)) (h.below ((Below.refl _ _).alloc (Nat.le_refl _) _)) hlen
  have bc := Blk.new w #[.int .i64 c.ring, .int .i64 c.window, .int .i64 c.base, .int .i64 c.gain, .int .i64 c.least, .int .i64 c.most, .int .i64 c.slack, .int .i64 c.num, .int .i64 c.den, .int .i64 c.extra, .bool c.curved] 23
  have hB0 : Below w.heap.size w (w.alloc (.cells #[.int .i64 c.ring, .int .i64 c.window, .int .i64 c.base, .int .i64 c.gain, .int .i64 c.least, .int .i64 c.most, .int .i64 c.slack, .int .i64 c.num, .int .i64 c.den, .int .i64 c.extra, .bool c.curved] 23)) := (Below.refl _ _).alloc (Nat.le_refl _) _
  unfold cfgV at CK ⊢
  generalize pchk c K T E EE len = z at *
  have hz : (z != 0) = true := by simpa using h0
  go_enter Try.func24, Try.ntmps24
  go_wp2_with fail
  refine CK.mono ?_; rintro e w1 ⟨rfl, hb1⟩
  have SC := Lib.hid (bc.below hb1 (by simp))
  have HB1 : Hid (Below w.heap.size w w1) := Lib.hid (hB0.trans (hb1.mono (by simp)))
  clear hb1 CK bc hB0
  go_wp2
  exact bodyPost_ret (v := .tuple #[.slice none 0 0, .int .i64 z]) (by simp [results, Try.results24, go_sem]) rfl ⟨rfl, HB1.out⟩

set_option maxHeartbeats 1000000 in
theorem psh_b (c : Cfg) (ok : c.Ok) (at0 : Int) (hat : I64 at0) (s : Option Addr) (len cap : Nat) (K T : Nat → Int) (E : Nat → Option Addr × Nat × Nat) (EE : Nat → Nat → Ent) (w : World) (h : SnsAt w s len K T E EE) (hT : ∀ i, i < len → I64 (T i)) (hlen : (len : Int) ≤ 4611686018427387904) (h0 : pchk c K T E EE len = 0) (h1 : pickE T at0 len ≠ 0) :
    Calls Try.prog 24 #[cfgV c, .int .i64 at0, .slice s len cap] w fun e w' => e = .returned (.tuple #[.slice none 0 0, .int .i64 (pickE T at0 len)]) ∧ Below w.heap.size w w' := by
  have CK := pcheck_f c s len cap K T E EE (w.alloc (.cells #[.int .i64 c.ring, .int .i64 c.window, .int .i64 c.base, .int .i64 c.gain, .int .i64 c.least, .int .i64 c.most, .int .i64 c.slack, .int .i64 c.num, .int .i64 c.den, .int .i64 c.extra, .bool c.curved] 23)) (h.below ((Below.refl _ _).alloc (Nat.le_refl _) _)) hlen
  have bc := Blk.new w #[.int .i64 c.ring, .int .i64 c.window, .int .i64 c.base, .int .i64 c.gain, .int .i64 c.least, .int .i64 c.most, .int .i64 c.slack, .int .i64 c.num, .int .i64 c.den, .int .i64 c.extra, .bool c.curved] 23
  have hB0 : Below w.heap.size w (w.alloc (.cells #[.int .i64 c.ring, .int .i64 c.window, .int .i64 c.base, .int .i64 c.gain, .int .i64 c.least, .int .i64 c.most, .int .i64 c.slack, .int .i64 c.num, .int .i64 c.den, .int .i64 c.extra, .bool c.curved] 23)) := (Below.refl _ _).alloc (Nat.le_refl _) _
  have PK := fun w' hw => pick_f at0 s len cap K T E w' hw hlen
  unfold cfgV at CK ⊢
  generalize pickE T at0 len = z at *
  generalize pickA T at0 len = pa at *
  generalize pickB T at0 len = pb at *
  have hz : (z != 0) = true := by simpa using h1
  rw [h0] at CK
  clear h0
  go_enter Try.func24, Try.ntmps24
  go_wp2_with fail
  refine CK.mono ?_; rintro e w1 ⟨rfl, hb1⟩
  have SC := Lib.hid (bc.below hb1 (by simp))
  have HB1 : Hid (Below w.heap.size w w1) := Lib.hid (hB0.trans (hb1.mono (by simp)))
  clear hb1 CK bc hB0
  go_wp2_with fail
  refine (PK _ (h.1.below HB1.out)).mono ?_; rintro e w2 ⟨rfl, hb2⟩
  have SCn := Lib.hid (SC.out.below hb2 SC.out.lt)
  have HB2 : Hid (Below w.heap.size w w2) := Lib.hid (HB1.out.trans (hb2.mono HB1.out.size))
  clear hb2 PK SC HB1
  go_wp2
  exact bodyPost_ret (v := .tuple #[.slice none 0 0, .int .i64 z]) (by simp [results, Try.results24, go_sem]) rfl ⟨rfl, HB2.out⟩

set_option maxHeartbeats 2000000 in
theorem psh_c (c : Cfg) (ok : c.Ok) (at0 : Int) (hat : I64 at0) (s : Option Addr) (len cap : Nat) (K T : Nat → Int) (E : Nat → Option Addr × Nat × Nat) (EE : Nat → Nat → Ent) (w : World) (h : SnsAt w s len K T E EE) (hT : ∀ i, i < len → I64 (T i)) (hlen : (len : Int) ≤ 4611686018427387904) (h0 : pchk c K T E EE len = 0) (h1 : pickE T at0 len = 0) (hb : pickB T at0 len < 0) :
    Calls Try.prog 24 #[cfgV c, .int .i64 at0, .slice s len cap] w (Rets w (okN (bydE c (K (shA T at0 len)) (T (shA T at0 len)) (E (shA T at0 len)).1 (E (shA T at0 len)).2.1 (E (shA T at0 len)).2.2 (EE (shA T at0 len)) at0) (E (shA T at0 len)).2.1) (bydE c (K (shA T at0 len)) (T (shA T at0 len)) (E (shA T at0 len)).1 (E (shA T at0 len)).2.1 (E (shA T at0 len)).2.2 (EE (shA T at0 len)) at0) (byF (byM c (subF at0 (T (shA T at0 len)))) (byD c (subF at0 (T (shA T at0 len)))) (EE (shA T at0 len)))) := by
  obtain ⟨hpa, hva, _⟩ := pick_in h1
  generalize shA T at0 len = va at *
  have BY := fun w' (hw : Below w.heap.size w w') => pbyd_f c ok (K va) (T va) (E va).1 (E va).2.1 (E va).2.2 (EE va) at0 w' (hT va hva) hat ((h.2 va hva).1.below hw) (h.2 va hva).2
  unfold Rets at BY ⊢
  generalize okN (bydE c (K va) (T va) (E va).1 (E va).2.1 (E va).2.2 (EE va) at0) (E va).2.1 = rn at *
  generalize bydE c (K va) (T va) (E va).1 (E va).2.1 (E va).2.2 (EE va) at0 = re at *
  generalize (byF (byM c (subF at0 (T va))) (byD c (subF at0 (T va))) (EE va)) = rp at *
  have CK := pcheck_f c s len cap K T E EE (w.alloc (.cells #[.int .i64 c.ring, .int .i64 c.window, .int .i64 c.base, .int .i64 c.gain, .int .i64 c.least, .int .i64 c.most, .int .i64 c.slack, .int .i64 c.num, .int .i64 c.den, .int .i64 c.extra, .bool c.curved] 23)) (h.below ((Below.refl _ _).alloc (Nat.le_refl _) _)) hlen
  have bc := Blk.new w #[.int .i64 c.ring, .int .i64 c.window, .int .i64 c.base, .int .i64 c.gain, .int .i64 c.least, .int .i64 c.most, .int .i64 c.slack, .int .i64 c.num, .int .i64 c.den, .int .i64 c.extra, .bool c.curved] 23
  have hB0 : Below w.heap.size w (w.alloc (.cells #[.int .i64 c.ring, .int .i64 c.window, .int .i64 c.base, .int .i64 c.gain, .int .i64 c.least, .int .i64 c.most, .int .i64 c.slack, .int .i64 c.num, .int .i64 c.den, .int .i64 c.extra, .bool c.curved] 23)) := (Below.refl _ _).alloc (Nat.le_refl _) _
  have PK := fun w' hw => pick_f at0 s len cap K T E w' hw hlen
  unfold cfgV at CK ⊢
  rw [h1, hpa] at PK
  generalize pickB T at0 len = pb at *
  rw [h0] at CK
  unfold cfgV snapV at BY
  have hpb : decide (pb < 0) = true := decide_eq_true hb
  clear h0 h1 hpa
  have HS := Lib.hid h
  go_enter Try.func24, Try.ntmps24
  go_wp2_with fail
  refine CK.mono ?_; rintro e w1 ⟨rfl, hb1⟩
  have SC := Lib.hid (bc.below hb1 (by simp))
  have HB1 : Hid (Below w.heap.size w w1) := Lib.hid (hB0.trans (hb1.mono (by simp)))
  clear hb1 CK bc hB0
  go_wp2_with fail
  refine (PK _ (h.1.below HB1.out)).mono ?_; rintro e w2 ⟨rfl, hb2⟩
  have SCn := Lib.hid (SC.out.below hb2 SC.out.lt)
  have HB2 : Hid (Below w.heap.size w w2) := Lib.hid (HB1.out.trans (hb2.mono HB1.out.size))
  clear hb2 PK SC HB1
  obtain ⟨q0, q1, q2, q3, q4, q5, q6, q7, q8, q9, q10⟩ := cfg_cells SCn.out
  have hpb0 := hb
  clear hb
  rcases HS.out.1 with hz | ⟨b, off, rfl, hb, hcs⟩
  · omega
  have hval : (va : Int) < len := by omega
  obtain ⟨d0, d1, d2⟩ := hcs va hva
  have s0 := (HB2.out.cell (p := ⟨b, off + va * 3, none⟩) hb).trans d0
  have s1 := (HB2.out.cell (p := ⟨b, off + va * 3 + 1, none⟩) hb).trans d1
  have s2 := (HB2.out.cell (p := ⟨b, off + va * 3 + 2, none⟩) hb).trans d2
  clear d0 d1 d2
  have BY2 := Lib.hid (fun w' (hw : Below w2.heap.size w2 w') => BY w' (HB2.out.trans (hw.mono HB2.out.size)))
  clear BY hcs h HS
  generalize K va = ka at *
  generalize T va = ta at *
  generalize (E va).1 = ea at *
  generalize (E va).2.1 = el at *
  generalize (E va).2.2 = ec at *
  go_wp2_with fail
  go_region_with (go_at_call 17; refine (BY2.out _ (below_drewN (Below.refl _ _) 1)).mono ?_; rintro e w3 ⟨s3, c3, rfl, hp3, hb3⟩)
  all_goals
    have HP3 := Lib.hid hp3
    have HB3 : Hid (Below w.heap.size w w3) := Lib.hid (HB2.out.trans (Below.trans (below_drewN (Below.refl _ _) 1) (hb3.mono HB2.out.size)))
    clear hp3 hb3
    go_wp2
    exact bodyPost_ret (v := .tuple #[.slice s3 rn c3, .int .i64 re]) (by simp [results, Try.results24, go_sem]) rfl ⟨s3, c3, rfl, HP3.out, HB3.out⟩

set_option maxHeartbeats 4000000 in
theorem psh_d (c : Cfg) (ok : c.Ok) (at0 : Int) (hat : I64 at0) (s : Option Addr) (len cap : Nat) (K T : Nat → Int) (E : Nat → Option Addr × Nat × Nat) (EE : Nat → Nat → Ent) (w : World) (h : SnsAt w s len K T E EE) (hT : ∀ i, i < len → I64 (T i)) (hlen : (len : Int) ≤ 4611686018427387904) (h0 : pchk c K T E EE len = 0) (h1 : pickE T at0 len = 0) (hb : ¬ pickB T at0 len < 0) :
    Calls Try.prog 24 #[cfgV c, .int .i64 at0, .slice s len cap] w (Rets w (okN (btwE c (K (shA T at0 len)) (T (shA T at0 len)) (E (shA T at0 len)).1 (E (shA T at0 len)).2.1 (E (shA T at0 len)).2.2 (EE (shA T at0 len)) (K (shB T at0 len)) (T (shB T at0 len)) (E (shB T at0 len)).1 (E (shB T at0 len)).2.1 (E (shB T at0 len)).2.2 (EE (shB T at0 len)) at0) (E (shA T at0 len)).2.1) (btwE c (K (shA T at0 len)) (T (shA T at0 len)) (E (shA T at0 len)).1 (E (shA T at0 len)).2.1 (E (shA T at0 len)).2.2 (EE (shA T at0 len)) (K (shB T at0 len)) (T (shB T at0 len)) (E (shB T at0 len)).1 (E (shB T at0 len)).2.1 (E (shB T at0 len)).2.2 (EE (shB T at0 len)) at0) (btwF c.curved (EE (shA T at0 len)) (EE (shB T at0 len)) (E (shB T at0 len)).2.1 (at0 - T (shA T at0 len)) (T (shB T at0 len) - T (shA T at0 len)))) := by
  obtain ⟨hpa, hva, hpb⟩ := pick_in h1
  obtain ⟨hpb, hvb⟩ := hpb hb
  generalize shA T at0 len = va at *
  generalize shB T at0 len = vb at *
  have BY := fun w' (hw : Below w.heap.size w w') => pbtw_f c (K va) (T va) (E va).1 (E va).2.1 (E va).2.2 (EE va) (K vb) (T vb) (E vb).1 (E vb).2.1 (E vb).2.2 (EE vb) at0 w' ((h.2 va hva).1.below hw) ((h.2 vb hvb).1.below hw) (h.2 va hva).2 (h.2 vb hvb).2
  unfold Rets at BY ⊢
  generalize okN (btwE c (K va) (T va) (E va).1 (E va).2.1 (E va).2.2 (EE va) (K vb) (T vb) (E vb).1 (E vb).2.1 (E vb).2.2 (EE vb) at0) (E va).2.1 = rn at *
  generalize btwE c (K va) (T va) (E va).1 (E va).2.1 (E va).2.2 (EE va) (K vb) (T vb) (E vb).1 (E vb).2.1 (E vb).2.2 (EE vb) at0 = re at *
  generalize (btwF c.curved (EE va) (EE vb) (E vb).2.1 (at0 - T va) (T vb - T va)) = rp at *
  have CK := pcheck_f c s len cap K T E EE (w.alloc (.cells #[.int .i64 c.ring, .int .i64 c.window, .int .i64 c.base, .int .i64 c.gain, .int .i64 c.least, .int .i64 c.most, .int .i64 c.slack, .int .i64 c.num, .int .i64 c.den, .int .i64 c.extra, .bool c.curved] 23)) (h.below ((Below.refl _ _).alloc (Nat.le_refl _) _)) hlen
  have bc := Blk.new w #[.int .i64 c.ring, .int .i64 c.window, .int .i64 c.base, .int .i64 c.gain, .int .i64 c.least, .int .i64 c.most, .int .i64 c.slack, .int .i64 c.num, .int .i64 c.den, .int .i64 c.extra, .bool c.curved] 23
  have hB0 : Below w.heap.size w (w.alloc (.cells #[.int .i64 c.ring, .int .i64 c.window, .int .i64 c.base, .int .i64 c.gain, .int .i64 c.least, .int .i64 c.most, .int .i64 c.slack, .int .i64 c.num, .int .i64 c.den, .int .i64 c.extra, .bool c.curved] 23)) := (Below.refl _ _).alloc (Nat.le_refl _) _
  have PK := fun w' hw => pick_f at0 s len cap K T E w' hw hlen
  unfold cfgV at CK ⊢
  rw [h1, hpa, hpb] at PK
  rw [h0] at CK
  unfold cfgV snapV at BY
  have hpb2 : decide ((vb : Int) < 0) = false := decide_eq_false (by omega)
  clear h0 h1 hpa hpb hb
  have HS := Lib.hid h
  go_enter Try.func24, Try.ntmps24
  go_wp2_with fail
  refine CK.mono ?_; rintro e w1 ⟨rfl, hb1⟩
  have SC := Lib.hid (bc.below hb1 (by simp))
  have HB1 : Hid (Below w.heap.size w w1) := Lib.hid (hB0.trans (hb1.mono (by simp)))
  clear hb1 CK bc hB0
  go_wp2_with fail
  refine (PK _ (h.1.below HB1.out)).mono ?_; rintro e w2 ⟨rfl, hb2⟩
  have SCn := Lib.hid (SC.out.below hb2 SC.out.lt)
  have HB2 : Hid (Below w.heap.size w w2) := Lib.hid (HB1.out.trans (hb2.mono HB1.out.size))
  clear hb2 PK SC HB1
  obtain ⟨q0, q1, q2, q3, q4, q5, q6, q7, q8, q9, q10⟩ := cfg_cells SCn.out
  rcases HS.out.1 with hz | ⟨b, off, rfl, hb, hcs⟩
  · omega
  have hval : (va : Int) < len := by omega
  have hvbl : (vb : Int) < len := by omega
  obtain ⟨d0, d1, d2⟩ := hcs va hva
  have s0 := (HB2.out.cell (p := ⟨b, off + va * 3, none⟩) hb).trans d0
  have s1 := (HB2.out.cell (p := ⟨b, off + va * 3 + 1, none⟩) hb).trans d1
  have s2 := (HB2.out.cell (p := ⟨b, off + va * 3 + 2, none⟩) hb).trans d2
  clear d0 d1 d2
  obtain ⟨d0, d1, d2⟩ := hcs vb hvb
  have r0 := (HB2.out.cell (p := ⟨b, off + vb * 3, none⟩) hb).trans d0
  have r1 := (HB2.out.cell (p := ⟨b, off + vb * 3 + 1, none⟩) hb).trans d1
  have r2 := (HB2.out.cell (p := ⟨b, off + vb * 3 + 2, none⟩) hb).trans d2
  clear d0 d1 d2
  have BY2 := Lib.hid (fun w' (hw : Below w2.heap.size w2 w') => BY w' (HB2.out.trans (hw.mono HB2.out.size)))
  clear BY hcs h HS
  generalize K va = ka at *
  generalize T va = ta at *
  generalize (E va).1 = ea at *
  generalize (E va).2.1 = el at *
  generalize (E va).2.2 = ec at *
  generalize K vb = kb at *
  generalize T vb = tb at *
  generalize (E vb).1 = fa at *
  generalize (E vb).2.1 = fl at *
  generalize (E vb).2.2 = fc at *
  go_wp2_with fail
  go_region_with (go_at_call 12; refine (BY2.out _ (below_drewN (Below.refl _ _) 1)).mono ?_; rintro e w3 ⟨s3, c3, rfl, hp3, hb3⟩)
  all_goals
    have HP3 := Lib.hid hp3
    have HB3 : Hid (Below w.heap.size w w3) := Lib.hid (HB2.out.trans (Below.trans (below_drewN (Below.refl _ _) 1) (hb3.mono HB2.out.size)))
    clear hp3 hb3
    go_wp2
    exact bodyPost_ret (v := .tuple #[.slice s3 rn c3, .int .i64 re]) (by simp [results, Try.results24, go_sem]) rfl ⟨s3, c3, rfl, HP3.out, HB3.out⟩

theorem psh_f (c : Cfg) (ok : c.Ok) (at0 : Int) (hat : I64 at0) (s : Option Addr) (len cap : Nat) (K T : Nat → Int) (E : Nat → Option Addr × Nat × Nat) (EE : Nat → Nat → Ent) (w : World) (h : SnsAt w s len K T E EE) (hT : ∀ i, i < len → I64 (T i)) (hlen : (len : Int) ≤ 4611686018427387904) : Calls Try.prog 24 #[cfgV c, .int .i64 at0, .slice s len cap] w (Rets w (shN c at0 K T E EE len) (shE c at0 K T E EE len) (shP c at0 K T E EE len)) := by
  by_cases h0 : pchk c K T E EE len = 0
  · by_cases h1 : pickE T at0 len = 0
    · by_cases hb : pickB T at0 len < 0
      · have e : shE c at0 K T E EE len = bydE c (K (shA T at0 len)) (T (shA T at0 len)) (E (shA T at0 len)).1 (E (shA T at0 len)).2.1 (E (shA T at0 len)).2.2 (EE (shA T at0 len)) at0 := by unfold shE; rw [if_pos h0, if_pos h1, if_pos hb]
        unfold shN shP
        rw [e, if_pos hb]
        exact psh_c c ok at0 hat s len cap K T E EE w h hT hlen h0 h1 hb
      · have e : shE c at0 K T E EE len = btwE c (K (shA T at0 len)) (T (shA T at0 len)) (E (shA T at0 len)).1 (E (shA T at0 len)).2.1 (E (shA T at0 len)).2.2 (EE (shA T at0 len)) (K (shB T at0 len)) (T (shB T at0 len)) (E (shB T at0 len)).1 (E (shB T at0 len)).2.1 (E (shB T at0 len)).2.2 (EE (shB T at0 len)) at0 := by unfold shE; rw [if_pos h0, if_pos h1, if_neg hb]
        unfold shN shP
        rw [e, if_neg hb]
        exact psh_d c ok at0 hat s len cap K T E EE w h hT hlen h0 h1 hb
    · have e : shE c at0 K T E EE len = pickE T at0 len := by unfold shE; rw [if_pos h0, if_neg h1]
      unfold shN
      rw [e, if_neg h1]
      exact (psh_b c ok at0 hat s len cap K T E EE w h hT hlen h0 h1).mono fun e w' ⟨h2, h3⟩ => ⟨none, 0, h2, .inl rfl, h3⟩
  · have e : shE c at0 K T E EE len = pchk c K T E EE len := by unfold shE; rw [if_neg h0]
    unfold shN
    rw [e, if_neg h0]
    exact (psh_a c ok at0 hat s len cap K T E EE w h hT hlen h0).mono fun e w' ⟨h2, h3⟩ => ⟨none, 0, h2, .inl rfl, h3⟩

set_option maxHeartbeats 1000000 in
theorem rsh_a (c : Cfg) (ok : c.Ok) (at0 : Int) (hat : I64 at0) (s : Option Addr) (len cap : Nat) (K T : Nat → Int) (E : Nat → Option Addr × Nat × Nat) (EE : Nat → Nat → Ent) (w : World) (h : SnsAt w s len K T E EE) (hT : ∀ i, i < len → I64 (T i)) (hlen : (len : Int) ≤ 4611686018427387904) (h0 : pchk c K T E EE len ≠ 0) :
    Calls Try.prog 25 #[cfgV c, .int .i64 at0, .slice s len cap] w fun e w' => e = .returned (.tuple #[.slice none 0 0, .int .i64 (pchk c K T E EE len)]) ∧ Below w.heap.size w w' := by
  have CK := rpcheck_f c s len cap K T E EE (w.alloc (.cells #[.int .i64 c.ring, .int .i64 c.window, .int .i64 c.base, .int .i64 c.gain, .int .i64 c.least, .int .i64 c.most, .int .i64 c.slack, .int .i64 c.num, .int .i64 c.den, .int .i64 c.extra, .bool c.curved] 23)) (h.below ((Below.refl _ _).alloc (Nat.le_refl _) _)) hlen
  have bc := Blk.new w #[.int .i64 c.ring, .int .i64 c.window, .int .i64 c.base, .int .i64 c.gain, .int .i64 c.least, .int .i64 c.most, .int .i64 c.slack, .int .i64 c.num, .int .i64 c.den, .int .i64 c.extra, .bool c.curved] 23
  have hB0 : Below w.heap.size w (w.alloc (.cells #[.int .i64 c.ring, .int .i64 c.window, .int .i64 c.base, .int .i64 c.gain, .int .i64 c.least, .int .i64 c.most, .int .i64 c.slack, .int .i64 c.num, .int .i64 c.den, .int .i64 c.extra, .bool c.curved] 23)) := (Below.refl _ _).alloc (Nat.le_refl _) _
  unfold cfgV at CK ⊢
  generalize pchk c K T E EE len = z at *
  have hz : (z != 0) = true := by simpa using h0
  go_enter Try.func25, Try.ntmps25
  go_wp2_with fail
  refine CK.mono ?_; rintro e w1 ⟨rfl, hb1⟩
  have SC := Lib.hid (bc.below hb1 (by simp))
  have HB1 : Hid (Below w.heap.size w w1) := Lib.hid (hB0.trans (hb1.mono (by simp)))
  clear hb1 CK bc hB0
  go_wp2
  exact bodyPost_ret (v := .tuple #[.slice none 0 0, .int .i64 z]) (by simp [results, Try.results25, go_sem]) rfl ⟨rfl, HB1.out⟩

set_option maxHeartbeats 1000000 in
theorem rsh_b (c : Cfg) (ok : c.Ok) (at0 : Int) (hat : I64 at0) (s : Option Addr) (len cap : Nat) (K T : Nat → Int) (E : Nat → Option Addr × Nat × Nat) (EE : Nat → Nat → Ent) (w : World) (h : SnsAt w s len K T E EE) (hT : ∀ i, i < len → I64 (T i)) (hlen : (len : Int) ≤ 4611686018427387904) (h0 : pchk c K T E EE len = 0) (h1 : pickE T at0 len ≠ 0) :
    Calls Try.prog 25 #[cfgV c, .int .i64 at0, .slice s len cap] w fun e w' => e = .returned (.tuple #[.slice none 0 0, .int .i64 (pickE T at0 len)]) ∧ Below w.heap.size w w' := by
  have CK := rpcheck_f c s len cap K T E EE (w.alloc (.cells #[.int .i64 c.ring, .int .i64 c.window, .int .i64 c.base, .int .i64 c.gain, .int .i64 c.least, .int .i64 c.most, .int .i64 c.slack, .int .i64 c.num, .int .i64 c.den, .int .i64 c.extra, .bool c.curved] 23)) (h.below ((Below.refl _ _).alloc (Nat.le_refl _) _)) hlen
  have bc := Blk.new w #[.int .i64 c.ring, .int .i64 c.window, .int .i64 c.base, .int .i64 c.gain, .int .i64 c.least, .int .i64 c.most, .int .i64 c.slack, .int .i64 c.num, .int .i64 c.den, .int .i64 c.extra, .bool c.curved] 23
  have hB0 : Below w.heap.size w (w.alloc (.cells #[.int .i64 c.ring, .int .i64 c.window, .int .i64 c.base, .int .i64 c.gain, .int .i64 c.least, .int .i64 c.most, .int .i64 c.slack, .int .i64 c.num, .int .i64 c.den, .int .i64 c.extra, .bool c.curved] 23)) := (Below.refl _ _).alloc (Nat.le_refl _) _
  have PK := fun w' hw => rpick_f at0 s len cap K T E w' hw hlen
  unfold cfgV at CK ⊢
  generalize pickE T at0 len = z at *
  generalize pickA T at0 len = pa at *
  generalize pickB T at0 len = pb at *
  have hz : (z != 0) = true := by simpa using h1
  rw [h0] at CK
  clear h0
  go_enter Try.func25, Try.ntmps25
  go_wp2_with fail
  refine CK.mono ?_; rintro e w1 ⟨rfl, hb1⟩
  have SC := Lib.hid (bc.below hb1 (by simp))
  have HB1 : Hid (Below w.heap.size w w1) := Lib.hid (hB0.trans (hb1.mono (by simp)))
  clear hb1 CK bc hB0
  go_wp2_with fail
  refine (PK _ (h.1.below HB1.out)).mono ?_; rintro e w2 ⟨rfl, hb2⟩
  have SCn := Lib.hid (SC.out.below hb2 SC.out.lt)
  have HB2 : Hid (Below w.heap.size w w2) := Lib.hid (HB1.out.trans (hb2.mono HB1.out.size))
  clear hb2 PK SC HB1
  go_wp2
  exact bodyPost_ret (v := .tuple #[.slice none 0 0, .int .i64 z]) (by simp [results, Try.results25, go_sem]) rfl ⟨rfl, HB2.out⟩

set_option maxHeartbeats 2000000 in
theorem rsh_c (c : Cfg) (ok : c.Ok) (at0 : Int) (hat : I64 at0) (s : Option Addr) (len cap : Nat) (K T : Nat → Int) (E : Nat → Option Addr × Nat × Nat) (EE : Nat → Nat → Ent) (w : World) (h : SnsAt w s len K T E EE) (hT : ∀ i, i < len → I64 (T i)) (hlen : (len : Int) ≤ 4611686018427387904) (h0 : pchk c K T E EE len = 0) (h1 : pickE T at0 len = 0) (hb : pickB T at0 len < 0) :
    Calls Try.prog 25 #[cfgV c, .int .i64 at0, .slice s len cap] w (Rets w (okN (bydE c (K (shA T at0 len)) (T (shA T at0 len)) (E (shA T at0 len)).1 (E (shA T at0 len)).2.1 (E (shA T at0 len)).2.2 (EE (shA T at0 len)) at0) (E (shA T at0 len)).2.1) (bydE c (K (shA T at0 len)) (T (shA T at0 len)) (E (shA T at0 len)).1 (E (shA T at0 len)).2.1 (E (shA T at0 len)).2.2 (EE (shA T at0 len)) at0) (byF (byM c (subF at0 (T (shA T at0 len)))) (byD c (subF at0 (T (shA T at0 len)))) (EE (shA T at0 len)))) := by
  obtain ⟨hpa, hva, _⟩ := pick_in h1
  generalize shA T at0 len = va at *
  have BY := fun w' (hw : Below w.heap.size w w') => rbyd_f c ok (K va) (T va) (E va).1 (E va).2.1 (E va).2.2 (EE va) at0 w' (hT va hva) hat ((h.2 va hva).1.below hw) (h.2 va hva).2
  unfold Rets at BY ⊢
  generalize okN (bydE c (K va) (T va) (E va).1 (E va).2.1 (E va).2.2 (EE va) at0) (E va).2.1 = rn at *
  generalize bydE c (K va) (T va) (E va).1 (E va).2.1 (E va).2.2 (EE va) at0 = re at *
  generalize (byF (byM c (subF at0 (T va))) (byD c (subF at0 (T va))) (EE va)) = rp at *
  have CK := rpcheck_f c s len cap K T E EE (w.alloc (.cells #[.int .i64 c.ring, .int .i64 c.window, .int .i64 c.base, .int .i64 c.gain, .int .i64 c.least, .int .i64 c.most, .int .i64 c.slack, .int .i64 c.num, .int .i64 c.den, .int .i64 c.extra, .bool c.curved] 23)) (h.below ((Below.refl _ _).alloc (Nat.le_refl _) _)) hlen
  have bc := Blk.new w #[.int .i64 c.ring, .int .i64 c.window, .int .i64 c.base, .int .i64 c.gain, .int .i64 c.least, .int .i64 c.most, .int .i64 c.slack, .int .i64 c.num, .int .i64 c.den, .int .i64 c.extra, .bool c.curved] 23
  have hB0 : Below w.heap.size w (w.alloc (.cells #[.int .i64 c.ring, .int .i64 c.window, .int .i64 c.base, .int .i64 c.gain, .int .i64 c.least, .int .i64 c.most, .int .i64 c.slack, .int .i64 c.num, .int .i64 c.den, .int .i64 c.extra, .bool c.curved] 23)) := (Below.refl _ _).alloc (Nat.le_refl _) _
  have PK := fun w' hw => rpick_f at0 s len cap K T E w' hw hlen
  unfold cfgV at CK ⊢
  rw [h1, hpa] at PK
  generalize pickB T at0 len = pb at *
  rw [h0] at CK
  unfold cfgV snapV at BY
  have hpb : decide (pb < 0) = true := decide_eq_true hb
  clear h0 h1 hpa
  have HS := Lib.hid h
  go_enter Try.func25, Try.ntmps25
  go_wp2_with fail
  refine CK.mono ?_; rintro e w1 ⟨rfl, hb1⟩
  have SC := Lib.hid (bc.below hb1 (by simp))
  have HB1 : Hid (Below w.heap.size w w1) := Lib.hid (hB0.trans (hb1.mono (by simp)))
  clear hb1 CK bc hB0
  go_wp2_with fail
  refine (PK _ (h.1.below HB1.out)).mono ?_; rintro e w2 ⟨rfl, hb2⟩
  have SCn := Lib.hid (SC.out.below hb2 SC.out.lt)
  have HB2 : Hid (Below w.heap.size w w2) := Lib.hid (HB1.out.trans (hb2.mono HB1.out.size))
  clear hb2 PK SC HB1
  obtain ⟨q0, q1, q2, q3, q4, q5, q6, q7, q8, q9, q10⟩ := cfg_cells SCn.out
  have hpb0 := hb
  clear hb
  rcases HS.out.1 with hz | ⟨b, off, rfl, hb, hcs⟩
  · omega
  have hval : (va : Int) < len := by omega
  obtain ⟨d0, d1, d2⟩ := hcs va hva
  have s0 := (HB2.out.cell (p := ⟨b, off + va * 3, none⟩) hb).trans d0
  have s1 := (HB2.out.cell (p := ⟨b, off + va * 3 + 1, none⟩) hb).trans d1
  have s2 := (HB2.out.cell (p := ⟨b, off + va * 3 + 2, none⟩) hb).trans d2
  clear d0 d1 d2
  have BY2 := Lib.hid (fun w' (hw : Below w2.heap.size w2 w') => BY w' (HB2.out.trans (hw.mono HB2.out.size)))
  clear BY hcs h HS
  generalize K va = ka at *
  generalize T va = ta at *
  generalize (E va).1 = ea at *
  generalize (E va).2.1 = el at *
  generalize (E va).2.2 = ec at *
  go_wp2_with fail
  go_region_with (go_at_call 20; refine (BY2.out _ (below_drewN (Below.refl _ _) 1)).mono ?_; rintro e w3 ⟨s3, c3, rfl, hp3, hb3⟩)
  all_goals
    have HP3 := Lib.hid hp3
    have HB3 : Hid (Below w.heap.size w w3) := Lib.hid (HB2.out.trans (Below.trans (below_drewN (Below.refl _ _) 1) (hb3.mono HB2.out.size)))
    clear hp3 hb3
    go_wp2
    exact bodyPost_ret (v := .tuple #[.slice s3 rn c3, .int .i64 re]) (by simp [results, Try.results25, go_sem]) rfl ⟨s3, c3, rfl, HP3.out, HB3.out⟩

set_option maxHeartbeats 4000000 in
theorem rsh_d (c : Cfg) (ok : c.Ok) (at0 : Int) (hat : I64 at0) (s : Option Addr) (len cap : Nat) (K T : Nat → Int) (E : Nat → Option Addr × Nat × Nat) (EE : Nat → Nat → Ent) (w : World) (h : SnsAt w s len K T E EE) (hT : ∀ i, i < len → I64 (T i)) (hlen : (len : Int) ≤ 4611686018427387904) (h0 : pchk c K T E EE len = 0) (h1 : pickE T at0 len = 0) (hb : ¬ pickB T at0 len < 0) :
    Calls Try.prog 25 #[cfgV c, .int .i64 at0, .slice s len cap] w (Rets w (okN (btwE c (K (shA T at0 len)) (T (shA T at0 len)) (E (shA T at0 len)).1 (E (shA T at0 len)).2.1 (E (shA T at0 len)).2.2 (EE (shA T at0 len)) (K (shB T at0 len)) (T (shB T at0 len)) (E (shB T at0 len)).1 (E (shB T at0 len)).2.1 (E (shB T at0 len)).2.2 (EE (shB T at0 len)) at0) (E (shA T at0 len)).2.1) (btwE c (K (shA T at0 len)) (T (shA T at0 len)) (E (shA T at0 len)).1 (E (shA T at0 len)).2.1 (E (shA T at0 len)).2.2 (EE (shA T at0 len)) (K (shB T at0 len)) (T (shB T at0 len)) (E (shB T at0 len)).1 (E (shB T at0 len)).2.1 (E (shB T at0 len)).2.2 (EE (shB T at0 len)) at0) (btwF c.curved (EE (shA T at0 len)) (EE (shB T at0 len)) (E (shB T at0 len)).2.1 (at0 - T (shA T at0 len)) (T (shB T at0 len) - T (shA T at0 len)))) := by
  obtain ⟨hpa, hva, hpb⟩ := pick_in h1
  obtain ⟨hpb, hvb⟩ := hpb hb
  generalize shA T at0 len = va at *
  generalize shB T at0 len = vb at *
  have BY := fun w' (hw : Below w.heap.size w w') => rbtw_f c (K va) (T va) (E va).1 (E va).2.1 (E va).2.2 (EE va) (K vb) (T vb) (E vb).1 (E vb).2.1 (E vb).2.2 (EE vb) at0 w' ((h.2 va hva).1.below hw) ((h.2 vb hvb).1.below hw) (h.2 va hva).2 (h.2 vb hvb).2
  unfold Rets at BY ⊢
  generalize okN (btwE c (K va) (T va) (E va).1 (E va).2.1 (E va).2.2 (EE va) (K vb) (T vb) (E vb).1 (E vb).2.1 (E vb).2.2 (EE vb) at0) (E va).2.1 = rn at *
  generalize btwE c (K va) (T va) (E va).1 (E va).2.1 (E va).2.2 (EE va) (K vb) (T vb) (E vb).1 (E vb).2.1 (E vb).2.2 (EE vb) at0 = re at *
  generalize (btwF c.curved (EE va) (EE vb) (E vb).2.1 (at0 - T va) (T vb - T va)) = rp at *
  have CK := rpcheck_f c s len cap K T E EE (w.alloc (.cells #[.int .i64 c.ring, .int .i64 c.window, .int .i64 c.base, .int .i64 c.gain, .int .i64 c.least, .int .i64 c.most, .int .i64 c.slack, .int .i64 c.num, .int .i64 c.den, .int .i64 c.extra, .bool c.curved] 23)) (h.below ((Below.refl _ _).alloc (Nat.le_refl _) _)) hlen
  have bc := Blk.new w #[.int .i64 c.ring, .int .i64 c.window, .int .i64 c.base, .int .i64 c.gain, .int .i64 c.least, .int .i64 c.most, .int .i64 c.slack, .int .i64 c.num, .int .i64 c.den, .int .i64 c.extra, .bool c.curved] 23
  have hB0 : Below w.heap.size w (w.alloc (.cells #[.int .i64 c.ring, .int .i64 c.window, .int .i64 c.base, .int .i64 c.gain, .int .i64 c.least, .int .i64 c.most, .int .i64 c.slack, .int .i64 c.num, .int .i64 c.den, .int .i64 c.extra, .bool c.curved] 23)) := (Below.refl _ _).alloc (Nat.le_refl _) _
  have PK := fun w' hw => rpick_f at0 s len cap K T E w' hw hlen
  unfold cfgV at CK ⊢
  rw [h1, hpa, hpb] at PK
  rw [h0] at CK
  unfold cfgV snapV at BY
  have hpb2 : decide ((vb : Int) < 0) = false := decide_eq_false (by omega)
  clear h0 h1 hpa hpb hb
  have HS := Lib.hid h
  go_enter Try.func25, Try.ntmps25
  go_wp2_with fail
  refine CK.mono ?_; rintro e w1 ⟨rfl, hb1⟩
  have SC := Lib.hid (bc.below hb1 (by simp))
  have HB1 : Hid (Below w.heap.size w w1) := Lib.hid (hB0.trans (hb1.mono (by simp)))
  clear hb1 CK bc hB0
  go_wp2_with fail
  refine (PK _ (h.1.below HB1.out)).mono ?_; rintro e w2 ⟨rfl, hb2⟩
  have SCn := Lib.hid (SC.out.below hb2 SC.out.lt)
  have HB2 : Hid (Below w.heap.size w w2) := Lib.hid (HB1.out.trans (hb2.mono HB1.out.size))
  clear hb2 PK SC HB1
  obtain ⟨q0, q1, q2, q3, q4, q5, q6, q7, q8, q9, q10⟩ := cfg_cells SCn.out
  rcases HS.out.1 with hz | ⟨b, off, rfl, hb, hcs⟩
  · omega
  have hval : (va : Int) < len := by omega
  have hvbl : (vb : Int) < len := by omega
  obtain ⟨d0, d1, d2⟩ := hcs va hva
  have s0 := (HB2.out.cell (p := ⟨b, off + va * 3, none⟩) hb).trans d0
  have s1 := (HB2.out.cell (p := ⟨b, off + va * 3 + 1, none⟩) hb).trans d1
  have s2 := (HB2.out.cell (p := ⟨b, off + va * 3 + 2, none⟩) hb).trans d2
  clear d0 d1 d2
  obtain ⟨d0, d1, d2⟩ := hcs vb hvb
  have r0 := (HB2.out.cell (p := ⟨b, off + vb * 3, none⟩) hb).trans d0
  have r1 := (HB2.out.cell (p := ⟨b, off + vb * 3 + 1, none⟩) hb).trans d1
  have r2 := (HB2.out.cell (p := ⟨b, off + vb * 3 + 2, none⟩) hb).trans d2
  clear d0 d1 d2
  have BY2 := Lib.hid (fun w' (hw : Below w2.heap.size w2 w') => BY w' (HB2.out.trans (hw.mono HB2.out.size)))
  clear BY hcs h HS
  generalize K va = ka at *
  generalize T va = ta at *
  generalize (E va).1 = ea at *
  generalize (E va).2.1 = el at *
  generalize (E va).2.2 = ec at *
  generalize K vb = kb at *
  generalize T vb = tb at *
  generalize (E vb).1 = fa at *
  generalize (E vb).2.1 = fl at *
  generalize (E vb).2.2 = fc at *
  go_wp2_with fail
  go_region_with (go_at_call 13; refine (BY2.out _ (below_drewN (Below.refl _ _) 1)).mono ?_; rintro e w3 ⟨s3, c3, rfl, hp3, hb3⟩)
  all_goals
    have HP3 := Lib.hid hp3
    have HB3 : Hid (Below w.heap.size w w3) := Lib.hid (HB2.out.trans (Below.trans (below_drewN (Below.refl _ _) 1) (hb3.mono HB2.out.size)))
    clear hp3 hb3
    go_wp2
    exact bodyPost_ret (v := .tuple #[.slice s3 rn c3, .int .i64 re]) (by simp [results, Try.results25, go_sem]) rfl ⟨s3, c3, rfl, HP3.out, HB3.out⟩

theorem rsh_f (c : Cfg) (ok : c.Ok) (at0 : Int) (hat : I64 at0) (s : Option Addr) (len cap : Nat) (K T : Nat → Int) (E : Nat → Option Addr × Nat × Nat) (EE : Nat → Nat → Ent) (w : World) (h : SnsAt w s len K T E EE) (hT : ∀ i, i < len → I64 (T i)) (hlen : (len : Int) ≤ 4611686018427387904) : Calls Try.prog 25 #[cfgV c, .int .i64 at0, .slice s len cap] w (Rets w (shN c at0 K T E EE len) (shE c at0 K T E EE len) (shP c at0 K T E EE len)) := by
  by_cases h0 : pchk c K T E EE len = 0
  · by_cases h1 : pickE T at0 len = 0
    · by_cases hb : pickB T at0 len < 0
      · have e : shE c at0 K T E EE len = bydE c (K (shA T at0 len)) (T (shA T at0 len)) (E (shA T at0 len)).1 (E (shA T at0 len)).2.1 (E (shA T at0 len)).2.2 (EE (shA T at0 len)) at0 := by unfold shE; rw [if_pos h0, if_pos h1, if_pos hb]
        unfold shN shP
        rw [e, if_pos hb]
        exact rsh_c c ok at0 hat s len cap K T E EE w h hT hlen h0 h1 hb
      · have e : shE c at0 K T E EE len = btwE c (K (shA T at0 len)) (T (shA T at0 len)) (E (shA T at0 len)).1 (E (shA T at0 len)).2.1 (E (shA T at0 len)).2.2 (EE (shA T at0 len)) (K (shB T at0 len)) (T (shB T at0 len)) (E (shB T at0 len)).1 (E (shB T at0 len)).2.1 (E (shB T at0 len)).2.2 (EE (shB T at0 len)) at0 := by unfold shE; rw [if_pos h0, if_pos h1, if_neg hb]
        unfold shN shP
        rw [e, if_neg hb]
        exact rsh_d c ok at0 hat s len cap K T E EE w h hT hlen h0 h1 hb
    · have e : shE c at0 K T E EE len = pickE T at0 len := by unfold shE; rw [if_pos h0, if_neg h1]
      unfold shN
      rw [e, if_neg h1]
      exact (rsh_b c ok at0 hat s len cap K T E EE w h hT hlen h0 h1).mono fun e w' ⟨h2, h3⟩ => ⟨none, 0, h2, .inl rfl, h3⟩
  · have e : shE c at0 K T E EE len = pchk c K T E EE len := by unfold shE; rw [if_neg h0]
    unfold shN
    rw [e, if_neg h0]
    exact (rsh_a c ok at0 hat s len cap K T E EE w h hT hlen h0).mono fun e w' ⟨h2, h3⟩ => ⟨none, 0, h2, .inl rfl, h3⟩
end Go.Proofs.Ytobphhbmlhjbcaa
