/- Part and Beyond, Pick: the program's and the document's (printed by gen/br5.py). -/
import Derived.Test.YtobphhbmlhjbcaaBr4
import Derived.LoopTactic
namespace Go.Proofs.Ytobphhbmlhjbcaa
set_option linter.unusedVariables false
set_option linter.unusedSimpArgs false
open Go.RowKit

def two {α : Type} (a b : α) : Nat → α
  | 0 => a
  | _ => b
theorem snaps2 (w : World) (k0 t0 k1 t1 : Int) (ea fa : Option Addr) (el ec fl fc : Nat) :
    SnapsAt (w.alloc (.cells #[.int .i64 k0, .int .i64 t0, .slice ea el ec, .int .i64 k1, .int .i64 t1, .slice fa fl fc] 26)) (some ⟨w.heap.size, 0, none⟩) 2 (two k0 k1) (two t0 t1) (two (ea, el, ec) (fa, fl, fc)) := by
  refine .inr ⟨w.heap.size, 0, rfl, by simp, fun i hi => ?_⟩
  have b := Blk.new w #[.int .i64 k0, .int .i64 t0, .slice ea el ec, .int .i64 k1, .int .i64 t1, .slice fa fl fc] 26
  match i, hi with
  | 0, _ => exact ⟨b.cell 0, b.cell 1, b.cell 2⟩
  | 1, _ => exact ⟨b.cell 3, b.cell 4, b.cell 5⟩
theorem snaps1 (w : World) (k0 t0 : Int) (ea : Option Addr) (el ec : Nat) :
    SnapsAt (w.alloc (.cells #[.int .i64 k0, .int .i64 t0, .slice ea el ec] 26)) (some ⟨w.heap.size, 0, none⟩) 1 (fun _ => k0) (fun _ => t0) (fun _ => (ea, el, ec)) := by
  refine .inr ⟨w.heap.size, 0, rfl, by simp, fun i hi => ?_⟩
  have b := Blk.new w #[.int .i64 k0, .int .i64 t0, .slice ea el ec] 26
  match i, hi with
  | 0, _ => exact ⟨b.cell 0, b.cell 1, b.cell 2⟩

def partE (a b t : Int) : Int := if chkT (two a b) 2 = 0 then (if t < a ∨ b < t then 3 else 0) else chkT (two a b) 2
def partN (a b t : Int) : Int := if partE a b t = 0 then t - a else 0
def partD (a b t : Int) : Int := if partE a b t = 0 then b - a else 0
def beyE (a t : Int) : Int := if chkT (fun _ => a) 1 = 0 then (if t < a then 3 else 0) else chkT (fun _ => a) 1
def beyN (a t : Int) : Int := if beyE a t = 0 then subF t a else 0

theorem bcheck_b (s : Option Addr) (len cap : Nat) (K T : Nat → Int) (E : Nat → Option Addr × Nat × Nat) (w : World) (h : SnapsAt w s len K T E) (hlen : (len : Int) ≤ 4611686018427387904) :
    Calls Try.prog 53 #[.slice s len cap] w fun e w' => e = .returned (.int .i64 (chkT T len)) ∧ Below w.heap.size w w' := bcheck_f s len cap K T E w h hlen
theorem rcheck_b (s : Option Addr) (len cap : Nat) (K T : Nat → Int) (E : Nat → Option Addr × Nat × Nat) (w : World) (h : SnapsAt w s len K T E) (hlen : (len : Int) ≤ 4611686018427387904) :
    Calls Try.prog 58 #[.slice s len cap] w fun e w' => e = .returned (.int .i64 (chkT T len)) ∧ Below w.heap.size w w' :=
  (rcheck18_f s len cap K T E w h hlen).mono fun e w' ⟨h1, n, h2⟩ => ⟨h1, by rw [h2]; exact below_drewN (Below.refl _ _) n⟩

set_option maxRecDepth 100000 in
set_option maxHeartbeats 2000000 in
theorem bpart_f (k0 t0 k1 t1 at0 : Int) (ea fa : Option Addr) (el ec fl fc : Nat) (w : World) :
    Calls Try.prog 29 #[.agg #[.int .i64 k0, .int .i64 t0, .slice ea el ec], .agg #[.int .i64 k1, .int .i64 t1, .slice fa fl fc], .int .i64 at0] w fun e w' => e = .returned (.tuple #[.int .i64 (partN t0 t1 at0), .int .i64 (partD t0 t1 at0), .int .i64 (partE t0 t1 at0)]) ∧ Below w.heap.size w w' := by
  have CK := bcheck_b (some ⟨w.heap.size + 1 + 1, 0, none⟩) 2 2 (two k0 k1) (two t0 t1) (two (ea, el, ec) (fa, fl, fc)) (((w.alloc (.cells #[.int .i64 k0, .int .i64 t0, .slice ea el ec] 26)).alloc (.cells #[.int .i64 k1, .int .i64 t1, .slice fa fl fc] 26)).alloc (.cells #[.int .i64 k0, .int .i64 t0, .slice ea el ec, .int .i64 k1, .int .i64 t1, .slice fa fl fc] 26)) (by have e := snaps2 ((w.alloc (.cells #[.int .i64 k0, .int .i64 t0, .slice ea el ec] 26)).alloc (.cells #[.int .i64 k1, .int .i64 t1, .slice fa fl fc] 26)) k0 t0 k1 t1 ea fa el ec fl fc; simpa using e) (by decide)
  have XA : Hid (Blk (((w.alloc (.cells #[.int .i64 k0, .int .i64 t0, .slice ea el ec] 26)).alloc (.cells #[.int .i64 k1, .int .i64 t1, .slice fa fl fc] 26)).alloc (.cells #[.int .i64 k0, .int .i64 t0, .slice ea el ec, .int .i64 k1, .int .i64 t1, .slice fa fl fc] 26)) w.heap.size #[.int .i64 k0, .int .i64 t0, .slice ea el ec] 26) := Lib.hid (((Blk.new w _ _).alloc _).alloc _)
  have XB : Hid (Blk (((w.alloc (.cells #[.int .i64 k0, .int .i64 t0, .slice ea el ec] 26)).alloc (.cells #[.int .i64 k1, .int .i64 t1, .slice fa fl fc] 26)).alloc (.cells #[.int .i64 k0, .int .i64 t0, .slice ea el ec, .int .i64 k1, .int .i64 t1, .slice fa fl fc] 26)) (w.heap.size + 1) #[.int .i64 k1, .int .i64 t1, .slice fa fl fc] 26) := Lib.hid (by have e := (Blk.new (w.alloc (.cells #[.int .i64 k0, .int .i64 t0, .slice ea el ec] 26)) #[.int .i64 k1, .int .i64 t1, .slice fa fl fc] 26).alloc (.cells #[.int .i64 k0, .int .i64 t0, .slice ea el ec, .int .i64 k1, .int .i64 t1, .slice fa fl fc] 26); simpa using e)
  have HB : Hid (Below w.heap.size w (((w.alloc (.cells #[.int .i64 k0, .int .i64 t0, .slice ea el ec] 26)).alloc (.cells #[.int .i64 k1, .int .i64 t1, .slice fa fl fc] 26)).alloc (.cells #[.int .i64 k0, .int .i64 t0, .slice ea el ec, .int .i64 k1, .int .i64 t1, .slice fa fl fc] 26))) := Lib.hid (by (repeat (first | exact Below.refl _ _ | assumption | (refine Below.drew ?_) | (refine below_drewN ?_ _) | (refine Below.alloc ?_ (by simp <;> omega) _) | (refine Below.setCell ?_ (by simp <;> omega) _))))
  by_cases hc : chkT (two t0 t1) 2 = 0
  · have ⟨b1, b2⟩ := chk_bounds hc (j := 0) (by omega)
    have ⟨b3, b4⟩ := chk_bounds hc (j := 1) (by omega)
    simp only [two] at b1 b2 b3 b4
    have PE : Hid (partE t0 t1 at0 = if at0 < t0 ∨ t1 < at0 then 3 else 0) := Lib.hid (by unfold partE; rw [if_pos hc])
    have PN : Hid (partN t0 t1 at0 = if partE t0 t1 at0 = 0 then at0 - t0 else 0) := Lib.hid rfl
    have PD : Hid (partD t0 t1 at0 = if partE t0 t1 at0 = 0 then t1 - t0 else 0) := Lib.hid rfl
    rw [hc] at CK
    clear hc
    generalize partE t0 t1 at0 = pe at *
    generalize partN t0 t1 at0 = pn at *
    generalize partD t0 t1 at0 = pd at *
    by_cases h1 : at0 < t0 ∨ t1 < at0
    · have e1 : pe = 3 := by rw [PE.out, if_pos h1]
      have e2 : pn = 0 := by rw [PN.out, e1]; rfl
      have e3 : pd = 0 := by rw [PD.out, e1]; rfl
      subst e2; subst e3; subst e1
      have h2 : decide (at0 < t0) = false → decide (t1 < at0) = true := fun h => by simp at h; simp; omega
      clear PE PN PD b1 b2 b3 b4
      rcases h1 with h1 | h1
      · go_enter Try.func29, Try.ntmps29
        go_wp2_with fail
        refine CK.mono ?_; rintro e w1 ⟨rfl, hb1⟩
        have HB1 : Hid (Below w.heap.size w w1) := Lib.hid (HB.out.trans (hb1.mono HB.out.size))
        have qa := (XA.out.below hb1 XA.out.lt).cell 1
        have qb := (XB.out.below hb1 XB.out.lt).cell 1
        simp at qa qb
        clear hb1 HB XA XB
        go_wp2
        exact bodyPost_ret (v := .tuple #[.int .i64 0, .int .i64 0, .int .i64 3]) (by simp [results, Try.results29, go_sem]) rfl ⟨rfl, HB1.out⟩
      · by_cases h3 : at0 < t0
        · go_enter Try.func29, Try.ntmps29
          go_wp2_with fail
          refine CK.mono ?_; rintro e w1 ⟨rfl, hb1⟩
          have HB1 : Hid (Below w.heap.size w w1) := Lib.hid (HB.out.trans (hb1.mono HB.out.size))
          have qa := (XA.out.below hb1 XA.out.lt).cell 1
          have qb := (XB.out.below hb1 XB.out.lt).cell 1
          simp at qa qb
          clear hb1 HB XA XB
          go_wp2
          exact bodyPost_ret (v := .tuple #[.int .i64 0, .int .i64 0, .int .i64 3]) (by simp [results, Try.results29, go_sem]) rfl ⟨rfl, HB1.out⟩
        · go_enter Try.func29, Try.ntmps29
          go_wp2_with fail
          refine CK.mono ?_; rintro e w1 ⟨rfl, hb1⟩
          have HB1 : Hid (Below w.heap.size w w1) := Lib.hid (HB.out.trans (hb1.mono HB.out.size))
          have qa := (XA.out.below hb1 XA.out.lt).cell 1
          have qb := (XB.out.below hb1 XB.out.lt).cell 1
          simp at qa qb
          clear hb1 HB XA XB
          go_wp2
          exact bodyPost_ret (v := .tuple #[.int .i64 0, .int .i64 0, .int .i64 3]) (by simp [results, Try.results29, go_sem]) rfl ⟨rfl, HB1.out⟩
    · have e1 : pe = 0 := by rw [PE.out, if_neg h1]
      have e2 : pn = at0 - t0 := by rw [PN.out, e1]; rfl
      have e3 : pd = t1 - t0 := by rw [PD.out, e1]; rfl
      subst e2; subst e3; subst e1
      have h2 : decide (at0 < t0) = false := decide_eq_false (by omega)
      have h3 : decide (t1 < at0) = false := decide_eq_false (by omega)
      have h4 : t0 ≤ at0 := by omega
      have h5 : at0 ≤ t1 := by omega
      clear PE PN PD h1
      go_enter Try.func29, Try.ntmps29
      go_wp2_with fail
      refine CK.mono ?_; rintro e w1 ⟨rfl, hb1⟩
      have HB1 : Hid (Below w.heap.size w w1) := Lib.hid (HB.out.trans (hb1.mono HB.out.size))
      have qa := (XA.out.below hb1 XA.out.lt).cell 1
      have qb := (XB.out.below hb1 XB.out.lt).cell 1
      simp at qa qb
      clear hb1 HB XA XB
      go_wp2_with fail
      go_quiet (fail)
      go_wp2
      exact bodyPost_ret (v := .tuple #[.int .i64 (at0 - t0), .int .i64 (t1 - t0), .int .i64 0]) (by simp [results, Try.results29, go_sem]) rfl ⟨rfl, below_drewN HB1.out nq⟩
  · have PE : Hid (partE t0 t1 at0 = chkT (two t0 t1) 2) := Lib.hid (by unfold partE; rw [if_neg hc])
    have PN : Hid (partN t0 t1 at0 = 0) := Lib.hid (by unfold partN; rw [PE.out, if_neg hc])
    have PD : Hid (partD t0 t1 at0 = 0) := Lib.hid (by unfold partD; rw [PE.out, if_neg hc])
    rw [PE.out, PN.out, PD.out]
    clear PE PN PD
    generalize chkT (two t0 t1) 2 = c at *
    have hc2 : (c != 0) = true := by simpa using hc
    go_enter Try.func29, Try.ntmps29
    go_wp2_with fail
    refine CK.mono ?_; rintro e w1 ⟨rfl, hb1⟩
    have HB1 : Hid (Below w.heap.size w w1) := Lib.hid (HB.out.trans (hb1.mono HB.out.size))
    have qa := (XA.out.below hb1 XA.out.lt).cell 1
    have qb := (XB.out.below hb1 XB.out.lt).cell 1
    simp at qa qb
    clear hb1 HB XA XB
    go_wp2
    exact bodyPost_ret (v := .tuple #[.int .i64 0, .int .i64 0, .int .i64 c]) (by simp [results, Try.results29, go_sem]) rfl ⟨rfl, HB1.out⟩

set_option maxRecDepth 100000 in
set_option maxHeartbeats 2000000 in
theorem rbpart_f (k0 t0 k1 t1 at0 : Int) (ea fa : Option Addr) (el ec fl fc : Nat) (w : World) :
    Calls Try.prog 35 #[.agg #[.int .i64 k0, .int .i64 t0, .slice ea el ec], .agg #[.int .i64 k1, .int .i64 t1, .slice fa fl fc], .int .i64 at0] w fun e w' => e = .returned (.tuple #[.int .i64 (partN t0 t1 at0), .int .i64 (partD t0 t1 at0), .int .i64 (partE t0 t1 at0)]) ∧ Below w.heap.size w w' := by
  have CK := rcheck_b (some ⟨w.heap.size + 1 + 1, 0, none⟩) 2 2 (two k0 k1) (two t0 t1) (two (ea, el, ec) (fa, fl, fc)) (((w.alloc (.cells #[.int .i64 k0, .int .i64 t0, .slice ea el ec] 26)).alloc (.cells #[.int .i64 k1, .int .i64 t1, .slice fa fl fc] 26)).alloc (.cells #[.int .i64 k0, .int .i64 t0, .slice ea el ec, .int .i64 k1, .int .i64 t1, .slice fa fl fc] 26)) (by have e := snaps2 ((w.alloc (.cells #[.int .i64 k0, .int .i64 t0, .slice ea el ec] 26)).alloc (.cells #[.int .i64 k1, .int .i64 t1, .slice fa fl fc] 26)) k0 t0 k1 t1 ea fa el ec fl fc; simpa using e) (by decide)
  have XA : Hid (Blk (((w.alloc (.cells #[.int .i64 k0, .int .i64 t0, .slice ea el ec] 26)).alloc (.cells #[.int .i64 k1, .int .i64 t1, .slice fa fl fc] 26)).alloc (.cells #[.int .i64 k0, .int .i64 t0, .slice ea el ec, .int .i64 k1, .int .i64 t1, .slice fa fl fc] 26)) w.heap.size #[.int .i64 k0, .int .i64 t0, .slice ea el ec] 26) := Lib.hid (((Blk.new w _ _).alloc _).alloc _)
  have XB : Hid (Blk (((w.alloc (.cells #[.int .i64 k0, .int .i64 t0, .slice ea el ec] 26)).alloc (.cells #[.int .i64 k1, .int .i64 t1, .slice fa fl fc] 26)).alloc (.cells #[.int .i64 k0, .int .i64 t0, .slice ea el ec, .int .i64 k1, .int .i64 t1, .slice fa fl fc] 26)) (w.heap.size + 1) #[.int .i64 k1, .int .i64 t1, .slice fa fl fc] 26) := Lib.hid (by have e := (Blk.new (w.alloc (.cells #[.int .i64 k0, .int .i64 t0, .slice ea el ec] 26)) #[.int .i64 k1, .int .i64 t1, .slice fa fl fc] 26).alloc (.cells #[.int .i64 k0, .int .i64 t0, .slice ea el ec, .int .i64 k1, .int .i64 t1, .slice fa fl fc] 26); simpa using e)
  have HB : Hid (Below w.heap.size w (((w.alloc (.cells #[.int .i64 k0, .int .i64 t0, .slice ea el ec] 26)).alloc (.cells #[.int .i64 k1, .int .i64 t1, .slice fa fl fc] 26)).alloc (.cells #[.int .i64 k0, .int .i64 t0, .slice ea el ec, .int .i64 k1, .int .i64 t1, .slice fa fl fc] 26))) := Lib.hid (by (repeat (first | exact Below.refl _ _ | assumption | (refine Below.drew ?_) | (refine below_drewN ?_ _) | (refine Below.alloc ?_ (by simp <;> omega) _) | (refine Below.setCell ?_ (by simp <;> omega) _))))
  by_cases hc : chkT (two t0 t1) 2 = 0
  · have ⟨b1, b2⟩ := chk_bounds hc (j := 0) (by omega)
    have ⟨b3, b4⟩ := chk_bounds hc (j := 1) (by omega)
    simp only [two] at b1 b2 b3 b4
    have PE : Hid (partE t0 t1 at0 = if at0 < t0 ∨ t1 < at0 then 3 else 0) := Lib.hid (by unfold partE; rw [if_pos hc])
    have PN : Hid (partN t0 t1 at0 = if partE t0 t1 at0 = 0 then at0 - t0 else 0) := Lib.hid rfl
    have PD : Hid (partD t0 t1 at0 = if partE t0 t1 at0 = 0 then t1 - t0 else 0) := Lib.hid rfl
    rw [hc] at CK
    clear hc
    generalize partE t0 t1 at0 = pe at *
    generalize partN t0 t1 at0 = pn at *
    generalize partD t0 t1 at0 = pd at *
    by_cases h1 : at0 < t0 ∨ t1 < at0
    · have e1 : pe = 3 := by rw [PE.out, if_pos h1]
      have e2 : pn = 0 := by rw [PN.out, e1]; rfl
      have e3 : pd = 0 := by rw [PD.out, e1]; rfl
      subst e2; subst e3; subst e1
      have h2 : decide (at0 < t0) = false → decide (t1 < at0) = true := fun h => by simp at h; simp; omega
      clear PE PN PD b1 b2 b3 b4
      rcases h1 with h1 | h1
      · go_enter Try.func35, Try.ntmps35
        go_wp2_with fail
        refine CK.mono ?_; rintro e w1 ⟨rfl, hb1⟩
        have HB1 : Hid (Below w.heap.size w w1) := Lib.hid (HB.out.trans (hb1.mono HB.out.size))
        have qa := (XA.out.below hb1 XA.out.lt).cell 1
        have qb := (XB.out.below hb1 XB.out.lt).cell 1
        simp at qa qb
        clear hb1 HB XA XB
        go_wp2
        exact bodyPost_ret (v := .tuple #[.int .i64 0, .int .i64 0, .int .i64 3]) (by simp [results, Try.results35, go_sem]) rfl ⟨rfl, HB1.out⟩
      · by_cases h3 : at0 < t0
        · go_enter Try.func35, Try.ntmps35
          go_wp2_with fail
          refine CK.mono ?_; rintro e w1 ⟨rfl, hb1⟩
          have HB1 : Hid (Below w.heap.size w w1) := Lib.hid (HB.out.trans (hb1.mono HB.out.size))
          have qa := (XA.out.below hb1 XA.out.lt).cell 1
          have qb := (XB.out.below hb1 XB.out.lt).cell 1
          simp at qa qb
          clear hb1 HB XA XB
          go_wp2
          exact bodyPost_ret (v := .tuple #[.int .i64 0, .int .i64 0, .int .i64 3]) (by simp [results, Try.results35, go_sem]) rfl ⟨rfl, HB1.out⟩
        · go_enter Try.func35, Try.ntmps35
          go_wp2_with fail
          refine CK.mono ?_; rintro e w1 ⟨rfl, hb1⟩
          have HB1 : Hid (Below w.heap.size w w1) := Lib.hid (HB.out.trans (hb1.mono HB.out.size))
          have qa := (XA.out.below hb1 XA.out.lt).cell 1
          have qb := (XB.out.below hb1 XB.out.lt).cell 1
          simp at qa qb
          clear hb1 HB XA XB
          go_wp2
          exact bodyPost_ret (v := .tuple #[.int .i64 0, .int .i64 0, .int .i64 3]) (by simp [results, Try.results35, go_sem]) rfl ⟨rfl, HB1.out⟩
    · have e1 : pe = 0 := by rw [PE.out, if_neg h1]
      have e2 : pn = at0 - t0 := by rw [PN.out, e1]; rfl
      have e3 : pd = t1 - t0 := by rw [PD.out, e1]; rfl
      subst e2; subst e3; subst e1
      have h2 : decide (at0 < t0) = false := decide_eq_false (by omega)
      have h3 : decide (t1 < at0) = false := decide_eq_false (by omega)
      have h4 : t0 ≤ at0 := by omega
      have h5 : at0 ≤ t1 := by omega
      clear PE PN PD h1
      go_enter Try.func35, Try.ntmps35
      go_wp2_with fail
      refine CK.mono ?_; rintro e w1 ⟨rfl, hb1⟩
      have HB1 : Hid (Below w.heap.size w w1) := Lib.hid (HB.out.trans (hb1.mono HB.out.size))
      have qa := (XA.out.below hb1 XA.out.lt).cell 1
      have qb := (XB.out.below hb1 XB.out.lt).cell 1
      simp at qa qb
      clear hb1 HB XA XB
      go_wp2_with fail
      go_quiet (fail)
      go_wp2
      exact bodyPost_ret (v := .tuple #[.int .i64 (at0 - t0), .int .i64 (t1 - t0), .int .i64 0]) (by simp [results, Try.results35, go_sem]) rfl ⟨rfl, below_drewN HB1.out nq⟩
  · have PE : Hid (partE t0 t1 at0 = chkT (two t0 t1) 2) := Lib.hid (by unfold partE; rw [if_neg hc])
    have PN : Hid (partN t0 t1 at0 = 0) := Lib.hid (by unfold partN; rw [PE.out, if_neg hc])
    have PD : Hid (partD t0 t1 at0 = 0) := Lib.hid (by unfold partD; rw [PE.out, if_neg hc])
    rw [PE.out, PN.out, PD.out]
    clear PE PN PD
    generalize chkT (two t0 t1) 2 = c at *
    have hc2 : (c != 0) = true := by simpa using hc
    go_enter Try.func35, Try.ntmps35
    go_wp2_with fail
    refine CK.mono ?_; rintro e w1 ⟨rfl, hb1⟩
    have HB1 : Hid (Below w.heap.size w w1) := Lib.hid (HB.out.trans (hb1.mono HB.out.size))
    have qa := (XA.out.below hb1 XA.out.lt).cell 1
    have qb := (XB.out.below hb1 XB.out.lt).cell 1
    simp at qa qb
    clear hb1 HB XA XB
    go_wp2
    exact bodyPost_ret (v := .tuple #[.int .i64 0, .int .i64 0, .int .i64 c]) (by simp [results, Try.results35, go_sem]) rfl ⟨rfl, HB1.out⟩

set_option maxRecDepth 100000 in
set_option maxHeartbeats 2000000 in
theorem bey_f (k0 t0 at0 : Int) (ea : Option Addr) (el ec : Nat) (ht : I64 t0) (ha : I64 at0) (w : World) :
    Calls Try.prog 42 #[.agg #[.int .i64 k0, .int .i64 t0, .slice ea el ec], .int .i64 at0] w fun e w' => e = .returned (.tuple #[.int .i64 (beyN t0 at0), .int .i64 (beyE t0 at0)]) ∧ Below w.heap.size w w' := by
  have CK := bcheck_b (some ⟨w.heap.size + 1, 0, none⟩) 1 1 (fun _ => k0) (fun _ => t0) (fun _ => (ea, el, ec)) ((w.alloc (.cells #[.int .i64 k0, .int .i64 t0, .slice ea el ec] 26)).alloc (.cells #[.int .i64 k0, .int .i64 t0, .slice ea el ec] 26)) (by have e := snaps1 (w.alloc (.cells #[.int .i64 k0, .int .i64 t0, .slice ea el ec] 26)) k0 t0 ea el ec; simpa using e) (by decide)
  have XA : Hid (Blk ((w.alloc (.cells #[.int .i64 k0, .int .i64 t0, .slice ea el ec] 26)).alloc (.cells #[.int .i64 k0, .int .i64 t0, .slice ea el ec] 26)) w.heap.size #[.int .i64 k0, .int .i64 t0, .slice ea el ec] 26) := Lib.hid ((Blk.new w _ _).alloc _)
  have HB : Hid (Below w.heap.size w ((w.alloc (.cells #[.int .i64 k0, .int .i64 t0, .slice ea el ec] 26)).alloc (.cells #[.int .i64 k0, .int .i64 t0, .slice ea el ec] 26))) := Lib.hid (by (repeat (first | exact Below.refl _ _ | assumption | (refine Below.drew ?_) | (refine below_drewN ?_ _) | (refine Below.alloc ?_ (by simp <;> omega) _) | (refine Below.setCell ?_ (by simp <;> omega) _))))
  have sb := sub_f at0 t0 ha ht
  by_cases hc : chkT (fun _ => t0) 1 = 0
  · have PE : Hid (beyE t0 at0 = if at0 < t0 then 3 else 0) := Lib.hid (by unfold beyE; rw [if_pos hc])
    have PN : Hid (beyN t0 at0 = if beyE t0 at0 = 0 then subF at0 t0 else 0) := Lib.hid rfl
    rw [hc] at CK
    clear hc
    generalize beyE t0 at0 = pe at *
    generalize beyN t0 at0 = pn at *
    generalize subF at0 t0 = sx at *
    by_cases h1 : at0 < t0
    · have e1 : pe = 3 := by rw [PE.out, if_pos h1]
      have e2 : pn = 0 := by rw [PN.out, e1]; rfl
      subst e2; subst e1
      clear PE PN ht ha
      go_enter Try.func42, Try.ntmps42
      go_wp2_with fail
      refine CK.mono ?_; rintro e w1 ⟨rfl, hb1⟩
      have HB1 : Hid (Below w.heap.size w w1) := Lib.hid (HB.out.trans (hb1.mono HB.out.size))
      have qa := (XA.out.below hb1 XA.out.lt).cell 1
      simp at qa
      clear hb1 HB XA
      go_wp2
      exact bodyPost_ret (v := .tuple #[.int .i64 0, .int .i64 3]) (by simp [results, Try.results42, go_sem]) rfl ⟨rfl, HB1.out⟩
    · have e1 : pe = 0 := by rw [PE.out, if_neg h1]
      have e2 : pn = sx := by rw [PN.out, e1]; rfl
      subst e2; subst e1
      have h2 : decide (at0 < t0) = false := decide_eq_false h1
      clear PE PN ht ha h1
      go_enter Try.func42, Try.ntmps42
      go_wp2_with fail
      refine CK.mono ?_; rintro e w1 ⟨rfl, hb1⟩
      have HB1 : Hid (Below w.heap.size w w1) := Lib.hid (HB.out.trans (hb1.mono HB.out.size))
      have qa := (XA.out.below hb1 XA.out.lt).cell 1
      simp at qa
      clear hb1 HB XA
      go_wp2_with fail
      refine (sb _).mono ?_; rintro e w' ⟨rfl, rfl⟩
      go_wp2
      exact bodyPost_ret (v := .tuple #[.int .i64 pn, .int .i64 0]) (by simp [results, Try.results42, go_sem]) rfl ⟨rfl, HB1.out⟩
  · have PE : Hid (beyE t0 at0 = chkT (fun _ => t0) 1) := Lib.hid (by unfold beyE; rw [if_neg hc])
    have PN : Hid (beyN t0 at0 = 0) := Lib.hid (by unfold beyN; rw [PE.out, if_neg hc])
    rw [PE.out, PN.out]
    clear PE PN
    generalize chkT (fun _ => t0) 1 = c at *
    have hc2 : (c != 0) = true := by simpa using hc
    clear ht ha
    go_enter Try.func42, Try.ntmps42
    go_wp2_with fail
    refine CK.mono ?_; rintro e w1 ⟨rfl, hb1⟩
    have HB1 : Hid (Below w.heap.size w w1) := Lib.hid (HB.out.trans (hb1.mono HB.out.size))
    have qa := (XA.out.below hb1 XA.out.lt).cell 1
    simp at qa
    clear hb1 HB XA
    go_wp2
    exact bodyPost_ret (v := .tuple #[.int .i64 0, .int .i64 c]) (by simp [results, Try.results42, go_sem]) rfl ⟨rfl, HB1.out⟩

set_option maxRecDepth 100000 in
set_option maxHeartbeats 2000000 in
theorem rbey_f (k0 t0 at0 : Int) (ea : Option Addr) (el ec : Nat) (ht : I64 t0) (ha : I64 at0) (w : World) :
    Calls Try.prog 45 #[.agg #[.int .i64 k0, .int .i64 t0, .slice ea el ec], .int .i64 at0] w fun e w' => e = .returned (.tuple #[.int .i64 (beyN t0 at0), .int .i64 (beyE t0 at0)]) ∧ Below w.heap.size w w' := by
  have CK := rcheck_b (some ⟨w.heap.size + 1, 0, none⟩) 1 1 (fun _ => k0) (fun _ => t0) (fun _ => (ea, el, ec)) ((w.alloc (.cells #[.int .i64 k0, .int .i64 t0, .slice ea el ec] 26)).alloc (.cells #[.int .i64 k0, .int .i64 t0, .slice ea el ec] 26)) (by have e := snaps1 (w.alloc (.cells #[.int .i64 k0, .int .i64 t0, .slice ea el ec] 26)) k0 t0 ea el ec; simpa using e) (by decide)
  have XA : Hid (Blk ((w.alloc (.cells #[.int .i64 k0, .int .i64 t0, .slice ea el ec] 26)).alloc (.cells #[.int .i64 k0, .int .i64 t0, .slice ea el ec] 26)) w.heap.size #[.int .i64 k0, .int .i64 t0, .slice ea el ec] 26) := Lib.hid ((Blk.new w _ _).alloc _)
  have HB : Hid (Below w.heap.size w ((w.alloc (.cells #[.int .i64 k0, .int .i64 t0, .slice ea el ec] 26)).alloc (.cells #[.int .i64 k0, .int .i64 t0, .slice ea el ec] 26))) := Lib.hid (by (repeat (first | exact Below.refl _ _ | assumption | (refine Below.drew ?_) | (refine below_drewN ?_ _) | (refine Below.alloc ?_ (by simp <;> omega) _) | (refine Below.setCell ?_ (by simp <;> omega) _))))
  have sb := rsub_f at0 t0 ha ht
  by_cases hc : chkT (fun _ => t0) 1 = 0
  · have PE : Hid (beyE t0 at0 = if at0 < t0 then 3 else 0) := Lib.hid (by unfold beyE; rw [if_pos hc])
    have PN : Hid (beyN t0 at0 = if beyE t0 at0 = 0 then subF at0 t0 else 0) := Lib.hid rfl
    rw [hc] at CK
    clear hc
    generalize beyE t0 at0 = pe at *
    generalize beyN t0 at0 = pn at *
    generalize subF at0 t0 = sx at *
    by_cases h1 : at0 < t0
    · have e1 : pe = 3 := by rw [PE.out, if_pos h1]
      have e2 : pn = 0 := by rw [PN.out, e1]; rfl
      subst e2; subst e1
      clear PE PN ht ha
      go_enter Try.func45, Try.ntmps45
      go_wp2_with fail
      refine CK.mono ?_; rintro e w1 ⟨rfl, hb1⟩
      have HB1 : Hid (Below w.heap.size w w1) := Lib.hid (HB.out.trans (hb1.mono HB.out.size))
      have qa := (XA.out.below hb1 XA.out.lt).cell 1
      simp at qa
      clear hb1 HB XA
      go_wp2
      exact bodyPost_ret (v := .tuple #[.int .i64 0, .int .i64 3]) (by simp [results, Try.results45, go_sem]) rfl ⟨rfl, HB1.out⟩
    · have e1 : pe = 0 := by rw [PE.out, if_neg h1]
      have e2 : pn = sx := by rw [PN.out, e1]; rfl
      subst e2; subst e1
      have h2 : decide (at0 < t0) = false := decide_eq_false h1
      clear PE PN ht ha h1
      go_enter Try.func45, Try.ntmps45
      go_wp2_with fail
      refine CK.mono ?_; rintro e w1 ⟨rfl, hb1⟩
      have HB1 : Hid (Below w.heap.size w w1) := Lib.hid (HB.out.trans (hb1.mono HB.out.size))
      have qa := (XA.out.below hb1 XA.out.lt).cell 1
      simp at qa
      clear hb1 HB XA
      go_wp2_with fail
      refine (sb _).mono ?_; rintro e w' ⟨rfl, rfl⟩
      go_wp2
      exact bodyPost_ret (v := .tuple #[.int .i64 pn, .int .i64 0]) (by simp [results, Try.results45, go_sem]) rfl ⟨rfl, HB1.out⟩
  · have PE : Hid (beyE t0 at0 = chkT (fun _ => t0) 1) := Lib.hid (by unfold beyE; rw [if_neg hc])
    have PN : Hid (beyN t0 at0 = 0) := Lib.hid (by unfold beyN; rw [PE.out, if_neg hc])
    rw [PE.out, PN.out]
    clear PE PN
    generalize chkT (fun _ => t0) 1 = c at *
    have hc2 : (c != 0) = true := by simpa using hc
    clear ht ha
    go_enter Try.func45, Try.ntmps45
    go_wp2_with fail
    refine CK.mono ?_; rintro e w1 ⟨rfl, hb1⟩
    have HB1 : Hid (Below w.heap.size w w1) := Lib.hid (HB.out.trans (hb1.mono HB.out.size))
    have qa := (XA.out.below hb1 XA.out.lt).cell 1
    simp at qa
    clear hb1 HB XA
    go_wp2
    exact bodyPost_ret (v := .tuple #[.int .i64 0, .int .i64 c]) (by simp [results, Try.results45, go_sem]) rfl ⟨rfl, HB1.out⟩

set_option maxRecDepth 100000 in
set_option maxHeartbeats 1000000 in
theorem pick_bad (at0 : Int) (s : Option Addr) (len cap : Nat) (K T : Nat → Int) (E : Nat → Option Addr × Nat × Nat) (w : World) (h : SnapsAt w s len K T E) (hlen : (len : Int) ≤ 4611686018427387904) (hc : chkT T len ≠ 0) :
    Calls Try.prog 49 #[.int .i64 at0, .slice s len cap] w fun e w' => e = .returned (.tuple #[.int .i64 (pickA T at0 len), .int .i64 (pickB T at0 len), .int .i64 (pickE T at0 len)]) ∧ Below w.heap.size w w' := by
  have CK := fun w' hb => bcheck_f s len cap K T E w' (h.below hb) hlen
  rw [show pickA T at0 len = 0 by unfold pickA; rw [if_neg hc], show pickB T at0 len = 0 by unfold pickB; rw [if_neg hc], show pickE T at0 len = chkT T len by unfold pickE; rw [if_neg hc]]
  generalize chkT T len = c at *
  have hc2 : (c != 0) = true := by simpa using hc
  have BX : ∀ w1, Below (w.heap.size + 1 + 1 + 1 + 1) ((((w.alloc (.cells #[.int .i64 at0] 2)).alloc (.cells #[.int .i64 0] 3)).alloc (.cells #[.int .i64 0] 3)).alloc (.cells #[.int .i64 0] 31)) w1 → Blk w1 (w.heap.size + 1) #[.int .i64 0] 3 ∧ Blk w1 (w.heap.size + 1 + 1) #[.int .i64 0] 3 ∧ Blk w1 (w.heap.size + 1 + 1 + 1) #[.int .i64 0] 31 ∧ Below w.heap.size w w1 := fun w1 hb1 => by
    refine ⟨?_, ?_, ?_, Below.trans (by (repeat (first | exact Below.refl _ _ | assumption | (refine Below.drew ?_) | (refine below_drewN ?_ _) | (refine Below.alloc ?_ (by simp <;> omega) _) | (refine Below.setCell ?_ (by simp <;> omega) _)))) (hb1.mono (by omega))⟩
    · have e := ((Blk.new (w.alloc (.cells #[.int .i64 at0] 2)) #[.int .i64 0] 3).alloc (.cells #[.int .i64 0] 3)).alloc (.cells #[.int .i64 0] 31)
      simp at e
      exact e.below hb1 (by omega)
    · have e := (Blk.new ((w.alloc (.cells #[.int .i64 at0] 2)).alloc (.cells #[.int .i64 0] 3)) #[.int .i64 0] 3).alloc (.cells #[.int .i64 0] 31)
      simp at e
      exact e.below hb1 (by omega)
    · have e := Blk.new (((w.alloc (.cells #[.int .i64 at0] 2)).alloc (.cells #[.int .i64 0] 3)).alloc (.cells #[.int .i64 0] 3)) #[.int .i64 0] 31
      simp at e
      exact e.below hb1 (by omega)
  have BX := Lib.hid BX
  go_enter Try.func49, Try.ntmps49
  go_wp2_with fail
  refine (CK _ (by (repeat (first | exact Below.refl _ _ | assumption | (refine Below.drew ?_) | (refine below_drewN ?_ _) | (refine Below.alloc ?_ (by simp <;> omega) _) | (refine Below.setCell ?_ (by simp <;> omega) _))))).mono ?_; rintro e w1 ⟨rfl, hb1⟩
  obtain ⟨B4, B5, B6, hB⟩ := BX.out w1 (by simpa using hb1)
  clear hb1 CK BX
  have q4 := B4.cell 0; have q5 := B5.cell 0; have q6 := B6.cell 0
  have f4 := B4.free 0; have f5 := B5.free 0; have f6 := B6.free 0
  simp at q4 q5 q6
  go_wp2
  exact bodyPost_ret (v := .tuple #[.int .i64 0, .int .i64 0, .int .i64 c]) (by simp [results, Try.results49, go_sem, *]) rfl ⟨rfl, by (repeat (first | exact Below.refl _ _ | assumption | (refine Below.drew ?_) | (refine below_drewN ?_ _) | (refine Below.alloc ?_ (by simp <;> omega) _) | (refine Below.setCell ?_ (by simp <;> omega) _)))⟩

theorem pick_f (at0 : Int) (s : Option Addr) (len cap : Nat) (K T : Nat → Int) (E : Nat → Option Addr × Nat × Nat) (w : World) (h : SnapsAt w s len K T E) (hlen : (len : Int) ≤ 4611686018427387904) :
    Calls Try.prog 49 #[.int .i64 at0, .slice s len cap] w fun e w' => e = .returned (.tuple #[.int .i64 (pickA T at0 len), .int .i64 (pickB T at0 len), .int .i64 (pickE T at0 len)]) ∧ Below w.heap.size w w' := by
  by_cases hc : chkT T len = 0
  · exact pick_ok at0 s len cap K T E w h hlen hc
  · exact pick_bad at0 s len cap K T E w h hlen hc

end Go.Proofs.Ytobphhbmlhjbcaa
