/- The law VecLerps, walked: it returns true (printed by gen/law02.py). -/
import Derived.Test.YtbefllijmbcpjaaLaw02
import Derived.Deep.RegionHeld3
namespace Go.Proofs.Ytbefllijmbcpjaa
set_option linter.unusedVariables false
set_option linter.unusedSimpArgs false
open Go.RowKit

abbrev P2At (w : World) (b : Nat) (x y : Int) : Prop := Blk w b #[.int .i64 x, .int .i64 y] 32
theorem p2_cells {w : World} {b : Nat} {x y : Int} (h : P2At w b x y) : w.cell? ⟨b, 0, none⟩ = some (.int .i64 x) ∧ w.cell? ⟨b, 1, none⟩ = some (.int .i64 y) := by
  have h0 := h.cell 0; have h1 := h.cell 1
  simp at h0 h1
  exact ⟨h0, h1⟩
theorem clampF_of {x a b : Int} (h : min a b ≤ x) (h2 : x ≤ max a b) : clampF x a b = x := by unfold clampF; omega
theorem vbetwF_lerp {a0 a1 a2 b0 b1 b2 num den : Int} (h : fineB num den = true) : vbetwF (lerpF a0 b0 num den) (lerpF a1 b1 num den) (lerpF a2 b2 num den) a0 a1 a2 b0 b1 b2 = true := by
  have h0 := lerpF_between (a := a0) (b := b0) h
  have h1 := lerpF_between (a := a1) (b := b1) h
  have h2 := lerpF_between (a := a2) (b := b2) h
  unfold vbetwF
  rw [clampF_of h0.1 h0.2, clampF_of h1.1 h1.2, clampF_of h2.1 h2.2]
  simp

set_option maxRecDepth 100000 in
set_option maxHeartbeats 2000000 in
theorem vecLerps_walk (a0 a1 a2 b0 b1 b2 p0 p1 : Int) (h0 : I64 a0) (h1 : I64 a1) (h2 : I64 a2) (k0 : I64 b0) (k1 : I64 b1) (k2 : I64 b2) (_ : I64 p0) (_ : I64 p1) (w : World) :
    Calls Try.prog 7 #[v3 a0 a1 a2, v3 b0 b1 b2, v2 p0 p1] w fun e w' => e = .returned (.bool true) ∧ Below w.heap.size w w' := by
  have f1 := rfine_f p0 p1
  have Ba : Vec3At (((w.alloc (.cells #[.int .i64 a0, .int .i64 a1, .int .i64 a2] 22)).alloc (.cells #[.int .i64 b0, .int .i64 b1, .int .i64 b2] 22)).alloc (.cells #[.int .i64 p0, .int .i64 p1] 32)) (w.heap.size) a0 a1 a2 := by simpa using (((Blk.new w #[.int .i64 a0, .int .i64 a1, .int .i64 a2] 22).alloc (.cells #[.int .i64 b0, .int .i64 b1, .int .i64 b2] 22)).alloc (.cells #[.int .i64 p0, .int .i64 p1] 32))
  have Bb : Vec3At (((w.alloc (.cells #[.int .i64 a0, .int .i64 a1, .int .i64 a2] 22)).alloc (.cells #[.int .i64 b0, .int .i64 b1, .int .i64 b2] 22)).alloc (.cells #[.int .i64 p0, .int .i64 p1] 32)) (w.heap.size + 1) b0 b1 b2 := by simpa using ((Blk.new (w.alloc (.cells #[.int .i64 a0, .int .i64 a1, .int .i64 a2] 22)) #[.int .i64 b0, .int .i64 b1, .int .i64 b2] 22).alloc (.cells #[.int .i64 p0, .int .i64 p1] 32))
  have hB : Below w.heap.size w (((w.alloc (.cells #[.int .i64 a0, .int .i64 a1, .int .i64 a2] 22)).alloc (.cells #[.int .i64 b0, .int .i64 b1, .int .i64 b2] 22)).alloc (.cells #[.int .i64 p0, .int .i64 p1] 32)) := by (repeat (first | exact Below.refl _ _ | assumption | (refine Below.drew ?_) | (refine below_drewN ?_ _) | (refine Below.alloc ?_ (by simp <;> omega) _) | (refine Below.setCell ?_ (by simp <;> omega) _)))
  have Bp : P2At (((w.alloc (.cells #[.int .i64 a0, .int .i64 a1, .int .i64 a2] 22)).alloc (.cells #[.int .i64 b0, .int .i64 b1, .int .i64 b2] 22)).alloc (.cells #[.int .i64 p0, .int .i64 p1] 32)) (w.heap.size + 1 + 1) p0 p1 := by simpa using Blk.new ((w.alloc (.cells #[.int .i64 a0, .int .i64 a1, .int .i64 a2] 22)).alloc (.cells #[.int .i64 b0, .int .i64 b1, .int .i64 b2] 22)) #[.int .i64 p0, .int .i64 p1] 32
  cases hf : fineB p0 p1
  · have c1 := vlerp_bad a0 a1 a2 b0 b1 b2 p0 p1 hf
    rw [hf] at f1
    clear hf h0 h1 h2 k0 k1 k2
    go_enter Try.func7, Try.ntmps7
    go_wp2_with fail
    refine (c1 _).mono ?_; rintro e w1 ⟨rfl, hb⟩
    have hB := hB.trans (hb.mono hB.size)
    have Ba := Ba.below hb Ba.lt
    have Bb := Bb.below hb Bb.lt
    have Bp := Bp.below hb Bp.lt
    have hB := hB.alloc hB.size (.cells #[.int .i64 0, .int .i64 0, .int .i64 0] 22)
    have Ba := Ba.alloc (.cells #[.int .i64 0, .int .i64 0, .int .i64 0] 22)
    have Bb := Bb.alloc (.cells #[.int .i64 0, .int .i64 0, .int .i64 0] 22)
    have Bp := Bp.alloc (.cells #[.int .i64 0, .int .i64 0, .int .i64 0] 22)
    have By := Blk.new w1 #[.int .i64 0, .int .i64 0, .int .i64 0] 22
    clear hb
    obtain ⟨qa0, qa1, qa2⟩ := vec_cells Ba
    obtain ⟨qb0, qb1, qb2⟩ := vec_cells Bb
    obtain ⟨qp0, qp1⟩ := p2_cells Bp
    obtain ⟨qy0, qy1, qy2⟩ := vec_cells By
    go_wp2_with fail
    refine (f1 _).mono ?_; rintro e w' ⟨rfl, rfl⟩
    go_wp2_with fail
    refine (alive02_f _).mono ?_; rintro e w3 ⟨rfl, hb⟩
    have By := By.below hb By.lt
    have hB := hB.trans (hb.mono hB.size)
    clear hb qy0 qy1 qy2 qa0 qa1 qa2 qb0 qb1 qb2 qp0 qp1
    obtain ⟨qy0, qy1, qy2⟩ := vec_cells By
    go_wp2
    go_ret
    exact ⟨rfl, hB⟩
  · have c1 := vlerp_f a0 a1 a2 b0 b1 b2 p0 p1 h0 h1 h2 k0 k1 k2 hf
    have c2 := rvlerp_f a0 a1 a2 b0 b1 b2 p0 p1 h0 h1 h2 k0 k1 k2 hf
    have c3 := vbetw_f (lerpF a0 b0 p0 p1) (lerpF a1 b1 p0 p1) (lerpF a2 b2 p0 p1) a0 a1 a2 b0 b1 b2
    rw [vbetwF_lerp hf] at c3
    generalize lerpF a0 b0 p0 p1 = y0 at *
    generalize lerpF a1 b1 p0 p1 = y1 at *
    generalize lerpF a2 b2 p0 p1 = y2 at *
    rw [hf] at f1
    clear hf h0 h1 h2 k0 k1 k2
    go_enter Try.func7, Try.ntmps7
    go_wp2_with fail
    refine (c1 _).mono ?_; rintro e w1 ⟨rfl, hb⟩
    have hB := hB.trans (hb.mono hB.size)
    have Ba := Ba.below hb Ba.lt
    have Bb := Bb.below hb Bb.lt
    have Bp := Bp.below hb Bp.lt
    have hB := hB.alloc hB.size (.cells #[.int .i64 y0, .int .i64 y1, .int .i64 y2] 22)
    have Ba := Ba.alloc (.cells #[.int .i64 y0, .int .i64 y1, .int .i64 y2] 22)
    have Bb := Bb.alloc (.cells #[.int .i64 y0, .int .i64 y1, .int .i64 y2] 22)
    have Bp := Bp.alloc (.cells #[.int .i64 y0, .int .i64 y1, .int .i64 y2] 22)
    have By := Blk.new w1 #[.int .i64 y0, .int .i64 y1, .int .i64 y2] 22
    clear hb
    obtain ⟨qa0, qa1, qa2⟩ := vec_cells Ba
    obtain ⟨qb0, qb1, qb2⟩ := vec_cells Bb
    obtain ⟨qp0, qp1⟩ := p2_cells Bp
    obtain ⟨qy0, qy1, qy2⟩ := vec_cells By
    go_wp2_with fail
    refine (f1 _).mono ?_; rintro e w' ⟨rfl, rfl⟩
    go_wp2_with fail
    go_region_held3 (fun w' => (w'.cell? ⟨w.heap.size, 0, none⟩ = some (.int .i64 a0) ∧ w'.cell? ⟨w.heap.size, 1, none⟩ = some (.int .i64 a1) ∧ w'.cell? ⟨w.heap.size, 2, none⟩ = some (.int .i64 a2)) ∧ (w'.cell? ⟨w.heap.size + 1, 0, none⟩ = some (.int .i64 b0) ∧ w'.cell? ⟨w.heap.size + 1, 1, none⟩ = some (.int .i64 b1) ∧ w'.cell? ⟨w.heap.size + 1, 2, none⟩ = some (.int .i64 b2)) ∧ (w'.cell? ⟨w.heap.size + 1 + 1, 0, none⟩ = some (.int .i64 p0) ∧ w'.cell? ⟨w.heap.size + 1 + 1, 1, none⟩ = some (.int .i64 p1)) ∧ (w'.cell? ⟨w1.heap.size, 0, none⟩ = some (.int .i64 y0) ∧ w'.cell? ⟨w1.heap.size, 1, none⟩ = some (.int .i64 y1) ∧ w'.cell? ⟨w1.heap.size, 2, none⟩ = some (.int .i64 y2)) ∧ Vec3At w' (w.heap.size) a0 a1 a2 ∧ Vec3At w' (w.heap.size + 1) b0 b1 b2 ∧ P2At w' (w.heap.size + 1 + 1) p0 p1 ∧ Vec3At w' (w1.heap.size) y0 y1 y2 ∧ Below w.heap.size w w')
      (first | (go_keep; done) | (((try dsimp only); repeat' apply And.intro) <;> (first | assumption | exact Below.drew (by assumption) | go_keep)) | (go_split_ands; exact ⟨vec_cells (Blk.below (b := w.heap.size) (by assumption) hbk (Blk.lt (b := w.heap.size) (by assumption))), vec_cells (Blk.below (b := w.heap.size + 1) (by assumption) hbk (Blk.lt (b := w.heap.size + 1) (by assumption))), p2_cells (Blk.below (b := w.heap.size + 1 + 1) (by assumption) hbk (Blk.lt (b := w.heap.size + 1 + 1) (by assumption))), vec_cells (Blk.below (b := w1.heap.size) (by assumption) hbk (Blk.lt (b := w1.heap.size) (by assumption))), Blk.below (b := w.heap.size) (by assumption) hbk (Blk.lt (b := w.heap.size) (by assumption)), Blk.below (b := w.heap.size + 1) (by assumption) hbk (Blk.lt (b := w.heap.size + 1) (by assumption)), Blk.below (b := w.heap.size + 1 + 1) (by assumption) hbk (Blk.lt (b := w.heap.size + 1 + 1) (by assumption)), Blk.below (b := w1.heap.size) (by assumption) hbk (Blk.lt (b := w1.heap.size) (by assumption)), Below.trans (by assumption) (hbk.mono (Below.size (by assumption)))⟩))
      ((first | (go_at_call 15; ((with_reducible refine (alive02_f _).mono ?_); rintro e wx ⟨rfl, hbk⟩)) | (go_at_call 31; ((with_reducible refine (c2 _).mono ?_); rintro e wx ⟨rfl, hbk⟩)) | (go_at_call 20; ((with_reducible refine (c3 _).mono ?_); rintro e wx ⟨rfl, hbk⟩))))
    all_goals
      rename_i hH
      obtain ⟨_, _, _, _, _, _, _, _, hH⟩ := hH
      go_wp2
      go_ret
      exact ⟨rfl, hH⟩

end Go.Proofs.Ytbefllijmbcpjaa
