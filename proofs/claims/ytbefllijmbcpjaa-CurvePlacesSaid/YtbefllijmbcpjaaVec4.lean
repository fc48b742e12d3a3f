/- package vec: a part of the way; between; near; the document's. -/
import Derived.Test.YtbefllijmbcpjaaVec3
import Derived.Test.YtbefllijmbcpjaaEqArr
namespace Go.Proofs.Ytbefllijmbcpjaa
set_option linter.unusedVariables false
set_option linter.unusedSimpArgs false
open Go.RowKit

theorem vall_f (a b c : Bool) (w : World) :
    Calls Try.prog 40 #[t3 a b c] w fun e w' => e = .returned (.bool (a && b && c)) ∧ w' = w.alloc (.cells #[.bool a, .bool b, .bool c] 55) := by
  cases a <;> cases b <;> cases c
  all_goals
    go_enter Try.func40, Try.ntmps40
    go_wp2
    go_ret
    exact ⟨rfl, rfl⟩

def vnearF (a0 a1 a2 b0 b1 b2 d : Int) : Bool := decide (0 ≤ d) && (nearF a0 b0 d && nearF a1 b1 d && nearF a2 b2 d)

set_option maxHeartbeats 1000000 in
theorem vnear_f (a0 a1 a2 b0 b1 b2 d : Int) (h0 : I64 a0) (h1 : I64 a1) (h2 : I64 a2) (k0 : I64 b0) (k1 : I64 b1) (k2 : I64 b2) (hd : I64 d) (w : World) :
    Calls Try.prog 14 #[v3 a0 a1 a2, v3 b0 b1 b2, .int .i64 d] w fun e w' => e = .returned (.bool (vnearF a0 a1 a2 b0 b1 b2 d)) ∧ Below w.heap.size w w' := by
  by_cases d0 : 0 ≤ d
  · have HE : Hid (vnearF a0 a1 a2 b0 b1 b2 d = (nearF a0 b0 d && nearF a1 b1 d && nearF a2 b2 d)) := Lib.hid (by unfold vnearF; rw [decide_eq_true d0, Bool.true_and])
    have c := fun bd w h => eachNear_f a0 a1 a2 b0 b1 b2 d h0 h1 h2 k0 k1 k2 d0 hd.2 bd w h
    generalize nearF a0 b0 d = r0 at *
    generalize nearF a1 b1 d = r1 at *
    generalize nearF a2 b2 d = r2 at *
    have e := vall_f r0 r1 r2
    have q := (Blk.new ((w.alloc (.cells #[.int .i64 a0, .int .i64 a1, .int .i64 a2] 22)).alloc (.cells #[.int .i64 b0, .int .i64 b1, .int .i64 b2] 22)) #[.int .i64 d] 2).cell 0
    simp at q
    have c := c _ _ q
    clear h0 h1 h2 k0 k1 k2 hd q
    go_enter Try.func14, Try.ntmps14
    go_wp2_with fail
    refine c.mono ?_; rintro e w1 ⟨rfl, hb⟩
    have HB : Hid (Below w.heap.size w w1) := Lib.hid (Below.trans (by (repeat (first | exact Below.refl _ _ | assumption | (refine Below.drew ?_) | (refine below_drewN ?_ _) | (refine Below.alloc ?_ (by simp <;> omega) _) | (refine Below.setCell ?_ (by simp <;> omega) _)))) (hb.mono (by simp <;> omega)))
    clear hb c
    go_wp2_with fail
    refine (e _).mono ?_; rintro e w' ⟨rfl, rfl⟩
    go_wp2
    go_ret
    exact ⟨by rw [HE.out]; rfl, HB.out.alloc HB.out.size _⟩
  · have HE : Hid (vnearF a0 a1 a2 b0 b1 b2 d = false) := Lib.hid (by unfold vnearF; rw [decide_eq_false d0, Bool.false_and])
    clear h0 h1 h2 k0 k1 k2 hd
    go_enter Try.func14, Try.ntmps14
    go_wp2
    go_ret
    exact ⟨by rw [HE.out]; rfl, by (repeat (first | exact Below.refl _ _ | assumption | (refine Below.drew ?_) | (refine below_drewN ?_ _) | (refine Below.alloc ?_ (by simp <;> omega) _) | (refine Below.setCell ?_ (by simp <;> omega) _)))⟩

theorem vlerp_bad (a0 a1 a2 b0 b1 b2 num den : Int) (h : fineB num den = false) (w : World) :
    Calls Try.prog 29 #[v3 a0 a1 a2, v3 b0 b1 b2, .int .i64 num, .int .i64 den] w fun e w' => e = .returned (.tuple #[v3 0 0 0, .int .i64 3]) ∧ Below w.heap.size w w' := by
  have c := partn_bad num den h
  clear h
  go_enter Try.func29, Try.ntmps29
  go_wp2_with fail
  refine (c _).mono ?_; rintro e w' ⟨rfl, rfl⟩
  go_wp2
  exact bodyPost_ret (v := .tuple #[v3 0 0 0, .int .i64 3]) (by simp [results, Try.results29, go_sem]) rfl ⟨rfl, by (repeat (first | exact Below.refl _ _ | assumption | (refine Below.drew ?_) | (refine below_drewN ?_ _) | (refine Below.alloc ?_ (by simp <;> omega) _) | (refine Below.setCell ?_ (by simp <;> omega) _)))⟩

set_option maxHeartbeats 1000000 in
theorem vlerp_f (a0 a1 a2 b0 b1 b2 num den : Int) (h0 : I64 a0) (h1 : I64 a1) (h2 : I64 a2) (k0 : I64 b0) (k1 : I64 b1) (k2 : I64 b2) (h : fineB num den = true) (w : World) :
    Calls Try.prog 29 #[v3 a0 a1 a2, v3 b0 b1 b2, .int .i64 num, .int .i64 den] w fun e w' => e = .returned (.tuple #[v3 (lerpF a0 b0 num den) (lerpF a1 b1 num den) (lerpF a2 b2 num den), .int .i64 0]) ∧ Below w.heap.size w w' := by
  have c := partn_f num den h
  have d := fun bn bd w hn hd => eachLerp_f a0 a1 a2 b0 b1 b2 num den h0 h1 h2 k0 k1 k2 h bn bd w hn hd
  generalize lerpF a0 b0 num den = r0 at *
  generalize lerpF a1 b1 num den = r1 at *
  generalize lerpF a2 b2 num den = r2 at *
  clear h0 h1 h2 k0 k1 k2 h
  go_enter Try.func29, Try.ntmps29
  go_wp2_with fail
  refine (c _).mono ?_; rintro e w' ⟨rfl, k, rfl⟩
  go_wp2_with fail
  refine (d (w.heap.size + 1 + 1) (w.heap.size + 1 + 1 + 1) _ (by simp [go_sem]) (by simp [go_sem])).mono ?_; rintro e w1 ⟨rfl, hb⟩
  have R := ((Blk.new _ _ _).draws k).below hb (by simp)
  have hB : Below w.heap.size w w1 := Below.trans (by (repeat (first | exact Below.refl _ _ | assumption | (refine Below.drew ?_) | (refine below_drewN ?_ _) | (refine Below.alloc ?_ (by simp <;> omega) _) | (refine Below.setCell ?_ (by simp <;> omega) _)))) (hb.mono (by simp <;> omega))
  clear hb
  have q0 := R.cell 0; have q1 := R.cell 1; have q2 := R.cell 2; have f0 := R.free 0; have f1 := R.free 1; have f2 := R.free 2
  simp at q0 q1 q2 f0 f1 f2
  go_wp2
  exact bodyPost_ret (v := .tuple #[v3 r0 r1 r2, .int .i64 0]) (by simp [results, Try.results29, go_sem, *]) rfl ⟨rfl, by (repeat (first | exact Below.refl _ _ | assumption | (refine Below.drew ?_) | (refine below_drewN ?_ _) | (refine Below.alloc ?_ (by simp <;> omega) _) | (refine Below.setCell ?_ (by simp <;> omega) _)))⟩

theorem rvlerp_f (a0 a1 a2 b0 b1 b2 num den : Int) (h0 : I64 a0) (h1 : I64 a1) (h2 : I64 a2) (k0 : I64 b0) (k1 : I64 b1) (k2 : I64 b2) (h : fineB num den = true) (w : World) :
    Calls Try.prog 31 #[v3 a0 a1 a2, v3 b0 b1 b2, .int .i64 num, .int .i64 den] w fun e w' => e = .returned (v3 (lerpF a0 b0 num den) (lerpF a1 b1 num den) (lerpF a2 b2 num den)) ∧ Below w.heap.size w w' := by
  have c0 := rlerp_f a0 b0 num den h0 k0 h
  have c1 := rlerp_f a1 b1 num den h1 k1 h
  have c2 := rlerp_f a2 b2 num den h2 k2 h
  generalize lerpF a0 b0 num den = r0 at *
  generalize lerpF a1 b1 num den = r1 at *
  generalize lerpF a2 b2 num den = r2 at *
  clear h0 h1 h2 k0 k1 k2 h
  go_enter Try.func31, Try.ntmps31
  go_wp2_with fail
  (refine wp_region_tail 22 (by kernel_rfl) (by kernel_rfl) ?_; simp only [List.take_succ_cons, List.take_zero, List.drop_succ_cons, List.drop_zero]; (repeat still_step); (try refine wpStill_nil ?_))
  (still_call (still_of (c0 _)); (repeat still_step); (try refine wpStill_nil ?_))
  (still_call (still_of (c1 _)); (repeat still_step); (try refine wpStill_nil ?_))
  (still_call (still_of (c2 _)); (repeat still_step); (try refine wpStill_nil ?_))
  go_wp2
  exact bodyPost_ret (v := v3 r0 r1 r2) (by simp [results, Try.results31, go_sem]) rfl ⟨rfl, by (repeat (first | exact Below.refl _ _ | assumption | (refine Below.drew ?_) | (refine below_drewN ?_ _) | (refine Below.alloc ?_ (by simp <;> omega) _) | (refine Below.setCell ?_ (by simp <;> omega) _)))⟩
end Go.Proofs.Ytbefllijmbcpjaa
