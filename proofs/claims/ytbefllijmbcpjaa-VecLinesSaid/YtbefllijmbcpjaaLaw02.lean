/- The laws of layer 2, walked: each returns true (printed by gen/law02.py). -/
import Derived.Test.YtbefllijmbcpjaaVec5
namespace Go.Proofs.Ytbefllijmbcpjaa
set_option linter.unusedVariables false
set_option linter.unusedSimpArgs false
open Go.RowKit

theorem nearF_comm (x y d : Int) : nearF x y d = nearF y x d := by
  unfold nearF; rw [show max x y - min x y = max y x - min y x by omega]
theorem vnearF_comm (a0 a1 a2 b0 b1 b2 d : Int) : vnearF a0 a1 a2 b0 b1 b2 d = vnearF b0 b1 b2 a0 a1 a2 d := by
  unfold vnearF; rw [nearF_comm a0, nearF_comm a1, nearF_comm a2]
theorem vnearF_self (a0 a1 a2 d : Int) (h : 0 ≤ d) : vnearF a0 a1 a2 a0 a1 a2 d = true := by
  unfold vnearF nearF
  simp [h]
theorem vbetwF_clamp (x0 x1 x2 a0 a1 a2 b0 b1 b2 : Int) : vbetwF (clampF x0 a0 b0) (clampF x1 a1 b1) (clampF x2 a2 b2) b0 b1 b2 a0 a1 a2 = true := by
  unfold vbetwF; simp [clampF_again]

theorem vecNear_walk (a0 a1 a2 b0 b1 b2 d : Int) (h0 : I64 a0) (h1 : I64 a1) (h2 : I64 a2) (k0 : I64 b0) (k1 : I64 b1) (k2 : I64 b2) (hd : I64 d) (w : World) :
    Calls Try.prog 3 #[v3 a0 a1 a2, v3 b0 b1 b2, .int .i64 d] w fun e w' => e = .returned (.bool true) ∧ Below w.heap.size w w' := by
  have c1 := vnear_f a0 a1 a2 b0 b1 b2 d h0 h1 h2 k0 k1 k2 hd
  have c2 := rvnear_f a0 a1 a2 b0 b1 b2 d h0 h1 h2 k0 k1 k2 hd
  have c3 := vnear_f b0 b1 b2 a0 a1 a2 d k0 k1 k2 h0 h1 h2 hd
  rw [vnearF_comm b0] at c3
  have c4 := vnear_f a0 a1 a2 a0 a1 a2 (max 0 d) h0 h1 h2 h0 h1 h2 (by unfold I64 at *; omega)
  rw [vnearF_self _ _ _ _ (by omega)] at c4
  generalize vnearF a0 a1 a2 b0 b1 b2 d = r at *
  clear h0 h1 h2 k0 k1 k2 hd
  have A : Vec3At ((w.alloc (.cells #[.int .i64 a0, .int .i64 a1, .int .i64 a2] 22)).alloc (.cells #[.int .i64 b0, .int .i64 b1, .int .i64 b2] 22)) w.heap.size a0 a1 a2 := (Blk.new _ _ _).alloc _
  have B : Vec3At ((w.alloc (.cells #[.int .i64 a0, .int .i64 a1, .int .i64 a2] 22)).alloc (.cells #[.int .i64 b0, .int .i64 b1, .int .i64 b2] 22)) (w.heap.size + 1) b0 b1 b2 := by simpa using Blk.new (w.alloc (.cells #[.int .i64 a0, .int .i64 a1, .int .i64 a2] 22)) #[.int .i64 b0, .int .i64 b1, .int .i64 b2] 22
  have HB : Hid (Below w.heap.size w ((w.alloc (.cells #[.int .i64 a0, .int .i64 a1, .int .i64 a2] 22)).alloc (.cells #[.int .i64 b0, .int .i64 b1, .int .i64 b2] 22))) := Lib.hid (by (repeat (first | exact Below.refl _ _ | assumption | (refine Below.drew ?_) | (refine below_drewN ?_ _) | (refine Below.alloc ?_ (by simp <;> omega) _) | (refine Below.setCell ?_ (by simp <;> omega) _))))
  obtain ⟨qA0, qA1, qA2⟩ := vec_cells A
  obtain ⟨qB0, qB1, qB2⟩ := vec_cells B
  cases r
  all_goals
    go_enter Try.func3, Try.ntmps3
    go_wp2_with fail
    refine (c1 _).mono ?_; rintro e w1 ⟨rfl, hb⟩
    have HB := Lib.hid (HB.out.trans (hb.mono HB.out.size))
    clear qA0 qA1 qA2 qB0 qB1 qB2
    have A := A.below hb A.lt
    have B := B.below hb B.lt
    obtain ⟨qA0, qA1, qA2⟩ := vec_cells A
    obtain ⟨qB0, qB1, qB2⟩ := vec_cells B
    clear hb
    go_wp2_with fail
    refine (alive02_f _).mono ?_; rintro e w2 ⟨rfl, hb⟩
    have HB := Lib.hid (HB.out.trans (hb.mono HB.out.size))
    clear qA0 qA1 qA2 qB0 qB1 qB2
    have A := A.below hb A.lt
    have B := B.below hb B.lt
    obtain ⟨qA0, qA1, qA2⟩ := vec_cells A
    obtain ⟨qB0, qB1, qB2⟩ := vec_cells B
    clear hb
    go_wp2_with fail
    refine (c2 _).mono ?_; rintro e w3 ⟨rfl, hb⟩
    have HB := Lib.hid (HB.out.trans (hb.mono HB.out.size))
    clear qA0 qA1 qA2 qB0 qB1 qB2
    have A := A.below hb A.lt
    have B := B.below hb B.lt
    obtain ⟨qA0, qA1, qA2⟩ := vec_cells A
    obtain ⟨qB0, qB1, qB2⟩ := vec_cells B
    clear hb
    go_wp2_with fail
    refine (c3 _).mono ?_; rintro e w4 ⟨rfl, hb⟩
    have HB := Lib.hid (HB.out.trans (hb.mono HB.out.size))
    clear qA0 qA1 qA2 qB0 qB1 qB2
    have A := A.below hb A.lt
    have B := B.below hb B.lt
    obtain ⟨qA0, qA1, qA2⟩ := vec_cells A
    obtain ⟨qB0, qB1, qB2⟩ := vec_cells B
    clear hb
    go_wp2_with fail
    refine (c4 _).mono ?_; rintro e w5 ⟨rfl, hb⟩
    have HB := Lib.hid (HB.out.trans (hb.mono HB.out.size))
    clear qA0 qA1 qA2 qB0 qB1 qB2
    have A := A.below hb A.lt
    have B := B.below hb B.lt
    obtain ⟨qA0, qA1, qA2⟩ := vec_cells A
    obtain ⟨qB0, qB1, qB2⟩ := vec_cells B
    clear hb
    go_wp2
    go_ret
    exact ⟨rfl, HB.out⟩

end Go.Proofs.Ytbefllijmbcpjaa
