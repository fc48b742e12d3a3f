/- The laws of layer 16, walked: each returns true. -/
import Derived.Test.YtnjhacmgnmflaaaSlew2
namespace Go.Proofs.Ytnjhacmgnmflaaa
set_option linter.unusedVariables false
set_option linter.unusedSimpArgs false
open Go.RowKit

theorem below_dr16 (w : World) (n : Nat) : Below w.heap.size w (w.drewN n) := below_drewN (Below.refl _ _) n
theorem I64.of {a : Int} (h : -9223372036854775808 ≤ a ∧ a ≤ 9223372036854775807) : I64 a := h

theorem slewRooms_walk (adv n0 n1 : Int) (ha : I64 adv) (h0 : I64 n0) (h1 : I64 n1) (w : World) :
    Calls Try.prog 8 #[.int .i64 adv, .agg #[.int .i64 n0, .int .i64 n1]] w fun e w' => e = .returned (.bool true) ∧ Below w.heap.size w w' := by
  have rt := ratio_f n0 n1 h0 h1
  have y1 := room_f adv (ratF n0) (ratF n1) ha (ratF_ok _ _)
  have y2 := rroom_f adv (ratF n0) (ratF n1) ha (ratF_ok _ _)
  generalize roomF adv (ratF n0) (ratF n1) = y at *
  have fn := rfine16_f n0 n1
  cases hr : ratioB n0 n1
  · have x1 := room_bad adv n0 n1 hr
    have nw := snew_bad n0 n1 hr
    rw [hr] at fn
    clear hr ha h0 h1
    go_enter Try.func8, Try.ntmps8
    go_wp2_with fail
    refine (x1 _).mono ?_; rintro e w' ⟨rfl, rfl⟩
    go_wp2_with fail
    refine (nw _).mono ?_; rintro e w' ⟨rfl, rfl⟩
    go_wp2_with fail
    refine (rt _).mono ?_; rintro e w' ⟨rfl, k1, rfl⟩
    go_wp2_with fail
    refine (y1 _).mono ?_; rintro e w' ⟨rfl, k2, rfl⟩
    go_wp2_with fail
    refine (alive16_f _).mono ?_; rintro e w5 ⟨rfl, hb5⟩
    have cA := hb5.cell (p := ⟨w.heap.size, 0, none⟩) (by simp <;> omega)
    have cB := hb5.cell (p := ⟨w.heap.size, 1, none⟩) (by simp <;> omega)
    simp at cA cB
    have HB : Hid (Below w.heap.size w w5) := Lib.hid (Below.trans (by (repeat (first | exact Below.refl _ _ | assumption | (refine Below.drew ?_) | (refine below_drewN ?_ _) | (refine Below.alloc ?_ (by simp <;> omega) _) | (refine Below.setCell ?_ (by simp <;> omega) _)))) (hb5.mono (by simp <;> omega)))
    clear hb5
    go_wp2_with fail
    refine (y2 _).mono ?_; rintro e w' ⟨rfl, rfl⟩
    go_wp2_with fail
    refine (fn _).mono ?_; rintro e w' ⟨rfl, rfl⟩
    go_wp2
    go_ret
    exact ⟨rfl, HB.out⟩
  · have x1 := room_f adv n0 n1 ha hr
    have x2 := rroom_f adv n0 n1 ha hr
    generalize roomF adv n0 n1 = x at *
    have nw := snew_ok n0 n1 hr
    rw [hr] at fn
    clear hr ha h0 h1
    go_enter Try.func8, Try.ntmps8
    go_wp2_with fail
    refine (x1 _).mono ?_; rintro e w' ⟨rfl, k0, rfl⟩
    go_wp2_with fail
    refine (nw _).mono ?_; rintro e w' ⟨rfl, rfl⟩
    go_wp2_with fail
    refine (rt _).mono ?_; rintro e w' ⟨rfl, k1, rfl⟩
    go_wp2_with fail
    refine (y1 _).mono ?_; rintro e w' ⟨rfl, k2, rfl⟩
    go_wp2_with fail
    refine (alive16_f _).mono ?_; rintro e w5 ⟨rfl, hb5⟩
    have cA := hb5.cell (p := ⟨w.heap.size, 0, none⟩) (by simp <;> omega)
    have cB := hb5.cell (p := ⟨w.heap.size, 1, none⟩) (by simp <;> omega)
    simp at cA cB
    have HB : Hid (Below w.heap.size w w5) := Lib.hid (Below.trans (by (repeat (first | exact Below.refl _ _ | assumption | (refine Below.drew ?_) | (refine below_drewN ?_ _) | (refine Below.alloc ?_ (by simp <;> omega) _) | (refine Below.setCell ?_ (by simp <;> omega) _)))) (hb5.mono (by simp <;> omega)))
    clear hb5
    go_wp2_with fail
    refine (y2 _).mono ?_; rintro e w' ⟨rfl, rfl⟩
    go_wp2_with fail
    refine (fn _).mono ?_; rintro e w' ⟨rfl, rfl⟩
    go_wp2_with fail
    refine (x2 _).mono ?_; rintro e w' ⟨rfl, rfl⟩
    go_wp2
    go_ret
    exact ⟨rfl, HB.out⟩

end Go.Proofs.Ytnjhacmgnmflaaa
