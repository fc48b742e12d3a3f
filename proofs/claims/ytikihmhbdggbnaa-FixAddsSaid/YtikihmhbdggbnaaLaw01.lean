/- The laws of layer 1, walked: each returns true. -/
import Derived.Test.YtikihmhbdggbnaaRefPart
import Derived.Below
import Derived.WalkSmall
namespace Go.Proofs.Ytikihmhbdggbnaa
open Go.RowKit

theorem i64_lit {a : Int} (h : -9223372036854775808 ≤ a := by omega) (h2 : a ≤ 9223372036854775807 := by omega) : I64 a := ⟨h, h2⟩
theorem below_dr (w : World) (n : Nat) : Below w.heap.size w (w.drewN n) := below_drewN (Below.refl _ _) n

set_option maxRecDepth 100000 in
theorem alive_f (w : World) : Calls Try.prog 15 #[] w fun e w' => e = .returned (.bool true) ∧ ∃ n, w' = w.drewN n := by
  have l1 := lerp_f 0 10 1 3 i64_lit i64_lit (by decide)
  rw [show lerpF 0 10 1 3 = 3 by decide] at l1
  have l2 := lerp_f 10 0 1 3 i64_lit i64_lit (by decide)
  rw [show lerpF 10 0 1 3 = 6 by decide] at l2
  have m1 := mul_f 98304 (-32768) i64_lit i64_lit
  rw [show mulF 98304 (-32768) = -49152 by decide] at m1
  have m2 := mul_f (-1) 1 i64_lit i64_lit
  rw [show mulF (-1) 1 = -1 by decide] at m2
  go_enter Try.func15, Try.ntmps15
  go_wp2_with fail
  refine (l1 _).mono ?_; rintro e w' ⟨rfl, k1, rfl⟩
  go_wp2_with fail
  refine (l2 _).mono ?_; rintro e w' ⟨rfl, k2, rfl⟩
  go_wp2_with fail
  refine (m1 _).mono ?_; rintro e w' ⟨rfl, rfl⟩
  go_wp2_with fail
  refine (m2 _).mono ?_; rintro e w' ⟨rfl, rfl⟩
  go_wp2
  go_ret
  exact ⟨rfl, _, rfl⟩

theorem fixAdds_walk (a b : Int) (ha : I64 a) (hb : I64 b) (w : World) :
    Calls Try.prog 7 #[.int .i64 a, .int .i64 b] w fun e w' => e = .returned (.bool true) ∧ Below w.heap.size w w' := by
  have h1 := add_f a b ha hb
  have h2 := radd_f a b ha hb
  have h3 := sub_f a b ha hb
  have h4 := rsub_f a b ha hb
  have h5 := neg_f a ha
  have h6 := rneg_f a ha
  go_enter Try.func7, Try.ntmps7
  go_wp2_with fail
  refine (alive_f _).mono ?_; rintro e w' ⟨rfl, k, rfl⟩
  go_wp2_with fail
  refine (h1 _).mono ?_; rintro e w' ⟨rfl, rfl⟩
  go_wp2_with fail
  refine (h2 _).mono ?_; rintro e w' ⟨rfl, rfl⟩
  go_wp2_with fail
  refine (h3 _).mono ?_; rintro e w' ⟨rfl, rfl⟩
  go_wp2_with fail
  refine (h4 _).mono ?_; rintro e w' ⟨rfl, rfl⟩
  go_wp2_with fail
  refine (h5 _).mono ?_; rintro e w' ⟨rfl, rfl⟩
  go_wp2_with fail
  refine (h6 _).mono ?_; rintro e w' ⟨rfl, rfl⟩
  go_wp2
  go_ret
  exact ⟨rfl, below_dr _ _⟩

theorem fixMuls_walk (a b : Int) (ha : I64 a) (hb : I64 b) (w : World) :
    Calls Try.prog 8 #[.int .i64 a, .int .i64 b] w fun e w' => e = .returned (.bool true) ∧ Below w.heap.size w w' := by
  have h1 := mul_f a b ha hb
  have h2 := rmul_f a b ha hb
  have h3 := div_f a b ha hb
  have h4 := rdiv_f a b ha hb
  go_enter Try.func8, Try.ntmps8
  go_wp2_with fail
  refine (alive_f _).mono ?_; rintro e w' ⟨rfl, k, rfl⟩
  go_wp2_with fail
  refine (h1 _).mono ?_; rintro e w' ⟨rfl, rfl⟩
  go_wp2_with fail
  refine (h2 _).mono ?_; rintro e w' ⟨rfl, rfl⟩
  go_wp2_with fail
  refine (h3 _).mono ?_; rintro e w' ⟨rfl, k3, rfl⟩
  go_wp2_with fail
  refine (h4 _).mono ?_; rintro e w' ⟨rfl, rfl⟩
  go_wp2
  go_ret
  exact ⟨rfl, below_dr _ _⟩
end Go.Proofs.Ytikihmhbdggbnaa
