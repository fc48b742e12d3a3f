/- package slew: the document's answer; the laws' own helpers. -/
import Derived.Test.YtobphhbmlhjbcaaSlew
import Derived.Test.YtobphhbmlhjbcaaRefPart
namespace Go.Proofs.Ytobphhbmlhjbcaa
set_option linter.unusedVariables false
set_option linter.unusedSimpArgs false
open Go.RowKit

theorem room_split {adv num den : Int} (ha : 0 ≤ adv) (hd : 0 < den) : adv * num / den = adv / den * num + adv % den * num / den := by
  have h := Int.mul_ediv_add_emod adv den
  have : adv * num = adv % den * num + den * (adv / den * num) := by
    have : (den * (adv / den) + adv % den) * num = adv * num := by rw [h]
    rw [← this, Int.add_mul, Int.mul_assoc]; omega
  rw [this, Int.add_mul_ediv_left _ _ (by omega)]; omega

theorem rfine16_f (num den : Int) (w : World) :
    Calls Try.prog 41 #[.int .i64 num, .int .i64 den] w fun e w' => e = .returned (.bool (ratioB num den)) ∧ w = w' := by
  by_cases h1 : 1 ≤ num <;> by_cases h2 : num ≤ 1048576 <;> by_cases h3 : 1 ≤ den <;> by_cases h4 : den ≤ 1048576
  all_goals first
    | (have HE : Hid (ratioB num den = true) := Lib.hid (ratioB_iff.2 ⟨h1, h2, h3, h4⟩)
       go_enter Try.func41, Try.ntmps41
       go_wp2
       go_ret
       refine ⟨?_, rfl⟩
       rw [HE.out]; rfl)
    | (have HE : Hid (ratioB num den = false) := Lib.hid (by
         cases hh : ratioB num den
         · rfl
         · have := ratioB_iff.1 hh; omega)
       go_enter Try.func41, Try.ntmps41
       go_wp2
       go_ret
       refine ⟨?_, rfl⟩
       rw [HE.out]; rfl)

def ratF (n : Int) : Int := 1 + n % 18446744073709551616 % 1048576
theorem ratF_bounds (n : Int) : 1 ≤ ratF n ∧ ratF n ≤ 1048576 := by unfold ratF; omega
theorem ratF_ok (n m : Int) : ratioB (ratF n) (ratF m) = true := by
  have := ratF_bounds n; have := ratF_bounds m
  exact ratioB_iff.2 ⟨by omega, by omega, by omega, by omega⟩

end Go.Proofs.Ytobphhbmlhjbcaa
