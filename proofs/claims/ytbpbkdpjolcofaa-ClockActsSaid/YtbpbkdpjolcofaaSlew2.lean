/- package slew: the document's answer; the laws' own helpers. -/
import Derived.Test.YtbpbkdpjolcofaaSlew
import Derived.Test.YtbpbkdpjolcofaaRefPart
namespace Go.Proofs.Ytbpbkdpjolcofaa
set_option linter.unusedVariables false
set_option linter.unusedSimpArgs false
open Go.RowKit

theorem room_split {adv num den : Int} (ha : 0 ≤ adv) (hd : 0 < den) : adv * num / den = adv / den * num + adv % den * num / den := by
  have h := Int.mul_ediv_add_emod adv den
  have : adv * num = adv % den * num + den * (adv / den * num) := by
    have : (den * (adv / den) + adv % den) * num = adv * num := by rw [h]
    rw [← this, Int.add_mul, Int.mul_assoc]; omega
  rw [this, Int.add_mul_ediv_left _ _ (by omega)]; omega

theorem rroom_f (adv num den : Int) (ha : I64 adv) (h : ratioB num den = true) (w : World) :
    Calls Try.prog 72 #[.int .i64 adv, .int .i64 num, .int .i64 den] w fun e w' => e = .returned (.int .i64 (roomF adv num den)) ∧ w = w' := by
  obtain ⟨n1, n2, d1, d2⟩ := ratioB_iff.1 h
  obtain ⟨a1, a2⟩ := ha
  clear h
  by_cases h0 : adv < 0
  · have HE : Hid (roomF adv num den = 1) := Lib.hid (by unfold roomF; rw [show max 0 adv = 0 by omega]; simp <;> omega)
    clear a1 a2
    go_enter Try.func72, Try.ntmps72
    go_wp2
    go_ret
    exact ⟨ret_int HE.out.symm, rfl⟩
  · obtain ⟨q, hq⟩ : ∃ q, adv / den = q := ⟨_, rfl⟩
    obtain ⟨r, hr⟩ : ∃ r, adv % den = r := ⟨_, rfl⟩
    have tq : adv.tdiv den = q := by rw [Int.tdiv_eq_ediv_of_nonneg (by omega), hq]
    have tr : adv.tmod den = r := by rw [Int.tmod_eq_emod_of_nonneg (by omega), hr]
    have q0 : 0 ≤ q := by rw [← hq]; exact Int.ediv_nonneg (by omega) (by omega)
    have q1 : q ≤ adv := by rw [← hq]; exact Int.ediv_le_self _ (by omega)
    have r0 : 0 ≤ r := by rw [← hr]; exact Int.emod_nonneg _ (by omega)
    have r1 : r < den := by rw [← hr]; exact Int.emod_lt_of_pos _ (by omega)
    obtain ⟨m, hm⟩ : ∃ m, r * num = m := ⟨_, rfl⟩
    have m0 : 0 ≤ m := by rw [← hm]; exact Int.mul_nonneg r0 (by omega)
    have m1 : m ≤ 1099511627776 := by
      rw [← hm]
      have : r * num ≤ 1048576 * 1048576 := Int.mul_le_mul (by omega) n2 (by omega) (by omega)
      omega
    obtain ⟨s, hs⟩ : ∃ s, m / den = s := ⟨_, rfl⟩
    have ts : m.tdiv den = s := by rw [Int.tdiv_eq_ediv_of_nonneg m0, hs]
    have s0 : 0 ≤ s := by rw [← hs]; exact Int.ediv_nonneg m0 (by omega)
    have s1 : s ≤ 1099511627776 := by have : s ≤ m := by rw [← hs]; exact Int.ediv_le_self _ m0
                                      omega
    obtain ⟨t, ht⟩ : ∃ t, (9223372036854775807 - (s + 1)) / num = t := ⟨_, rfl⟩
    have tt : (9223372036854775807 - (s + 1)).tdiv num = t := by rw [Int.tdiv_eq_ediv_of_nonneg (by omega), ht]
    have t0 : 0 ≤ t := by rw [← ht]; exact Int.ediv_nonneg (by omega) (by omega)
    have t1 : t ≤ 9223372036854775807 := by have : t ≤ 9223372036854775807 - (s + 1) := by rw [← ht]; exact Int.ediv_le_self _ (by omega)
                                            omega
    obtain ⟨z, hz⟩ : ∃ z, q * num = z := ⟨_, rfl⟩
    have z0 : 0 ≤ z := by rw [← hz]; exact Int.mul_nonneg q0 (by omega)
    have HR : roomF adv num den = min (z + s) 9223372036854775806 + 1 := by
      unfold roomF
      rw [show max 0 adv = adv by omega, room_split (by omega) (by omega), hq, hr, hm, hs, hz]
    have hiff : t < q ↔ 9223372036854775807 - (s + 1) < z := by
      rw [← ht, ← hz]; exact Int.ediv_lt_iff_lt_mul (by omega)
    clear hq hr hs ht
    have dz : (den == 0) = false := by simp; omega
    have nz : (num == 0) = false := by simp; omega
    by_cases hc : t < q
    · have HE : Hid (roomF adv num den = 9223372036854775807) := Lib.hid (by have := hiff.1 hc; rw [HR]; omega)
      clear HR hiff
      go_enter Try.func72, Try.ntmps72
      go_wp2
      go_ret
      exact ⟨ret_int HE.out.symm, rfl⟩
    · have z1 : z ≤ 9223372036854775807 - (s + 1) := by have := mt hiff.2 hc; omega
      have HE : Hid (roomF adv num den = z + (s + 1)) := Lib.hid (by rw [HR]; omega)
      clear HR hiff
      go_enter Try.func72, Try.ntmps72
      go_wp2
      go_ret
      exact ⟨ret_int HE.out.symm, rfl⟩

theorem rfine16_f (num den : Int) (w : World) :
    Calls Try.prog 21 #[.int .i64 num, .int .i64 den] w fun e w' => e = .returned (.bool (ratioB num den)) ∧ w = w' := by
  by_cases h1 : 1 ≤ num <;> by_cases h2 : num ≤ 1048576 <;> by_cases h3 : 1 ≤ den <;> by_cases h4 : den ≤ 1048576
  all_goals first
    | (have HE : Hid (ratioB num den = true) := Lib.hid (ratioB_iff.2 ⟨h1, h2, h3, h4⟩)
       go_enter Try.func21, Try.ntmps21
       go_wp2
       go_ret
       refine ⟨?_, rfl⟩
       rw [HE.out]; rfl)
    | (have HE : Hid (ratioB num den = false) := Lib.hid (by
         cases hh : ratioB num den
         · rfl
         · have := ratioB_iff.1 hh; omega)
       go_enter Try.func21, Try.ntmps21
       go_wp2
       go_ret
       refine ⟨?_, rfl⟩
       rw [HE.out]; rfl)

def ratF (n : Int) : Int := 1 + n % 18446744073709551616 % 1048576
theorem ratF_bounds (n : Int) : 1 ≤ ratF n ∧ ratF n ≤ 1048576 := by unfold ratF; omega
theorem ratF_ok (n m : Int) : ratioB (ratF n) (ratF m) = true := by
  have := ratF_bounds n; have := ratF_bounds m
  exact ratioB_iff.2 ⟨by omega, by omega, by omega, by omega⟩

end Go.Proofs.Ytbpbkdpjolcofaa
