/- package slew: the document's answer; the laws' own helpers. -/
import Derived.Test.YtnjhacmgnmflaaaSlew
import Derived.Test.YtnjhacmgnmflaaaRefPart
namespace Go.Proofs.Ytnjhacmgnmflaaa
set_option linter.unusedVariables false
set_option linter.unusedSimpArgs false
open Go.RowKit

theorem room_split {adv num den : Int} (ha : 0 ≤ adv) (hd : 0 < den) : adv * num / den = adv / den * num + adv % den * num / den := by
  have h := Int.mul_ediv_add_emod adv den
  have : adv * num = adv % den * num + den * (adv / den * num) := by
    have : (den * (adv / den) + adv % den) * num = adv * num := by rw [h]
    rw [← this, Int.add_mul, Int.mul_assoc]; omega
  rw [this, Int.add_mul_ediv_left _ _ (by omega)]; omega

theorem rroom_f (adv num den : Int) (ha : I64 adv) (h : ratioB num den = true) (w : World) :
    Calls Try.prog 29 #[.int .i64 adv, .int .i64 num, .int .i64 den] w fun e w' => e = .returned (.int .i64 (roomF adv num den)) ∧ w = w' := by
  obtain ⟨n1, n2, d1, d2⟩ := ratioB_iff.1 h
  obtain ⟨a1, a2⟩ := ha
  clear h
  by_cases h0 : adv < 0
  · have HE : Hid (roomF adv num den = 1) := Lib.hid (by unfold roomF; rw [show max 0 adv = 0 by omega]; simp <;> omega)
    clear a1 a2
    go_enter Try.func29, Try.ntmps29
    go_wp2
    go_ret
    exact ⟨ret_int HE.out.symm, rfl⟩
  · obtain ⟨q, hq⟩ : ∃ q, adv / den = q := ⟨_, rfl⟩
    obtain ⟨r, hr⟩ : ∃ r, adv % den = r := ⟨_, rfl⟩
    have tq : adv.tdiv den = q := by rw [Int.tdiv_eq_ediv_of_nonneg (by omega), hq]
    have tr : adv.tmod den = r := by rw [Int.tmod_eq_emod_of_nonneg (by omega), hr]
    have q0 : 0 ≤ q := by rw [← hq]; exact Int.ediv_nonneg (by omega) (by omega)
    have q1 : q ≤ adv := by rw [← hq]; exact Int.ediv_le_self _ (by omega)
    have r0 : 0 ≤ r := by rw [← hr]; exact Int.emod_nonneg _ (by omega)
    have r1 : r < den := by rw [← hr]; exact Int.emod_lt_of_pos _ (by omega)
    obtain ⟨m, hm⟩ : ∃ m, r * num = m := ⟨_, rfl⟩
    have m0 : 0 ≤ m := by rw [← hm]; exact Int.mul_nonneg r0 (by omega)
    have m1 : m ≤ 1099511627776 := by
      rw [← hm]
      have : r * num ≤ 1048576 * 1048576 := Int.mul_le_mul (by omega) n2 (by omega) (by omega)
      omega
    obtain ⟨s, hs⟩ : ∃ s, m / den = s := ⟨_, rfl⟩
    have ts : m.tdiv den = s := by rw [Int.tdiv_eq_ediv_of_nonneg m0, hs]
    have s0 : 0 ≤ s := by rw [← hs]; exact Int.ediv_nonneg m0 (by omega)
    have s1 : s ≤ 1099511627776 := by have : s ≤ m := by rw [← hs]; exact Int.ediv_le_self _ m0
                                      omega
    obtain ⟨t, ht⟩ : ∃ t, (9223372036854775807 - (s + 1)) / num = t := ⟨_, rfl⟩
    have tt : (9223372036854775807 - (s + 1)).tdiv num = t := by rw [Int.tdiv_eq_ediv_of_nonneg (by omega), ht]
    have t0 : 0 ≤ t := by rw [← ht]; exact Int.ediv_nonneg (by omega) (by omega)
    have t1 : t ≤ 9223372036854775807 := by have : t ≤ 9223372036854775807 - (s + 1) := by rw [← ht]; exact Int.ediv_le_self _ (by omega)
                                            omega
    obtain ⟨z, hz⟩ : ∃ z, q * num = z := ⟨_, rfl⟩
    have z0 : 0 ≤ z := by rw [← hz]; exact Int.mul_nonneg q0 (by omega)
    have HR : roomF adv num den = min (z + s) 9223372036854775806 + 1 := by
      unfold roomF
      rw [show max 0 adv = adv by omega, room_split (by omega) (by omega), hq, hr, hm, hs, hz]
    have hiff : t < q ↔ 9223372036854775807 - (s + 1) < z := by
      rw [← ht, ← hz]; exact Int.ediv_lt_iff_lt_mul (by omega)
    clear hq hr hs ht
    have dz : (den == 0) = false := by simp; omega
    have nz : (num == 0) = false := by simp; omega
    by_cases hc : t < q
    · have HE : Hid (roomF adv num den = 9223372036854775807) := Lib.hid (by have := hiff.1 hc; rw [HR]; omega)
      clear HR hiff
      go_enter Try.func29, Try.ntmps29
      go_wp2
      go_ret
      exact ⟨ret_int HE.out.symm, rfl⟩
    · have z1 : z ≤ 9223372036854775807 - (s + 1) := by have := mt hiff.2 hc; omega
      have HE : Hid (roomF adv num den = z + (s + 1)) := Lib.hid (by rw [HR]; omega)
      clear HR hiff
      go_enter Try.func29, Try.ntmps29
      go_wp2
      go_ret
      exact ⟨ret_int HE.out.symm, rfl⟩

theorem rfine16_f (num den : Int) (w : World) :
    Calls Try.prog 30 #[.int .i64 num, .int .i64 den] w fun e w' => e = .returned (.bool (ratioB num den)) ∧ w = w' := by
  by_cases h1 : 1 ≤ num <;> by_cases h2 : num ≤ 1048576 <;> by_cases h3 : 1 ≤ den <;> by_cases h4 : den ≤ 1048576
  all_goals first
    | (have HE : Hid (ratioB num den = true) := Lib.hid (ratioB_iff.2 ⟨h1, h2, h3, h4⟩)
       go_enter Try.func30, Try.ntmps30
       go_wp2
       go_ret
       refine ⟨?_, rfl⟩
       rw [HE.out]; rfl)
    | (have HE : Hid (ratioB num den = false) := Lib.hid (by
         cases hh : ratioB num den
         · rfl
         · have := ratioB_iff.1 hh; omega)
       go_enter Try.func30, Try.ntmps30
       go_wp2
       go_ret
       refine ⟨?_, rfl⟩
       rw [HE.out]; rfl)

def ratF (n : Int) : Int := 1 + n % 18446744073709551616 % 1048576
theorem ratF_bounds (n : Int) : 1 ≤ ratF n ∧ ratF n ≤ 1048576 := by unfold ratF; omega
theorem ratF_ok (n m : Int) : ratioB (ratF n) (ratF m) = true := by
  have := ratF_bounds n; have := ratF_bounds m
  exact ratioB_iff.2 ⟨by omega, by omega, by omega, by omega⟩

theorem ratio_f (n m : Int) (hn : I64 n) (hm : I64 m) (w : World) :
    Calls Try.prog 27 #[.agg #[.int .i64 n, .int .i64 m]] w fun e w' => e = .returned (.tuple #[.int .i64 (ratF n), .int .i64 (ratF m)]) ∧ ∃ k, w' = (w.alloc (.cells #[.int .i64 n, .int .i64 m] 40)).drewN k := by
  obtain ⟨n1, n2⟩ := hn
  obtain ⟨m1, m2⟩ := hm
  obtain ⟨a, ha⟩ : ∃ a, IntKind.u64.wrap n = a := ⟨_, rfl⟩
  obtain ⟨b, hb⟩ : ∃ b, IntKind.u64.wrap m = b := ⟨_, rfl⟩
  have a0 : 0 ≤ a ∧ a = n % 18446744073709551616 := by rw [← ha, IntKind.wrap_u64]; omega
  have b0 : 0 ≤ b ∧ b = m % 18446744073709551616 := by rw [← hb, IntKind.wrap_u64]; omega
  obtain ⟨p, hp⟩ : ∃ p, a.tmod 1048576 = p := ⟨_, rfl⟩
  obtain ⟨q, hq⟩ : ∃ q, b.tmod 1048576 = q := ⟨_, rfl⟩
  have p0 : 0 ≤ p ∧ p < 1048576 ∧ 1 + p = ratF n := by rw [← hp, Int.tmod_eq_emod_of_nonneg a0.1, a0.2]; unfold ratF; omega
  have q0 : 0 ≤ q ∧ q < 1048576 ∧ 1 + q = ratF m := by rw [← hq, Int.tmod_eq_emod_of_nonneg b0.1, b0.2]; unfold ratF; omega
  obtain ⟨p1, p2, p3⟩ := p0
  obtain ⟨q1, q2, q3⟩ := q0
  have P3 := Lib.hid p3
  have Q3 := Lib.hid q3
  clear a0 b0 p3 q3
  go_enter Try.func27, Try.ntmps27
  go_wp2_with fail
  go_quiet (fail)
  go_wp2
  go_ret2
  exact ⟨ret2_int P3.out Q3.out, _, rfl⟩

set_option maxRecDepth 100000 in
theorem alive16_f (w : World) : Calls Try.prog 28 #[] w fun e w' => e = .returned (.bool true) ∧ Below w.heap.size w w' := by
  have r1 := room_f 10 3 2 ⟨by omega, by omega⟩ (by decide)
  rw [show roomF 10 3 2 = 16 by decide] at r1
  have nw := snew_ok 3 2 (by decide)
  have t1 := fun b w h => sto_first b 3 2 0 0 0 100 (by decide) ⟨by omega, by omega⟩ ⟨by omega, by omega⟩ w h
  have t2 := fun b w h => sto_next b 3 2 100 0 10 200 (by decide) ⟨by omega, by omega⟩ ⟨by omega, by omega⟩ ⟨by omega, by omega⟩ ⟨by omega, by omega⟩ w h
  rw [show toF 100 0 10 200 3 2 = 116 by decide, show max (0 : Int) 10 = 10 by decide] at t2
  have t3 := fun b w h => sto_next b 3 2 116 10 5 200 (by decide) ⟨by omega, by omega⟩ ⟨by omega, by omega⟩ ⟨by omega, by omega⟩ ⟨by omega, by omega⟩ w h
  rw [show toF 116 10 5 200 3 2 = 117 by decide, show max (10 : Int) 5 = 10 by decide] at t3
  have t4 := fun b w h => sto_next b 3 2 117 10 20 100 (by decide) ⟨by omega, by omega⟩ ⟨by omega, by omega⟩ ⟨by omega, by omega⟩ ⟨by omega, by omega⟩ w h
  rw [show toF 117 10 20 100 3 2 = 117 by decide, show max (10 : Int) 20 = 20 by decide] at t4
  have ls := fun b w h => slast_f b 3 2 117 20 1 w h
  go_enter Try.func28, Try.ntmps28
  go_wp2_with fail
  refine (r1 _).mono ?_; rintro e w1 ⟨rfl, k, rfl⟩
  go_wp2_with fail
  refine (nw _).mono ?_; rintro e w2 ⟨rfl, hw2⟩
  have hd : ClkAt w2 w.heap.size 3 2 0 0 0 := by rw [hw2]; exact Blk.new _ _ _
  have HB : Hid (Below w.heap.size w w2) := Lib.hid (by rw [hw2]; exact (below_drewN (Below.refl _ _) _).alloc (Nat.le_refl _) _)
  clear hw2
  have t1 := t1 _ _ hd
  clear hd
  go_wp2_with fail
  refine t1.mono ?_; rintro e w3 ⟨rfl, hd, ho3⟩
  have O3 := Lib.hid ho3
  have t2 := t2 _ _ hd
  clear hd t1 ho3
  go_wp2_with fail
  refine t2.mono ?_; rintro e w4 ⟨rfl, hd, ho4⟩
  have O4 := Lib.hid (O3.out.trans ho4)
  have t3 := t3 _ _ hd
  clear hd t2 ho4 O3
  go_wp2_with fail
  refine t3.mono ?_; rintro e w5 ⟨rfl, hd, ho5⟩
  have O5 := Lib.hid (O4.out.trans ho5)
  have t4 := t4 _ _ hd
  clear hd t3 ho5 O4
  go_wp2_with fail
  refine t4.mono ?_; rintro e w6 ⟨rfl, hd, ho6⟩
  have O6 := Lib.hid (O5.out.trans ho6)
  have ls := ls _ _ hd
  clear hd t4 ho6 O5
  go_wp2_with fail
  refine ls.mono ?_; rintro e w' ⟨rfl, rfl⟩
  go_wp2
  go_ret
  exact ⟨rfl, HB.out.trans (O6.out.below HB.out.size (by rintro k rfl; exact Nat.le_refl _))⟩
end Go.Proofs.Ytnjhacmgnmflaaa
