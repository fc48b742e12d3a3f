/- package slew: how far a clock may go on; a clock. -/
import Derived.Test.YtobphhbmlhjbcaaFix2
import Derived.Test.YtobphhbmlhjbcaaNum2
import Derived.Test.YtobphhbmlhjbcaaRef01
import Derived.Test.YtobphhbmlhjbcaaObjs
import Derived.Test.YtobphhbmlhjbcaaTail
import Derived.Deep.QuietTactic
import Derived.BigQuiet
import Derived.BigRegion
import Derived.RegionTactic
import Derived.Deep.RegionWith
namespace Go.Proofs.Ytobphhbmlhjbcaa
set_option linter.unusedVariables false
set_option linter.unusedSimpArgs false
open Go.RowKit

/-- may a ratio be? -/
def ratioB (num den : Int) : Bool := decide (1 ≤ num ∧ num ≤ 1048576 ∧ 1 ≤ den ∧ den ≤ 1048576)
def chkR (num den : Int) : Int := if ratioB num den then 0 else 3
/-- how far a clock may go on -/
def roomF (adv num den : Int) : Int := min (max 0 adv * num / den) 9223372036854775806 + 1
/-- where a clock goes -/
def toF (at0 last reading want num den : Int) : Int := max at0 (min want (addF at0 (roomF (subF (max reading last) last) num den)))

theorem ratioB_iff {num den : Int} : ratioB num den = true ↔ (1 ≤ num ∧ num ≤ 1048576 ∧ 1 ≤ den ∧ den ≤ 1048576) := by
  unfold ratioB; exact decide_eq_true_iff
theorem roomF_bounds {adv num den : Int} (hn : 0 ≤ num) (hd : 0 < den) : 1 ≤ roomF adv num den ∧ roomF adv num den ≤ 9223372036854775807 := by
  have : 0 ≤ max 0 adv * num / den := Int.ediv_nonneg (Int.mul_nonneg (by omega) hn) (by omega)
  unfold roomF; omega
theorem toF_i64 {at0 last reading want num den : Int} (ha : I64 at0) (hw : I64 want) : I64 (toF at0 last reading want num den) := by
  have := addF_i64 at0 (roomF (subF (max reading last) last) num den)
  unfold I64 at *; unfold toF; omega

theorem qsameS {P : Program} {f : FuncId} {args : Array Value} {w : World} {n : Nat} {v : Value}
    (h : Calls P f args (w.drewN n) fun e w' => e = .returned v ∧ w.drewN n = w') : Calls P f args (w.drewN n) fun e w'' => e = .returned v ∧ ∃ m, w'' = w.drewN m :=
  h.mono fun _ _ ⟨he, hm⟩ => ⟨he, n, hm.symm⟩

theorem scheck_f (num den : Int) (w : World) :
    Calls Try.prog 96 #[.int .i64 num, .int .i64 den] w fun e w' => e = .returned (.int .i64 (chkR num den)) ∧ w = w' := by
  by_cases h : 1 ≤ num ∧ num ≤ 1048576 ∧ 1 ≤ den ∧ den ≤ 1048576
  · have HE : Hid (chkR num den = 0) := Lib.hid (by unfold chkR; rw [if_pos (ratioB_iff.2 h)])
    obtain ⟨h1, h2, h3, h4⟩ := h
    have g1 : ¬ min num den < 1 := by omega
    have g2 : ¬ 1048576 < max num den := by omega
    go_enter Try.func96, Try.ntmps96
    go_wp2
    all_goals first
      | (go_ret; exact ⟨ret_int HE.out.symm, rfl⟩)
      | (exfalso; omega)
  · have HE : Hid (chkR num den = 3) := Lib.hid (by unfold chkR; rw [if_neg (fun k => h (ratioB_iff.1 k))])
    have g : min num den < 1 ∨ 1048576 < max num den := by omega
    clear h
    go_enter Try.func96, Try.ntmps96
    go_wp2
    all_goals first
      | (go_ret; exact ⟨ret_int HE.out.symm, rfl⟩)
      | (exfalso; omega)

theorem room_bad (adv num den : Int) (h : ratioB num den = false) (w : World) :
    Calls Try.prog 79 #[.int .i64 adv, .int .i64 num, .int .i64 den] w fun e w' => e = .returned (.tuple #[.int .i64 0, .int .i64 3]) ∧ w = w' := by
  have c := scheck_f num den
  rw [show chkR num den = 3 by unfold chkR; rw [h]; rfl] at c
  go_enter Try.func79, Try.ntmps79
  go_wp2_with fail
  refine (c _).mono ?_; rintro e w' ⟨rfl, rfl⟩
  go_wp2
  go_ret2
  exact ⟨rfl, rfl⟩

theorem room_f (adv num den : Int) (ha : I64 adv) (h : ratioB num den = true) (w : World) :
    Calls Try.prog 79 #[.int .i64 adv, .int .i64 num, .int .i64 den] w fun e w' => e = .returned (.tuple #[.int .i64 (roomF adv num den), .int .i64 0]) ∧ ∃ k, w' = w.drewN k := by
  have c := scheck_f num den
  rw [show chkR num den = 0 by unfold chkR; rw [h]; rfl] at c
  obtain ⟨n1, n2, d1, d2⟩ := ratioB_iff.1 h
  obtain ⟨a1, a2⟩ := ha
  clear h
  have HR : Hid (roomF adv num den = min (max 0 adv * num / den) 9223372036854775806 + 1) := Lib.hid rfl
  generalize roomF adv num den = r at *
  obtain ⟨m, hm⟩ : ∃ m, max 0 adv = m := ⟨_, rfl⟩
  have m1 : 0 ≤ m := by omega
  have m2 : m ≤ 9223372036854775807 := by omega
  have hu : IntKind.u64.wrap m = m := by rw [IntKind.wrap_u64]; omega
  have hu2 : IntKind.u64.wrap num = num := by rw [IntKind.wrap_u64]; omega
  have hu3 : IntKind.u64.wrap den = den := by rw [IntKind.wrap_u64]; omega
  have mm := mul64_f m num ⟨m1, by omega⟩ ⟨by omega, by omega⟩
  rw [hm] at HR
  obtain ⟨P, hP⟩ : ∃ P, m * num = P := ⟨_, rfl⟩
  rw [hP] at mm HR
  have p0 : 0 ≤ P := by rw [← hP]; exact Int.mul_nonneg m1 (by omega)
  have dv := fun (h : P / 18446744073709551616 < den) => div64_f (P / 18446744073709551616) (P % 18446744073709551616) den (by omega) h (by omega) (by omega) (by omega)
  rw [show P / 18446744073709551616 * 18446744073709551616 + P % 18446744073709551616 = P by omega] at dv
  have HG : Hid (¬ P / 18446744073709551616 < den → r = 9223372036854775807) := by
    refine Lib.hid fun hh => ?_
    have h1 : den * 18446744073709551616 ≤ P := by omega
    have h2 : (18446744073709551616 : Int) ≤ P / den := (Int.le_ediv_iff_mul_le (by omega)).2 (by rw [Int.mul_comm]; exact h1)
    rw [HR.out]; omega
  have HQ : Hid (0 ≤ P / den) := Lib.hid (Int.ediv_nonneg p0 (by omega))
  obtain ⟨q, hq⟩ : ∃ q, P / den = q := ⟨_, rfl⟩
  rw [hq] at HR HQ dv
  have hw : wrap64 (min q 9223372036854775806) = min q 9223372036854775806 := by
    have := HQ.out
    unfold wrap64; omega
  have hw2 : wrap64 (min q 9223372036854775806 + 1) = min q 9223372036854775806 + 1 := by
    have := HQ.out
    unfold wrap64; omega
  clear hP hq a1 a2
  go_enter Try.func79, Try.ntmps79
  go_wp2_with fail
  refine (c _).mono ?_; rintro e w' ⟨rfl, rfl⟩
  go_wp2_with fail
  refine (mm _).mono ?_; rintro e w' ⟨rfl, rfl⟩
  by_cases hc : P / 18446744073709551616 < den
  · have dv := dv hc
    go_wp2_with fail
    refine (dv _).mono ?_; rintro e w' ⟨rfl, k, rfl⟩
    go_wp2
    go_ret2
    exact ⟨ret2_int (hw2.trans HR.out.symm) rfl, k, rfl⟩
  · have hc' : den ≤ P / 18446744073709551616 := by omega
    have hr := HG.out (by omega)
    subst hr
    go_wp2
    go_ret2
    exact ⟨rfl, 0, rfl⟩

theorem to_first_F {want : Int} (hw : I64 want) : max want (min want (addF want 1)) = want := by
  unfold I64 at hw; unfold addF sat; omega
theorem roomF_zero {num den : Int} (h : ratioB num den = true) : roomF 0 num den = 1 := by
  unfold roomF; simp <;> omega

end Go.Proofs.Ytobphhbmlhjbcaa
