/- package curve: the weights; the sum of what counts. -/
import Derived.Test.YtobphhbmlhjbcaaVec5
namespace Go.Proofs.Ytobphhbmlhjbcaa
set_option linter.unusedVariables false
set_option linter.unusedSimpArgs false
open Go.RowKit

/-- the square and the cube of a part of One -/
def sqF (u : Int) : Int := u * u / 65536
def cuF (u : Int) : Int := sqF u * u / 65536
def wayF (u : Int) : Int := 3 * sqF u - 2 * cuF u
def firstF (u : Int) : Int := cuF u - 2 * sqF u + u
def lastF (u : Int) : Int := cuF u - sqF u

theorem sq_k {u k : Int} (hk : k = 65536 - u) : sqF u = 65536 - 2 * k + k * k / 65536 := by
  unfold sqF
  have : u * u = k * k + 65536 * (65536 - 2 * k) := by
    have h : u = 65536 - k := by omega
    rw [h, Int.sub_mul, Int.mul_sub, Int.mul_sub, Int.mul_sub]; omega
  rw [this, Int.add_mul_ediv_left _ _ (by decide)]; omega
theorem cu_k {u k : Int} (hk : k = 65536 - u) : cuF u = 65536 - 3 * k + k * k / 65536 + (2 * (k * k) - k * k / 65536 * k) / 65536 := by
  unfold cuF
  rw [sq_k hk]
  generalize k * k / 65536 = c
  have : (65536 - 2 * k + c) * u = (2 * (k * k) - c * k) + 65536 * (65536 - 3 * k + c) := by
    have h : u = 65536 - k := by omega
    have e : 2 * k * k = 2 * (k * k) := Int.mul_assoc _ _ _
    rw [h, Int.mul_sub, Int.add_mul _ _ k, Int.sub_mul _ _ k, e]; omega
  rw [this, Int.add_mul_ediv_left _ _ (by decide)]; omega
theorem weights_bounds {u : Int} (h0 : 0 ≤ u) (h1 : u ≤ 65536) :
    0 ≤ sqF u ∧ sqF u ≤ 65536 ∧ 0 ≤ cuF u ∧ cuF u ≤ sqF u ∧ 0 ≤ wayF u ∧ wayF u ≤ 65536 ∧ 0 ≤ firstF u ∧ firstF u ≤ 65536 ∧ lastF u ≤ 0 ∧ -65536 ≤ lastF u := by
  have s0 : 0 ≤ sqF u := Int.ediv_nonneg (Int.mul_nonneg h0 h0) (by decide)
  have s1 : sqF u ≤ 65536 := by
    unfold sqF
    have : u * u ≤ 65536 * 65536 := Int.mul_le_mul h1 h1 h0 (by decide)
    omega
  have c0 : 0 ≤ cuF u := Int.ediv_nonneg (Int.mul_nonneg s0 h0) (by decide)
  have c1 : cuF u ≤ sqF u := by
    unfold cuF
    have : sqF u * u ≤ sqF u * 65536 := Int.mul_le_mul_of_nonneg_left h1 s0
    omega
  obtain ⟨k, hk⟩ : ∃ k, k = 65536 - u := ⟨_, rfl⟩
  have e2 := sq_k hk
  have e3 := cu_k hk
  have k0 : 0 ≤ k := by omega
  have k1 : k ≤ 65536 := by omega
  have kk : k * k ≤ 65536 * k := Int.mul_le_mul_of_nonneg_right k1 k0
  have kk0 : 0 ≤ k * k := Int.mul_nonneg k0 k0
  have cc : k * k / 65536 ≤ k := by omega
  have ck : k * k / 65536 * k ≤ k * k := Int.mul_le_mul_of_nonneg_right cc k0
  have ff : k * k / 65536 ≤ (2 * (k * k) - k * k / 65536 * k) / 65536 := Int.ediv_le_ediv (by decide) (by omega)
  generalize (2 * (k * k) - k * k / 65536 * k) / 65536 = f at *
  have cz : 0 ≤ k * k / 65536 := by omega
  generalize k * k / 65536 = c at *
  unfold wayF firstF lastF
  omega

theorem mulF_sq {u : Int} (h0 : 0 ≤ u) (h1 : u ≤ 65536) : mulF u u = sqF u := by
  obtain ⟨s0, s1, _⟩ := weights_bounds h0 h1
  exact sat_of (x := sqF u) (by unfold I64; omega)
theorem mulF_cu {u : Int} (h0 : 0 ≤ u) (h1 : u ≤ 65536) : mulF (sqF u) u = cuF u := by
  obtain ⟨s0, s1, s2, s3, _⟩ := weights_bounds h0 h1
  exact sat_of (x := cuF u) (by unfold I64; omega)

theorem cat_f (u : Int) (h0 : 0 ≤ u) (h1 : u ≤ 65536) (w : World) :
    Calls Try.prog 124 #[.int .i64 u] w fun e w' => e = .returned (v3 (wayF u) (firstF u) (lastF u)) ∧ w' = w.alloc (.cells #[.int .i64 (wayF u), .int .i64 (firstF u), .int .i64 (lastF u)] 171) := by
  obtain ⟨s0, s1, s2, s3, s4, s5, s6, s7, s8, s9⟩ := weights_bounds h0 h1
  have c1 := mul_f u u (i64_of _ (by omega)) (i64_of _ (by omega))
  rw [mulF_sq h0 h1] at c1
  have c2 := mul_f (sqF u) u (i64_of _ (by omega)) (i64_of _ (by omega))
  rw [mulF_cu h0 h1] at c2
  have E1 : wayF u = 3 * sqF u - 2 * cuF u := rfl
  have E2 : firstF u = cuF u - 2 * sqF u + u := rfl
  have E3 : lastF u = cuF u - sqF u := rfl
  generalize wayF u = a at *
  generalize firstF u = b at *
  generalize lastF u = c at *
  generalize sqF u = s at *
  generalize cuF u = t at *
  subst E1; subst E2; subst E3
  go_enter Try.func124, Try.ntmps124
  go_wp2_with fail
  refine (c1 _).mono ?_; rintro e w' ⟨rfl, rfl⟩
  go_wp2_with fail
  refine (c2 _).mono ?_; rintro e w' ⟨rfl, rfl⟩
  go_wp2
  exact bodyPost_ret (v := v3 (3 * s - 2 * t) (t - 2 * s + u) (t - s)) (by simp [results, Try.results124, go_sem]) rfl ⟨rfl, rfl⟩

theorem rcweights_f (u : Int) (h0 : 0 ≤ u) (h1 : u ≤ 65536) (w : World) :
    Calls Try.prog 84 #[.int .i64 u] w fun e w' => e = .returned (.tuple #[.int .i64 (wayF u), .int .i64 (firstF u), .int .i64 (lastF u)]) ∧ w = w' := by
  obtain ⟨s0, s1, s2, s3, s4, s5, s6, s7, s8, s9⟩ := weights_bounds h0 h1
  have c1 := rmul_f u u (i64_of _ (by omega)) (i64_of _ (by omega))
  rw [mulF_sq h0 h1] at c1
  have c2 := rmul_f (sqF u) u (i64_of _ (by omega)) (i64_of _ (by omega))
  rw [mulF_cu h0 h1] at c2
  have E1 : wayF u = 3 * sqF u - 2 * cuF u := rfl
  have E2 : firstF u = cuF u - 2 * sqF u + u := rfl
  have E3 : lastF u = cuF u - sqF u := rfl
  generalize wayF u = a at *
  generalize firstF u = b at *
  generalize lastF u = c at *
  generalize sqF u = s at *
  generalize cuF u = t at *
  subst E1; subst E2; subst E3
  go_enter Try.func84, Try.ntmps84
  go_wp2_with fail
  refine (c1 _).mono ?_; rintro e w' ⟨rfl, rfl⟩
  go_wp2_with fail
  refine (c2 _).mono ?_; rintro e w' ⟨rfl, rfl⟩
  go_wp2
  exact bodyPost_ret (v := .tuple #[.int .i64 (3 * s - 2 * t), .int .i64 (t - 2 * s + u), .int .i64 (t - s)]) (by simp [results, Try.results84, go_sem]) rfl ⟨rfl, rfl⟩
end Go.Proofs.Ytobphhbmlhjbcaa
