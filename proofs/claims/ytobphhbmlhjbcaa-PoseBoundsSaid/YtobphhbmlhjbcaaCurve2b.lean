/- package curve: a number on a curve, inside. -/
import Derived.Test.YtobphhbmlhjbcaaCurve2
import Derived.LoopTactic
import Derived.Deep.RegionHeld3
namespace Go.Proofs.Ytobphhbmlhjbcaa
set_option linter.unusedVariables false
set_option linter.unusedSimpArgs false
open Go.RowKit

theorem cat_b (u : Int) (h0 : 0 ≤ u) (h1 : u ≤ 65536) (w : World) :
    Calls Try.prog 124 #[.int .i64 u] w fun e w' => e = .returned (v3 (wayF u) (firstF u) (lastF u)) ∧ Below w.heap.size w w' :=
  (cat_f u h0 h1 w).mono fun e w' ⟨h1, h2⟩ => ⟨h1, by rw [h2]; exact (Below.refl _ _).alloc (Nat.le_refl _) _⟩

set_option maxRecDepth 100000 in
set_option maxHeartbeats 2000000 in
theorem ccurve_f (a v b z num den : Int) (ha : I64 a) (hv : I64 v) (hb : I64 b) (hz : I64 z) (h : fineB num den = true) (w : World) :
    Calls Try.prog 122 #[.int .i64 a, .int .i64 v, .int .i64 b, .int .i64 z, .int .i64 num, .int .i64 den] w fun e w' => e = .returned (.tuple #[.int .i64 (curveF a v b z num den), .int .i64 0]) ∧ Below w.heap.size w w' := by
  have c := partn_f num den h
  obtain ⟨d1, d2, n1, n2⟩ := fineB_iff.1 h
  by_cases g0 : num = 0
  · have HE : Hid (curveF a v b z num den = a) := Lib.hid (by unfold curveF; rw [if_pos g0])
    generalize curveF a v b z num den = r at *
    subst g0
    clear h
    go_enter Try.func122, Try.ntmps122
    go_wp2_with fail
    refine (c _).mono ?_; rintro e w' ⟨rfl, k, rfl⟩
    go_wp2
    go_ret2
    exact ⟨ret2_int HE.out.symm rfl, below_dr _ _⟩
  · by_cases g1 : num = den
    · have HE : Hid (curveF a v b z num den = b) := Lib.hid (by unfold curveF; rw [if_neg g0, if_pos g1])
      generalize curveF a v b z num den = r at *
      subst g1
      have e0 : (num == 0) = false := by simpa using g0
      clear h g0
      go_enter Try.func122, Try.ntmps122
      go_wp2_with fail
      refine (c _).mono ?_; rintro e w' ⟨rfl, k, rfl⟩
      go_wp2
      go_ret2
      exact ⟨ret2_int HE.out.symm rfl, below_dr _ _⟩
    · obtain ⟨u0, u1⟩ := partF_bounds h
      have HE : Hid (curveF a v b z num den = clampF (sum3F a (wayF (partF num den)) (subF b a) (firstF (partF num den)) (mulF v den) (lastF (partF num den)) (mulF z den)) a b) := Lib.hid (by unfold curveF; rw [if_neg g0, if_neg g1])
      generalize curveF a v b z num den = r at *
      generalize partF num den = u at *
      have hden : I64 den := i64_of _ (by omega)
      have at1 := cat_b u u0 u1
      obtain ⟨_, _, _, _, s4, s5, s6, s7, s8, s9⟩ := weights_bounds u0 u1
      have x1 := sub_f b a hb ha
      have x2 := mul_f v den hv hden
      have x3 := mul_f z den hz hden
      have SM := Lib.hid (fun bk w hh => csum_f a (wayF u) (subF b a) (firstF u) (mulF v den) (lastF u) (mulF z den) ha (i64_of _ (by omega)) (subF_i64 _ _) (i64_of _ (by omega)) (mulF_i64 _ _) (i64_of _ (by omega)) (mulF_i64 _ _) bk w hh)
      have cl := clamp_f (sum3F a (wayF u) (subF b a) (firstF u) (mulF v den) (lastF u) (mulF z den)) a b
      generalize clampF (sum3F a (wayF u) (subF b a) (firstF u) (mulF v den) (lastF u) (mulF z den)) a b = rr at *
      generalize sum3F a (wayF u) (subF b a) (firstF u) (mulF v den) (lastF u) (mulF z den) = sm3 at *
      generalize wayF u = f1 at *
      generalize firstF u = f2 at *
      generalize lastF u = f3 at *
      generalize subF b a = j1 at *
      generalize mulF v den = j2 at *
      generalize mulF z den = j3 at *
      have e0 : (num == 0) = false := by simpa using g0
      have e1 : (num == den) = false := by simpa using g1
      clear h g0 g1 s4 s5 s6 s7 s8 s9 u0 u1 ha hv hb hz hden d1 d2 n1 n2
      go_enter Try.func122, Try.ntmps122
      go_wp2_with fail
      refine (c _).mono ?_; rintro e w' ⟨rfl, k, rfl⟩
      go_wp2_with fail
      refine (at1 _).mono ?_; rintro e w1 ⟨rfl, hb1⟩
      have hB1 : Below w.heap.size w w1 := Below.trans (by (repeat (first | exact Below.refl _ _ | assumption | (refine Below.drew ?_) | (refine below_drewN ?_ _) | (refine Below.alloc ?_ (by simp <;> omega) _) | (refine Below.setCell ?_ (by simp <;> omega) _)))) hb1
      have SW := Lib.hid (SM.out (w1.heap.size + 1) ((w1.alloc (.cells #[.int .i64 f1, .int .i64 f2, .int .i64 f3] 171)).alloc (.cells #[.int .i64 f1, .int .i64 j1, .int .i64 f2, .int .i64 j2, .int .i64 f3, .int .i64 j3] 175)).drew (by have e := (Blk.new (w1.alloc (.cells #[.int .i64 f1, .int .i64 f2, .int .i64 f3] 171)) #[.int .i64 f1, .int .i64 j1, .int .i64 f2, .int .i64 j2, .int .i64 f3, .int .i64 j3] 175); simp at e; exact e.draws 1))
      have hB2 : Below w.heap.size w ((w1.alloc (.cells #[.int .i64 f1, .int .i64 f2, .int .i64 f3] 171)).alloc (.cells #[.int .i64 f1, .int .i64 j1, .int .i64 f2, .int .i64 j2, .int .i64 f3, .int .i64 j3] 175)) := (hB1.alloc hB1.size _).alloc (by have := hB1.size; simp; omega) _
      have hlt2 : w1.heap.size < ((w1.alloc (.cells #[.int .i64 f1, .int .i64 f2, .int .i64 f3] 171)).alloc (.cells #[.int .i64 f1, .int .i64 j1, .int .i64 f2, .int .i64 j2, .int .i64 f3, .int .i64 j3] 175)).heap.size := by simp <;> omega
      have hB := hB1.alloc hB1.size (.cells #[.int .i64 f1, .int .i64 f2, .int .i64 f3] 171)
      have hlt : w1.heap.size < (w1.alloc (.cells #[.int .i64 f1, .int .i64 f2, .int .i64 f3] 171)).heap.size := by simp
      have hsz := hB1.size
      clear hb1 SM hB1 c at1
      go_wp2_with fail
      go_region_held3 (fun w' => (w'.cell? ⟨w1.heap.size, 0, none⟩ = some (.int .i64 f1) ∧ w'.cell? ⟨w1.heap.size, 1, none⟩ = some (.int .i64 f2) ∧ w'.cell? ⟨w1.heap.size, 2, none⟩ = some (.int .i64 f3)) ∧ w1.heap.size < w'.heap.size ∧ Below w.heap.size w w')
        (first | (go_keep; done) | (((try dsimp only); repeat' apply And.intro) <;> (first | assumption | exact Below.drew (by assumption) | exact Below.alloc (by assumption) (Below.size (by assumption)) _ | go_keep | (simp <;> omega))) | (go_split_ands; exact ⟨⟨(hbk.cell (p := ⟨w1.heap.size, 0, none⟩) (by assumption)).trans (by assumption), (hbk.cell (p := ⟨w1.heap.size, 1, none⟩) (by assumption)).trans (by assumption), (hbk.cell (p := ⟨w1.heap.size, 2, none⟩) (by assumption)).trans (by assumption)⟩, Nat.lt_of_lt_of_le (by assumption) hbk.size, Below.trans (by assumption) (hbk.mono (Below.size (by assumption)))⟩))
        ((first
          | (go_at_call 64; ((with_reducible refine (x1 _).mono ?_); rintro e wx ⟨rfl, rfl⟩))
          | (go_at_call 67; ((with_reducible refine (x2 _).mono ?_); rintro e wx ⟨rfl, rfl⟩))
          | (go_at_call 67; ((with_reducible refine (x3 _).mono ?_); rintro e wx ⟨rfl, rfl⟩))
          | (go_at_call 125; ((with_reducible refine SW.out.mono ?_); rintro e wx ⟨rfl, hbk⟩))))
      all_goals
        rename_i hH
        obtain ⟨_, _, hZ⟩ := hH
        go_wp2_with fail
        refine (cl _).mono ?_; rintro e w' ⟨rfl, rfl⟩
        go_wp2
        go_ret2
        exact ⟨ret2_int HE.out.symm rfl, hZ⟩
end Go.Proofs.Ytobphhbmlhjbcaa
