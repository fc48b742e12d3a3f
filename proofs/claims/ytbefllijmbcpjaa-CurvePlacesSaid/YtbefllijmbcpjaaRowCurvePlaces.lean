/- The law CurvePlaces: it returns true at every input, and leaves what came in as it was. No condition. -/
import Derived.Test.YtbefllijmbcpjaaRows
import Derived.Test.YtbefllijmbcpjaaOpen
import Derived.Test.YtbefllijmbcpjaaLaw04c
namespace Go.Proofs.Ytbefllijmbcpjaa.curvePlaces
open Go.ChangeShapes Go.WideShapes Go.ChangeAt Go.RowKit
set_option linter.unusedVariables false
set_option linter.unusedSimpArgs false
theorem own : ownKnob Try.prog.godebug = none := by kernel_rfl
theorem laidOut : laidOutB Try.prog = true := by kernel_rfl
theorem ct25 : Try.prog.cellsOf 25 = 6 := by kernel_rfl
theorem cy25 : Try.prog.cellTypes Try.prog.depth 25 = some [2, 2, 2, 2, 2, 2] := by kernel_rfl
theorem ct32 : Try.prog.cellsOf 32 = 2 := by kernel_rfl
theorem cy32 : Try.prog.cellTypes Try.prog.depth 32 = some [2, 2] := by kernel_rfl
set_option maxRecDepth 100000 in
theorem lifted (os : Os) (started : os.Started) (H : Type) (enc : TypeId × Value → H) :
    ReturnsInHanded {} Try.checked os 13 .any (Rows.curvePlacesSpec.pre6 enc Try.prog Try.f13 Rows.curvePlacesRow.domain false) (Rows.curvePlacesSpec.post enc Try.prog Try.f13 false true false false) := by
  refine returnsInHanded_of_change (C := Try.checked) own started (by kernel_rfl) Try.func13
    (ChangeSpec.witness6 (enc := enc) (C := Try.checked) false ⟨#[], #[.agg #[.int .i64 0, .int .i64 0, .int .i64 0, .int .i64 0, .int .i64 0, .int .i64 0], .agg #[.int .i64 0, .int .i64 0, .int .i64 0, .int .i64 0, .int .i64 0, .int .i64 0], .agg #[.int .i64 0, .int .i64 0]], []⟩ 8 (by kernel_rfl) (by kernel_rfl) (by kernel_rfl) (by kernel_rfl)) ?_
  intro W base args ds gs before hval0 hW hcnd _
  have hval : ∀ (j : Nat) t v, Try.f13.params[j]? = some t → args[j]? = some v → Value.okWide Try.prog W .any base t v := hval0
  have hW' := hW
  obtain ⟨p, q, hA0, hV, rfl, hfz, hnd⟩ := hW
  have hA : DataW.TrodAll enc Try.prog W 0 (fun _ => true) true Try.f13.params.toList args.toList ds p := hA0
  rw [Try.params13] at hA hval
  obtain ⟨v0, vs0, d0, ds0, p0, q0, hargs, rfl, rfl, h0, r0⟩ := trodAll_cons hA
  obtain ⟨v1, vs1, d1, ds1, p1, q1, rfl, rfl, rfl, h1, r1⟩ := trodAll_cons r0
  obtain ⟨v2, vs2, d2, ds2, p2, q2, rfl, rfl, rfl, h2, r2⟩ := trodAll_cons r1
  obtain ⟨rfl, rfl, rfl⟩ := trodAll_nil r2
  obtain rfl : args = #[v0, v1, v2] := by cases args; simp_all
  obtain ⟨rfl, rfl⟩ := trodVars_none hV
  have k0 := h0
  have lt0 : ∀ x ∈ p0, x.block < W.heap.size := by obtain ⟨m, hm⟩ := k0; exact DataW.trod_lt m _ _ _ hm
  obtain ⟨cs0, rfl, hs0, hc0⟩ := agg_cells (ts := [2, 2, 2, 2, 2, 2]) (n := 6) (.inr ⟨_, _, Try.underlying25⟩) ct25 cy25 (hval 0 25 v0 rfl rfl)
  obtain ⟨c0_0, c0_1, c0_2, c0_3, c0_4, c0_5, rfl⟩ := arr6 hs0
  obtain ⟨u0_0, hu0_0, hw0_0⟩ := hc0 0 c0_0 rfl
  obtain rfl : 2 = u0_0 := by simpa using hu0_0
  obtain ⟨a0_0, rfl, w0_0⟩ := cell_int Try.underlying2 hw0_0
  obtain ⟨u0_1, hu0_1, hw0_1⟩ := hc0 1 c0_1 rfl
  obtain rfl : 2 = u0_1 := by simpa using hu0_1
  obtain ⟨a0_1, rfl, w0_1⟩ := cell_int Try.underlying2 hw0_1
  obtain ⟨u0_2, hu0_2, hw0_2⟩ := hc0 2 c0_2 rfl
  obtain rfl : 2 = u0_2 := by simpa using hu0_2
  obtain ⟨a0_2, rfl, w0_2⟩ := cell_int Try.underlying2 hw0_2
  obtain ⟨u0_3, hu0_3, hw0_3⟩ := hc0 3 c0_3 rfl
  obtain rfl : 2 = u0_3 := by simpa using hu0_3
  obtain ⟨a0_3, rfl, w0_3⟩ := cell_int Try.underlying2 hw0_3
  obtain ⟨u0_4, hu0_4, hw0_4⟩ := hc0 4 c0_4 rfl
  obtain rfl : 2 = u0_4 := by simpa using hu0_4
  obtain ⟨a0_4, rfl, w0_4⟩ := cell_int Try.underlying2 hw0_4
  obtain ⟨u0_5, hu0_5, hw0_5⟩ := hc0 5 c0_5 rfl
  obtain rfl : 2 = u0_5 := by simpa using hu0_5
  obtain ⟨a0_5, rfl, w0_5⟩ := cell_int Try.underlying2 hw0_5
  clear hc0
  have k1 := h1
  have lt1 : ∀ x ∈ p1, x.block < W.heap.size := by obtain ⟨m, hm⟩ := k1; exact DataW.trod_lt m _ _ _ hm
  obtain ⟨cs1, rfl, hs1, hc1⟩ := agg_cells (ts := [2, 2, 2, 2, 2, 2]) (n := 6) (.inr ⟨_, _, Try.underlying25⟩) ct25 cy25 (hval 1 25 v1 rfl rfl)
  obtain ⟨c1_0, c1_1, c1_2, c1_3, c1_4, c1_5, rfl⟩ := arr6 hs1
  obtain ⟨u1_0, hu1_0, hw1_0⟩ := hc1 0 c1_0 rfl
  obtain rfl : 2 = u1_0 := by simpa using hu1_0
  obtain ⟨a1_0, rfl, w1_0⟩ := cell_int Try.underlying2 hw1_0
  obtain ⟨u1_1, hu1_1, hw1_1⟩ := hc1 1 c1_1 rfl
  obtain rfl : 2 = u1_1 := by simpa using hu1_1
  obtain ⟨a1_1, rfl, w1_1⟩ := cell_int Try.underlying2 hw1_1
  obtain ⟨u1_2, hu1_2, hw1_2⟩ := hc1 2 c1_2 rfl
  obtain rfl : 2 = u1_2 := by simpa using hu1_2
  obtain ⟨a1_2, rfl, w1_2⟩ := cell_int Try.underlying2 hw1_2
  obtain ⟨u1_3, hu1_3, hw1_3⟩ := hc1 3 c1_3 rfl
  obtain rfl : 2 = u1_3 := by simpa using hu1_3
  obtain ⟨a1_3, rfl, w1_3⟩ := cell_int Try.underlying2 hw1_3
  obtain ⟨u1_4, hu1_4, hw1_4⟩ := hc1 4 c1_4 rfl
  obtain rfl : 2 = u1_4 := by simpa using hu1_4
  obtain ⟨a1_4, rfl, w1_4⟩ := cell_int Try.underlying2 hw1_4
  obtain ⟨u1_5, hu1_5, hw1_5⟩ := hc1 5 c1_5 rfl
  obtain rfl : 2 = u1_5 := by simpa using hu1_5
  obtain ⟨a1_5, rfl, w1_5⟩ := cell_int Try.underlying2 hw1_5
  clear hc1
  have k2 := h2
  have lt2 : ∀ x ∈ p2, x.block < W.heap.size := by obtain ⟨m, hm⟩ := k2; exact DataW.trod_lt m _ _ _ hm
  obtain ⟨cs2, rfl, hs2, hc2⟩ := agg_cells (ts := [2, 2]) (n := 2) (.inr ⟨_, _, Try.underlying32⟩) ct32 cy32 (hval 2 32 v2 rfl rfl)
  obtain ⟨c2_0, c2_1, rfl⟩ := arr2 hs2
  obtain ⟨u2_0, hu2_0, hw2_0⟩ := hc2 0 c2_0 rfl
  obtain rfl : 2 = u2_0 := by simpa using hu2_0
  obtain ⟨a2_0, rfl, w2_0⟩ := cell_int Try.underlying2 hw2_0
  obtain ⟨u2_1, hu2_1, hw2_1⟩ := hc2 1 c2_1 rfl
  obtain rfl : 2 = u2_1 := by simpa using hu2_1
  obtain ⟨a2_1, rfl, w2_1⟩ := cell_int Try.underlying2 hw2_1
  clear hc2
  clear hA0 hval0
  refine (curvePlaces_walk a0_0 a0_1 a0_2 a0_3 a0_4 a0_5 a1_0 a1_1 a1_2 a1_3 a1_4 a1_5 a2_0 a2_1 (wf_i64 w0_0) (wf_i64 w0_1) (wf_i64 w0_2) (wf_i64 w0_3) (wf_i64 w0_4) (wf_i64 w0_5) (wf_i64 w1_0) (wf_i64 w1_1) (wf_i64 w1_2) (wf_i64 w1_3) (wf_i64 w1_4) (wf_i64 w1_5) (wf_i64 w2_0) (wf_i64 w2_1) W).mono fun e W' ⟨he, bel⟩ => ?_
  subst he
  exact ⟨_, rfl, _, _, _, [], _, [], hW', trodAll_mk1 (shut_bool Try.underlying4 _), (trodAll_cons_mk (Below.trod laidOut (by kernel_rfl) (of_decide_eq_true (by kernel_rfl)) k0 bel lt0) (trodAll_cons_mk (Below.trod laidOut (by kernel_rfl) (of_decide_eq_true (by kernel_rfl)) k1 bel lt1) (trodAll_cons_mk (Below.trod laidOut (by kernel_rfl) (of_decide_eq_true (by kernel_rfl)) k2 bel lt2) trodAll_mk0))), rfl, bel.frame _, fun h => by cases h⟩
theorem over : Rows.curvePlacesRow.holds Try.pinned (OpenSpec.ofChange Rows.curvePlacesSpec) :=
  OpenClaim.holds_of_wide 13 Try.f13 rfl rfl rfl rfl rfl rfl rfl ⟨rfl, rfl, rfl, rfl, rfl⟩ rfl rfl rfl rfl rfl (by kernel_rfl) Try.func13 (by kernel_rfl)
    (of_decide_eq_true (by kernel_rfl)) (by unfold Func.isWrapper; first | (rw [if_pos (by decide +kernel)]; kernel_rfl) | (rw [if_neg (by decide +kernel)]; exact ⟨rfl, rfl⟩))
    (fun os started H enc _ => lifted os started H enc)
theorem proved : Rows.CurvePlacesSaid := over
#print axioms proved
end Go.Proofs.Ytbefllijmbcpjaa.curvePlaces
namespace Go.Proofs.Ytbefllijmbcpjaa
/-- The row, under a short name, for the claim. -/
theorem curvePlaces_holds : Rows.CurvePlacesSaid := curvePlaces.proved
end Go.Proofs.Ytbefllijmbcpjaa
