/- The law PoseBounds: it returns true at every input, and leaves what came in as it was. No condition. -/
import Derived.Test.YtobphhbmlhjbcaaRows
import Derived.Test.YtobphhbmlhjbcaaOpen
import Derived.Test.YtobphhbmlhjbcaaOpenSnap
import Derived.Test.YtobphhbmlhjbcaaLaw19g
namespace Go.Proofs.Ytobphhbmlhjbcaa.poseBounds
open Go.ChangeShapes Go.WideShapes Go.ChangeAt Go.RowKit
set_option linter.unusedVariables false
set_option linter.unusedSimpArgs false
theorem own : ownKnob Try.prog.godebug = none := by kernel_rfl
theorem laidOut : laidOutB Try.prog = true := by kernel_rfl
theorem ct23 : Try.prog.cellsOf 23 = 11 := by kernel_rfl
theorem cy23 : Try.prog.cellTypes Try.prog.depth 23 = some [3, 3, 2, 2, 2, 2, 2, 2, 2, 2, 4] := by kernel_rfl
theorem ct27 : Try.prog.cellsOf 27 = 6 := by kernel_rfl
set_option maxRecDepth 100000 in
set_option maxHeartbeats 4000000 in
theorem lifted (os : Os) (started : os.Started) (H : Type) (enc : TypeId × Value → H) :
    ReturnsInHanded {} Try.checked os 8 .any (Rows.poseBoundsSpec.pre6 enc Try.prog Try.f8 Rows.poseBoundsRow.domain false) (Rows.poseBoundsSpec.post enc Try.prog Try.f8 false true false false) := by
  refine returnsInHanded_of_change (C := Try.checked) own started (by kernel_rfl) Try.func8
    (ChangeSpec.witness6 (enc := enc) (C := Try.checked) false ⟨#[], #[.agg #[.int .i64 0, .int .i64 0, .int .i64 0, .int .i64 0, .int .i64 0, .int .i64 0, .int .i64 0, .int .i64 0, .int .i64 0, .int .i64 0, .bool false], .agg #[.int .i64 0, .int .i64 0, .slice none 0 0, .int .i64 0, .int .i64 0, .slice none 0 0], .int .i64 0], []⟩ 8 (by kernel_rfl) (by kernel_rfl) (by kernel_rfl) (by kernel_rfl)) ?_
  intro W base args ds gs before hval0 hW hcnd _
  have hval : ∀ (j : Nat) t v, Try.f8.params[j]? = some t → args[j]? = some v → Value.okWide Try.prog W .any base t v := hval0
  have hW' := hW
  obtain ⟨p, q, hA0, hV, rfl, hfz, hnd⟩ := hW
  have hA : DataW.TrodAll enc Try.prog W 0 (fun _ => true) true Try.f8.params.toList args.toList ds p := hA0
  rw [Try.params8] at hA hval
  obtain ⟨v0, vs0, d0, ds0, p0, q0, hargs, rfl, rfl, h0, r0⟩ := trodAll_cons hA
  obtain ⟨v1, vs1, d1, ds1, p1, q1, rfl, rfl, rfl, h1, r1⟩ := trodAll_cons r0
  obtain ⟨v2, vs2, d2, ds2, p2, q2, rfl, rfl, rfl, h2, r2⟩ := trodAll_cons r1
  obtain ⟨rfl, rfl, rfl⟩ := trodAll_nil r2
  obtain rfl : args = #[v0, v1, v2] := by cases args; simp_all
  obtain ⟨rfl, rfl⟩ := trodVars_none hV
  have k0 := h0
  have lt0 : ∀ x ∈ p0, x.block < W.heap.size := by obtain ⟨m, hm⟩ := k0; exact DataW.trod_lt m _ _ _ hm
  obtain ⟨cs0, rfl, hs0, hc0⟩ := agg_cells (ts := [3, 3, 2, 2, 2, 2, 2, 2, 2, 2, 4]) (n := 11) (.inl ⟨_, Try.underlying23⟩) ct23 cy23 (hval 0 23 v0 rfl rfl)
  obtain ⟨c0_0, c0_1, c0_2, c0_3, c0_4, c0_5, c0_6, c0_7, c0_8, c0_9, c0_10, rfl⟩ := arr11 hs0
  obtain ⟨u0_0, hu0_0, hw0_0⟩ := hc0 0 c0_0 rfl
  obtain rfl : 3 = u0_0 := by simpa using hu0_0
  obtain ⟨a0_0, rfl, w0_0⟩ := cell_int Try.underlying3 hw0_0
  obtain ⟨u0_1, hu0_1, hw0_1⟩ := hc0 1 c0_1 rfl
  obtain rfl : 3 = u0_1 := by simpa using hu0_1
  obtain ⟨a0_1, rfl, w0_1⟩ := cell_int Try.underlying3 hw0_1
  obtain ⟨u0_2, hu0_2, hw0_2⟩ := hc0 2 c0_2 rfl
  obtain rfl : 2 = u0_2 := by simpa using hu0_2
  obtain ⟨a0_2, rfl, w0_2⟩ := cell_int Try.underlying2 hw0_2
  obtain ⟨u0_3, hu0_3, hw0_3⟩ := hc0 3 c0_3 rfl
  obtain rfl : 2 = u0_3 := by simpa using hu0_3
  obtain ⟨a0_3, rfl, w0_3⟩ := cell_int Try.underlying2 hw0_3
  obtain ⟨u0_4, hu0_4, hw0_4⟩ := hc0 4 c0_4 rfl
  obtain rfl : 2 = u0_4 := by simpa using hu0_4
  obtain ⟨a0_4, rfl, w0_4⟩ := cell_int Try.underlying2 hw0_4
  obtain ⟨u0_5, hu0_5, hw0_5⟩ := hc0 5 c0_5 rfl
  obtain rfl : 2 = u0_5 := by simpa using hu0_5
  obtain ⟨a0_5, rfl, w0_5⟩ := cell_int Try.underlying2 hw0_5
  obtain ⟨u0_6, hu0_6, hw0_6⟩ := hc0 6 c0_6 rfl
  obtain rfl : 2 = u0_6 := by simpa using hu0_6
  obtain ⟨a0_6, rfl, w0_6⟩ := cell_int Try.underlying2 hw0_6
  obtain ⟨u0_7, hu0_7, hw0_7⟩ := hc0 7 c0_7 rfl
  obtain rfl : 2 = u0_7 := by simpa using hu0_7
  obtain ⟨a0_7, rfl, w0_7⟩ := cell_int Try.underlying2 hw0_7
  obtain ⟨u0_8, hu0_8, hw0_8⟩ := hc0 8 c0_8 rfl
  obtain rfl : 2 = u0_8 := by simpa using hu0_8
  obtain ⟨a0_8, rfl, w0_8⟩ := cell_int Try.underlying2 hw0_8
  obtain ⟨u0_9, hu0_9, hw0_9⟩ := hc0 9 c0_9 rfl
  obtain rfl : 2 = u0_9 := by simpa using hu0_9
  obtain ⟨a0_9, rfl, w0_9⟩ := cell_int Try.underlying2 hw0_9
  obtain ⟨u0_10, hu0_10, hw0_10⟩ := hc0 10 c0_10 rfl
  obtain rfl : 4 = u0_10 := by simpa using hu0_10
  obtain ⟨a0_10, rfl⟩ := cell_bool Try.underlying4 hw0_10
  clear hc0
  have k1 := h1
  have lt1 : ∀ x ∈ p1, x.block < W.heap.size := by obtain ⟨m, hm⟩ := k1; exact DataW.trod_lt m _ _ _ hm
  obtain ⟨cs1, rfl, hs1⟩ : ∃ cs : Array Value, v1 = .agg cs ∧ cs.size = 6 := by
    have key : ∃ cs, v1 = .agg cs ∧ cs.size = Try.prog.cellsOf 27 ∧ Row.okWide Try.prog W .any base 27 cs := by simpa only [Value.okWide, Try.underlying27] using (hval 1 27 v1 rfl rfl)
    obtain ⟨cs, h1, h2, _⟩ := key
    exact ⟨cs, h1, h2.trans ct27⟩
  obtain ⟨sk1, st1, sa1, sl1, sc1, se1, sk1', st1', sa1', sl1', sc1', se1', rfl, wk1, wt1, wk1', wt1', we1, we1'⟩ := open_pair hs1 h1
  have k2 := h2
  have lt2 : ∀ x ∈ p2, x.block < W.heap.size := by obtain ⟨m, hm⟩ := k2; exact DataW.trod_lt m _ _ _ hm
  have ok2 := (hval 2 2 v2 rfl rfl)
  have ok2 : Cell.okWide Try.prog W .any base 2 v2 := by simpa only [Value.okWide, Try.underlying2] using ok2
  obtain ⟨a2, rfl, w2⟩ := cell_int Try.underlying2 ok2
  clear hA0 hval0
  refine (poseBounds_walk a0_0 a0_1 a0_2 a0_3 a0_4 a0_5 a0_6 a0_7 a0_8 a0_9 a0_10 sk1 st1 sa1 sl1 sc1 se1 sk1' st1' sa1' sl1' sc1' se1' a2 W (wf_i64 w0_0) (wf_i64 w0_1) (wf_i64 w0_2) (wf_i64 w0_3) (wf_i64 w0_4) (wf_i64 w0_5) (wf_i64 w0_6) (wf_i64 w0_7) (wf_i64 w0_8) (wf_i64 w0_9) wk1 wt1 wk1' wt1' we1 we1' (wf_i64 w2)).mono fun e W' ⟨he, bel⟩ => ?_
  subst he
  exact ⟨_, rfl, _, _, _, [], _, [], hW', trodAll_mk1 (shut_bool Try.underlying4 _), (trodAll_cons_mk (Below.trod laidOut (by kernel_rfl) (of_decide_eq_true (by kernel_rfl)) k0 bel lt0) (trodAll_cons_mk (Below.trod laidOut (by kernel_rfl) (of_decide_eq_true (by kernel_rfl)) k1 bel lt1) (trodAll_cons_mk (Below.trod laidOut (by kernel_rfl) (of_decide_eq_true (by kernel_rfl)) k2 bel lt2) trodAll_mk0))), rfl, bel.frame _, fun h => by cases h⟩
theorem over : Rows.poseBoundsRow.holds Try.pinned (OpenSpec.ofChange Rows.poseBoundsSpec) :=
  OpenClaim.holds_of_wide 8 Try.f8 rfl rfl rfl rfl rfl rfl rfl ⟨rfl, rfl, rfl, rfl, rfl⟩ rfl rfl rfl rfl rfl (by kernel_rfl) Try.func8 (by kernel_rfl)
    (of_decide_eq_true (by kernel_rfl)) (by unfold Func.isWrapper; first | (rw [if_pos (by decide +kernel)]; kernel_rfl) | (rw [if_neg (by decide +kernel)]; exact ⟨rfl, rfl⟩))
    (fun os started H enc _ => lifted os started H enc)
theorem proved : Rows.PoseBoundsSaid := over
#print axioms proved
end Go.Proofs.Ytobphhbmlhjbcaa.poseBounds
namespace Go.Proofs.Ytobphhbmlhjbcaa
/-- The row, under a short name, for the claim. -/
theorem poseBounds_holds : Rows.PoseBoundsSaid := poseBounds.proved
end Go.Proofs.Ytobphhbmlhjbcaa
