/- The law BracketBeyond: it returns true at every input, and leaves what came in as it was. No condition. -/
import Derived.Test.YtkfebgdflbplbaaRows
import Derived.Test.YtkfebgdflbplbaaOpen
import Derived.Test.YtkfebgdflbplbaaBr8
namespace Go.Proofs.Ytkfebgdflbplbaa.bracketBeyond
open Go.ChangeShapes Go.WideShapes Go.ChangeAt Go.RowKit
set_option linter.unusedVariables false
set_option linter.unusedSimpArgs false
theorem own : ownKnob Try.prog.godebug = none := by kernel_rfl
theorem laidOut : laidOutB Try.prog = true := by kernel_rfl
theorem ct52 : Try.prog.cellsOf 52 = 2 := by kernel_rfl
theorem cy52 : Try.prog.cellTypes Try.prog.depth 52 = some [51, 51] := by kernel_rfl
set_option maxRecDepth 100000 in
theorem lifted (os : Os) (started : os.Started) (H : Type) (enc : TypeId × Value → H) :
    ReturnsInHanded {} Try.checked os 7 .any (Rows.bracketBeyondSpec.pre6 enc Try.prog Try.f7 Rows.bracketBeyondRow.domain false) (Rows.bracketBeyondSpec.post enc Try.prog Try.f7 false true false false) := by
  refine returnsInHanded_of_change (C := Try.checked) own started (by kernel_rfl) Try.func7
    (ChangeSpec.witness6 (enc := enc) (C := Try.checked) false ⟨#[], #[.int .i64 0, .agg #[.int .u32 0, .int .u32 0]], []⟩ 8 (by kernel_rfl) (by kernel_rfl) (by kernel_rfl) (by kernel_rfl)) ?_
  intro W base args ds gs before hval0 hW hcnd _
  have hval : ∀ (j : Nat) t v, Try.f7.params[j]? = some t → args[j]? = some v → Value.okWide Try.prog W .any base t v := hval0
  have hW' := hW
  obtain ⟨p, q, hA0, hV, rfl, hfz, hnd⟩ := hW
  have hA : DataW.TrodAll enc Try.prog W 0 (fun _ => true) true Try.f7.params.toList args.toList ds p := hA0
  rw [Try.params7] at hA hval
  obtain ⟨v0, vs0, d0, ds0, p0, q0, hargs, rfl, rfl, h0, r0⟩ := trodAll_cons hA
  obtain ⟨v1, vs1, d1, ds1, p1, q1, rfl, rfl, rfl, h1, r1⟩ := trodAll_cons r0
  obtain ⟨rfl, rfl, rfl⟩ := trodAll_nil r1
  obtain rfl : args = #[v0, v1] := by cases args; simp_all
  obtain ⟨rfl, rfl⟩ := trodVars_none hV
  have k0 := h0
  have lt0 : ∀ x ∈ p0, x.block < W.heap.size := by obtain ⟨m, hm⟩ := k0; exact DataW.trod_lt m _ _ _ hm
  have ok0 := (hval 0 2 v0 rfl rfl)
  have ok0 : Cell.okWide Try.prog W .any base 2 v0 := by simpa only [Value.okWide, Try.underlying2] using ok0
  obtain ⟨a0, rfl, w0⟩ := cell_int Try.underlying2 ok0
  have k1 := h1
  have lt1 : ∀ x ∈ p1, x.block < W.heap.size := by obtain ⟨m, hm⟩ := k1; exact DataW.trod_lt m _ _ _ hm
  obtain ⟨cs1, rfl, hs1, hc1⟩ := agg_cells (ts := [51, 51]) (n := 2) (.inr ⟨_, _, Try.underlying52⟩) ct52 cy52 (hval 1 52 v1 rfl rfl)
  obtain ⟨c1_0, c1_1, rfl⟩ := arr2 hs1
  obtain ⟨u1_0, hu1_0, hw1_0⟩ := hc1 0 c1_0 rfl
  obtain rfl : 51 = u1_0 := by simpa using hu1_0
  obtain ⟨a1_0, rfl, w1_0⟩ := cell_int Try.underlying51 hw1_0
  obtain ⟨u1_1, hu1_1, hw1_1⟩ := hc1 1 c1_1 rfl
  obtain rfl : 51 = u1_1 := by simpa using hu1_1
  obtain ⟨a1_1, rfl, w1_1⟩ := cell_int Try.underlying51 hw1_1
  clear hc1
  clear hA0 hval0
  refine (bracketBeyond_walk a0 a1_0 a1_1 (wf_i64 w0) (wf_u32 w1_0) (wf_u32 w1_1) W).mono fun e W' ⟨he, bel⟩ => ?_
  subst he
  exact ⟨_, rfl, _, _, _, [], _, [], hW', trodAll_mk1 (shut_bool Try.underlying4 _), (trodAll_cons_mk (Below.trod laidOut (by kernel_rfl) (of_decide_eq_true (by kernel_rfl)) k0 bel lt0) (trodAll_cons_mk (Below.trod laidOut (by kernel_rfl) (of_decide_eq_true (by kernel_rfl)) k1 bel lt1) trodAll_mk0)), rfl, bel.frame _, fun h => by cases h⟩
theorem over : Rows.bracketBeyondRow.holds Try.pinned (OpenSpec.ofChange Rows.bracketBeyondSpec) :=
  OpenClaim.holds_of_wide 7 Try.f7 rfl rfl rfl rfl rfl rfl rfl ⟨rfl, rfl, rfl, rfl, rfl⟩ rfl rfl rfl rfl rfl (by kernel_rfl) Try.func7 (by kernel_rfl)
    (of_decide_eq_true (by kernel_rfl)) (by unfold Func.isWrapper; first | (rw [if_pos (by decide +kernel)]; kernel_rfl) | (rw [if_neg (by decide +kernel)]; exact ⟨rfl, rfl⟩))
    (fun os started H enc _ => lifted os started H enc)
theorem proved : Rows.BracketBeyondSaid := over
#print axioms proved
end Go.Proofs.Ytkfebgdflbplbaa.bracketBeyond
namespace Go.Proofs.Ytkfebgdflbplbaa
/-- The row, under a short name, for the claim. -/
theorem bracketBeyond_holds : Rows.BracketBeyondSaid := bracketBeyond.proved
end Go.Proofs.Ytkfebgdflbplbaa
