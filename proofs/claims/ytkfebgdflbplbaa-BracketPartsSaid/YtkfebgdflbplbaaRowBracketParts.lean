/- The law BracketParts: it returns true at every input, and leaves what came in as it was. No condition. -/
import Derived.Test.YtkfebgdflbplbaaRows
import Derived.Test.YtkfebgdflbplbaaOpen
import Derived.Test.YtkfebgdflbplbaaBr8
namespace Go.Proofs.Ytkfebgdflbplbaa.bracketParts
open Go.ChangeShapes Go.WideShapes Go.ChangeAt Go.RowKit
set_option linter.unusedVariables false
set_option linter.unusedSimpArgs false
theorem own : ownKnob Try.prog.godebug = none := by kernel_rfl
theorem laidOut : laidOutB Try.prog = true := by kernel_rfl
set_option maxRecDepth 100000 in
theorem lifted (os : Os) (started : os.Started) (H : Type) (enc : TypeId × Value → H) :
    ReturnsInHanded {} Try.checked os 6 .any (Rows.bracketPartsSpec.pre6 enc Try.prog Try.f6 Rows.bracketPartsRow.domain false) (Rows.bracketPartsSpec.post enc Try.prog Try.f6 false true false false) := by
  refine returnsInHanded_of_change (C := Try.checked) own started (by kernel_rfl) Try.func6
    (ChangeSpec.witness6 (enc := enc) (C := Try.checked) false ⟨#[], #[.int .i64 0, .int .i64 0, .int .i64 0], []⟩ 8 (by kernel_rfl) (by kernel_rfl) (by kernel_rfl) (by kernel_rfl)) ?_
  intro W base args ds gs before hval0 hW hcnd _
  have hval : ∀ (j : Nat) t v, Try.f6.params[j]? = some t → args[j]? = some v → Value.okWide Try.prog W .any base t v := hval0
  have hW' := hW
  obtain ⟨p, q, hA0, hV, rfl, hfz, hnd⟩ := hW
  have hA : DataW.TrodAll enc Try.prog W 0 (fun _ => true) true Try.f6.params.toList args.toList ds p := hA0
  rw [Try.params6] at hA hval
  obtain ⟨v0, vs0, d0, ds0, p0, q0, hargs, rfl, rfl, h0, r0⟩ := trodAll_cons hA
  obtain ⟨v1, vs1, d1, ds1, p1, q1, rfl, rfl, rfl, h1, r1⟩ := trodAll_cons r0
  obtain ⟨v2, vs2, d2, ds2, p2, q2, rfl, rfl, rfl, h2, r2⟩ := trodAll_cons r1
  obtain ⟨rfl, rfl, rfl⟩ := trodAll_nil r2
  obtain rfl : args = #[v0, v1, v2] := by cases args; simp_all
  obtain ⟨rfl, rfl⟩ := trodVars_none hV
  have k0 := h0
  have lt0 : ∀ x ∈ p0, x.block < W.heap.size := by obtain ⟨m, hm⟩ := k0; exact DataW.trod_lt m _ _ _ hm
  have ok0 := (hval 0 2 v0 rfl rfl)
  have ok0 : Cell.okWide Try.prog W .any base 2 v0 := by simpa only [Value.okWide, Try.underlying2] using ok0
  obtain ⟨a0, rfl, w0⟩ := cell_int Try.underlying2 ok0
  have k1 := h1
  have lt1 : ∀ x ∈ p1, x.block < W.heap.size := by obtain ⟨m, hm⟩ := k1; exact DataW.trod_lt m _ _ _ hm
  have ok1 := (hval 1 2 v1 rfl rfl)
  have ok1 : Cell.okWide Try.prog W .any base 2 v1 := by simpa only [Value.okWide, Try.underlying2] using ok1
  obtain ⟨a1, rfl, w1⟩ := cell_int Try.underlying2 ok1
  have k2 := h2
  have lt2 : ∀ x ∈ p2, x.block < W.heap.size := by obtain ⟨m, hm⟩ := k2; exact DataW.trod_lt m _ _ _ hm
  have ok2 := (hval 2 2 v2 rfl rfl)
  have ok2 : Cell.okWide Try.prog W .any base 2 v2 := by simpa only [Value.okWide, Try.underlying2] using ok2
  obtain ⟨a2, rfl, w2⟩ := cell_int Try.underlying2 ok2
  clear hA0 hval0
  refine (bracketParts_walk a0 a1 a2 (wf_i64 w0) (wf_i64 w1) (wf_i64 w2) W).mono fun e W' ⟨he, bel⟩ => ?_
  subst he
  exact ⟨_, rfl, _, _, _, [], _, [], hW', trodAll_mk1 (shut_bool Try.underlying4 _), (trodAll_cons_mk (Below.trod laidOut (by kernel_rfl) (of_decide_eq_true (by kernel_rfl)) k0 bel lt0) (trodAll_cons_mk (Below.trod laidOut (by kernel_rfl) (of_decide_eq_true (by kernel_rfl)) k1 bel lt1) (trodAll_cons_mk (Below.trod laidOut (by kernel_rfl) (of_decide_eq_true (by kernel_rfl)) k2 bel lt2) trodAll_mk0))), rfl, bel.frame _, fun h => by cases h⟩
theorem over : Rows.bracketPartsRow.holds Try.pinned (OpenSpec.ofChange Rows.bracketPartsSpec) :=
  OpenClaim.holds_of_wide 6 Try.f6 rfl rfl rfl rfl rfl rfl rfl ⟨rfl, rfl, rfl, rfl, rfl⟩ rfl rfl rfl rfl rfl (by kernel_rfl) Try.func6 (by kernel_rfl)
    (of_decide_eq_true (by kernel_rfl)) (by unfold Func.isWrapper; first | (rw [if_pos (by decide +kernel)]; kernel_rfl) | (rw [if_neg (by decide +kernel)]; exact ⟨rfl, rfl⟩))
    (fun os started H enc _ => lifted os started H enc)
theorem proved : Rows.BracketPartsSaid := over
#print axioms proved
end Go.Proofs.Ytkfebgdflbplbaa.bracketParts
namespace Go.Proofs.Ytkfebgdflbplbaa
/-- The row, under a short name, for the claim. -/
theorem bracketParts_holds : Rows.BracketPartsSaid := bracketParts.proved
end Go.Proofs.Ytkfebgdflbplbaa
