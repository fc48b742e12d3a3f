/- The law SlewGoes: it returns true at every input, and leaves what came in as it was. No condition. -/
import Derived.Test.YtnjhacmgnmflaaaRows
import Derived.Test.YtnjhacmgnmflaaaOpen
import Derived.Test.YtnjhacmgnmflaaaPairs
import Derived.Test.YtnjhacmgnmflaaaSizedRow
import Derived.Test.YtnjhacmgnmflaaaLaw16f
namespace Go.Proofs.Ytnjhacmgnmflaaa.slewGoes
open Go.ChangeShapes Go.WideShapes Go.ChangeAt Go.RowKit
set_option linter.unusedVariables false
set_option linter.unusedSimpArgs false
theorem own : ownKnob Try.prog.godebug = none := by kernel_rfl
theorem laidOut : laidOutB Try.prog = true := by kernel_rfl
theorem ct40 : Try.prog.cellsOf 40 = 2 := by kernel_rfl
theorem cy40 : Try.prog.cellTypes Try.prog.depth 40 = some [2, 2] := by kernel_rfl
set_option maxRecDepth 100000 in
theorem lifted (os : Os) (started : os.Started) (H : Type) (enc : TypeId × Value → H) :
    ReturnsInHanded {} Try.checked os 12 .any (Rows.slewGoesSpec.pre6 enc Try.prog Try.f12 Rows.slewGoesRow.domain false) (Rows.slewGoesSpec.post enc Try.prog Try.f12 false true false false) := by
  refine returnsInHanded_of_change_sized (C := Try.checked) own started (by kernel_rfl) Try.func12
    (ChangeSpec.witness6 (enc := enc) (C := Try.checked) false ⟨#[], #[.agg #[.int .i64 0, .int .i64 0], .slice none 0 0], []⟩ 8 (by kernel_rfl) (by kernel_rfl) (by kernel_rfl) (by kernel_rfl)) ?_
  intro W base args ds gs before hval0 hW hcnd hsz0 _
  have hsz : (DataW.weightsEach Try.prog (Try.f12.params.toList ++ Rows.slewGoesSpec.plain.varTypes Try.prog) (ds ++ gs)).all (· ≤ reachBytes) = true := hsz0
  have hval : ∀ (j : Nat) t v, Try.f12.params[j]? = some t → args[j]? = some v → Value.okWide Try.prog W .any base t v := hval0
  have hW' := hW
  obtain ⟨p, q, hA0, hV, rfl, hfz, hnd⟩ := hW
  have hA : DataW.TrodAll enc Try.prog W 0 (fun _ => true) true Try.f12.params.toList args.toList ds p := hA0
  rw [Try.params12] at hA hval hsz
  obtain ⟨v0, vs0, d0, ds0, p0, q0, hargs, rfl, rfl, h0, r0⟩ := trodAll_cons hA
  obtain ⟨v1, vs1, d1, ds1, p1, q1, rfl, rfl, rfl, h1, r1⟩ := trodAll_cons r0
  obtain ⟨rfl, rfl, rfl⟩ := trodAll_nil r1
  obtain rfl : args = #[v0, v1] := by cases args; simp_all
  obtain ⟨rfl, rfl⟩ := trodVars_none hV
  have k0 := h0
  have lt0 : ∀ x ∈ p0, x.block < W.heap.size := by obtain ⟨m, hm⟩ := k0; exact DataW.trod_lt m _ _ _ hm
  obtain ⟨cs0, rfl, hs0, hc0⟩ := agg_cells (ts := [2, 2]) (n := 2) (.inr ⟨_, _, Try.underlying40⟩) ct40 cy40 (hval 0 40 v0 rfl rfl)
  obtain ⟨c0_0, c0_1, rfl⟩ := arr2 hs0
  obtain ⟨u0_0, hu0_0, hw0_0⟩ := hc0 0 c0_0 rfl
  obtain rfl : 2 = u0_0 := by simpa using hu0_0
  obtain ⟨a0_0, rfl, w0_0⟩ := cell_int Try.underlying2 hw0_0
  obtain ⟨u0_1, hu0_1, hw0_1⟩ := hc0 1 c0_1 rfl
  obtain rfl : 2 = u0_1 := by simpa using hu0_1
  obtain ⟨a0_1, rfl, w0_1⟩ := cell_int Try.underlying2 hw0_1
  clear hc0
  have k1 := h1
  have lt1 : ∀ x ∈ p1, x.block < W.heap.size := by obtain ⟨m, hm⟩ := k1; exact DataW.trod_lt m _ _ _ hm
  obtain ⟨a1, len1, cap1, rfl⟩ := okWide_slice Try.underlying59 (hval 1 59 v1 rfl rfl)
  obtain ⟨x1, z1, w1⟩ := open_pairs Try.underlying59 Try.underlying40 Try.underlying2 (by kernel_rfl) (by kernel_rfl) h1
  have y1 : len1 * 16 ≤ 140737488351232 := sized_any hsz (j := 1) (t := 59) rfl rfl Try.underlying59 (by kernel_rfl) h1
  clear hA0 hval0 hsz0 hsz
  refine (slewGoes_walk a0_0 a0_1 a1 len1 cap1 x1 z1 W (wf_i64 w0_0) (wf_i64 w0_1) w1 y1).mono fun e W' ⟨he, bel⟩ => ?_
  subst he
  exact ⟨_, rfl, _, _, _, [], _, [], hW', trodAll_mk1 (shut_bool Try.underlying4 _), (trodAll_cons_mk (Below.trod laidOut (by kernel_rfl) (of_decide_eq_true (by kernel_rfl)) k0 bel lt0) (trodAll_cons_mk (Below.trod laidOut (by kernel_rfl) (of_decide_eq_true (by kernel_rfl)) k1 bel lt1) trodAll_mk0)), rfl, bel.frame _, fun h => by cases h⟩
theorem over : Rows.slewGoesRow.holds Try.pinned (OpenSpec.ofChange Rows.slewGoesSpec) :=
  OpenClaim.holds_of_wide 12 Try.f12 rfl rfl rfl rfl rfl rfl rfl ⟨rfl, rfl, rfl, rfl, rfl⟩ rfl rfl rfl rfl rfl (by kernel_rfl) Try.func12 (by kernel_rfl)
    (of_decide_eq_true (by kernel_rfl)) (by unfold Func.isWrapper; first | (rw [if_pos (by decide +kernel)]; kernel_rfl) | (rw [if_neg (by decide +kernel)]; exact ⟨rfl, rfl⟩))
    (fun os started H enc _ => lifted os started H enc)
theorem proved : Rows.SlewGoesSaid := over
#print axioms proved
end Go.Proofs.Ytnjhacmgnmflaaa.slewGoes
namespace Go.Proofs.Ytnjhacmgnmflaaa
/-- The row, under a short name, for the claim. -/
theorem slewGoes_holds : Rows.SlewGoesSaid := slewGoes.proved
end Go.Proofs.Ytnjhacmgnmflaaa
