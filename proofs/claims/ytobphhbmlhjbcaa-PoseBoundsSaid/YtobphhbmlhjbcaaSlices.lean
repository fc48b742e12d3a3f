/- A slice of whole numbers that came in. -/
import Derived.Test.YtobphhbmlhjbcaaObjs
namespace Go.Proofs.Ytobphhbmlhjbcaa
set_option linter.unusedVariables false
set_option linter.unusedSimpArgs false
open Go.RowKit

/-- a slice that reads as so many whole numbers -/
def IntsAt (k : IntKind) (w : World) (a : Option Addr) (len : Nat) (zs : List Int) : Prop :=
  zs.length = len ∧ (∀ z ∈ zs, (Lit.int k z).wf = true) ∧ (len = 0 ∨ ∃ b off, a = some ⟨b, off, none⟩ ∧ b < w.heap.size ∧ ∀ i, i < len → w.cell? ⟨b, off + i, none⟩ = some (.int k (zs.getD i 0)))

theorem IntsAt.of {k : IntKind} {w : World} {a : Option Addr} {len cap : Nat} {zs : List Int}
    (h : (a = none ∧ len = 0 ∧ cap = 0 ∧ zs = []) ∨ ∃ x, a = some x ∧ len ≤ cap ∧ cap ≤ maxLen ∧ zs.length = cap ∧ (∀ i, i < zs.length → w.cell? (x.add i) = some (.int k (zs.getD i 0))) ∧ ∀ n ∈ zs, (Lit.int k n).wf = true) :
    IntsAt k w a len (zs.take len) := by
  rcases h with ⟨rfl, rfl, rfl, rfl⟩ | ⟨x, rfl, h1, h2, h3, h4, h5⟩
  · exact ⟨rfl, by simp, .inl rfl⟩
  · refine ⟨by simp; omega, fun z hz => h5 z (List.mem_of_mem_take hz), ?_⟩
    rcases Nat.eq_zero_or_pos len with h0 | h0
    · exact .inl h0
    · obtain ⟨b, off, spot⟩ := x
      have hspot : spot = none := by simpa [Addr.add] using World.cell?_spot (h4 0 (by omega))
      subst hspot
      refine .inr ⟨b, off, rfl, World.block_lt_of_cell? w _ (h4 0 (by omega)), fun i hi => ?_⟩
      rw [← Go.WideShapes.add_plain, h4 i (by omega)]
      simp [List.getElem?_take, hi]

theorem IntsAt.len {k : IntKind} {w : World} {a : Option Addr} {len : Nat} {zs : List Int} (h : IntsAt k w a len zs) : zs.length = len := h.1
theorem IntsAt.wf {k : IntKind} {w : World} {a : Option Addr} {len : Nat} {zs : List Int} (h : IntsAt k w a len zs) {i : Nat} (hi : i < len) : (Lit.int k (zs.getD i 0)).wf = true := by
  obtain ⟨h1, h2, _⟩ := h
  apply h2
  rw [List.getD_eq_getElem?_getD, List.getElem?_eq_getElem (by omega)]
  simp
end Go.Proofs.Ytobphhbmlhjbcaa
