/- A slice among what is of bulk at most 1048576: how long it may be. -/
import Derived.Test.YtkfebgdflbplbaaRows
import Derived.Test.YtkfebgdflbplbaaSizedRow
import Derived.JoinedCond
namespace Go.Proofs.Ytkfebgdflbplbaa
set_option linter.unusedVariables false
set_option linter.unusedSimpArgs false
open Go.ChangeShapes Go.WideShapes Go.Deep

theorem bulk_pos {H : Type} (x : DataW H) : 1 ≤ Rows.uptoBulk x := by
  cases x with
  | lit l => cases l <;> simp [Rows.uptoBulk]
  | nil => simp [Rows.uptoBulk]
  | ptr d => simp [Rows.uptoBulk]
  | slice e s => simp [Rows.uptoBulk]
  | agg p => simp [Rows.uptoBulk]
  | iface t d => simp [Rows.uptoBulk]
  | map e => simp [Rows.uptoBulk]
  | held h => simp [Rows.uptoBulk]
theorem bulk_length {H : Type} : ∀ l : List (DataW H), l.length ≤ Rows.uptoBulkAll l
  | [] => Nat.le_refl _
  | x :: r => by
    have := bulk_pos x
    have := bulk_length r
    rw [Rows.uptoBulkAll, List.length_cons]; omega
theorem bulk_one {H : Type} : ∀ (l : List (DataW H)) (j : Nat) (x : DataW H), l[j]? = some x → Rows.uptoBulk x ≤ Rows.uptoBulkAll l
  | [], j, x, h => by simp at h
  | y :: r, 0, x, h => by simp at h; subst h; rw [Rows.uptoBulkAll]; omega
  | y :: r, j + 1, x, h => by
    have := bulk_one r j x (by simpa using h)
    rw [Rows.uptoBulkAll]; omega
theorem upto_slice {H : Type} {enc : TypeId × Value → H} {P : Program} {W : World} {base : Nat} {spare : Nat → Bool} {held : Bool} {t e : TypeId} {a : Option Addr} {len cap : Nat} {d : DataW H} {p : List MemPlace} {ds : List (DataW H)} (j : Nat)
    (hk : Rows.uptoSmall H ds = true) (hd : ds[j]? = some d) (hu : P.underlying t = some (.slice e)) (h : DataW.Trod enc P W base spare held t (.slice a len cap) d p) : len ≤ 1048576 := by
  obtain ⟨fuel, hf⟩ := h
  have hb : Rows.uptoBulkAll ds ≤ 1048576 := of_decide_eq_true hk
  rcases open_slice hu hf with ⟨hcs, _⟩ | ⟨x, l, c, m, n, D, Pl, hcs, _, hl, hm, hmm, hx, _⟩
  · simp [Value.cells] at hcs
    omega
  · simp [Value.cells] at hcs
    obtain ⟨rfl, rfl, rfl⟩ := hcs
    have hx1 := congrArg Prod.fst hx
    simp only at hx1
    have h1 := bulk_one _ _ _ hd
    rw [hx1, Rows.uptoBulk] at h1
    have h2 := bulk_length ((List.range len).map D)
    simp only [List.length_map, List.length_range] at h2
    omega
end Go.Proofs.Ytkfebgdflbplbaa
