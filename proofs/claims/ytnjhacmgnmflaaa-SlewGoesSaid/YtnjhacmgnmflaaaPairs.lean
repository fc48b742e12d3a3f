/- A slice of pairs of whole numbers that came in. -/
import Derived.Test.YtnjhacmgnmflaaaObjs
import Derived.Test.YtnjhacmgnmflaaaOpen
import Derived.Deep.Slices
import Derived.OpenShut
namespace Go.Proofs.Ytnjhacmgnmflaaa
set_option linter.unusedVariables false
set_option linter.unusedSimpArgs false
open Go.RowKit Go.ChangeShapes Go.WideShapes Go.Deep

/-- a slice that reads as so many pairs -/
def PairsAt (w : World) (a : Option Addr) (len : Nat) (X Y : Nat → Int) : Prop :=
  (∀ i, i < len → (-9223372036854775808 ≤ X i ∧ X i ≤ 9223372036854775807) ∧ -9223372036854775808 ≤ Y i ∧ Y i ≤ 9223372036854775807) ∧
  (len = 0 ∨ ∃ b off, a = some ⟨b, off, none⟩ ∧ b < w.heap.size ∧ ∀ i, i < len → w.cell? ⟨b, off + i * 2, none⟩ = some (.int .i64 (X i)) ∧ w.cell? ⟨b, off + i * 2 + 1, none⟩ = some (.int .i64 (Y i)))

theorem open_pairs {H : Type} {enc : TypeId × Value → H} {P : Program} {W : World} {base : Nat} {spare : Nat → Bool} {held : Bool} {t e k : TypeId} {a : Option Addr} {len cap : Nat} {d : DataW H} {ps : List MemPlace}
    (hu : P.underlying t = some (.slice e)) (he : P.underlying e = some (.array 2 k)) (hk : P.underlying k = some (.int .i64)) (hce : P.cellsOf e = 2) (hck : P.cellsOf k = 1)
    (h : DataW.Trod enc P W base spare held t (.slice a len cap) d ps) : ∃ X Y, PairsAt W a len X Y := by
  obtain ⟨fuel, hf⟩ := h
  rcases open_slice hu hf with ⟨hcs, _⟩ | ⟨x, l, c, m, n, D, Pl, hcs, _, hl, hm, hmm, hx, hi⟩
  · simp [Value.cells] at hcs
    obtain ⟨rfl, rfl, rfl⟩ := hcs
    exact ⟨fun _ => 0, fun _ => 0, fun i hi => by omega, .inl rfl⟩
  · simp [Value.cells] at hcs
    obtain ⟨rfl, rfl, rfl⟩ := hcs
    have hlm : len ≤ m := by rw [hmm]; split <;> omega
    have each : ∀ i, i < len → ∃ u : Int × Int, ((-9223372036854775808 ≤ u.1 ∧ u.1 ≤ 9223372036854775807) ∧ -9223372036854775808 ≤ u.2 ∧ u.2 ≤ 9223372036854775807) ∧ W.cell? (x.add (i * 2)) = some (.int .i64 u.1) ∧ W.cell? ((x.add (i * 2)).add 1) = some (.int .i64 u.2) := by
      intro i hil
      obtain ⟨cs', hc, ht⟩ := hi i (by omega)
      rw [hce] at hc
      obtain ⟨_, hcl, hat⟩ := World.cells?_some hc
      obtain ⟨ys, n', _, _, _, hyl, hg⟩ := DataW.trod_array he ht
      have a0 := hat 0 (by omega)
      have a1 := hat 1 (by omega)
      match cs', hcl with
      | [c0, c1], _ =>
        have g0 := hg 0 (by omega)
        have g1 := hg 1 (by omega)
        rw [hck] at g0 g1
        have e0 : ys[0]? = some (ys[0]'(by omega)) := List.getElem?_eq_getElem (by omega)
        have e1 : ys[1]? = some (ys[1]'(by omega)) := List.getElem?_eq_getElem (by omega)
        rw [e0] at g0
        rw [e1] at g1
        obtain ⟨u0, h0, _, w0⟩ := DataW.trod_int hk g0
        obtain ⟨u1, h1, _, w1⟩ := DataW.trod_int hk g1
        simp at h0 h1
        subst h0
        subst h1
        have a0' : W.cell? (x.add (i * 2)) = some (.int .i64 u0) := by
          have e : ∀ y : Addr, y.add 0 = y := fun y => by simp [Addr.add]
          rw [← e (x.add (i * 2)), a0]; rfl
        exact ⟨(u0, u1), ⟨wf_i64 w0, wf_i64 w1⟩, a0', a1⟩
    have each' : ∃ U : Nat → Int × Int, ∀ i, i < len → ((-9223372036854775808 ≤ (U i).1 ∧ (U i).1 ≤ 9223372036854775807) ∧ -9223372036854775808 ≤ (U i).2 ∧ (U i).2 ≤ 9223372036854775807) ∧ W.cell? (x.add (i * 2)) = some (.int .i64 (U i).1) ∧ W.cell? ((x.add (i * 2)).add 1) = some (.int .i64 (U i).2) := by
      refine ⟨fun i => if h : i < len then (each i h).choose else (0, 0), fun i hi => ?_⟩
      simp only [dif_pos hi]
      exact (each i hi).choose_spec
    obtain ⟨U, hU⟩ := each'
    refine ⟨fun i => (U i).1, fun i => (U i).2, fun i hi => (hU i hi).1, ?_⟩
    rcases Nat.eq_zero_or_pos len with h0 | h0
    · exact .inl h0
    · obtain ⟨b, off, spot⟩ := x
      have hspot : spot = none := by simpa [Addr.add] using World.cell?_spot (hU 0 h0).2.1
      subst hspot
      refine .inr ⟨b, off, rfl, ?_, fun i hi => ?_⟩
      · exact World.block_lt_of_cell? W _ (hU 0 h0).2.1
      · have := (hU i hi).2
        rw [Go.WideShapes.add_plain, Go.WideShapes.add_plain] at this
        exact this
end Go.Proofs.Ytnjhacmgnmflaaa
