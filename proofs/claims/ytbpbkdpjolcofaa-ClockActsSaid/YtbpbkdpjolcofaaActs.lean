/- A slice of structs of three whole numbers that came in. -/
import Derived.Test.YtbpbkdpjolcofaaObjs
import Derived.Test.YtbpbkdpjolcofaaOpen
import Derived.Deep.Slices
import Derived.Deep.Strs
import Derived.OpenShut
namespace Go.Proofs.Ytbpbkdpjolcofaa
set_option linter.unusedVariables false
set_option linter.unusedSimpArgs false
open Go.RowKit Go.ChangeShapes Go.WideShapes Go.Deep

abbrev I64' (n : Int) : Prop := -9223372036854775808 ≤ n ∧ n ≤ 9223372036854775807
/-- a slice that reads as so many structs of three numbers -/
def ActsAt (w : World) (a : Option Addr) (len : Nat) (K X Y : Nat → Int) : Prop :=
  (∀ i, i < len → I64' (K i) ∧ I64' (X i) ∧ I64' (Y i)) ∧
  (len = 0 ∨ ∃ b off, a = some ⟨b, off, none⟩ ∧ b < w.heap.size ∧ ∀ i, i < len → w.cell? ⟨b, off + i * 3, none⟩ = some (.int .i64 (K i)) ∧ w.cell? ⟨b, off + i * 3 + 1, none⟩ = some (.int .i64 (X i)) ∧ w.cell? ⟨b, off + i * 3 + 2, none⟩ = some (.int .i64 (Y i)))

theorem open_acts {H : Type} {enc : TypeId × Value → H} {P : Program} {W : World} {base : Nat} {spare : Nat → Bool} {held : Bool} {t e : TypeId} {f0 f1 f2 : Field} {a : Option Addr} {len cap : Nat} {d : DataW H} {ps : List MemPlace}
    (hu : P.underlying t = some (.slice e)) (he : P.underlying e = some (.struct #[f0, f1, f2])) (hce : P.cellsOf e = 3)
    (hk0 : P.underlying f0.type = some (.int .i64)) (hk1 : P.underlying f1.type = some (.int .i64)) (hk2 : P.underlying f2.type = some (.int .i64))
    (ho : f0.offset = 0 ∧ f1.offset = 1 ∧ f2.offset = 2) (hc0 : P.cellsOf f0.type = 1) (hc1 : P.cellsOf f1.type = 1) (hc2 : P.cellsOf f2.type = 1)
    (h : DataW.Trod enc P W base spare held t (.slice a len cap) d ps) : ∃ K X Y, ActsAt W a len K X Y := by
  obtain ⟨fuel, hf⟩ := h
  rcases open_slice hu hf with ⟨hcs, _⟩ | ⟨x, l, c, m, n, D, Pl, hcs, _, hl, hm, hmm, hx, hi⟩
  · simp [Value.cells] at hcs
    obtain ⟨rfl, rfl, rfl⟩ := hcs
    exact ⟨fun _ => 0, fun _ => 0, fun _ => 0, fun i hi => by omega, .inl rfl⟩
  · simp [Value.cells] at hcs
    obtain ⟨rfl, rfl, rfl⟩ := hcs
    have hlm : len ≤ m := by rw [hmm]; split <;> omega
    have each : ∀ i, i < len → ∃ u : Int × Int × Int, (I64' u.1 ∧ I64' u.2.1 ∧ I64' u.2.2) ∧ W.cell? (x.add (i * 3)) = some (.int .i64 u.1) ∧ W.cell? ((x.add (i * 3)).add 1) = some (.int .i64 u.2.1) ∧ W.cell? ((x.add (i * 3)).add 2) = some (.int .i64 u.2.2) := by
      intro i hil
      obtain ⟨cs', hc, ht⟩ := hi i (by omega)
      rw [hce] at hc
      obtain ⟨_, hcl, hat⟩ := World.cells?_some hc
      obtain ⟨y0, y1, y2, n', _, _, g0, g1, g2⟩ := trod_struct3 he ht
      have a0 := hat 0 (by omega)
      have a1 := hat 1 (by omega)
      have a2 := hat 2 (by omega)
      match cs', hcl with
      | [c0, c1, c2], _ =>
        rw [hc0, ho.1] at g0
        rw [hc1, ho.2.1] at g1
        rw [hc2, ho.2.2] at g2
        obtain ⟨u0, h0, _, w0⟩ := DataW.trod_int hk0 g0
        obtain ⟨u1, h1, _, w1⟩ := DataW.trod_int hk1 g1
        obtain ⟨u2, h2, _, w2⟩ := DataW.trod_int hk2 g2
        simp at h0 h1 h2
        subst h0
        subst h1
        subst h2
        have a0' : W.cell? (x.add (i * 3)) = some (.int .i64 u0) := by
          have e : ∀ y : Addr, y.add 0 = y := fun y => by simp [Addr.add]
          rw [← e (x.add (i * 3)), a0]; rfl
        exact ⟨(u0, u1, u2), ⟨wf_i64 w0, wf_i64 w1, wf_i64 w2⟩, a0', a1, a2⟩
    have each' : ∃ U : Nat → Int × Int × Int, ∀ i, i < len → (I64' (U i).1 ∧ I64' (U i).2.1 ∧ I64' (U i).2.2) ∧ W.cell? (x.add (i * 3)) = some (.int .i64 (U i).1) ∧ W.cell? ((x.add (i * 3)).add 1) = some (.int .i64 (U i).2.1) ∧ W.cell? ((x.add (i * 3)).add 2) = some (.int .i64 (U i).2.2) := by
      refine ⟨fun i => if h : i < len then (each i h).choose else (0, 0, 0), fun i hi => ?_⟩
      simp only [dif_pos hi]
      exact (each i hi).choose_spec
    obtain ⟨U, hU⟩ := each'
    refine ⟨fun i => (U i).1, fun i => (U i).2.1, fun i => (U i).2.2, fun i hi => (hU i hi).1, ?_⟩
    rcases Nat.eq_zero_or_pos len with h0 | h0
    · exact .inl h0
    · obtain ⟨b, off, spot⟩ := x
      have hspot : spot = none := by simpa [Addr.add] using World.cell?_spot (hU 0 h0).2.1
      subst hspot
      refine .inr ⟨b, off, rfl, ?_, fun i hi => ?_⟩
      · exact World.block_lt_of_cell? W _ (hU 0 h0).2.1
      · have := (hU i hi).2
        rw [Go.WideShapes.add_plain, Go.WideShapes.add_plain, Go.WideShapes.add_plain] at this
        exact this
end Go.Proofs.Ytbpbkdpjolcofaa
