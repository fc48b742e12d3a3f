/- A delay that goes on: package delay's object, walked. -/
import Derived.Test.YtobphhbmlhjbcaaDelay
import Derived.Test.YtobphhbmlhjbcaaObjs
import Derived.Deep.RegionHeld3
import Derived.Lib.SmallJoins
namespace Go.Proofs.Ytobphhbmlhjbcaa
set_option linter.unusedVariables false
set_option linter.unusedSimpArgs false
open Go.RowKit

theorem cfg_cells {w : World} {b : Nat} {c : Cfg} {t : TypeId} (h : Blk w b #[.int .i64 c.ring, .int .i64 c.window, .int .i64 c.base, .int .i64 c.gain, .int .i64 c.least, .int .i64 c.most, .int .i64 c.slack, .int .i64 c.num, .int .i64 c.den, .int .i64 c.extra, .bool c.curved] t) : w.cell? ⟨b, 0, none⟩ = some (.int .i64 c.ring) ∧ w.cell? ⟨b, 1, none⟩ = some (.int .i64 c.window) ∧ w.cell? ⟨b, 2, none⟩ = some (.int .i64 c.base) ∧ w.cell? ⟨b, 3, none⟩ = some (.int .i64 c.gain) ∧ w.cell? ⟨b, 4, none⟩ = some (.int .i64 c.least) ∧ w.cell? ⟨b, 5, none⟩ = some (.int .i64 c.most) ∧ w.cell? ⟨b, 6, none⟩ = some (.int .i64 c.slack) ∧ w.cell? ⟨b, 7, none⟩ = some (.int .i64 c.num) ∧ w.cell? ⟨b, 8, none⟩ = some (.int .i64 c.den) ∧ w.cell? ⟨b, 9, none⟩ = some (.int .i64 c.extra) ∧ w.cell? ⟨b, 10, none⟩ = some (.bool c.curved) :=
  ⟨h.cell 0, h.cell 1, h.cell 2, h.cell 3, h.cell 4, h.cell 5, h.cell 6, h.cell 7, h.cell 8, h.cell 9, h.cell 10⟩

/-- what a delay becomes by an estimate -/
def updF (c : Cfg) (now j : Int) : Int := if c.slack < max (targF c j - now) (now - targF c j) then targF c j else now
def updN (c : Cfg) (now ch j : Int) : Int := if c.slack < max (targF c j - now) (now - targF c j) then ch + 1 else ch

/-- a delay between its limits -/
def InLim (c : Cfg) (now : Int) : Prop := c.least ≤ now ∧ now ≤ c.most

theorem dchk_ok {c : Cfg} (h : dchk c = 0) : (0 ≤ c.base ∧ c.base ≤ 2305843009213693952) ∧ (0 ≤ c.least ∧ c.least ≤ 2305843009213693952) ∧ (0 ≤ c.most ∧ c.most ≤ 2305843009213693952) ∧ (0 ≤ c.slack ∧ c.slack ≤ 2305843009213693952) ∧ (0 ≤ c.gain ∧ c.gain ≤ 68719476736) ∧ c.least ≤ c.most := by
  unfold dchk at h
  split at h
  · rename_i hh
    simp only [Bool.and_eq_true] at hh
    obtain ⟨⟨⟨⟨a, b⟩, d⟩, e⟩, f⟩ := hh
    have : ¬ c.most < c.least := fun hm => by rw [if_pos hm] at h; exact absurd h (by decide)
    exact ⟨of_decide_eq_true a, of_decide_eq_true b, of_decide_eq_true d, of_decide_eq_true e, of_decide_eq_true f, by omega⟩
  · exact absurd h (by decide)
theorem targF_lim {c : Cfg} (h : dchk c = 0) (j : Int) : InLim c (targF c j) := by
  obtain ⟨_, _, _, _, _, hl⟩ := dchk_ok h
  unfold InLim targF clampF; omega

theorem upd_lim {c : Cfg} (h0 : dchk c = 0) {now j : Int} (h : InLim c now) : InLim c (updF c now j) := by
  unfold updF; split
  · exact targF_lim h0 j
  · exact h
theorem inlim_i64 {c : Cfg} (h0 : dchk c = 0) {now : Int} (h : InLim c now) : I64 now := by
  obtain ⟨_, ⟨l1, l2⟩, ⟨l3, l4⟩, _, _, _⟩ := dchk_ok h0
  unfold InLim at h; unfold I64; omega

end Go.Proofs.Ytobphhbmlhjbcaa
