/- Plain numbers: saturation, floors, parts. No program in sight. -/
namespace Go.Proofs.Ytobphhbmlhjbcaa
set_option linter.unusedVariables false
set_option linter.unusedSimpArgs false

/-- an int64 -/
def I64 (x : Int) : Prop := -9223372036854775808 ≤ x ∧ x ≤ 9223372036854775807
/-- a uint64 -/
def U64 (x : Int) : Prop := 0 ≤ x ∧ x ≤ 18446744073709551615

/-- a number that stops at int64's ends -/
def sat (x : Int) : Int := max (-9223372036854775808) (min 9223372036854775807 x)
/-- the product of two numbers of the game -/
def mulF (a b : Int) : Int := sat (a * b / 65536)
/-- the quotient -/
def divF (a b : Int) : Int :=
  if b = 0 then (if a < 0 then -9223372036854775808 else if a = 0 then 0 else 9223372036854775807)
  else if 0 < b then sat (a * 65536 / b) else sat ((-a) * 65536 / (-b))
def addF (a b : Int) : Int := sat (a + b)
def subF (a b : Int) : Int := sat (a - b)
def negF (a : Int) : Int := sat (-a)
def clampF (x a b : Int) : Int := min (max x (min a b)) (max a b)
/-- may a part be? -/
def fineB (num den : Int) : Bool := decide (1 ≤ den ∧ den ≤ 4611686018427387904 ∧ 0 ≤ num ∧ num ≤ den)
def lerpF (a b num den : Int) : Int := a + (b - a) * num / den
def partF (num den : Int) : Int := 65536 * num / den
/-- the end that a number stops at -/
def stopF (m : Bool) : Int := if m then -9223372036854775808 else 9223372036854775807
/-- a size's floor, with its sign -/
def floorF (n : Int) (more minus : Bool) : Int := sat (if minus then -(n + (if more then 1 else 0)) else n)

theorem sat_i64 (x : Int) : I64 (sat x) := by unfold I64 sat; omega
theorem sat_of {x : Int} (h : I64 x) : sat x = x := by unfold I64 at h; unfold sat; omega
theorem addF_i64 (a b : Int) : I64 (addF a b) := sat_i64 _
theorem subF_i64 (a b : Int) : I64 (subF a b) := sat_i64 _
theorem negF_i64 (a : Int) : I64 (negF a) := sat_i64 _
theorem mulF_i64 (a b : Int) : I64 (mulF a b) := sat_i64 _
theorem floorF_i64 (n : Int) (m s : Bool) : I64 (floorF n m s) := sat_i64 _
theorem divF_i64 (a b : Int) : I64 (divF a b) := by
  unfold divF
  split
  · split
    · unfold I64; omega
    · split <;> (unfold I64; omega)
  · split <;> exact sat_i64 _
theorem clampF_i64 {x a b : Int} (_hx : I64 x) (ha : I64 a) (hb : I64 b) : I64 (clampF x a b) := by
  unfold I64 clampF at *; omega

theorem fineB_iff {num den : Int} : fineB num den = true ↔ (1 ≤ den ∧ den ≤ 4611686018427387904 ∧ 0 ≤ num ∧ num ≤ den) := by
  unfold fineB; simp

theorem ediv_mul_bounds (x d : Int) (hd : 0 < d) : x / d * d ≤ x ∧ x < x / d * d + d := by
  have h1 := Int.mul_ediv_add_emod x d
  have h2 := Int.emod_nonneg x (show d ≠ 0 by omega)
  have h3 := Int.emod_lt_of_pos x hd
  rw [Int.mul_comm] at h1
  omega

/-- a floor, by its bounds -/
theorem ediv_eq_of {x d q : Int} (hd : 0 < d) (h1 : q * d ≤ x) (h2 : x < q * d + d) : x / d = q := by
  have h3 : x / d ≥ q := (Int.le_ediv_iff_mul_le hd).2 h1
  have h4 : x / d < q + 1 := (Int.ediv_lt_iff_lt_mul hd).2 (by rw [Int.add_mul]; omega)
  omega

/-- a part of what is not below 0 lies between -/
theorem part_le {n num den : Int} (hn : 0 ≤ n) (hd : 0 < den) (h0 : 0 ≤ num) (h1 : num ≤ den) : 0 ≤ n * num / den ∧ n * num / den ≤ n := by
  constructor
  · exact Int.ediv_nonneg (Int.mul_nonneg hn h0) (by omega)
  · have : n * num ≤ n * den := Int.mul_le_mul_of_nonneg_left h1 hn
    have h3 := Int.ediv_le_ediv hd this
    rw [Int.mul_ediv_cancel _ (by omega)] at h3
    exact h3

theorem neg_part_le {n num den : Int} (hn : n ≤ 0) (hd : 0 < den) (h0 : 0 ≤ num) (h1 : num ≤ den) : n ≤ n * num / den ∧ n * num / den ≤ 0 := by
  constructor
  · have : n * den ≤ n * num := Int.mul_le_mul_of_nonpos_left hn h1
    have h3 := Int.ediv_le_ediv hd this
    rw [Int.mul_ediv_cancel _ (by omega)] at h3
    exact h3
  · have : n * num ≤ 0 := Int.mul_nonpos_of_nonpos_of_nonneg hn h0
    have h3 := Int.ediv_le_ediv hd this
    simpa using h3

/-- a place between: between both -/
theorem lerpF_between {a b num den : Int} (h : fineB num den = true) : min a b ≤ lerpF a b num den ∧ lerpF a b num den ≤ max a b := by
  obtain ⟨h1, h2, h3, h4⟩ := fineB_iff.1 h
  unfold lerpF
  rcases Int.le_total a b with hab | hab
  · have := part_le (n := b - a) (by omega) (show 0 < den by omega) h3 h4; omega
  · have := neg_part_le (n := b - a) (by omega) (show 0 < den by omega) h3 h4; omega

theorem lerpF_i64 {a b num den : Int} (ha : I64 a) (hb : I64 b) (h : fineB num den = true) : I64 (lerpF a b num den) := by
  have := lerpF_between (a := a) (b := b) h
  unfold I64 at *; omega

theorem partF_bounds {num den : Int} (h : fineB num den = true) : 0 ≤ partF num den ∧ partF num den ≤ 65536 := by
  obtain ⟨h1, h2, h3, h4⟩ := fineB_iff.1 h
  exact part_le (n := 65536) (by omega) (by omega) h3 h4

end Go.Proofs.Ytobphhbmlhjbcaa
