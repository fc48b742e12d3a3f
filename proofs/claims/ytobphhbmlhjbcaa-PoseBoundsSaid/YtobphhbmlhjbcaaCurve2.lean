/- package curve: a number on a curve. -/
import Derived.Test.YtobphhbmlhjbcaaCurve
import Derived.LoopTactic
namespace Go.Proofs.Ytobphhbmlhjbcaa
set_option linter.unusedVariables false
set_option linter.unusedSimpArgs false
open Go.RowKit

/-- what the sum comes to -/
def sum3F (n x p y q z r : Int) : Int := addF (addF (addF n (mulF x p)) (mulF y q)) (mulF z r)

set_option maxHeartbeats 1000000 in
theorem csum_f (n x p y q z r : Int) (hn : I64 n) (hx : I64 x) (hp : I64 p) (hy : I64 y) (hq : I64 q) (hz : I64 z) (hr : I64 r) (b : Nat) (w : World)
    (hb : Blk w b #[.int .i64 x, .int .i64 p, .int .i64 y, .int .i64 q, .int .i64 z, .int .i64 r] 175) :
    Calls Try.prog 125 #[.int .i64 n, .slice (some ⟨b, 0, none⟩) 3 3] w fun e w' => e = .returned (.int .i64 (sum3F n x p y q z r)) ∧ Below w.heap.size w w' := by
  have m0 := mul_f x p hx hp
  have m1 := mul_f y q hy hq
  have m2 := mul_f z r hz hr
  have a0 := add_f n (mulF x p) hn (mulF_i64 _ _)
  have a1 := add_f (addF n (mulF x p)) (mulF y q) (addF_i64 _ _) (mulF_i64 _ _)
  have a2 := add_f (addF (addF n (mulF x p)) (mulF y q)) (mulF z r) (addF_i64 _ _) (mulF_i64 _ _)
  have HE : Hid (sum3F n x p y q z r = addF (addF (addF n (mulF x p)) (mulF y q)) (mulF z r)) := Lib.hid rfl
  generalize sum3F n x p y q z r = s at *
  generalize addF (addF (addF n (mulF x p)) (mulF y q)) (mulF z r) = s3 at *
  generalize addF (addF n (mulF x p)) (mulF y q) = s2 at *
  generalize addF n (mulF x p) = s1 at *
  generalize mulF x p = k0 at *
  generalize mulF y q = k1 at *
  generalize mulF z r = k2 at *
  have lt := hb.lt
  have BL : ∀ wr, Below w.heap.size w wr → Blk wr b #[.int .i64 x, .int .i64 p, .int .i64 y, .int .i64 q, .int .i64 z, .int .i64 r] 175 := fun wr h => hb.below h lt
  clear hn hx hp hy hq hz hr
  go_enter Try.func125, Try.ntmps125
  go_wp2_with fail
  go_loopw [0, 9] (fun v i wr => ((i = .int .i64 0 ∧ v = .int .i64 n) ∨ (i = .int .i64 1 ∧ v = .int .i64 s1) ∨ (i = .int .i64 2 ∧ v = .int .i64 s2) ∨ (i = .int .i64 3 ∧ v = .int .i64 s3)) ∧ Below w.heap.size w wr) (fun _ i _ => 3 - (intOf i).toNat)
  case atStart => exact ⟨.inl ⟨rfl, rfl⟩, Below.refl _ _⟩
  case round =>
    rename_i wr
    obtain ⟨hi, hB⟩ := hrel
    have B := BL _ hB
    have q0 := B.cell 0; have q1 := B.cell 1; have q2 := B.cell 2; have q3 := B.cell 3; have q4 := B.cell 4; have q5 := B.cell 5
    simp at q0 q1 q2 q3 q4 q5
    rcases hi with ⟨rfl, rfl⟩ | ⟨rfl, rfl⟩ | ⟨rfl, rfl⟩ | ⟨rfl, rfl⟩
    · go_wp2_with fail
      refine (m0 _).mono ?_; rintro e w' ⟨rfl, rfl⟩
      go_wp2_with fail
      refine (a0 _).mono ?_; rintro e w' ⟨rfl, rfl⟩
      go_wp2_with fail
      go_roundw
      case rel => exact ⟨.inr (.inl ⟨rfl, rfl⟩), hB.alloc hB.size _⟩
      case measure => decide
    · go_wp2_with fail
      refine (m1 _).mono ?_; rintro e w' ⟨rfl, rfl⟩
      go_wp2_with fail
      refine (a1 _).mono ?_; rintro e w' ⟨rfl, rfl⟩
      go_wp2_with fail
      go_roundw
      case rel => exact ⟨.inr (.inr (.inl ⟨rfl, rfl⟩)), hB.alloc hB.size _⟩
      case measure => decide
    · go_wp2_with fail
      refine (m2 _).mono ?_; rintro e w' ⟨rfl, rfl⟩
      go_wp2_with fail
      refine (a2 _).mono ?_; rintro e w' ⟨rfl, rfl⟩
      go_wp2_with fail
      go_roundw
      case rel => exact ⟨.inr (.inr (.inr ⟨rfl, rfl⟩)), hB.alloc hB.size _⟩
      case measure => decide
    · go_wp2
      go_ret
      exact ⟨ret_int HE.out.symm, hB⟩

/-- a number on the curve -/
def curveF (a v b w num den : Int) : Int :=
  if num = 0 then a else if num = den then b else
    clampF (sum3F a (wayF (partF num den)) (subF b a) (firstF (partF num den)) (mulF v den) (lastF (partF num den)) (mulF w den)) a b

theorem curveF_between {a v b w num den : Int} : min a b ≤ curveF a v b w num den ∧ curveF a v b w num den ≤ max a b := by
  have := @clampF_between (sum3F a (wayF (partF num den)) (subF b a) (firstF (partF num den)) (mulF v den) (lastF (partF num den)) (mulF w den)) a b
  unfold curveF
  split
  · omega
  · split <;> omega

theorem cat_bad (a v b z num den : Int) (h : fineB num den = false) (w : World) :
    Calls Try.prog 122 #[.int .i64 a, .int .i64 v, .int .i64 b, .int .i64 z, .int .i64 num, .int .i64 den] w fun e w' => e = .returned (.tuple #[.int .i64 0, .int .i64 3]) ∧ w = w' := by
  have c := partn_bad num den h
  clear h
  go_enter Try.func122, Try.ntmps122
  go_wp2_with fail
  refine (c _).mono ?_; rintro e w' ⟨rfl, rfl⟩
  go_wp2
  go_ret2
  exact ⟨rfl, rfl⟩

end Go.Proofs.Ytobphhbmlhjbcaa
