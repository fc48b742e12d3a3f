/- package bracket: what is wrong with times; the document's. -/
import Derived.Test.YtobphhbmlhjbcaaFix2
import Derived.Test.YtobphhbmlhjbcaaNum2
import Derived.Test.YtobphhbmlhjbcaaRef01
import Derived.Test.YtobphhbmlhjbcaaObjs
import Derived.Test.YtobphhbmlhjbcaaTail
import Derived.LoopTactic
import Derived.Deep.QuietTactic
import Derived.BigQuiet
import Derived.BigRegion
import Derived.RegionTactic
import Derived.Deep.RegionWith
import Derived.Lib.Hide
namespace Go.Proofs.Ytobphhbmlhjbcaa
set_option linter.unusedVariables false
set_option linter.unusedSimpArgs false
open Go.RowKit

/-- a slice of so many snapshots: ticks K, times T, what is in them E -/
def SnapsAt (w : World) (s : Option Addr) (len : Nat) (K T : Nat → Int) (E : Nat → Option Addr × Nat × Nat) : Prop :=
  len = 0 ∨ ∃ b off, s = some ⟨b, off, none⟩ ∧ b < w.heap.size ∧ ∀ i, i < len →
    w.cell? ⟨b, off + i * 3, none⟩ = some (.int .i64 (K i)) ∧ w.cell? ⟨b, off + i * 3 + 1, none⟩ = some (.int .i64 (T i)) ∧ w.cell? ⟨b, off + i * 3 + 2, none⟩ = some (.slice (E i).1 (E i).2.1 (E i).2.2)

/-- what is wrong with n times from the i-th on -/
def chkFrom (T : Nat → Int) : Nat → Nat → Int
  | 0, _ => 0
  | n + 1, i => if T i < -2305843009213693952 ∨ 2305843009213693952 < T i then 3 else if 0 < i ∧ T i ≤ T (i - 1) then 10 else chkFrom T n (i + 1)
def chkT (T : Nat → Int) (len : Nat) : Int := chkFrom T len 0

set_option maxHeartbeats 1000000 in
theorem bcheck_f (s : Option Addr) (len cap : Nat) (K T : Nat → Int) (E : Nat → Option Addr × Nat × Nat) (w : World) (h : SnapsAt w s len K T E) (hlen : (len : Int) ≤ 4611686018427387904) :
    Calls Try.prog 53 #[.slice s len cap] w fun e w' => e = .returned (.int .i64 (chkT T len)) ∧ Below w.heap.size w w' := by
  rcases h with hz | ⟨b, off, rfl, hb, hc⟩
  all_goals
    go_enter Try.func53, Try.ntmps53
    go_wp2_with fail
    go_loopw [7] (fun i wr => ∃ k : Nat, k ≤ len ∧ i = .int .i64 k ∧ chkT T len = chkFrom T (len - k) k ∧ Below w.heap.size w wr) (fun i _ => len - (intOf i).toNat)
    case atStart => exact ⟨0, Nat.zero_le _, rfl, rfl, Below.refl _ _⟩
    case round =>
      rename_i wr
      obtain ⟨k, hk, rfl, hch, hB⟩ := hrel
      by_cases hlt : k < len
      · first
        | (exfalso; omega)
        | (obtain ⟨n, hn⟩ : ∃ n, len - k = n + 1 := ⟨len - k - 1, by omega⟩
           have hn2 : len - (k + 1) = n := by omega
           rw [hn] at hch
           have c0 := (hB.cell (p := ⟨b, off + k * 3, none⟩) hb).trans (hc k hlt).1
           have c1 := (hB.cell (p := ⟨b, off + k * 3 + 1, none⟩) hb).trans (hc k hlt).2.1
           have c2 := (hB.cell (p := ⟨b, off + k * 3 + 2, none⟩) hb).trans (hc k hlt).2.2
           have HCH := Lib.hid (show chkT T len = if T k < -2305843009213693952 ∨ 2305843009213693952 < T k then 3 else if 0 < k ∧ T k ≤ T (k - 1) then 10 else chkFrom T n (k + 1) from hch)
           have HC := Lib.hid hc
           have HB := Lib.hid hB
           have hlt' : (k : Int) < len := by omega
           clear hch hc hn
           by_cases hr : T k < -2305843009213693952 ∨ 2305843009213693952 < T k
           · have HE : Hid (chkT T len = 3) := Lib.hid (by rw [HCH.out, if_pos hr])
             clear HCH
             generalize E k = ek at *; obtain ⟨ea, el, ec⟩ := ek
             dsimp only at c2
             generalize K k = tk at *
             generalize T k = t at *
             rcases hr with r1 | r1
             · go_wp2
               go_ret
               exact ⟨ret_int HE.out.symm, hB.alloc hB.size _⟩
             · have r2 : decide (t < -2305843009213693952) = false := decide_eq_false (by omega)
               go_wp2
               go_ret
               exact ⟨ret_int HE.out.symm, hB.alloc hB.size _⟩
           · have HE : Hid (chkT T len = if 0 < k ∧ T k ≤ T (k - 1) then 10 else chkFrom T n (k + 1)) := Lib.hid (by rw [HCH.out, if_neg hr])
             clear HCH
             have r1 : decide (T k < -2305843009213693952) = false := decide_eq_false (by omega)
             have r2 : decide (2305843009213693952 < T k) = false := decide_eq_false (by omega)
             clear hr
             generalize E k = ek at *; obtain ⟨ea, el, ec⟩ := ek
             dsimp only at c2
             generalize K k = tk at *
             by_cases k0 : k = 0
             · have HF : Hid (chkT T len = chkFrom T n (k + 1)) := Lib.hid (by rw [HE.out, if_neg (by omega)])
               have g0 : decide ((0 : Int) < (k : Int)) = false := decide_eq_false (by omega)
               have gn : decide (0 < k) = false := decide_eq_false (by omega)
               clear k0 HE
               generalize T k = t at *
               go_wp2_with fail
               go_quiet (fail)
               go_wp2_with fail
               go_roundw
               case rel => exact ⟨k + 1, by omega, by go_num, by rw [hn2]; exact HF.out, below_drewN (hB.alloc hB.size _) nq⟩
               case measure => simp [intOf]; omega
             · have hbw : b < wr.heap.size := Nat.lt_of_lt_of_le hb hB.size
               obtain ⟨j, hj⟩ : ∃ j, k = j + 1 := ⟨k - 1, by omega⟩
               have d1 := (HB.out.cell (p := ⟨b, off + j * 3 + 1, none⟩) hb).trans (HC.out j (by omega)).2.1
               rw [show k - 1 = j by omega] at HE
               have hw : IntKind.i64.wrap ((k : Int) - 1) = (j : Int) := by rw [IntKind.wrap_i64]; omega
               have g0 : decide ((0 : Int) < (k : Int)) = true := decide_eq_true (by omega)
               have gn : decide (0 < k) = true := decide_eq_true (by omega)
               have g1 : (j : Int) < len := by omega
               generalize T j = u at *
               generalize T k = t at *
               by_cases hu : t ≤ u
               · have HF : Hid (chkT T len = 10) := Lib.hid (by rw [HE.out, if_pos ⟨by omega, hu⟩])
                 clear HE hj k0
                 go_wp2_with fail
                 go_quiet (fail)
                 go_wp2
                 go_ret
                 exact ⟨ret_int HF.out.symm, below_drewN (hB.alloc hB.size _) nq⟩
               · have HF : Hid (chkT T len = chkFrom T n (k + 1)) := Lib.hid (by rw [HE.out, if_neg (by omega)])
                 have hu2 : decide (t ≤ u) = false := decide_eq_false hu
                 clear HE hj k0 hu
                 go_wp2_with fail
                 go_quiet (fail)
                 go_wp2_with fail
                 go_roundw
                 case rel => exact ⟨k + 1, by omega, by go_num, by rw [hn2]; exact HF.out, below_drewN (hB.alloc hB.size _) nq⟩
                 case measure => simp [intOf]; omega)
      · have hke : len - k = 0 := by omega
        rw [hke] at hch
        have HCH := Lib.hid (show chkT T len = 0 from hch)
        clear hch hke
        go_wp2
        go_ret
        exact ⟨ret_int HCH.out.symm, hB⟩
end Go.Proofs.Ytobphhbmlhjbcaa
