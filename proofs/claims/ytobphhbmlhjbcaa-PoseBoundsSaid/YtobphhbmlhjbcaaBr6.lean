/- The document's Pick; snapshots of some times; the example. -/
import Derived.Test.YtobphhbmlhjbcaaBr5
import Derived.Test.YtobphhbmlhjbcaaSlices
import Derived.Laws.Rows
import Derived.OwnWalk
namespace Go.Proofs.Ytobphhbmlhjbcaa
set_option linter.unusedVariables false
set_option linter.unusedSimpArgs false
open Go.RowKit

set_option maxHeartbeats 1000000 in
theorem rpick_f (at0 : Int) (s : Option Addr) (len cap : Nat) (K T : Nat → Int) (E : Nat → Option Addr × Nat × Nat) (w : World) (h : SnapsAt w s len K T E) (hlen : (len : Int) ≤ 4611686018427387904) :
    Calls Try.prog 50 #[.int .i64 at0, .slice s len cap] w fun e w' => e = .returned (.tuple #[.int .i64 (pickA T at0 len), .int .i64 (pickB T at0 len), .int .i64 (pickE T at0 len)]) ∧ Below w.heap.size w w' := by
  have CK := rcheck_b s len cap K T E w h hlen
  by_cases hc : chkT T len = 0
  · have PA : Hid (pickA T at0 len = if lastLe T at0 len = 0 then 0 else (lastLe T at0 len : Int) - 1) := Lib.hid (by unfold pickA; rw [if_pos hc])
    have PB : Hid (pickB T at0 len = if lastLe T at0 len = 0 then 0 else if lastLe T at0 len = len then -1 else (lastLe T at0 len : Int)) := Lib.hid (by unfold pickB; rw [if_pos hc])
    have PE : Hid (pickE T at0 len = if lastLe T at0 len = 0 then 5 else 0) := Lib.hid (by unfold pickE; rw [if_pos hc])
    generalize pickA T at0 len = pa at *
    generalize pickB T at0 len = pb at *
    generalize pickE T at0 len = pe at *
    have HL : Hid (cntLe T at0 len = lastLe T at0 len) := Lib.hid (cnt_last hc len (Nat.le_refl _))
    have HLE := Lib.hid (lastLe_le T at0 len)
    rw [hc] at CK
    clear hc
    have CNT : Hid (∀ k, cntLe T at0 k ≤ k) := Lib.hid (by
      intro k
      induction k with
      | zero => exact Nat.le_refl _
      | succ k ih => rw [cntLe]; split <;> omega)
    rcases h with hz | ⟨b, off, rfl, hb, hcs⟩
    all_goals
      try (have HZ := Lib.hid hz; clear hz)
      go_enter Try.func50, Try.ntmps50
      go_wp2_with fail
      refine CK.mono ?_; rintro e w1 ⟨rfl, hb1⟩
      have HB1 := Lib.hid hb1
      clear hb1 CK
      go_wp2_with fail
      go_loopw [8, 9] (fun n i wr => ∃ k : Nat, k ≤ len ∧ i = .int .i64 k ∧ n = .int .i64 (cntLe T at0 k) ∧ Below w.heap.size w wr) (fun _ i _ => len - (intOf i).toNat)
      case atStart => exact ⟨0, Nat.zero_le _, rfl, by simp [cntLe], HB1.out⟩
      case round =>
        rename_i wr
        obtain ⟨k, hk, rfl, rfl, hB⟩ := hrel
        by_cases hlt : k < len
        · first
          | (exfalso; have := HZ.out; omega)
          | (have c1 := (hB.cell (p := ⟨b, off + k * 3 + 1, none⟩) hb).trans (hcs k hlt).2.1
             have HC := Lib.hid hcs
             have hlt' : (k : Int) < len := by omega
             have HS : Hid (cntLe T at0 (k + 1) = cntLe T at0 k + (if T k ≤ at0 then 1 else 0)) := Lib.hid rfl
             have cb := CNT.out k
             clear hcs
             by_cases hT : T k ≤ at0
             · have HE : Hid (cntLe T at0 (k + 1) = cntLe T at0 k + 1) := Lib.hid (by rw [HS.out, if_pos hT])
               generalize T k = t at *
               generalize cntLe T at0 k = m at *
               go_wp2
               go_roundw
               case rel => exact ⟨k + 1, by omega, by go_num, by rw [HE.out]; go_num, hB⟩
               case measure => simp [intOf]; omega
             · have HE : Hid (cntLe T at0 (k + 1) = cntLe T at0 k) := Lib.hid (by rw [HS.out, if_neg hT]; rfl)
               have hT2 : decide (T k ≤ at0) = false := decide_eq_false hT
               generalize T k = t at *
               generalize cntLe T at0 k = m at *
               go_wp2
               go_roundw
               case rel => exact ⟨k + 1, by omega, by go_num, by rw [HE.out], hB⟩
               case measure => simp [intOf]; omega)
        · obtain rfl : k = len := by omega
          rw [HL.out]
          have hle := HLE.out
          clear CNT HL HLE
          generalize lastLe T at0 k = m at *
          by_cases h0 : m = 0
          · have e1 : pa = 0 := by rw [PA.out, if_pos h0]
            have e2 : pb = 0 := by rw [PB.out, if_pos h0]
            have e3 : pe = 5 := by rw [PE.out, if_pos h0]
            subst e1; subst e2; subst e3; subst h0
            clear PA PB PE
            go_wp2
            exact bodyPost_ret (v := .tuple #[.int .i64 0, .int .i64 0, .int .i64 5]) (by simp [results, Try.results50, go_sem]) rfl ⟨rfl, hB⟩
          · have e1 : pa = (m : Int) - 1 := by rw [PA.out, if_neg h0]
            have e3 : pe = 0 := by rw [PE.out, if_neg h0]
            have g0 : ((m : Int) == 0) = false := by simp; omega
            have g1 : 1 ≤ (m : Int) := by omega
            have ws : wrap64 ((m : Int) - 1) = (m : Int) - 1 := by unfold wrap64; omega
            subst e1; subst e3
            by_cases h1 : m = k
            · have e2 : pb = -1 := by rw [PB.out, if_neg h0, if_pos h1]
              have g2 : ((m : Int) == (k : Int)) = true := by simp; omega
              subst e2
              clear PA PB PE h1 h0
              go_wp2
              exact bodyPost_ret (v := .tuple #[.int .i64 ((m : Int) - 1), .int .i64 (-1), .int .i64 0]) (by simp [results, Try.results50, go_sem, *]) rfl ⟨rfl, hB⟩
            · have e2 : pb = (m : Int) := by rw [PB.out, if_neg h0, if_neg h1]
              have g2 : ((m : Int) == (k : Int)) = false := by simp; omega
              subst e2
              clear PA PB PE h1 h0
              go_wp2
              exact bodyPost_ret (v := .tuple #[.int .i64 ((m : Int) - 1), .int .i64 (m : Int), .int .i64 0]) (by simp [results, Try.results50, go_sem, *]) rfl ⟨rfl, hB⟩
  · rw [show pickA T at0 len = 0 by unfold pickA; rw [if_neg hc], show pickB T at0 len = 0 by unfold pickB; rw [if_neg hc], show pickE T at0 len = chkT T len by unfold pickE; rw [if_neg hc]]
    generalize chkT T len = c at *
    have hc2 : (c != 0) = true := by simpa using hc
    go_enter Try.func50, Try.ntmps50
    go_wp2_with fail
    refine CK.mono ?_; rintro e w1 ⟨rfl, hb1⟩
    go_wp2
    exact bodyPost_ret (v := .tuple #[.int .i64 0, .int .i64 0, .int .i64 c]) (by simp [results, Try.results50, go_sem]) rfl ⟨rfl, hb1⟩

/-- the cells of k snapshots: their ticks are their places -/
def snL (T : Nat → Int) : Nat → List Value
  | 0 => []
  | k + 1 => snL T k ++ [.int .i64 (k : Int), .int .i64 (T k), .slice none 0 0]
theorem snL_length (T : Nat → Int) : ∀ k, (snL T k).length = k * 3
  | 0 => rfl
  | k + 1 => by rw [snL, List.length_append, snL_length T k]; simp; omega
theorem snL_at (T : Nat → Int) : ∀ k i, i < k → (snL T k)[i * 3]? = some (.int .i64 (i : Int)) ∧ (snL T k)[i * 3 + 1]? = some (.int .i64 (T i)) ∧ (snL T k)[i * 3 + 2]? = some (.slice none 0 0)
  | 0, i, h => by omega
  | k + 1, i, h => by
    have hl := snL_length T k
    rw [snL]
    by_cases e : i = k
    · subst e
      rw [List.getElem?_append_right (by omega), List.getElem?_append_right (by omega), List.getElem?_append_right (by omega), hl, show i * 3 - i * 3 = 0 by omega, show i * 3 + 1 - i * 3 = 1 by omega, show i * 3 + 2 - i * 3 = 2 by omega]
      exact ⟨rfl, rfl, rfl⟩
    · rw [List.getElem?_append_left (by omega), List.getElem?_append_left (by omega), List.getElem?_append_left (by omega)]
      exact snL_at T k i (by omega)
theorem snaps_of_row {w : World} {base : Nat} {v : Value} {k : Nat} {T : Nat → Int} (h : w.ownsRow base 26 3 v k (snL T k)) :
    ∃ s cp, v = .slice s k cp ∧ SnapsAt w s k (fun i => (i : Int)) T (fun _ => (none, 0, 0)) := by
  have h' := h
  obtain ⟨_, ⟨rfl, rfl⟩ | ⟨g, cap, cur, rfl, hb, hg, hk, hm, hs, ht⟩⟩ := h'
  · exact ⟨none, 0, rfl, .inl rfl⟩
  · refine ⟨_, _, rfl, .inr ⟨g, 0, rfl, ?_, fun i hi => ?_⟩⟩
    · exact (Array.getElem?_eq_some_iff.1 hg).1
    · obtain ⟨a0, a1, a2⟩ := snL_at T k i hi
      have c := h.cells (g := g) rfl
      have e : ∀ j, (⟨g, 0, none⟩ : Addr).add j = ⟨g, 0 + j, none⟩ := fun j => by unfold Addr.add; split <;> simp_all
      exact ⟨by rw [← e]; exact c _ _ a0, by rw [Nat.add_assoc, ← e]; exact c _ _ a1, by rw [Nat.add_assoc, ← e]; exact c _ _ a2⟩

theorem infoSnap : (Try.prog.info? 26).map (fun i => (i.zero, i.size, i.bytes)) = some (some (.agg #[.int .i64 0, .int .i64 0, .slice none 0 0]), 3, 40) := by kernel_rfl

end Go.Proofs.Ytobphhbmlhjbcaa
