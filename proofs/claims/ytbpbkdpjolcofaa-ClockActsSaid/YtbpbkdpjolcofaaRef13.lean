/- The document's window and estimate. -/
import Derived.Test.YtbpbkdpjolcofaaClock3
import Derived.Test.YtbpbkdpjolcofaaRto
namespace Go.Proofs.Ytbpbkdpjolcofaa
set_option linter.unusedVariables false
set_option linter.unusedSimpArgs false
open Go.RowKit

theorem tdiv16 (d : Int) : (d.tmod 16 < 0 → d.tdiv 16 - 1 = d / 16) ∧ (¬ d.tmod 16 < 0 → d.tdiv 16 = d / 16) := by
  have h1 := Int.mul_tdiv_add_tmod d 16
  have h2 := Int.tmod_lt_of_pos d (show (0 : Int) < 16 by omega)
  have h3 := Int.lt_tmod_of_pos d (show (0 : Int) < 16 by omega)
  omega

theorem rstep_f (a b : Int) (ha : 0 ≤ a ∧ a ≤ 9223372036854775807) (hb : 0 ≤ b ∧ b ≤ 9223372036854775807) (w : World) :
    Calls Try.prog 51 #[.int .i64 a, .int .i64 b] w fun e w' => e = .returned (.int .i64 (jstep a b)) ∧ w = w' := by
  obtain ⟨a1, a2⟩ := ha
  obtain ⟨b1, b2⟩ := hb
  have HJ : Hid (jstep a b = a + (b - a) / 16) := Lib.hid (by unfold jstep; rw [show max 0 a = a by omega, show max 0 b = b by omega])
  generalize jstep a b = r at *
  obtain ⟨t1, t2⟩ := tdiv16 (b - a)
  have t3 := Int.mul_tdiv_add_tmod (b - a) 16
  have t4 := Int.tmod_lt_of_pos (b - a) (show (0 : Int) < 16 by omega)
  have t5 := Int.lt_tmod_of_pos (b - a) (show (0 : Int) < 16 by omega)
  obtain ⟨q, hq⟩ : ∃ q, (b - a).tdiv 16 = q := ⟨_, rfl⟩
  obtain ⟨m, hm⟩ : ∃ m, (b - a).tmod 16 = m := ⟨_, rfl⟩
  rw [hq, hm] at t1 t2 t3
  rw [hm] at t4 t5
  by_cases hm0 : m < 0
  · have HE : Hid (r = a + (q - 1)) := Lib.hid (by rw [HJ.out, ← t1 hm0])
    have ba : -9223372036854775807 ≤ q - 1 ∧ q - 1 ≤ 9223372036854775807 ∧ 0 ≤ a + (q - 1) ∧ a + (q - 1) ≤ 9223372036854775807 := by omega
    clear t1 t2
    go_enter Try.func51, Try.ntmps51
    go_wp2
    go_ret
    exact ⟨ret_int HE.out.symm, rfl⟩
  · have HE : Hid (r = a + q) := Lib.hid (by rw [HJ.out, ← t2 hm0])
    have ba : -9223372036854775807 ≤ q ∧ q ≤ 9223372036854775807 ∧ 0 ≤ a + q ∧ a + q ≤ 9223372036854775807 := by omega
    have hm1 : 0 ≤ m := by omega
    clear t1 t2
    go_enter Try.func51, Try.ntmps51
    go_wp2
    go_ret
    exact ⟨ret_int HE.out.symm, rfl⟩

theorem rlast_f (n : Nat) (hn : 1 ≤ n) (hn2 : n ≤ 64) (L : List Int) (v : Value) (g : Option Nat) (w : World) (h : RowI w v L g) (hl : L.length ≤ 1000000) :
    ∃ v', Calls Try.prog 73 #[v, .int .i64 n] w (fun e w' => e = .returned v' ∧ w = w') ∧ RowI w v' (lastN n L) g := by
  by_cases hc : n < L.length
  · obtain ⟨D, hD⟩ : ∃ D, L.length - n = D := ⟨_, rfl⟩
    rcases h with ⟨_, rfl, _⟩ | ⟨b, off, cap, cur, rfl, rfl, h3, h4, h5, h6, h7, h8⟩
    · simp at hc
    · have hlen : L.length = D + n := by omega
      rw [hlen] at h3 hl hc ⊢
      refine ⟨.slice (some ⟨b, off + D, none⟩) n (cap - D), ?_, .inr ⟨b, off + D, cap - D, cur, rfl, ?_, ?_, by omega, by omega, h6, by omega, fun i u hu => ?_⟩⟩
      · clear h8 h6
        have hcap : ¬ cap = D := by omega
        have hww : (((D + n : Nat) : Int) - (n : Int)) = (D : Int) := by omega
        go_enter Try.func73, Try.ntmps73
        go_wp2
        go_ret
        exact ⟨rfl, rfl⟩
      · have := lastN_len n L
        rw [this, hlen, show min n (D + n) = n by omega]
      · have := lastN_len n L
        omega
      · unfold lastN at hu
        rw [List.getElem?_drop] at hu
        have := h8 _ u hu
        rw [← this]
        congr 1
        omega
  · obtain ⟨a, cap, rfl⟩ := row_val h
    have hL : lastN n L = L := by unfold lastN; rw [show L.length - n = 0 by omega]; rfl
    rw [hL]
    have H := Lib.hid h
    clear h
    refine ⟨.slice a L.length cap, ?_, H.out⟩
    generalize L.length = len at *
    go_enter Try.func73, Try.ntmps73
    go_wp2
    go_ret
    exact ⟨rfl, rfl⟩

theorem least_uniq {L : List Int} (h : L ≠ []) {x : Int} (h1 : x ∈ L) (h2 : ∀ y ∈ L, x ≤ y) : x = leastF L := by
  obtain ⟨k1, k2⟩ := leastF_spec h
  have := k2 x h1
  have := h2 _ k1
  omega

set_option maxHeartbeats 1000000 in
theorem rleast_f (n : Nat) (hn : 1 ≤ n) (hn2 : n ≤ 64) (L : List Int) (v : Value) (g : Option Nat) (w : World) (h : RowI w v L g) (hl : L.length ≤ 1000000) :
    Calls Try.prog 54 #[v, .int .i64 n] w fun e w' => e = .returned (.tuple #[.int .i64 (leastF (lastN n L)), .bool (decide (lastN n L ≠ []))]) ∧ w = w' := by
  obtain ⟨v', cl, r⟩ := rlast_f n hn hn2 L v g w h hl
  have hlen : (lastN n L).length ≤ 64 := by rw [lastN_len]; omega
  clear hl h
  generalize lastN n L = M at *
  by_cases hM : M = []
  · subst hM
    rw [show decide (([] : List Int) ≠ []) = false from rfl, leastF_nil]
    obtain ⟨a', cap', rfl⟩ := rowI_nil_val r
    clear r
    go_enter Try.func54, Try.ntmps54
    go_wp2_with fail
    refine cl.mono ?_; rintro e w' ⟨rfl, rfl⟩
    go_wp2
    go_ret2
    exact ⟨rfl, rfl⟩
  · rw [show decide (M ≠ []) = true by simpa using hM]
    have LU := Lib.hid (fun x h1 h2 => least_uniq hM (x := x) h1 h2)
    rcases r with ⟨_, r, _⟩ | ⟨b, off, cap, cur, rfl, rfl, t1, t2, t3, t4, t5, t6⟩
    · exact absurd r hM
    have hpos : 0 < M.length := List.length_pos_iff.2 hM
    have HC : Hid (∀ i, i < M.length → w.cell? ⟨b, off + i, none⟩ = some (.int .i64 (M.getD i 0))) := Lib.hid (fun i hi => by
      have := t6 i (M.getD i 0) (by rw [List.getD_eq_getElem?_getD, List.getElem?_eq_getElem hi]; rfl)
      simpa [World.cell?, t4] using this)
    have HM : Hid (∀ i, i < M.length → M.getD i 0 ∈ M) := Lib.hid (fun i hi => by
      rw [List.getD_eq_getElem?_getD, List.getElem?_eq_getElem hi]; exact List.getElem_mem hi)
    have HA : Hid (∀ x, (∀ i, i < M.length → x ≤ M.getD i 0) → ∀ y ∈ M, x ≤ y) := Lib.hid (fun x hx y hy => by
      obtain ⟨i, hi, e⟩ := List.mem_iff_getElem.1 hy
      have := hx i hi
      rw [List.getD_eq_getElem?_getD, List.getElem?_eq_getElem hi] at this
      rw [← e]; exact this)
    have c0 := HC.out 0 hpos
    simp only [Nat.add_zero] at c0
    clear t4 t5 t6 hM
    have HN : Hid (∀ i, M.getD i 0 = M.getD i 0) := Lib.hid (fun _ => rfl)
    obtain ⟨len, hlen2⟩ : ∃ len, M.length = len := ⟨_, rfl⟩
    rw [hlen2] at HC HM HA hpos hlen t1 cl
    have hpos' : (0 : Int) < len := by omega
    generalize hx0 : M.getD 0 0 = x0 at *
    go_enter Try.func54, Try.ntmps54
    go_wp2_with fail
    refine cl.mono ?_; rintro e w' ⟨rfl, rfl⟩
    go_wp2_with fail
    go_loopw [6, 7] (fun xv iv wr => ∃ (i : Nat) (x : Int), iv = .int .i64 i ∧ xv = .int .i64 x ∧ i ≤ len ∧ x ∈ M ∧ (∀ j, j < i → x ≤ M.getD j 0) ∧ w = wr) (fun _ iv _ => len - (intOf iv).toNat)
    case atStart => exact ⟨0, x0, rfl, rfl, Nat.zero_le _, by rw [← hx0]; exact HM.out 0 hpos, fun j hj => by omega, rfl⟩
    case round =>
      obtain ⟨i, x, rfl, rfl, hi, hxm, hxa, hw⟩ := hrel
      subst hw
      have HXM := Lib.hid hxm
      have HXA := Lib.hid hxa
      clear hxm hxa
      by_cases hlt : i < len
      · have ci := HC.out i hlt
        have HMI := Lib.hid (HM.out i hlt)
        have hlt' : (i : Int) < len := by omega
        generalize hy : M.getD i 0 = y at *
        have HY := Lib.hid hy
        clear hy
        by_cases hc : y < x
        · go_wp2
          go_roundw
          case rel => exact ⟨i + 1, y, by go_num, rfl, by omega, HMI.out, fun j hj => by
            rcases Nat.eq_or_lt_of_le (Nat.le_of_lt_succ hj) with h | h
            · subst h; rw [HY.out]; exact Int.le_refl _
            · have := HXA.out j h; omega, by first | rfl | trivial⟩
          case measure => simp [intOf]; omega
        · go_wp2
          go_roundw
          case rel => exact ⟨i + 1, x, by go_num, rfl, by omega, HXM.out, fun j hj => by
            rcases Nat.eq_or_lt_of_le (Nat.le_of_lt_succ hj) with h | h
            · subst h; rw [HY.out]; omega
            · exact HXA.out j h, by first | rfl | trivial⟩
          case measure => simp [intOf]; omega
      · obtain rfl : i = len := by omega
        have HE := Lib.hid (LU.out x HXM.out (HA.out x HXA.out))
        go_wp2
        go_ret2
        exact ⟨by rw [← HE.out]; rfl, rfl⟩
end Go.Proofs.Ytbpbkdpjolcofaa
