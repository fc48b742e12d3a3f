/- Times that rise; the law BracketEnds, walked: it returns true. -/
import Derived.Test.YtkfebgdflbplbaaBr8
namespace Go.Proofs.Ytkfebgdflbplbaa
set_option linter.unusedVariables false
set_option linter.unusedSimpArgs false
open Go.RowKit

/-- the time behind k steps -/
def riseN (Z : Nat → Int) : Nat → Int
  | 0 => -1099511627776
  | k + 1 => riseN Z k + (1 + Z k)
def riseT (Z : Nat → Int) (i : Nat) : Int := riseN Z (i + 1)
def Small (Z : Nat → Int) : Prop := ∀ i, 0 ≤ Z i ∧ Z i ≤ 4294967295
theorem riseN_bounds {Z : Nat → Int} (h : Small Z) : ∀ k : Nat, -1099511627776 + (k : Int) ≤ riseN Z k ∧ riseN Z k ≤ -1099511627776 + (k : Int) * 4294967296
  | 0 => by simp [riseN]
  | k + 1 => by
    have := riseN_bounds h k
    have := h k
    rw [riseN]; omega
theorem riseT_up {Z : Nat → Int} (h : Small Z) : ∀ {i j : Nat}, i < j → riseT Z i < riseT Z j
  | i, 0, hij => by omega
  | i, j + 1, hij => by
    have := h (j + 1)
    have e : riseT Z (j + 1) = riseT Z j + (1 + Z (j + 1)) := rfl
    by_cases hh : i = j
    · rw [hh]; omega
    · have := riseT_up h (show i < j by omega)
      omega
theorem chk_of {T : Nat → Int} (hb : ∀ i : Nat, i < 1048576 → -2305843009213693952 ≤ T i ∧ T i ≤ 2305843009213693952) (hm : ∀ i : Nat, 0 < i → T (i - 1) < T i) : ∀ n i, i + n ≤ 1048576 → chkFrom T n i = 0
  | 0, _, _ => rfl
  | n + 1, i, h => by
    have := hb i (by omega)
    rw [chkFrom, if_neg (by omega), if_neg (by intro hh; have := hm i hh.1; omega)]
    exact chk_of hb hm n (i + 1) (by omega)
theorem rise_chk {Z : Nat → Int} (h : Small Z) {len : Nat} (hl : len ≤ 1048576) : chkT (riseT Z) len = 0 :=
  chk_of (fun i hi => by have := riseN_bounds h (i + 1); unfold riseT; omega) (fun i hi => riseT_up h (by omega)) len 0 (by omega)
theorem lastLe_eq {T : Nat → Int} {t : Int} {len m : Nat} (hm : m ≤ len) (h1 : m = 0 ∨ T (m - 1) ≤ t) (h2 : ∀ j, m ≤ j → j < len → t < T j) : lastLe T t len = m := by
  rw [lastLe_stop T t len m hm h2]
  cases m with
  | zero => rfl
  | succ m => exact lastLe_at (by simpa using h1)
theorem pick_at {T : Nat → Int} {t : Int} {len m : Nat} (hc : chkT T len = 0) (hm : m ≤ len) (h0 : 0 < m) (h1 : T (m - 1) ≤ t) (h2 : ∀ j, m ≤ j → j < len → t < T j) :
    pickA T t len = (m : Int) - 1 ∧ pickB T t len = (if m = len then -1 else (m : Int)) ∧ pickE T t len = 0 := by
  have e := lastLe_eq hm (.inr h1) h2
  unfold pickA pickB pickE
  have hm0 : ¬ m = 0 := by omega
  rw [if_pos hc, if_pos hc, if_pos hc, e, if_neg hm0, if_neg hm0, if_neg hm0]
  exact ⟨rfl, rfl, rfl⟩
theorem pick_none {T : Nat → Int} {t : Int} {len : Nat} (hc : chkT T len = 0) (h2 : ∀ j, j < len → t < T j) :
    pickA T t len = 0 ∧ pickB T t len = 0 ∧ pickE T t len = 5 := by
  have e := lastLe_eq (Nat.zero_le len) (.inl rfl) (fun j _ h => h2 j h)
  unfold pickA pickB pickE
  rw [if_pos hc, if_pos hc, if_pos hc, e, if_pos rfl, if_pos rfl, if_pos rfl]
  exact ⟨rfl, rfl, rfl⟩

set_option maxHeartbeats 1000000 in
theorem rising_f (a : Option Addr) (len cap : Nat) (zs : List Int) (w : World) (hs : IntsAt .u32 w a len zs) (hl : len ≤ 1048576) (hz : Small (fun i => zs.getD i 0)) :
    Calls Try.prog 15 #[.slice a len cap] w fun e w' => ∃ s cp, e = .returned (.slice s len cp) ∧ SnapsAt w' s len (fun i => (i : Int)) (riseT (fun i => zs.getD i 0)) (fun _ => (none, 0, 0)) ∧ Below w.heap.size w w' := by
  obtain ⟨i0, hi, hz0, hz1, hz2⟩ := info_parts infoSnap
  obtain ⟨_, _, hs⟩ := hs
  obtain ⟨Z, hZ⟩ : ∃ Z : Nat → Int, Z = fun i => zs.getD i 0 := ⟨_, rfl⟩
  have hZe : ∀ i, zs.getD i 0 = Z i := fun i => by rw [hZ]
  rw [← hZ] at hz ⊢
  have HZE := Lib.hid hZe
  have HSM := Lib.hid hz
  clear hZ hZe hz
  rcases hs with hz | ⟨ab, off, rfl, hab, hcell⟩
  all_goals
    go_enter Try.func15, Try.ntmps15
    go_wp2_with fail
    go_loopw [3, 4, 9] (fun v t i wr => ∃ k : Nat, k ≤ len ∧ i = .int .i64 k ∧ t = .int .i64 (riseN Z k) ∧ wr.ownsRow w.heap.size 39 3 v k (snL (riseT Z) k) ∧ Below w.heap.size w wr) (fun _ _ i _ => len - (intOf i).toNat)
    case atStart => exact ⟨0, Nat.zero_le _, rfl, rfl, World.ownsRow_nil _ _ _ _, Below.refl _ _⟩
    case round =>
      rename_i wr
      obtain ⟨k, hk, rfl, rfl, hown, hB⟩ := hrel
      by_cases hlt : k < len
      · first
        | (exfalso; omega)
        | (have hx := (hB.cell (p := ⟨ab, off + k, none⟩) hab).trans (hcell k hlt)
           rw [HZE.out] at hx
           have HC := Lib.hid hcell
           have hlt' : (k : Int) < len := by omega
           have hzk := HSM.out k
           have hrk := riseN_bounds HSM.out k
           have HT : Hid (riseT Z k = riseN Z (k + 1)) := Lib.hid rfl
           have HN : Hid (riseN Z (k + 1) = riseN Z k + (1 + Z k)) := Lib.hid rfl
           have HSN : Hid (snL (riseT Z) (k + 1) = snL (riseT Z) k ++ [.int .i64 (k : Int), .int .i64 (riseT Z k), .slice none 0 0]) := Lib.hid rfl
           rw [HT.out] at HSN
           obtain ⟨z, hzz⟩ : ∃ z, Z k = z := ⟨_, rfl⟩
           obtain ⟨t, htt⟩ : ∃ t, riseN Z k = t := ⟨_, rfl⟩
           obtain ⟨t', ht'⟩ : ∃ t', t + (1 + z) = t' := ⟨_, rfl⟩
           have HTT : Hid (riseN Z (k + 1) = t') := Lib.hid (by rw [HN.out, hzz, htt, ht'])
           rw [hzz] at hx hzk
           rw [htt] at hrk ⊢
           rw [HTT.out] at HSN
           obtain ⟨z1, z2⟩ := hzk
           obtain ⟨r1, r2⟩ := hrk
           have t1 : -9223372036854775808 ≤ t' := by omega
           have t2 : t' ≤ 9223372036854775807 := by omega
           clear hcell HT HN hzz htt
           have hsz := hB.size
           go_wp2_with (at_builtin; refine wpList_append_own _ rfl (.tmp 19) (.tmp 23) 24 rfl w.heap.size 39 i0 (.agg #[.int .i64 0, .int .i64 0, .slice none 0 0]) 3 40 Try.underlying24 hi hz0 hz1 hz2 rfl (by decide) _ _ _ rfl (hown.alloc _) ⟨wr.heap.size, 0, none⟩ 1 1 [.int .i64 (k : Int), .int .i64 t', .slice none 0 0] rfl rfl ?c1 ?c2 ?c3 ?c4 ?c5 ?_)
           case c1 =>
             intro j u hj
             match j, hj with
             | 0, hj => simp at hj; subst hj; simp [Addr.add]
             | 1, hj => simp at hj; subst hj; simp [Addr.add]
             | 2, hj => simp at hj; subst hj; simp [Addr.add]
           case c2 => intro u hu; simp at hu; rcases hu with rfl | rfl | rfl <;> rfl
           case c3 => unfold maxLen; omega
           case c4 => omega
           case c5 => simp; omega
           intro v' w1 hown' hgrow _
           have hB' : Hid (Below w.heap.size w w1) := Lib.hid ((hB.alloc hsz _).grown hgrow (by simp; omega) (fun j e => (hown.lt j e).1))
           have HO : Hid (w1.ownsRow w.heap.size 39 3 v' (k + 1) (snL (riseT Z) (k + 1))) := Lib.hid (by rw [HSN.out]; exact hown')
           clear hown' hgrow hown hB hx
           go_wp2
           go_roundw
           case rel => exact ⟨k + 1, by omega, by go_num, by rw [HTT.out], HO.out, hB'.out⟩
           case measure => simp [intOf]; omega)
      · obtain rfl : k = len := by omega
        obtain ⟨s, cp, rfl, hS⟩ := snaps_of_row hown
        have HS := Lib.hid hS
        clear hS hown
        go_wp2
        go_ret
        exact ⟨s, cp, rfl, HS.out, hB⟩

theorem ints_small {w : World} {a : Option Addr} {len : Nat} {zs : List Int} (hs : IntsAt .u32 w a len zs) : Small (fun i => zs.getD i 0) := fun i => by
  obtain ⟨h1, h2, _⟩ := hs
  by_cases hi : i < zs.length
  · have := h2 (zs.getD i 0) (by rw [List.getD_eq_getElem?_getD, List.getElem?_eq_getElem hi]; simp)
    simp only [Lit.wf, IntKind.min, IntKind.max, IntKind.bits, IntKind.signed] at this
    simp at this
    simp only [List.getD_eq_getElem?_getD] at *
    omega
  · simp [List.getD_eq_getElem?_getD, List.getElem?_eq_none (by omega : zs.length ≤ i)]

theorem ends_idx (i : Int) (len : Nat) (h : 0 < len) (h2 : len ≤ 200) : ∃ (u : Int) (k : Nat), IntKind.u64.wrap i = u ∧ IntKind.u64.wrap (len : Int) = (len : Int) ∧ u.tmod (len : Int) = (k : Int) ∧ k < len := by
  have hu : 0 ≤ IntKind.u64.wrap i := by rw [IntKind.wrap_u64]; omega
  have e : (IntKind.u64.wrap i).tmod (len : Int) = IntKind.u64.wrap i % (len : Int) := Int.tmod_eq_emod_of_nonneg hu
  have b1 := Int.emod_nonneg (IntKind.u64.wrap i) (show (len : Int) ≠ 0 by omega)
  have b2 := Int.emod_lt_of_pos (IntKind.u64.wrap i) (show (0 : Int) < len by omega)
  exact ⟨_, (IntKind.u64.wrap i % (len : Int)).toNat, rfl, by rw [IntKind.wrap_u64]; omega, by rw [e]; omega, by omega⟩

set_option maxRecDepth 100000 in
set_option maxHeartbeats 2000000 in
theorem bracketEnds_walk (a : Option Addr) (len cap : Nat) (zs : List Int) (i : Int) (w : World) (hs : IntsAt .u32 w a len zs) (hl : len ≤ 1048576) (hi : I64 i) :
    Calls Try.prog 4 #[.slice a len cap, .int .i64 i] w fun e w' => e = .returned (.bool true) ∧ Below w.heap.size w w' := by
  have RS := rising_f a len cap zs w hs hl (ints_small hs)
  have sm := ints_small hs
  generalize (fun i => zs.getD i 0) = Z at *
  have hl1 : (len : Int) ≤ 1048576 := by omega
  have CH := Lib.hid (rise_chk sm hl)
  have UP := Lib.hid (fun (i j : Nat) (h : i < j) => riseT_up sm h)
  have BD := Lib.hid (fun i => riseN_bounds sm i)
  clear hs sm
  by_cases h0 : len = 0 ∨ 200 < len
  · go_enter Try.func4, Try.ntmps4
    go_wp2_with fail
    refine RS.mono ?_; rintro e w1 ⟨s, cp, rfl, _, hb1⟩
    have HB1 := Lib.hid hb1
    clear hb1 RS
    go_wp2_with fail
    refine (alive18_f _).mono ?_; rintro e w2 ⟨rfl, hb2⟩
    have HB2 : Hid (Below w.heap.size w w2) := Lib.hid (HB1.out.trans (hb2.mono HB1.out.size))
    clear hb2
    rcases h0 with h0 | h0
    · have g0 : ((len : Int) == 0) = true := by simp; omega
      go_wp2_with fail
      refine (alive18_f _).mono ?_; rintro e w3 ⟨rfl, hb3⟩
      have HB3 : Hid (Below w.heap.size w w3) := Lib.hid (HB2.out.trans (hb3.mono HB2.out.size))
      clear hb3
      go_wp2
      go_ret
      exact ⟨rfl, HB3.out⟩
    · have g0 : ((len : Int) == 0) = false := by simp; omega
      have g1 : decide ((200 : Int) < (len : Int)) = true := decide_eq_true (by omega)
      have g2 : decide (200 < len) = true := decide_eq_true h0
      go_wp2_with fail
      refine (alive18_f _).mono ?_; rintro e w3 ⟨rfl, hb3⟩
      have HB3 : Hid (Below w.heap.size w w3) := Lib.hid (HB2.out.trans (hb3.mono HB2.out.size))
      clear hb3
      go_wp2
      go_ret
      exact ⟨rfl, HB3.out⟩
  · have hp : 0 < len := by omega
    have h2 : len ≤ 200 := by omega
    clear h0
    have g0 : ((len : Int) == 0) = false := by simp; omega
    have g1 : decide ((200 : Int) < (len : Int)) = false := decide_eq_false (by omega)
    have g2 : decide (200 < len) = false := decide_eq_false (by omega)
    obtain ⟨u, k, hu, hul, hk, hkl⟩ := ends_idx i len hp h2
    have ge0 : (len == 0) = false := by simp; omega
    obtain ⟨x1, x2, x3⟩ := pick_at (T := riseT Z) (t := riseT Z k) (m := k + 1) CH.out (by omega) (by omega) (Int.le_refl _) (fun j h1 h2 => UP.out _ _ (by omega))
    obtain ⟨yb, hyb⟩ : ∃ y, pickB (riseT Z) (riseT Z k) len = y := ⟨_, rfl⟩
    have P1 := fun s cp w' h => pick_t (riseT Z k) s len cp (fun i => (i : Int)) (riseT Z) (fun _ => (none, 0, 0)) w' h (by omega) (x1.trans (show ((k + 1 : Nat) : Int) - 1 = (k : Int) by omega)) hyb x3
    have tb := BD.out (k + 1)
    have tb1 : -9223372036854775807 ≤ riseT Z k := by unfold riseT; omega
    have tb2 : riseT Z k ≤ 9223372036854775807 := by unfold riseT; omega
    have hkl' : (k : Int) < len := by omega
    have hk200 : (k : Int) < 200 := by omega
    by_cases k0 : k = 0
    · obtain ⟨y1, y2, y3⟩ := pick_none (T := riseT Z) (t := riseT Z k - 1) CH.out (fun j hj => by
        by_cases e : j = 0
        · rw [e, k0]; omega
        · have := UP.out _ _ (show k < j by omega); omega)
      have P2 := fun s cp w' h => pick_t (riseT Z k - 1) s len cp (fun i => (i : Int)) (riseT Z) (fun _ => (none, 0, 0)) w' h (by omega) y1 y2 y3
      have gk : ((k : Int) == 0) = true := by simp; omega
      have HC : Hid (∀ (b off : Nat) (w' : World), (∀ i, i < len → w'.cell? ⟨b, off + i * 3, none⟩ = some (.int .i64 (i : Int)) ∧ w'.cell? ⟨b, off + i * 3 + 1, none⟩ = some (.int .i64 (riseT Z i)) ∧ w'.cell? ⟨b, off + i * 3 + 2, none⟩ = some (.slice none 0 0)) → w'.cell? ⟨b, off + k * 3 + 1, none⟩ = some (.int .i64 (riseT Z k))) := Lib.hid (fun b off w' h => (h k hkl).2.1)
      generalize riseT Z k = tk at *
      clear x1 x2 x3 y1 y2 y3 tb hyb k0 UP BD CH hi
      go_enter Try.func4, Try.ntmps4
      go_wp2_with fail
      refine RS.mono ?_; rintro e w1 ⟨s, cp, rfl, hS, hb1⟩
      have HB1 := Lib.hid hb1
      have HS1 := Lib.hid hS
      clear hb1 RS hS
      go_wp2_with fail
      refine (alive18_f _).mono ?_; rintro e w2 ⟨rfl, hb2⟩
      have HB2 : Hid (Below w.heap.size w w2) := Lib.hid (HB1.out.trans (hb2.mono HB1.out.size))
      have HS2 := Lib.hid (HS1.out.below hb2)
      clear hb2 HS1 HB1
      rcases HS2.out with hz | ⟨b, off, rfl, hbw, hc⟩
      · exact absurd hz (by omega)
      have q := HC.out b off w2 hc
      clear hc
      have p1 := P1 _ cp _ HS2.out
      go_wp2_with fail
      refine p1.mono ?_; rintro e w3 ⟨rfl, hb3⟩
      have HB3 : Hid (Below w.heap.size w w3) := Lib.hid (HB2.out.trans (hb3.mono HB2.out.size))
      have q3 := (hb3.cell (p := ⟨b, off + k * 3 + 1, none⟩) hbw).trans q
      have p2 := P2 _ cp _ (HS2.out.below hb3)
      clear hb3 q p1 HB2
      go_wp2_with fail
      refine p2.mono ?_; rintro e w4 ⟨rfl, hb4⟩
      have HB4 : Hid (Below w.heap.size w w4) := Lib.hid (HB3.out.trans (hb4.mono HB3.out.size))
      clear hb4 q3 p2 HB3 HS2
      go_wp2
      go_ret
      exact ⟨rfl, HB4.out⟩
    · obtain ⟨y1, y2, y3⟩ := pick_at (T := riseT Z) (t := riseT Z k - 1) (m := k) CH.out (by omega) (by omega) (by have := UP.out _ _ (show k - 1 < k by omega); omega) (fun j h1 h2 => by
        by_cases e : j = k
        · rw [e]; omega
        · have := UP.out _ _ (show k < j by omega); omega)
      have P2 := fun s cp w' h => pick_t (riseT Z k - 1) s len cp (fun i => (i : Int)) (riseT Z) (fun _ => (none, 0, 0)) w' h (by omega) y1 (y2.trans (if_neg (by omega))) y3
      have gk : ((k : Int) == 0) = false := by simp; omega
      have hk1 : 1 ≤ (k : Int) := by omega
      have HC : Hid (∀ (b off : Nat) (w' : World), (∀ i, i < len → w'.cell? ⟨b, off + i * 3, none⟩ = some (.int .i64 (i : Int)) ∧ w'.cell? ⟨b, off + i * 3 + 1, none⟩ = some (.int .i64 (riseT Z i)) ∧ w'.cell? ⟨b, off + i * 3 + 2, none⟩ = some (.slice none 0 0)) → w'.cell? ⟨b, off + k * 3 + 1, none⟩ = some (.int .i64 (riseT Z k))) := Lib.hid (fun b off w' h => (h k hkl).2.1)
      generalize riseT Z k = tk at *
      clear x1 x2 x3 y1 y2 y3 tb hyb k0 UP BD CH hi
      go_enter Try.func4, Try.ntmps4
      go_wp2_with fail
      refine RS.mono ?_; rintro e w1 ⟨s, cp, rfl, hS, hb1⟩
      have HB1 := Lib.hid hb1
      have HS1 := Lib.hid hS
      clear hb1 RS hS
      go_wp2_with fail
      refine (alive18_f _).mono ?_; rintro e w2 ⟨rfl, hb2⟩
      have HB2 : Hid (Below w.heap.size w w2) := Lib.hid (HB1.out.trans (hb2.mono HB1.out.size))
      have HS2 := Lib.hid (HS1.out.below hb2)
      clear hb2 HS1 HB1
      rcases HS2.out with hz | ⟨b, off, rfl, hbw, hc⟩
      · exact absurd hz (by omega)
      have q := HC.out b off w2 hc
      clear hc
      have p1 := P1 _ cp _ HS2.out
      go_wp2_with fail
      refine p1.mono ?_; rintro e w3 ⟨rfl, hb3⟩
      have HB3 : Hid (Below w.heap.size w w3) := Lib.hid (HB2.out.trans (hb3.mono HB2.out.size))
      have q3 := (hb3.cell (p := ⟨b, off + k * 3 + 1, none⟩) hbw).trans q
      have p2 := P2 _ cp _ (HS2.out.below hb3)
      clear hb3 q p1 HB2
      go_wp2_with fail
      refine p2.mono ?_; rintro e w4 ⟨rfl, hb4⟩
      have HB4 : Hid (Below w.heap.size w w4) := Lib.hid (HB3.out.trans (hb4.mono HB3.out.size))
      clear hb4 q3 p2 HB3 HS2
      go_wp2
      go_ret
      exact ⟨rfl, HB4.out⟩
end Go.Proofs.Ytkfebgdflbplbaa
