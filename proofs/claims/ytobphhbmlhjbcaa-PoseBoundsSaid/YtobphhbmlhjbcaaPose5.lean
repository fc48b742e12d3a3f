/- The document's check; a config's way; poses in a row. -/
import Derived.Test.YtobphhbmlhjbcaaPose4
namespace Go.Proofs.Ytobphhbmlhjbcaa
set_option linter.unusedVariables false
set_option linter.unusedSimpArgs false
open Go.RowKit
set_option maxRecDepth 8000

set_option maxHeartbeats 1000000 in
theorem rpcheck_f (c : Cfg) (s : Option Addr) (len cap : Nat) (K T : Nat → Int) (E : Nat → Option Addr × Nat × Nat) (EE : Nat → Nat → Ent) (w : World) (h : SnsAt w s len K T E EE) (hlen : (len : Int) ≤ 4611686018427387904) :
    Calls Try.prog 34 #[cfgV c, .slice s len cap] w fun e w' => e = .returned (.int .i64 (pchk c K T E EE len)) ∧ Below w.heap.size w w' := by
  have CC := rcheck_f c
  obtain ⟨hs, he⟩ := h
  have HE := Lib.hid he
  have HP0 : Hid (cchk c = 0 → pchk c K T E EE len = chkS K T E EE len 0) := Lib.hid (fun hc => by unfold pchk; rw [if_pos hc])
  have HP1 : Hid (cchk c ≠ 0 → pchk c K T E EE len = cchk c) := Lib.hid (fun hc => by unfold pchk; rw [if_neg hc])
  unfold cfgV at CC ⊢
  clear he
  generalize pchk c K T E EE len = r at *
  generalize cchk c = cc at *
  rcases hs with hz | ⟨b, off, rfl, hb, hcs⟩
  all_goals
    go_enter Try.func34, Try.ntmps34
    go_wp2_with fail
    refine (CC _).mono ?_; rintro e w1 ⟨rfl, hb1⟩
    have HB1 : Hid (Below w.heap.size w w1) := Lib.hid (((Below.refl _ _).alloc (Nat.le_refl _) _).trans (hb1.mono (by simp)))
    clear hb1 CC
    go_wp2_with fail
    go_loopw [5, 6] (fun ev i wr => ∃ (k : Nat) (x : Int), k ≤ len ∧ i = .int .i64 k ∧ ev = .int .i64 x ∧ Hid (x = 0 → r = chkS K T E EE (len - k) k) ∧ Hid (x ≠ 0 → r = x) ∧ Below w.heap.size w wr) (fun _ i _ => len - (intOf i).toNat)
    case atStart => exact ⟨0, cc, Nat.zero_le _, rfl, rfl, Lib.hid HP0.out, Lib.hid HP1.out, HB1.out⟩
    case round =>
      rename_i wr
      obtain ⟨k, x, hk, rfl, rfl, hx0, hx1, hB⟩ := hrel
      have hsz := hB.size
      by_cases hlt : k < len
      · by_cases hx : x = 0
        · first
          | (exfalso; omega)
          | (obtain ⟨n, hn⟩ : ∃ n, len - k = n + 1 := ⟨len - k - 1, by omega⟩
             have hn2 : len - (k + 1) = n := by omega
             have hch := hx0.out hx
             rw [hn] at hch
             subst hx
             obtain ⟨d0, d1, d2⟩ := hcs k hlt
             have c0 := (hB.cell (p := ⟨b, off + k * 3, none⟩) hb).trans d0
             have c1 := (hB.cell (p := ⟨b, off + k * 3 + 1, none⟩) hb).trans d1
             have c2 := (hB.cell (p := ⟨b, off + k * 3 + 2, none⟩) hb).trans d2
             obtain ⟨he1, he2⟩ := HE.out k hlt
             have DC := Lib.hid (fun w' (hw : Below w.heap.size w w') => rdelchk_f (K k) (T k) (E k).1 (E k).2.1 (E k).2.2 (EE k) w' (he1.below hw) he2)
             unfold snapV at DC
             have HCH : Hid (r = if snapChk (K k) (T k) (E k).2.1 (EE k) = 0 then chkS K T E EE n (k + 1) else snapChk (K k) (T k) (E k).2.1 (EE k)) := Lib.hid hch
             have HC := Lib.hid hcs
             have HB := Lib.hid hB
             have hlt' : (k : Int) < len := by omega
             clear hch hcs hn d0 d1 d2 he1 he2 hB hx0 hx1
             generalize snapChk (K k) (T k) (E k).2.1 (EE k) = sc at *
             generalize K k = kk at *
             generalize T k = tt at *
             generalize (E k).1 = ea at *
             generalize (E k).2.1 = el at *
             generalize (E k).2.2 = ec at *
             have dc := DC.out _ HB.out
             have HF0 : Hid (sc = 0 → r = chkS K T E EE n (k + 1)) := Lib.hid (fun h => by rw [HCH.out, if_pos h])
             have HF1 : Hid (sc ≠ 0 → r = sc) := Lib.hid (fun h => by rw [HCH.out, if_neg h])
             clear HCH
             go_wp2_with fail
             refine dc.mono ?_; rintro e w2 ⟨rfl, hb2⟩
             have HB2 := Lib.hid (HB.out.trans (hb2.mono hsz))
             clear hb2 dc c0 c1 c2
             go_wp2
             go_roundw
             case rel => exact ⟨k + 1, sc, by omega, by go_num, rfl, by rw [hn2]; exact HF0, HF1, HB2.out⟩
             case measure => simp [intOf]; omega)
        · first
          | (exfalso; omega)
          | (have HR : Hid (r = x) := Lib.hid (hx1.out hx)
             have hx2 : (x == 0) = false := by simpa using hx
             have hlt' : (k : Int) < len := by omega
             clear hx0 hx1 hx
             go_wp2
             go_ret
             exact ⟨ret_int HR.out.symm, hB⟩)
      · obtain rfl : k = len := by omega
        have HR : Hid (r = x) := Lib.hid (by
          by_cases hx : x = 0
          · rw [hx0.out hx, Nat.sub_self, hx]; rfl
          · exact hx1.out hx)
        clear hx0 hx1
        go_wp2
        go_ret
        exact ⟨ret_int HR.out.symm, hB⟩

theorem of_line (c : Cfg) (h : c.curved = false) (w : World) :
    Calls Try.prog 30 #[cfgV c] w fun e w' => e = .returned (.iface 100 (.agg #[])) ∧ Below w.heap.size w w' := by
  unfold cfgV
  go_enter Try.func30, Try.ntmps30
  go_wp2
  go_ret
  exact ⟨rfl, by (repeat (first | exact Below.refl _ _ | assumption | (refine Below.drew ?_) | (refine below_drewN ?_ _) | (refine Below.alloc ?_ (by simp <;> omega) _) | (refine Below.setCell ?_ (by simp <;> omega) _)))⟩

theorem of_curved (c : Cfg) (h : c.curved = true) (w : World) :
    Calls Try.prog 30 #[cfgV c] w fun e w' => e = .returned (.iface 99 (.agg #[])) ∧ Below w.heap.size w w' := by
  unfold cfgV
  go_enter Try.func30, Try.ntmps30
  go_wp2
  go_ret
  exact ⟨rfl, by (repeat (first | exact Below.refl _ _ | assumption | (refine Below.drew ?_) | (refine below_drewN ?_ _) | (refine Below.alloc ?_ (by simp <;> omega) _) | (refine Below.setCell ?_ (by simp <;> omega) _)))⟩

/-- the cells of a pose -/
def PoCells (w : World) (b o : Nat) (p : Po) : Prop := w.cell? ⟨b, o, none⟩ = some (.int .i64 (p).id) ∧ w.cell? ⟨b, o + 1, none⟩ = some (.int .i64 (p).px) ∧ w.cell? ⟨b, o + 2, none⟩ = some (.int .i64 (p).py) ∧ w.cell? ⟨b, o + 3, none⟩ = some (.int .i64 (p).pz) ∧ w.cell? ⟨b, o + 4, none⟩ = some (.int .u16 (p).ang) ∧ w.cell? ⟨b, o + 5, none⟩ = some (.int .i64 (p).mode)
/-- a slice that reads as so many poses -/
def PosesAt (w : World) (s : Option Addr) (n : Nat) (P : Nat → Po) : Prop :=
  n = 0 ∨ ∃ b off, s = some ⟨b, off, none⟩ ∧ b < w.heap.size ∧ ∀ i, i < n → PoCells w b (off + i * 6) (P i)
theorem PoCells.below {w w' : World} {b o : Nat} {p : Po} (h : PoCells w b o p) (hb : Below w.heap.size w w') (hl : b < w.heap.size) : PoCells w' b o p := by
  unfold PoCells at *
  refine ⟨?_, ?_, ?_, ?_, ?_, ?_⟩ <;> (rw [hb.cell (by simpa using hl)]; first | exact h.1 | exact h.2.1 | exact h.2.2.1 | exact h.2.2.2.1 | exact h.2.2.2.2.1 | exact h.2.2.2.2.2)
theorem PosesAt.below {w w' : World} {s : Option Addr} {n : Nat} {P : Nat → Po} (h : PosesAt w s n P) (hb : Below w.heap.size w w') : PosesAt w' s n P := by
  rcases h with h | ⟨b, off, e, hl, hc⟩
  · exact .inl h
  · exact .inr ⟨b, off, e, Nat.lt_of_lt_of_le hl hb.size, fun i hi => (hc i hi).below hb hl⟩
theorem PosesAt.none (w : World) (P : Nat → Po) : PosesAt w none 0 P := .inl rfl
/-- the cells of k poses -/
def poL (P : Nat → Po) : Nat → List Value
  | 0 => []
  | k + 1 => poL P k ++ [.int .i64 (P k).id, .int .i64 (P k).px, .int .i64 (P k).py, .int .i64 (P k).pz, .int .u16 (P k).ang, .int .i64 (P k).mode]
theorem poL_length (P : Nat → Po) : ∀ k, (poL P k).length = k * 6
  | 0 => rfl
  | k + 1 => by rw [poL, List.length_append, poL_length P k]; simp; omega
theorem poL_at (P : Nat → Po) : ∀ k i, i < k → (poL P k)[i * 6]? = some (.int .i64 (P i).id) ∧ (poL P k)[i * 6 + 1]? = some (.int .i64 (P i).px) ∧ (poL P k)[i * 6 + 2]? = some (.int .i64 (P i).py) ∧ (poL P k)[i * 6 + 3]? = some (.int .i64 (P i).pz) ∧ (poL P k)[i * 6 + 4]? = some (.int .u16 (P i).ang) ∧ (poL P k)[i * 6 + 5]? = some (.int .i64 (P i).mode)
  | 0, i, h => by omega
  | k + 1, i, h => by
    have hl := poL_length P k
    rw [poL]
    by_cases e : i = k
    · subst e
      rw [List.getElem?_append_right (by omega), List.getElem?_append_right (by omega), List.getElem?_append_right (by omega), List.getElem?_append_right (by omega), List.getElem?_append_right (by omega), List.getElem?_append_right (by omega), hl, show i * 6 - i * 6 = 0 by omega, show i * 6 + 1 - i * 6 = 1 by omega, show i * 6 + 2 - i * 6 = 2 by omega, show i * 6 + 3 - i * 6 = 3 by omega, show i * 6 + 4 - i * 6 = 4 by omega, show i * 6 + 5 - i * 6 = 5 by omega]
      exact ⟨rfl, rfl, rfl, rfl, rfl, rfl⟩
    · rw [List.getElem?_append_left (by omega), List.getElem?_append_left (by omega), List.getElem?_append_left (by omega), List.getElem?_append_left (by omega), List.getElem?_append_left (by omega), List.getElem?_append_left (by omega)]
      exact poL_at P k i (by omega)
theorem poses_of_row {w : World} {base : Nat} {v : Value} {k : Nat} {P : Nat → Po} (h : w.ownsRow base 45 6 v k (poL P k)) :
    ∃ s cp, v = .slice s k cp ∧ PosesAt w s k P := by
  have h' := h
  obtain ⟨_, ⟨rfl, rfl⟩ | ⟨g, cap, cur, rfl, hb, hg, hk, hm, hs, ht⟩⟩ := h'
  · exact ⟨none, 0, rfl, .inl rfl⟩
  · refine ⟨_, _, rfl, .inr ⟨g, 0, rfl, ?_, fun i hi => ?_⟩⟩
    · exact (Array.getElem?_eq_some_iff.1 hg).1
    · obtain ⟨a0, a1, a2, a3, a4, a5⟩ := poL_at P k i hi
      have c := h.cells (g := g) rfl
      have e : ∀ j, (⟨g, 0, none⟩ : Addr).add j = ⟨g, 0 + j, none⟩ := fun j => by unfold Addr.add; split <;> simp_all
      exact ⟨by rw [← e]; exact c _ _ a0, by rw [Nat.add_assoc, ← e]; exact c _ _ a1, by rw [Nat.add_assoc, ← e]; exact c _ _ a2, by rw [Nat.add_assoc, ← e]; exact c _ _ a3, by rw [Nat.add_assoc, ← e]; exact c _ _ a4, by rw [Nat.add_assoc, ← e]; exact c _ _ a5⟩
theorem own_below {w w' : World} {base : Nat} {e : TypeId} {size : Nat} {v : Value} {n : Nat} {xs : List Value} (h : w.ownsRow base e size v n xs) (hb : Below w.heap.size w w') : w'.ownsRow base e size v n xs := by
  obtain ⟨h1, h2⟩ := h
  refine ⟨h1, ?_⟩
  rcases h2 with h2 | ⟨g, cap, cur, hv, hg, hh, r⟩
  · exact Or.inl h2
  · exact Or.inr ⟨g, cap, cur, hv, hg, by rw [hb.block g (Array.getElem?_eq_some_iff.1 hh).1]; exact hh, r⟩
theorem own_base {w : World} {base base' : Nat} {e : TypeId} {size : Nat} {v : Value} {n : Nat} {xs : List Value} (h : w.ownsRow base e size v n xs) (hb : base' ≤ base) : w.ownsRow base' e size v n xs := by
  obtain ⟨h1, h2⟩ := h
  refine ⟨h1, ?_⟩
  rcases h2 with h2 | ⟨g, cap, cur, hv, hg, hh, r⟩
  · exact Or.inl h2
  · exact Or.inr ⟨g, cap, cur, hv, by omega, hh, r⟩

theorem ent_cells {w : World} {b : Nat} {t : TypeId} {x0 x1 x2 x3 x4 x5 x6 x7 x8 : Value} (h : Blk w b #[x0, x1, x2, x3, x4, x5, x6, x7, x8] t) :
    w.cell? ⟨b, 0, none⟩ = some x0 ∧ w.cell? ⟨b, 1, none⟩ = some x1 ∧ w.cell? ⟨b, 2, none⟩ = some x2 ∧ w.cell? ⟨b, 3, none⟩ = some x3 ∧ w.cell? ⟨b, 4, none⟩ = some x4 ∧ w.cell? ⟨b, 5, none⟩ = some x5 ∧ w.cell? ⟨b, 6, none⟩ = some x6 ∧ w.cell? ⟨b, 7, none⟩ = some x7 ∧ w.cell? ⟨b, 8, none⟩ = some x8 :=
  ⟨by simpa using h.cell 0, by simpa using h.cell 1, by simpa using h.cell 2, by simpa using h.cell 3, by simpa using h.cell 4, by simpa using h.cell 5, by simpa using h.cell 6, by simpa using h.cell 7, by simpa using h.cell 8⟩
theorem po_cells {w : World} {b : Nat} {t : TypeId} {x0 x1 x2 x3 x4 x5 : Value} (h : Blk w b #[x0, x1, x2, x3, x4, x5] t) :
    w.cell? ⟨b, 0, none⟩ = some x0 ∧ w.cell? ⟨b, 1, none⟩ = some x1 ∧ w.cell? ⟨b, 2, none⟩ = some x2 ∧ w.cell? ⟨b, 3, none⟩ = some x3 ∧ w.cell? ⟨b, 4, none⟩ = some x4 ∧ w.cell? ⟨b, 5, none⟩ = some x5 :=
  ⟨by simpa using h.cell 0, by simpa using h.cell 1, by simpa using h.cell 2, by simpa using h.cell 3, by simpa using h.cell 4, by simpa using h.cell 5⟩
theorem po_free {w : World} {b : Nat} {t : TypeId} {cs : Array Value} (h : Blk w b cs t) :
    w.frozen? ⟨b, 0, none⟩ = false ∧ w.frozen? ⟨b, 1, none⟩ = false ∧ w.frozen? ⟨b, 2, none⟩ = false ∧ w.frozen? ⟨b, 3, none⟩ = false ∧ w.frozen? ⟨b, 4, none⟩ = false ∧ w.frozen? ⟨b, 5, none⟩ = false :=
  ⟨h.free 0, h.free 1, h.free 2, h.free 3, h.free 4, h.free 5⟩
theorem sn_cells {w : World} {b : Nat} {t : TypeId} {x0 x1 x2 : Value} (h : Blk w b #[x0, x1, x2] t) :
    w.cell? ⟨b, 0, none⟩ = some x0 ∧ w.cell? ⟨b, 1, none⟩ = some x1 ∧ w.cell? ⟨b, 2, none⟩ = some x2 :=
  ⟨by simpa using h.cell 0, by simpa using h.cell 1, by simpa using h.cell 2⟩
theorem infoPose : (Try.prog.info? 45).map (fun i => (i.zero, i.size, i.bytes)) = some (some (.agg #[.int .i64 0, .int .i64 0, .int .i64 0, .int .i64 0, .int .u16 0, .int .i64 0]), 6, 48) := by kernel_rfl

theorem ent0_ok : ent0.Ok := by
  constructor <;> (simp only [ent0]; first | exact ⟨by omega, by omega⟩ | (unfold I64; omega))
theorem fdE_ok {w : World} {a : Option Addr} {len : Nat} {E : Nat → Ent} (h : EntsAt w a len E) (id : Int) : (fdE E id len).Ok := by
  unfold fdE
  split
  · rename_i hj; exact h.1 _ hj
  · exact ent0_ok
/-- two snapshots that were handed on, in a row -/
theorem sns2 (w : World) (k0 t0 k1 t1 : Int) (a b : Option Addr) (la ca lb cb : Nat) (A B : Nat → Ent) (ha : EntsAt w a la A) (hb : EntsAt w b lb B) (hla : (la : Int) ≤ 4611686018427387904) (hlb : (lb : Int) ≤ 4611686018427387904) :
    SnsAt (w.alloc (.cells #[.int .i64 k0, .int .i64 t0, .slice a la ca, .int .i64 k1, .int .i64 t1, .slice b lb cb] 26)) (some ⟨w.heap.size, 0, none⟩) 2 (two k0 k1) (two t0 t1) (two (a, la, ca) (b, lb, cb)) (two A B) := by
  refine ⟨snaps2 w k0 t0 k1 t1 a b la ca lb cb, fun i hi => ?_⟩
  have hB : Below w.heap.size w (w.alloc (.cells #[.int .i64 k0, .int .i64 t0, .slice a la ca, .int .i64 k1, .int .i64 t1, .slice b lb cb] 26)) := (Below.refl _ _).alloc (Nat.le_refl _) _
  match i, hi with
  | 0, _ => exact ⟨ha.below hB, hla⟩
  | 1, _ => exact ⟨hb.below hB, hlb⟩
theorem sns1 (w : World) (k0 t0 : Int) (a : Option Addr) (la ca : Nat) (A : Nat → Ent) (ha : EntsAt w a la A) (hla : (la : Int) ≤ 4611686018427387904) :
    SnsAt (w.alloc (.cells #[.int .i64 k0, .int .i64 t0, .slice a la ca] 26)) (some ⟨w.heap.size, 0, none⟩) 1 (fun _ => k0) (fun _ => t0) (fun _ => (a, la, ca)) (fun _ => A) :=
  ⟨snaps1 w k0 t0 a la ca, fun i hi => ⟨ha.below ((Below.refl _ _).alloc (Nat.le_refl _) _), hla⟩⟩
end Go.Proofs.Ytobphhbmlhjbcaa
