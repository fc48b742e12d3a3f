/- Parts of the walk of TopJumps: Pose1, Pose2. -/
import Derived.BigQuiet
import Derived.Deep.QuietTactic
import Derived.Lib.Hide
import Derived.LoopTactic
import Derived.Test.YtklkooeimkedgaaGreatJ2
import Derived.Test.YtklkooeimkedgaaGreatJ5
import Derived.Test.YtklkooeimkedgaaGreatJ7
set_option linter.unusedVariables false
set_option linter.unusedSimpArgs false
namespace Go.Proofs.YtklkooeimkedgaaGreat
open Go.RowKit
structure Ent where
  id : Int
  px : Int
  py : Int
  pz : Int
  vx : Int
  vy : Int
  vz : Int
  ang : Int
  gen : Int
structure Ent.Ok (e : Ent) : Prop where
  id : I64 e.id
  px : I64 e.px
  py : I64 e.py
  pz : I64 e.pz
  vx : I64 e.vx
  vy : I64 e.vy
  vz : I64 e.vz
  ang : 0 ≤ e.ang ∧ e.ang ≤ 65535
  gen : 0 ≤ e.gen ∧ e.gen ≤ 255
def entV (e : Ent) : Value := .agg #[.int .i64 (e).id, .int .i64 (e).px, .int .i64 (e).py, .int .i64 (e).pz, .int .i64 (e).vx, .int .i64 (e).vy, .int .i64 (e).vz, .int .u16 (e).ang, .int .u8 (e).gen]
def ent0 : Ent := ⟨0, 0, 0, 0, 0, 0, 0, 0, 0⟩
def snapV (tick time : Int) (a : Option Addr) (len cap : Nat) : Value := .agg #[.int .i64 tick, .int .i64 time, .slice a len cap]
def EntCells (w : World) (b o : Nat) (e : Ent) : Prop := w.cell? ⟨b, o, none⟩ = some (.int .i64 (e).id) ∧ w.cell? ⟨b, o + 1, none⟩ = some (.int .i64 (e).px) ∧ w.cell? ⟨b, o + 2, none⟩ = some (.int .i64 (e).py) ∧ w.cell? ⟨b, o + 3, none⟩ = some (.int .i64 (e).pz) ∧ w.cell? ⟨b, o + 4, none⟩ = some (.int .i64 (e).vx) ∧ w.cell? ⟨b, o + 5, none⟩ = some (.int .i64 (e).vy) ∧ w.cell? ⟨b, o + 6, none⟩ = some (.int .i64 (e).vz) ∧ w.cell? ⟨b, o + 7, none⟩ = some (.int .u16 (e).ang) ∧ w.cell? ⟨b, o + 8, none⟩ = some (.int .u8 (e).gen)
def EntsAt (w : World) (a : Option Addr) (len : Nat) (E : Nat → Ent) : Prop :=
  (∀ i, i < len → (E i).Ok) ∧ (len = 0 ∨ ∃ b off, a = some ⟨b, off, none⟩ ∧ b < w.heap.size ∧ ∀ i, i < len → EntCells w b (off + i * 9) (E i))
theorem EntCells.below {w w' : World} {b o : Nat} {e : Ent} (h : EntCells w b o e) (hb : Below w.heap.size w w') (hl : b < w.heap.size) : EntCells w' b o e := by
  unfold EntCells at *
  refine ⟨?_, ?_, ?_, ?_, ?_, ?_, ?_, ?_, ?_⟩ <;> (rw [hb.cell (by simpa using hl)]; first | exact h.1 | exact h.2.1 | exact h.2.2.1 | exact h.2.2.2.1 | exact h.2.2.2.2.1 | exact h.2.2.2.2.2.1 | exact h.2.2.2.2.2.2.1 | exact h.2.2.2.2.2.2.2.1 | exact h.2.2.2.2.2.2.2.2)
theorem EntsAt.below {w w' : World} {a : Option Addr} {len : Nat} {E : Nat → Ent} (h : EntsAt w a len E) (hb : Below w.heap.size w w') : EntsAt w' a len E := by
  obtain ⟨h1, h2⟩ := h
  refine ⟨h1, ?_⟩
  rcases h2 with h2 | ⟨b, off, e, hl, hc⟩
  · exact .inl h2
  · exact .inr ⟨b, off, e, Nat.lt_of_lt_of_le hl hb.size, fun i hi => (hc i hi).below hb hl⟩
def entChk (E : Nat → Ent) : Nat → Nat → Int
  | 0, _ => 0
  | n + 1, i => if (E i).id < 0 ∨ 65535 < (E i).id then 3 else if 0 < i ∧ (E i).id ≤ (E (i - 1)).id then 10 else entChk E n (i + 1)
def snapChk (tick time : Int) (len : Nat) (E : Nat → Ent) : Int :=
  if (tick < 0 ∨ 4294967295 < tick ∨ time < -2305843009213693952 ∨ 2305843009213693952 < time) then 3 else if 64 < len then 4 else entChk E len 0
set_option maxHeartbeats 1000000 in
theorem delchk_loop (tick time : Int) (a : Option Addr) (len cap : Nat) (E : Nat → Ent) (w : World) (h : EntsAt w a len E) (h1 : 0 ≤ tick) (h2 : tick ≤ 4294967295) (h3 : -2305843009213693952 ≤ time) (h4 : time ≤ 2305843009213693952) (h5 : (len : Int) ≤ 64) :
    Calls Tryz.prog 34 #[snapV tick time a len cap] w fun e w' => e = .returned (.int .i64 (entChk E len 0)) ∧ Below w.heap.size w w' := by
  unfold snapV
  obtain ⟨hok, hz | ⟨b, off, rfl, hb, hc⟩⟩ := h
  all_goals
    go_enter Tryz.func34, Tryz.ntmps34
    go_wp2_with fail
    go_loopw [3, 33] (fun l i wr => ∃ (k : Nat) (lv : Int), k ≤ len ∧ i = .int .i64 k ∧ l = .int .i64 lv ∧ (k = 0 → lv = -1) ∧ (0 < k → lv = (E (k - 1)).id) ∧ entChk E len 0 = entChk E (len - k) k ∧ Below w.heap.size w wr) (fun _ i _ => len - (intOf i).toNat)
    case atStart => exact ⟨0, -1, Nat.zero_le _, rfl, rfl, fun _ => rfl, fun h => by omega, rfl, (Below.refl _ _).alloc (Nat.le_refl _) _⟩
    case round =>
      rename_i wr
      obtain ⟨k, lv, hk, rfl, rfl, hl0, hl1, hch, hB⟩ := hrel
      by_cases hlt : k < len
      · first
        | (exfalso; omega)
        | (obtain ⟨n, hn⟩ : ∃ n, len - k = n + 1 := ⟨len - k - 1, by omega⟩
           have hn2 : len - (k + 1) = n := by omega
           rw [hn] at hch
           have HB := Lib.hid hB
           have hcw : EntCells wr b (off + k * 9) (E k) := by
             have := hc k hlt
             unfold EntCells at *
             refine ⟨?_, ?_, ?_, ?_, ?_, ?_, ?_, ?_, ?_⟩ <;> (rw [HB.out.cell (by simpa using hb)]; first | exact this.1 | exact this.2.1 | exact this.2.2.1 | exact this.2.2.2.1 | exact this.2.2.2.2.1 | exact this.2.2.2.2.2.1 | exact this.2.2.2.2.2.2.1 | exact this.2.2.2.2.2.2.2.1 | exact this.2.2.2.2.2.2.2.2)
           obtain ⟨c0, c1, c2, c3, c4, c5, c6, c7, c8⟩ := hcw
           have HCH := Lib.hid (show entChk E len 0 = if (E k).id < 0 ∨ 65535 < (E k).id then 3 else if 0 < k ∧ (E k).id ≤ (E (k - 1)).id then 10 else entChk E n (k + 1) from hch)
           have HC := Lib.hid hc
           have hlt' : (k : Int) < len := by omega
           have hKK : Hid (∀ v, v = (E k).id → ((k + 1 = 0 → v = -1) ∧ (0 < k + 1 → v = (E (k + 1 - 1)).id))) := Lib.hid (fun v hv => ⟨fun h => by omega, fun _ => by simpa using hv⟩)
           have hcond : (0 < k ∧ (E k).id ≤ (E (k - 1)).id) ∨ (E k).id ≤ lv ↔ (E k).id ≤ lv ∨ (0 < k ∧ (E k).id ≤ (E (k - 1)).id) := Or.comm
           have hlast : (E k).id ≤ lv → ¬ ((E k).id < 0) → (0 < k ∧ (E k).id ≤ (E (k - 1)).id) := fun h g => by
             rcases Nat.eq_zero_or_pos k with h0 | h0
             · have := hl0 h0; omega
             · have := hl1 h0; exact ⟨h0, by omega⟩
           have hlast2 : ¬ (E k).id ≤ lv → ¬ (0 < k ∧ (E k).id ≤ (E (k - 1)).id) := fun h ⟨g1, g2⟩ => by have := hl1 g1; omega
           have HL1 := Lib.hid hlast
           have HL2 := Lib.hid hlast2
           clear hch hc hn hl0 hl1 hlast hlast2 hcond
           have HID : Hid (∀ v, v = (E k).id → v = (E k).id) := Lib.hid (fun _ h => h)
           obtain ⟨e, he⟩ : ∃ e, E k = e := ⟨_, rfl⟩
           rw [he] at c0 c1 c2 c3 c4 c5 c6 c7 c8 HCH HL1 HL2 hKK
           obtain ⟨xid, px, py, pz, vx, vy, vz, ang, gen⟩ := e
           dsimp only at c0 c1 c2 c3 c4 c5 c6 c7 c8 HCH HL1 HL2 hKK
           clear he HID
           by_cases r1 : xid < 0
           · have HE : Hid (entChk E len 0 = 3) := Lib.hid (by rw [HCH.out, if_pos (.inl r1)])
             clear HCH
             go_wp2
             go_ret
             exact ⟨ret_int HE.out.symm, hB.alloc hB.size _⟩
           by_cases r2 : 65535 < xid
           · have HE : Hid (entChk E len 0 = 3) := Lib.hid (by rw [HCH.out, if_pos (.inr r2)])
             clear HCH
             go_wp2
             go_ret
             exact ⟨ret_int HE.out.symm, hB.alloc hB.size _⟩
           by_cases r3 : xid ≤ lv
           · have HE : Hid (entChk E len 0 = 10) := Lib.hid (by rw [HCH.out, if_neg (by omega), if_pos (HL1.out r3 r1)])
             clear HCH
             go_wp2
             go_ret
             exact ⟨ret_int HE.out.symm, hB.alloc hB.size _⟩
           · have HE : Hid (entChk E len 0 = entChk E n (k + 1)) := Lib.hid (by rw [HCH.out, if_neg (by omega), if_neg (HL2.out r3)])
             clear HCH
             go_wp2
             go_roundw
             case rel => exact ⟨k + 1, xid, by omega, by go_num, rfl, (hKK.out _ rfl).1, (hKK.out _ rfl).2, by rw [hn2]; exact HE.out, hB.alloc hB.size _⟩
             case measure => simp [intOf]; omega)
      · obtain rfl : k = len := by omega
        have HE : Hid (entChk E k 0 = 0) := Lib.hid (by rw [hch, Nat.sub_self]; rfl)
        clear hch
        go_wp2
        go_ret
        exact ⟨ret_int HE.out.symm, hB⟩
theorem delchk_bad0 (tick time : Int) (a : Option Addr) (len cap : Nat) (hr : tick < 0) (w : World) :
    Calls Tryz.prog 34 #[snapV tick time a len cap] w fun e w' => e = .returned (.int .i64 3) ∧ Below w.heap.size w w' := by
  unfold snapV
  go_enter Tryz.func34, Tryz.ntmps34
  go_wp2
  go_ret
  exact ⟨rfl, (Below.refl _ _).alloc (Nat.le_refl _) _⟩
theorem delchk_bad1 (tick time : Int) (a : Option Addr) (len cap : Nat) (hr : 0 ≤ tick ∧ 4294967295 < tick) (w : World) :
    Calls Tryz.prog 34 #[snapV tick time a len cap] w fun e w' => e = .returned (.int .i64 3) ∧ Below w.heap.size w w' := by
  obtain ⟨r1, r2⟩ := hr
  unfold snapV
  go_enter Tryz.func34, Tryz.ntmps34
  go_wp2
  go_ret
  exact ⟨rfl, (Below.refl _ _).alloc (Nat.le_refl _) _⟩
theorem delchk_bad2 (tick time : Int) (a : Option Addr) (len cap : Nat) (hr : (0 ≤ tick ∧ tick ≤ 4294967295) ∧ time < -2305843009213693952) (w : World) :
    Calls Tryz.prog 34 #[snapV tick time a len cap] w fun e w' => e = .returned (.int .i64 3) ∧ Below w.heap.size w w' := by
  obtain ⟨⟨r1, r2⟩, r3⟩ := hr
  unfold snapV
  go_enter Tryz.func34, Tryz.ntmps34
  go_wp2
  go_ret
  exact ⟨rfl, (Below.refl _ _).alloc (Nat.le_refl _) _⟩
theorem delchk_bad3 (tick time : Int) (a : Option Addr) (len cap : Nat) (hr : (0 ≤ tick ∧ tick ≤ 4294967295) ∧ -2305843009213693952 ≤ time ∧ 2305843009213693952 < time) (w : World) :
    Calls Tryz.prog 34 #[snapV tick time a len cap] w fun e w' => e = .returned (.int .i64 3) ∧ Below w.heap.size w w' := by
  obtain ⟨⟨r1, r2⟩, r3, r4⟩ := hr
  unfold snapV
  go_enter Tryz.func34, Tryz.ntmps34
  go_wp2
  go_ret
  exact ⟨rfl, (Below.refl _ _).alloc (Nat.le_refl _) _⟩
theorem delchk_full (tick time : Int) (a : Option Addr) (len cap : Nat) (h1 : 0 ≤ tick) (h2 : tick ≤ 4294967295) (h3 : -2305843009213693952 ≤ time) (h4 : time ≤ 2305843009213693952) (h5 : (64 : Int) < len) (w : World) :
    Calls Tryz.prog 34 #[snapV tick time a len cap] w fun e w' => e = .returned (.int .i64 4) ∧ Below w.heap.size w w' := by
  unfold snapV
  go_enter Tryz.func34, Tryz.ntmps34
  go_wp2
  go_ret
  exact ⟨rfl, (Below.refl _ _).alloc (Nat.le_refl _) _⟩
theorem delchk_f (tick time : Int) (a : Option Addr) (len cap : Nat) (E : Nat → Ent) (w : World) (h : EntsAt w a len E) (hl : (len : Int) ≤ 4611686018427387904) :
    Calls Tryz.prog 34 #[snapV tick time a len cap] w fun e w' => e = .returned (.int .i64 (snapChk tick time len E)) ∧ Below w.heap.size w w' := by
  unfold snapChk
  by_cases h1 : tick < 0
  · rw [if_pos (by omega)]; exact delchk_bad0 tick time a len cap h1 w
  by_cases h2 : 4294967295 < tick
  · rw [if_pos (by omega)]; exact delchk_bad1 tick time a len cap (by omega) w
  by_cases h3 : time < -2305843009213693952
  · rw [if_pos (by omega)]; exact delchk_bad2 tick time a len cap (by omega) w
  by_cases h4 : 2305843009213693952 < time
  · rw [if_pos (by omega)]; exact delchk_bad3 tick time a len cap (by omega) w
  rw [if_neg (by omega)]
  by_cases h5 : 64 < len
  · rw [if_pos h5]; exact delchk_full tick time a len cap (by omega) (by omega) (by omega) (by omega) (by omega) w
  rw [if_neg h5]
  exact delchk_loop tick time a len cap E w h (by omega) (by omega) (by omega) (by omega) (by omega)
def findI (E : Nat → Ent) (id : Int) : Nat → Nat → Nat
  | 0, i => i
  | n + 1, i => if (E i).id = id then i else findI E id n (i + 1)
def fdB (E : Nat → Ent) (id : Int) (len : Nat) : Bool := decide (findI E id len 0 < len)
def fdE (E : Nat → Ent) (id : Int) (len : Nat) : Ent := if findI E id len 0 < len then E (findI E id len 0) else ent0
theorem find1_f (e : Ent) (id : Int) (c : Nat) (w : World) (h : w.cell? ⟨c, 0, none⟩ = some (.int .i64 id)) (hc : c < w.heap.size) :
    Calls Tryz.prog 56 #[entV e, .pointer (some ⟨c, 0, none⟩)] w fun e' w' => e' = .returned (.bool (e.id == id)) ∧ Below w.heap.size w w' := by
  obtain ⟨xid, px, py, pz, vx, vy, vz, ang, gen⟩ := e
  unfold entV
  dsimp only
  go_enter Tryz.func56, Tryz.ntmps56
  go_wp2
  go_ret
  exact ⟨rfl, (Below.refl _ _).alloc (Nat.le_refl _) _⟩
set_option maxHeartbeats 1000000 in
theorem idxfunc_core (a : Option Addr) (len cap : Nat) (E : Nat → Ent) (id : Int) (c : Nat) (R : Int) (hR : Hid ((if findI E id len 0 < len then (findI E id len 0 : Int) else -1) = R)) (w : World) (h : EntsAt w a len E) (hid : w.cell? ⟨c, 0, none⟩ = some (.int .i64 id)) (hcl : c < w.heap.size) (hl : (len : Int) ≤ 4611686018427387904) :
    Calls Tryz.prog 55 #[.slice a len cap, .func (.func 56) #[] #[.pointer (some ⟨c, 0, none⟩)]] w fun e w' => e = .returned (.int .i64 R) ∧ Below w.heap.size w w' := by
  obtain ⟨hok, hz | ⟨b, off, rfl, hb, hc⟩⟩ := h
  all_goals
    go_enter Tryz.func55, Tryz.ntmps55
    go_wp2_with fail
    go_loopw [8] (fun i wr => ∃ (k : Nat), k ≤ len ∧ i = .int .i64 k ∧ findI E id len 0 = findI E id (len - k) k ∧ Below w.heap.size w wr) (fun i _ => len - (intOf i).toNat)
    case atStart => exact ⟨0, Nat.zero_le _, rfl, rfl, Below.refl _ _⟩
    case round =>
      rename_i wr
      obtain ⟨k, hk, rfl, hch, hB⟩ := hrel
      have HB := Lib.hid hB
      have hsz := hB.size
      by_cases hlt : k < len
      · first
        | (exfalso; omega)
        | (obtain ⟨n, hn⟩ : ∃ n, len - k = n + 1 := ⟨len - k - 1, by omega⟩
           have hn2 : len - (k + 1) = n := by omega
           rw [hn] at hch
           have hcw : EntCells wr b (off + k * 9) (E k) := by
             have := hc k hlt
             unfold EntCells at *
             refine ⟨?_, ?_, ?_, ?_, ?_, ?_, ?_, ?_, ?_⟩ <;> (rw [HB.out.cell (by simp; omega)]; first | exact this.1 | exact this.2.1 | exact this.2.2.1 | exact this.2.2.2.1 | exact this.2.2.2.2.1 | exact this.2.2.2.2.2.1 | exact this.2.2.2.2.2.2.1 | exact this.2.2.2.2.2.2.2.1 | exact this.2.2.2.2.2.2.2.2)
           obtain ⟨c0, c1, c2, c3, c4, c5, c6, c7, c8⟩ := hcw
           have HCH := Lib.hid (show findI E id len 0 = if (E k).id = id then k else findI E id n (k + 1) from hch)
           have HC := Lib.hid hc
           have hlt' : (k : Int) < len := by omega
           have f1 := find1_f (E k) id c wr ((HB.out.cell (p := ⟨c, 0, none⟩) hcl).trans hid) (by omega)
           unfold entV at f1
           clear hch hc hn
           by_cases hx : (E k).id = id
           · have HE : Hid (R = k) := Lib.hid (by rw [← hR.out, HCH.out, if_pos hx, if_pos hlt])
             rw [show ((E k).id == id) = true by simpa using hx] at f1
             clear HCH hx
             generalize E k = e at *
             obtain ⟨xid, px, py, pz, vx, vy, vz, ang, gen⟩ := e
             dsimp only at c0 c1 c2 c3 c4 c5 c6 c7 c8 f1
             go_wp2_with fail
             refine f1.mono ?_; rintro e w2 ⟨rfl, hb2⟩
             have HB2 := Lib.hid (HB.out.trans (hb2.mono hsz))
             clear hb2 c0 c1 c2 c3 c4 c5 c6 c7 c8
             go_wp2
             go_ret
             exact ⟨ret_int HE.out.symm, HB2.out⟩
           · have HE : Hid (findI E id len 0 = findI E id n (k + 1)) := Lib.hid (by rw [HCH.out, if_neg hx])
             rw [show ((E k).id == id) = false by simpa using hx] at f1
             clear HCH hx
             generalize E k = e at *
             obtain ⟨xid, px, py, pz, vx, vy, vz, ang, gen⟩ := e
             dsimp only at c0 c1 c2 c3 c4 c5 c6 c7 c8 f1
             go_wp2_with fail
             refine f1.mono ?_; rintro e w2 ⟨rfl, hb2⟩
             have HB2 := Lib.hid (HB.out.trans (hb2.mono hsz))
             clear hb2 c0 c1 c2 c3 c4 c5 c6 c7 c8
             go_wp2
             go_roundw
             case rel => exact ⟨k + 1, by omega, by go_num, by rw [hn2]; exact HE.out, HB2.out⟩
             case measure => simp [intOf]; omega)
      · obtain rfl : k = len := by omega
        have HE : Hid (R = -1) := Lib.hid (by rw [← hR.out, hch, Nat.sub_self, findI, if_neg (Nat.lt_irrefl _)])
        clear hch
        go_wp2
        go_ret
        exact ⟨ret_int HE.out.symm, hB⟩
theorem idxfunc_f (a : Option Addr) (len cap : Nat) (E : Nat → Ent) (id : Int) (c : Nat) (w : World) (h : EntsAt w a len E) (hid : w.cell? ⟨c, 0, none⟩ = some (.int .i64 id)) (hcl : c < w.heap.size) (hl : (len : Int) ≤ 4611686018427387904) :
    Calls Tryz.prog 55 #[.slice a len cap, .func (.func 56) #[] #[.pointer (some ⟨c, 0, none⟩)]] w fun e w' => e = .returned (.int .i64 (if findI E id len 0 < len then (findI E id len 0 : Int) else -1)) ∧ Below w.heap.size w w' :=
  idxfunc_core a len cap E id c _ (Lib.hid rfl) w h hid hcl hl
end Go.Proofs.YtklkooeimkedgaaGreat
