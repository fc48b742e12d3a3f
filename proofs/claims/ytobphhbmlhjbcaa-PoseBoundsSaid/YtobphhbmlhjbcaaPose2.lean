/- The document's Check of a snapshot; Find. -/
import Derived.Test.YtobphhbmlhjbcaaPose1
import Derived.Test.YtobphhbmlhjbcaaRef01
namespace Go.Proofs.Ytobphhbmlhjbcaa
set_option linter.unusedVariables false
set_option linter.unusedSimpArgs false
open Go.RowKit

theorem EntsAt.cells {w w' : World} {B b off len : Nat} {E : Nat → Ent} (h : ∀ i, i < len → EntCells w b (off + i * 9) (E i)) (hB : Below B w w') (hb : b < B) : ∀ i, i < len → EntCells w' b (off + i * 9) (E i) := by
  intro i hi
  have := h i hi
  unfold EntCells at *
  refine ⟨?_, ?_, ?_, ?_, ?_, ?_, ?_, ?_, ?_⟩ <;> (rw [hB.cell (by simpa using hb)]; first | exact this.1 | exact this.2.1 | exact this.2.2.1 | exact this.2.2.2.1 | exact this.2.2.2.2.1 | exact this.2.2.2.2.2.1 | exact this.2.2.2.2.2.2.1 | exact this.2.2.2.2.2.2.2.1 | exact this.2.2.2.2.2.2.2.2)

set_option maxHeartbeats 2000000 in
theorem rdelchk_loop (tick time : Int) (a : Option Addr) (len cap : Nat) (E : Nat → Ent) (w : World) (h : EntsAt w a len E) (h1 : 0 ≤ tick) (h2 : tick ≤ 4294967295) (h3 : -2305843009213693952 ≤ time) (h4 : time ≤ 2305843009213693952) (h5 : (len : Int) ≤ 64) :
    Calls Try.prog 16 #[snapV tick time a len cap] w fun e w' => e = .returned (.int .i64 (entChk E len 0)) ∧ Below w.heap.size w w' := by
  unfold snapV
  obtain ⟨hok, hz | ⟨b, off, rfl, hb, hc⟩⟩ := h
  · have HZ := Lib.hid hz
    clear hz
    go_enter Try.func16, Try.ntmps16
    go_wp2_with fail
    have hB0 : Below w.heap.size w (w.alloc (.cells #[.int .i64 tick, .int .i64 time, .slice a len cap] 26)) := (Below.refl _ _).alloc (Nat.le_refl _) _
    have hq0 := Blk.new w #[.int .i64 tick, .int .i64 time, .slice a len cap] 26
    go_loopw [3] (fun i wr => ∃ (k : Nat), k ≤ len ∧ i = .int .i64 k ∧ entChk E len 0 = entChk E (len - k) k ∧ Below (w.heap.size + 1) (w.alloc (.cells #[.int .i64 tick, .int .i64 time, .slice a len cap] 26)) wr) (fun i _ => len - (intOf i).toNat)
    case atStart => exact ⟨0, Nat.zero_le _, rfl, rfl, Below.refl _ _⟩
    case round =>
      rename_i wr
      obtain ⟨k, hk, rfl, hch, hB⟩ := hrel
      have HB := Lib.hid (hB0.trans (hB.mono (Nat.le_succ _)))
      have s2 := (hq0.below hB (Nat.lt_succ_self _)).cell 2
      simp at s2
      have HBX := Lib.hid hB
      have hB' : Hid (∀ n, Below w.heap.size w (wr.drewN n)) := Lib.hid (fun n => below_drewN HB.out n)
      by_cases hlt : k < len
      · first
        | (exfalso; have := HZ.out; omega)
        | (obtain ⟨n, hn⟩ : ∃ n, len - k = n + 1 := ⟨len - k - 1, by omega⟩
           have hn2 : len - (k + 1) = n := by omega
           rw [hn] at hch
           have hcw : EntCells wr b (off + k * 9) (E k) := by
             have := hc k hlt
             unfold EntCells at *
             refine ⟨?_, ?_, ?_, ?_, ?_, ?_, ?_, ?_, ?_⟩ <;> (rw [HB.out.cell (by simp; omega)]; first | exact this.1 | exact this.2.1 | exact this.2.2.1 | exact this.2.2.2.1 | exact this.2.2.2.2.1 | exact this.2.2.2.2.2.1 | exact this.2.2.2.2.2.2.1 | exact this.2.2.2.2.2.2.2.1 | exact this.2.2.2.2.2.2.2.2)
           obtain ⟨c0, c1, c2, c3, c4, c5, c6, c7, c8⟩ := hcw

           have HCH := Lib.hid (show entChk E len 0 = if (E k).id < 0 ∨ 65535 < (E k).id then 3 else if 0 < k ∧ (E k).id ≤ (E (k - 1)).id then 10 else entChk E n (k + 1) from hch)
           have HC := Lib.hid hc
           have hlt' : (k : Int) < len := by omega
           clear hch hc hn c1 c2 c3 c4 c5 c6 c7 c8
           generalize (E k).id = xid at *
           by_cases r1 : xid < 0
           · have HE : Hid (entChk E len 0 = 3) := Lib.hid (by rw [HCH.out, if_pos (.inl r1)])
             clear HCH
             go_wp2
             go_ret
             exact ⟨ret_int HE.out.symm, HB.out⟩
           by_cases r2 : 65535 < xid
           · have HE : Hid (entChk E len 0 = 3) := Lib.hid (by rw [HCH.out, if_pos (.inr r2)])
             clear HCH
             go_wp2
             go_ret
             exact ⟨ret_int HE.out.symm, HB.out⟩
           have HCH : Hid (entChk E len 0 = if 0 < k ∧ xid ≤ (E (k - 1)).id then 10 else entChk E n (k + 1)) := Lib.hid (by rw [HCH.out, if_neg (by omega)])
           by_cases k0 : k = 0
           · have HF : Hid (entChk E len 0 = entChk E n (k + 1)) := Lib.hid (by rw [HCH.out, if_neg (by omega)])
             have g0 : decide ((0 : Int) < (k : Int)) = false := decide_eq_false (by omega)
             have gn : decide (0 < k) = false := decide_eq_false (by omega)
             clear HCH k0
             go_wp2_with fail
             go_quiet (fail)
             go_wp2
             go_roundw
             case rel => exact ⟨k + 1, by omega, by go_num, by rw [hn2]; exact HF.out, below_drewN HBX.out nq⟩
             case measure => simp [intOf]; omega
           · obtain ⟨j, hj⟩ : ∃ j, k = j + 1 := ⟨k - 1, by omega⟩
             have d0 : wr.cell? ⟨b, off + j * 9, none⟩ = some (.int .i64 (E j).id) := by rw [HB.out.cell (by simp; omega)]; exact (HC.out j (by omega)).1
             rw [show k - 1 = j by omega] at HCH
             have hw : IntKind.i64.wrap ((k : Int) - 1) = (j : Int) := by rw [IntKind.wrap_i64]; omega
             have g0 : decide ((0 : Int) < (k : Int)) = true := decide_eq_true (by omega)
             have gn : decide (0 < k) = true := decide_eq_true (by omega)
             have g1 : (j : Int) < len := by omega
             generalize (E j).id = pid at *
             by_cases hu : xid ≤ pid
             · have HF : Hid (entChk E len 0 = 10) := Lib.hid (by rw [HCH.out, if_pos ⟨by omega, hu⟩])
               clear HCH hj k0
               go_wp2_with fail
               go_quiet (fail)
               go_wp2
               go_ret
               exact ⟨ret_int HF.out.symm, hB'.out _⟩
             · have HF : Hid (entChk E len 0 = entChk E n (k + 1)) := Lib.hid (by rw [HCH.out, if_neg (fun h => hu h.2)])
               have hu2 : decide (xid ≤ pid) = false := decide_eq_false hu
               clear HCH hj k0
               go_wp2_with fail
               go_quiet (fail)
               go_wp2
               go_roundw
               case rel => exact ⟨k + 1, by omega, by go_num, by rw [hn2]; exact HF.out, below_drewN HBX.out nq⟩
               case measure => simp [intOf]; omega)
      · obtain rfl : k = len := by omega
        have HE : Hid (entChk E k 0 = 0) := Lib.hid (by rw [hch, Nat.sub_self]; rfl)
        clear hch
        go_wp2
        go_ret
        exact ⟨ret_int HE.out.symm, HB.out⟩
  ·
    go_enter Try.func16, Try.ntmps16
    go_wp2_with fail
    have hB0 : Below w.heap.size w (w.alloc (.cells #[.int .i64 tick, .int .i64 time, .slice (some ⟨b, off, none⟩) len cap] 26)) := (Below.refl _ _).alloc (Nat.le_refl _) _
    have hq0 := Blk.new w #[.int .i64 tick, .int .i64 time, .slice (some ⟨b, off, none⟩) len cap] 26
    go_loopw [3] (fun i wr => ∃ (k : Nat), k ≤ len ∧ i = .int .i64 k ∧ entChk E len 0 = entChk E (len - k) k ∧ Below (w.heap.size + 1) (w.alloc (.cells #[.int .i64 tick, .int .i64 time, .slice (some ⟨b, off, none⟩) len cap] 26)) wr) (fun i _ => len - (intOf i).toNat)
    case atStart => exact ⟨0, Nat.zero_le _, rfl, rfl, Below.refl _ _⟩
    case round =>
      rename_i wr
      obtain ⟨k, hk, rfl, hch, hB⟩ := hrel
      have HB := Lib.hid (hB0.trans (hB.mono (Nat.le_succ _)))
      have s2 := (hq0.below hB (Nat.lt_succ_self _)).cell 2
      simp at s2
      have HBX := Lib.hid hB
      have hB' : Hid (∀ n, Below w.heap.size w (wr.drewN n)) := Lib.hid (fun n => below_drewN HB.out n)
      by_cases hlt : k < len
      · first
        | (exfalso; have := HZ.out; omega)
        | (obtain ⟨n, hn⟩ : ∃ n, len - k = n + 1 := ⟨len - k - 1, by omega⟩
           have hn2 : len - (k + 1) = n := by omega
           rw [hn] at hch
           have hcw : EntCells wr b (off + k * 9) (E k) := by
             have := hc k hlt
             unfold EntCells at *
             refine ⟨?_, ?_, ?_, ?_, ?_, ?_, ?_, ?_, ?_⟩ <;> (rw [HB.out.cell (by simp; omega)]; first | exact this.1 | exact this.2.1 | exact this.2.2.1 | exact this.2.2.2.1 | exact this.2.2.2.2.1 | exact this.2.2.2.2.2.1 | exact this.2.2.2.2.2.2.1 | exact this.2.2.2.2.2.2.2.1 | exact this.2.2.2.2.2.2.2.2)
           obtain ⟨c0, c1, c2, c3, c4, c5, c6, c7, c8⟩ := hcw

           have HCH := Lib.hid (show entChk E len 0 = if (E k).id < 0 ∨ 65535 < (E k).id then 3 else if 0 < k ∧ (E k).id ≤ (E (k - 1)).id then 10 else entChk E n (k + 1) from hch)
           have HC := Lib.hid hc
           have hlt' : (k : Int) < len := by omega
           clear hch hc hn c1 c2 c3 c4 c5 c6 c7 c8
           generalize (E k).id = xid at *
           by_cases r1 : xid < 0
           · have HE : Hid (entChk E len 0 = 3) := Lib.hid (by rw [HCH.out, if_pos (.inl r1)])
             clear HCH
             go_wp2
             go_ret
             exact ⟨ret_int HE.out.symm, HB.out⟩
           by_cases r2 : 65535 < xid
           · have HE : Hid (entChk E len 0 = 3) := Lib.hid (by rw [HCH.out, if_pos (.inr r2)])
             clear HCH
             go_wp2
             go_ret
             exact ⟨ret_int HE.out.symm, HB.out⟩
           have HCH : Hid (entChk E len 0 = if 0 < k ∧ xid ≤ (E (k - 1)).id then 10 else entChk E n (k + 1)) := Lib.hid (by rw [HCH.out, if_neg (by omega)])
           by_cases k0 : k = 0
           · have HF : Hid (entChk E len 0 = entChk E n (k + 1)) := Lib.hid (by rw [HCH.out, if_neg (by omega)])
             have g0 : decide ((0 : Int) < (k : Int)) = false := decide_eq_false (by omega)
             have gn : decide (0 < k) = false := decide_eq_false (by omega)
             clear HCH k0
             go_wp2_with fail
             go_quiet (fail)
             go_wp2
             go_roundw
             case rel => exact ⟨k + 1, by omega, by go_num, by rw [hn2]; exact HF.out, below_drewN HBX.out nq⟩
             case measure => simp [intOf]; omega
           · obtain ⟨j, hj⟩ : ∃ j, k = j + 1 := ⟨k - 1, by omega⟩
             have d0 : wr.cell? ⟨b, off + j * 9, none⟩ = some (.int .i64 (E j).id) := by rw [HB.out.cell (by simp; omega)]; exact (HC.out j (by omega)).1
             rw [show k - 1 = j by omega] at HCH
             have hw : IntKind.i64.wrap ((k : Int) - 1) = (j : Int) := by rw [IntKind.wrap_i64]; omega
             have g0 : decide ((0 : Int) < (k : Int)) = true := decide_eq_true (by omega)
             have gn : decide (0 < k) = true := decide_eq_true (by omega)
             have g1 : (j : Int) < len := by omega
             generalize (E j).id = pid at *
             by_cases hu : xid ≤ pid
             · have HF : Hid (entChk E len 0 = 10) := Lib.hid (by rw [HCH.out, if_pos ⟨by omega, hu⟩])
               clear HCH hj k0
               go_wp2_with fail
               go_quiet (fail)
               go_wp2
               go_ret
               exact ⟨ret_int HF.out.symm, hB'.out _⟩
             · have HF : Hid (entChk E len 0 = entChk E n (k + 1)) := Lib.hid (by rw [HCH.out, if_neg (fun h => hu h.2)])
               have hu2 : decide (xid ≤ pid) = false := decide_eq_false hu
               clear HCH hj k0
               go_wp2_with fail
               go_quiet (fail)
               go_wp2
               go_roundw
               case rel => exact ⟨k + 1, by omega, by go_num, by rw [hn2]; exact HF.out, below_drewN HBX.out nq⟩
               case measure => simp [intOf]; omega)
      · obtain rfl : k = len := by omega
        have HE : Hid (entChk E k 0 = 0) := Lib.hid (by rw [hch, Nat.sub_self]; rfl)
        clear hch
        go_wp2
        go_ret
        exact ⟨ret_int HE.out.symm, HB.out⟩

theorem rdelchk_bad0 (tick time : Int) (a : Option Addr) (len cap : Nat) (hr : tick < 0) (w : World) :
    Calls Try.prog 16 #[snapV tick time a len cap] w fun e w' => e = .returned (.int .i64 3) ∧ Below w.heap.size w w' := by
  unfold snapV
  go_enter Try.func16, Try.ntmps16
  go_wp2
  go_ret
  exact ⟨rfl, (Below.refl _ _).alloc (Nat.le_refl _) _⟩

theorem rdelchk_bad1 (tick time : Int) (a : Option Addr) (len cap : Nat) (hr : 0 ≤ tick ∧ 4294967295 < tick) (w : World) :
    Calls Try.prog 16 #[snapV tick time a len cap] w fun e w' => e = .returned (.int .i64 3) ∧ Below w.heap.size w w' := by
  obtain ⟨r1, r2⟩ := hr
  unfold snapV
  go_enter Try.func16, Try.ntmps16
  go_wp2
  go_ret
  exact ⟨rfl, (Below.refl _ _).alloc (Nat.le_refl _) _⟩

theorem rdelchk_bad2 (tick time : Int) (a : Option Addr) (len cap : Nat) (hr : (0 ≤ tick ∧ tick ≤ 4294967295) ∧ time < -2305843009213693952) (w : World) :
    Calls Try.prog 16 #[snapV tick time a len cap] w fun e w' => e = .returned (.int .i64 3) ∧ Below w.heap.size w w' := by
  obtain ⟨⟨r1, r2⟩, r3⟩ := hr
  unfold snapV
  go_enter Try.func16, Try.ntmps16
  go_wp2
  go_ret
  exact ⟨rfl, (Below.refl _ _).alloc (Nat.le_refl _) _⟩

theorem rdelchk_bad3 (tick time : Int) (a : Option Addr) (len cap : Nat) (hr : (0 ≤ tick ∧ tick ≤ 4294967295) ∧ -2305843009213693952 ≤ time ∧ 2305843009213693952 < time) (w : World) :
    Calls Try.prog 16 #[snapV tick time a len cap] w fun e w' => e = .returned (.int .i64 3) ∧ Below w.heap.size w w' := by
  obtain ⟨⟨r1, r2⟩, r3, r4⟩ := hr
  unfold snapV
  go_enter Try.func16, Try.ntmps16
  go_wp2
  go_ret
  exact ⟨rfl, (Below.refl _ _).alloc (Nat.le_refl _) _⟩

theorem rdelchk_full (tick time : Int) (a : Option Addr) (len cap : Nat) (h1 : 0 ≤ tick) (h2 : tick ≤ 4294967295) (h3 : -2305843009213693952 ≤ time) (h4 : time ≤ 2305843009213693952) (h5 : (64 : Int) < len) (w : World) :
    Calls Try.prog 16 #[snapV tick time a len cap] w fun e w' => e = .returned (.int .i64 4) ∧ Below w.heap.size w w' := by
  unfold snapV
  go_enter Try.func16, Try.ntmps16
  go_wp2
  go_ret
  exact ⟨rfl, (Below.refl _ _).alloc (Nat.le_refl _) _⟩

theorem rdelchk_f (tick time : Int) (a : Option Addr) (len cap : Nat) (E : Nat → Ent) (w : World) (h : EntsAt w a len E) (hl : (len : Int) ≤ 4611686018427387904) :
    Calls Try.prog 16 #[snapV tick time a len cap] w fun e w' => e = .returned (.int .i64 (snapChk tick time len E)) ∧ Below w.heap.size w w' := by
  unfold snapChk
  by_cases h1 : tick < 0
  · rw [if_pos (by omega)]; exact rdelchk_bad0 tick time a len cap h1 w
  by_cases h2 : 4294967295 < tick
  · rw [if_pos (by omega)]; exact rdelchk_bad1 tick time a len cap (by omega) w
  by_cases h3 : time < -2305843009213693952
  · rw [if_pos (by omega)]; exact rdelchk_bad2 tick time a len cap (by omega) w
  by_cases h4 : 2305843009213693952 < time
  · rw [if_pos (by omega)]; exact rdelchk_bad3 tick time a len cap (by omega) w
  rw [if_neg (by omega)]
  by_cases h5 : 64 < len
  · rw [if_pos h5]; exact rdelchk_full tick time a len cap (by omega) (by omega) (by omega) (by omega) (by omega) w
  rw [if_neg h5]
  exact rdelchk_loop tick time a len cap E w h (by omega) (by omega) (by omega) (by omega) (by omega)

/-- the first one of an Id, of n from the i-th on -/
def findI (E : Nat → Ent) (id : Int) : Nat → Nat → Nat
  | 0, i => i
  | n + 1, i => if (E i).id = id then i else findI E id n (i + 1)
theorem findI_le (E : Nat → Ent) (id : Int) : ∀ n i, i ≤ findI E id n i ∧ findI E id n i ≤ i + n
  | 0, i => by simp [findI]
  | n + 1, i => by
    rw [findI]
    split
    · omega
    · have := findI_le E id n (i + 1); omega
def fdB (E : Nat → Ent) (id : Int) (len : Nat) : Bool := decide (findI E id len 0 < len)
def fdE (E : Nat → Ent) (id : Int) (len : Nat) : Ent := if findI E id len 0 < len then E (findI E id len 0) else ent0

theorem find1_f (e : Ent) (id : Int) (c : Nat) (w : World) (h : w.cell? ⟨c, 0, none⟩ = some (.int .i64 id)) (hc : c < w.heap.size) :
    Calls Try.prog 55 #[entV e, .pointer (some ⟨c, 0, none⟩)] w fun e' w' => e' = .returned (.bool (e.id == id)) ∧ Below w.heap.size w w' := by
  obtain ⟨xid, px, py, pz, vx, vy, vz, ang, gen⟩ := e
  unfold entV
  dsimp only
  go_enter Try.func55, Try.ntmps55
  go_wp2
  go_ret
  exact ⟨rfl, (Below.refl _ _).alloc (Nat.le_refl _) _⟩

set_option maxHeartbeats 1000000 in
theorem idxfunc_core (a : Option Addr) (len cap : Nat) (E : Nat → Ent) (id : Int) (c : Nat) (R : Int) (hR : Hid ((if findI E id len 0 < len then (findI E id len 0 : Int) else -1) = R)) (w : World) (h : EntsAt w a len E) (hid : w.cell? ⟨c, 0, none⟩ = some (.int .i64 id)) (hcl : c < w.heap.size) (hl : (len : Int) ≤ 4611686018427387904) :
    Calls Try.prog 54 #[.slice a len cap, .func (.func 55) #[] #[.pointer (some ⟨c, 0, none⟩)]] w fun e w' => e = .returned (.int .i64 R) ∧ Below w.heap.size w w' := by
  obtain ⟨hok, hz | ⟨b, off, rfl, hb, hc⟩⟩ := h
  all_goals
    go_enter Try.func54, Try.ntmps54
    go_wp2_with fail
    go_loopw [8] (fun i wr => ∃ (k : Nat), k ≤ len ∧ i = .int .i64 k ∧ findI E id len 0 = findI E id (len - k) k ∧ Below w.heap.size w wr) (fun i _ => len - (intOf i).toNat)
    case atStart => exact ⟨0, Nat.zero_le _, rfl, rfl, Below.refl _ _⟩
    case round =>
      rename_i wr
      obtain ⟨k, hk, rfl, hch, hB⟩ := hrel
      have HB := Lib.hid hB
      have hsz := hB.size
      by_cases hlt : k < len
      · first
        | (exfalso; omega)
        | (obtain ⟨n, hn⟩ : ∃ n, len - k = n + 1 := ⟨len - k - 1, by omega⟩
           have hn2 : len - (k + 1) = n := by omega
           rw [hn] at hch
           have hcw : EntCells wr b (off + k * 9) (E k) := by
             have := hc k hlt
             unfold EntCells at *
             refine ⟨?_, ?_, ?_, ?_, ?_, ?_, ?_, ?_, ?_⟩ <;> (rw [HB.out.cell (by simp; omega)]; first | exact this.1 | exact this.2.1 | exact this.2.2.1 | exact this.2.2.2.1 | exact this.2.2.2.2.1 | exact this.2.2.2.2.2.1 | exact this.2.2.2.2.2.2.1 | exact this.2.2.2.2.2.2.2.1 | exact this.2.2.2.2.2.2.2.2)
           obtain ⟨c0, c1, c2, c3, c4, c5, c6, c7, c8⟩ := hcw

           have HCH := Lib.hid (show findI E id len 0 = if (E k).id = id then k else findI E id n (k + 1) from hch)
           have HC := Lib.hid hc
           have hlt' : (k : Int) < len := by omega
           have f1 := find1_f (E k) id c wr ((HB.out.cell (p := ⟨c, 0, none⟩) hcl).trans hid) (by omega)
           unfold entV at f1
           clear hch hc hn
           by_cases hx : (E k).id = id
           · have HE : Hid (R = k) := Lib.hid (by rw [← hR.out, HCH.out, if_pos hx, if_pos hlt])
             rw [show ((E k).id == id) = true by simpa using hx] at f1
             clear HCH hx
             generalize E k = e at *
             obtain ⟨xid, px, py, pz, vx, vy, vz, ang, gen⟩ := e
             dsimp only at c0 c1 c2 c3 c4 c5 c6 c7 c8 f1
             go_wp2_with fail
             refine f1.mono ?_; rintro e w2 ⟨rfl, hb2⟩
             have HB2 := Lib.hid (HB.out.trans (hb2.mono hsz))
             clear hb2 c0 c1 c2 c3 c4 c5 c6 c7 c8
             go_wp2
             go_ret
             exact ⟨ret_int HE.out.symm, HB2.out⟩
           · have HE : Hid (findI E id len 0 = findI E id n (k + 1)) := Lib.hid (by rw [HCH.out, if_neg hx])
             rw [show ((E k).id == id) = false by simpa using hx] at f1
             clear HCH hx
             generalize E k = e at *
             obtain ⟨xid, px, py, pz, vx, vy, vz, ang, gen⟩ := e
             dsimp only at c0 c1 c2 c3 c4 c5 c6 c7 c8 f1
             go_wp2_with fail
             refine f1.mono ?_; rintro e w2 ⟨rfl, hb2⟩
             have HB2 := Lib.hid (HB.out.trans (hb2.mono hsz))
             clear hb2 c0 c1 c2 c3 c4 c5 c6 c7 c8
             go_wp2
             go_roundw
             case rel => exact ⟨k + 1, by omega, by go_num, by rw [hn2]; exact HE.out, HB2.out⟩
             case measure => simp [intOf]; omega)
      · obtain rfl : k = len := by omega
        have HE : Hid (R = -1) := Lib.hid (by rw [← hR.out, hch, Nat.sub_self, findI, if_neg (Nat.lt_irrefl _)])
        clear hch
        go_wp2
        go_ret
        exact ⟨ret_int HE.out.symm, hB⟩
theorem idxfunc_f (a : Option Addr) (len cap : Nat) (E : Nat → Ent) (id : Int) (c : Nat) (w : World) (h : EntsAt w a len E) (hid : w.cell? ⟨c, 0, none⟩ = some (.int .i64 id)) (hcl : c < w.heap.size) (hl : (len : Int) ≤ 4611686018427387904) :
    Calls Try.prog 54 #[.slice a len cap, .func (.func 55) #[] #[.pointer (some ⟨c, 0, none⟩)]] w fun e w' => e = .returned (.int .i64 (if findI E id len 0 < len then (findI E id len 0 : Int) else -1)) ∧ Below w.heap.size w w' :=
  idxfunc_core a len cap E id c _ (Lib.hid rfl) w h hid hcl hl
end Go.Proofs.Ytobphhbmlhjbcaa
