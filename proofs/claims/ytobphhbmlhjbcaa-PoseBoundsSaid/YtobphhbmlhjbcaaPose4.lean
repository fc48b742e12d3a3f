/- Poses; the ways; what is wrong with a config and with snapshots. -/
import Derived.Test.YtobphhbmlhjbcaaPose3
import Derived.Test.YtobphhbmlhjbcaaCurve4
import Derived.Test.YtobphhbmlhjbcaaAngle
namespace Go.Proofs.Ytobphhbmlhjbcaa
set_option linter.unusedVariables false
set_option linter.unusedSimpArgs false
open Go.RowKit
set_option maxRecDepth 8000

structure Po where
  id : Int
  px : Int
  py : Int
  pz : Int
  ang : Int
  mode : Int
/-- a pose as it is handed on -/
def poV (p : Po) : Value := .agg #[.int .i64 (p).id, .int .i64 (p).px, .int .i64 (p).py, .int .i64 (p).pz, .int .u16 (p).ang, .int .i64 (p).mode]
/-- an entity's, as a snapshot has it -/
def exactP (e : Ent) : Po := ⟨e.id, e.px, e.py, e.pz, e.ang, 0⟩

theorem exact_f (e : Ent) (w : World) : Calls Try.prog 31 #[entV e] w fun e' w' => e' = .returned (poV (exactP e)) ∧ Below w.heap.size w w' := by
  obtain ⟨xid, px, py, pz, vx, vy, vz, ang, gen⟩ := e
  unfold entV poV exactP
  dsimp only
  go_enter Try.func31, Try.ntmps31
  go_wp2
  exact bodyPost_ret (v := .agg #[.int .i64 xid, .int .i64 px, .int .i64 py, .int .i64 pz, .int .u16 ang, .int .i64 0]) (by simp [results, Try.results31, go_sem]) rfl ⟨rfl, by (repeat (first | exact Below.refl _ _ | assumption | (refine Below.drew ?_) | (refine below_drewN ?_ _) | (refine Below.alloc ?_ (by simp <;> omega) _) | (refine Below.setCell ?_ (by simp <;> omega) _)))⟩

theorem rexact_f (e : Ent) (w : World) : Calls Try.prog 36 #[entV e] w fun e' w' => e' = .returned (poV (exactP e)) ∧ Below w.heap.size w w' := by
  obtain ⟨xid, px, py, pz, vx, vy, vz, ang, gen⟩ := e
  unfold entV poV exactP
  dsimp only
  go_enter Try.func36, Try.ntmps36
  go_wp2
  exact bodyPost_ret (v := .agg #[.int .i64 xid, .int .i64 px, .int .i64 py, .int .i64 pz, .int .u16 ang, .int .i64 0]) (by simp [results, Try.results36, go_sem]) rfl ⟨rfl, by (repeat (first | exact Below.refl _ _ | assumption | (refine Below.drew ?_) | (refine below_drewN ?_ _) | (refine Below.alloc ?_ (by simp <;> omega) _) | (refine Below.setCell ?_ (by simp <;> omega) _)))⟩

theorem lmode_f (w : World) : Calls Try.prog 126 #[.agg #[]] w fun e w' => e = .returned (.int .i64 1) ∧ Below w.heap.size w w' := by
  go_enter Try.func126, Try.ntmps126
  go_wp2
  go_ret
  exact ⟨rfl, by (repeat (first | exact Below.refl _ _ | assumption | (refine Below.drew ?_) | (refine below_drewN ?_ _) | (refine Below.alloc ?_ (by simp <;> omega) _) | (refine Below.setCell ?_ (by simp <;> omega) _)))⟩

theorem cmode_f (w : World) : Calls Try.prog 119 #[.agg #[]] w fun e w' => e = .returned (.int .i64 2) ∧ Below w.heap.size w w' := by
  go_enter Try.func119, Try.ntmps119
  go_wp2
  go_ret
  exact ⟨rfl, by (repeat (first | exact Below.refl _ _ | assumption | (refine Below.drew ?_) | (refine below_drewN ?_ _) | (refine Below.alloc ?_ (by simp <;> omega) _) | (refine Below.setCell ?_ (by simp <;> omega) _)))⟩

theorem lplace_f (x y : Ent) (num den : Int) (hx : x.Ok) (hy : y.Ok) (h : fineB num den = true) (w : World) :
    Calls Try.prog 127 #[.agg #[], entV x, entV y, .int .i64 num, .int .i64 den] w fun e w' => e = .returned (v3 (lerpF x.px y.px num den) (lerpF x.py y.py num den) (lerpF x.pz y.pz num den)) ∧ Below w.heap.size w w' := by
  have c := vlerp_f x.px x.py x.pz y.px y.py y.pz num den hx.px hx.py hx.pz hy.px hy.py hy.pz h
  generalize lerpF x.px y.px num den = r0 at *
  generalize lerpF x.py y.py num den = r1 at *
  generalize lerpF x.pz y.pz num den = r2 at *
  obtain ⟨xid, px, py, pz, vx, vy, vz, ang, gen⟩ := x
  obtain ⟨yid, qx, qy, qz, ux, uy, uz, yang, ygen⟩ := y
  unfold entV
  dsimp only at c ⊢
  clear hx hy h
  go_enter Try.func127, Try.ntmps127
  go_wp2_with fail
  have hB0 : Below w.heap.size w ((((w.alloc (.cells #[] 100)).alloc (.cells #[.int .i64 xid, .int .i64 px, .int .i64 py, .int .i64 pz, .int .i64 vx, .int .i64 vy, .int .i64 vz, .int .u16 ang, .int .u8 gen] 47)).alloc (.cells #[.int .i64 yid, .int .i64 qx, .int .i64 qy, .int .i64 qz, .int .i64 ux, .int .i64 uy, .int .i64 uz, .int .u16 yang, .int .u8 ygen] 47)).alloc (.cells #[.int .i64 0, .int .i64 0, .int .i64 0] 42)) := by (repeat (first | exact Below.refl _ _ | assumption | (refine Below.drew ?_) | (refine below_drewN ?_ _) | (refine Below.alloc ?_ (by simp <;> omega) _) | (refine Below.setCell ?_ (by simp <;> omega) _)))
  have B4 := Blk.new (((w.alloc (.cells #[] 100)).alloc (.cells #[.int .i64 xid, .int .i64 px, .int .i64 py, .int .i64 pz, .int .i64 vx, .int .i64 vy, .int .i64 vz, .int .u16 ang, .int .u8 gen] 47)).alloc (.cells #[.int .i64 yid, .int .i64 qx, .int .i64 qy, .int .i64 qz, .int .i64 ux, .int .i64 uy, .int .i64 uz, .int .u16 yang, .int .u8 ygen] 47)) #[.int .i64 0, .int .i64 0, .int .i64 0] 42
  refine (c _).mono ?_; rintro e w1 ⟨rfl, hb1⟩
  have HB1 : Hid (Below w.heap.size w w1) := Lib.hid (hB0.trans (hb1.mono hB0.size))
  have B41 := B4.below hb1 B4.lt
  simp only [World.size_alloc] at B41
  have hs := HB1.out.size
  clear hB0 B4 hb1 c
  have r4 := B41.cell 0; have r5 := B41.cell 1; have r6 := B41.cell 2
  have f4 := B41.free 0; have f5 := B41.free 1; have f6 := B41.free 2
  have hl := B41.lt
  simp at r4 r5 r6
  clear B41
  go_wp2
  have HB2 := HB1.out
  exact bodyPost_ret (v := v3 r0 r1 r2) (by simp [results, Try.results127, go_sem, *]) rfl ⟨rfl, by (repeat (first | exact Below.refl _ _ | assumption | (refine Below.drew ?_) | (refine below_drewN ?_ _) | (refine Below.alloc ?_ (by simp <;> omega) _) | (refine Below.setCell ?_ (by simp <;> omega) _)))⟩

theorem cplace_f (x y : Ent) (num den : Int) (hx : x.Ok) (hy : y.Ok) (h : fineB num den = true) (w : World) :
    Calls Try.prog 120 #[.agg #[], entV x, entV y, .int .i64 num, .int .i64 den] w fun e w' => e = .returned (v3 (curveF x.px x.vx y.px y.vx num den) (curveF x.py x.vy y.py y.vy num den) (curveF x.pz x.vz y.pz y.vz num den)) ∧ Below w.heap.size w w' := by
  have c := cvec_f x.px x.py x.pz x.vx x.vy x.vz y.px y.py y.pz y.vx y.vy y.vz num den hx.px hx.py hx.pz hx.vx hx.vy hx.vz hy.px hy.py hy.pz hy.vx hy.vy hy.vz h
  generalize curveF x.px x.vx y.px y.vx num den = r0 at *
  generalize curveF x.py x.vy y.py y.vy num den = r1 at *
  generalize curveF x.pz x.vz y.pz y.vz num den = r2 at *
  obtain ⟨xid, px, py, pz, vx, vy, vz, ang, gen⟩ := x
  obtain ⟨yid, qx, qy, qz, ux, uy, uz, yang, ygen⟩ := y
  unfold entV
  dsimp only at c ⊢
  clear hx hy h
  go_enter Try.func120, Try.ntmps120
  go_wp2_with fail
  have hB0 : Below w.heap.size w ((((w.alloc (.cells #[] 99)).alloc (.cells #[.int .i64 xid, .int .i64 px, .int .i64 py, .int .i64 pz, .int .i64 vx, .int .i64 vy, .int .i64 vz, .int .u16 ang, .int .u8 gen] 47)).alloc (.cells #[.int .i64 yid, .int .i64 qx, .int .i64 qy, .int .i64 qz, .int .i64 ux, .int .i64 uy, .int .i64 uz, .int .u16 yang, .int .u8 ygen] 47)).alloc (.cells #[.int .i64 0, .int .i64 0, .int .i64 0] 42)) := by (repeat (first | exact Below.refl _ _ | assumption | (refine Below.drew ?_) | (refine below_drewN ?_ _) | (refine Below.alloc ?_ (by simp <;> omega) _) | (refine Below.setCell ?_ (by simp <;> omega) _)))
  have B4 := Blk.new (((w.alloc (.cells #[] 99)).alloc (.cells #[.int .i64 xid, .int .i64 px, .int .i64 py, .int .i64 pz, .int .i64 vx, .int .i64 vy, .int .i64 vz, .int .u16 ang, .int .u8 gen] 47)).alloc (.cells #[.int .i64 yid, .int .i64 qx, .int .i64 qy, .int .i64 qz, .int .i64 ux, .int .i64 uy, .int .i64 uz, .int .u16 yang, .int .u8 ygen] 47)) #[.int .i64 0, .int .i64 0, .int .i64 0] 42
  refine (c _).mono ?_; rintro e w1 ⟨rfl, hb1⟩
  have HB1 : Hid (Below w.heap.size w w1) := Lib.hid (hB0.trans (hb1.mono hB0.size))
  have B41 := B4.below hb1 B4.lt
  simp only [World.size_alloc] at B41
  have hs := HB1.out.size
  clear hB0 B4 hb1 c
  have r4 := B41.cell 0; have r5 := B41.cell 1; have r6 := B41.cell 2
  have f4 := B41.free 0; have f5 := B41.free 1; have f6 := B41.free 2
  have hl := B41.lt
  simp at r4 r5 r6
  clear B41
  go_wp2
  have HB2 := HB1.out
  exact bodyPost_ret (v := v3 r0 r1 r2) (by simp [results, Try.results120, go_sem, *]) rfl ⟨rfl, by (repeat (first | exact Below.refl _ _ | assumption | (refine Below.drew ?_) | (refine below_drewN ?_ _) | (refine Below.alloc ?_ (by simp <;> omega) _) | (refine Below.setCell ?_ (by simp <;> omega) _)))⟩

/-- snapshots in a row, and their entities -/
def SnsAt (w : World) (s : Option Addr) (len : Nat) (K T : Nat → Int) (E : Nat → Option Addr × Nat × Nat) (EE : Nat → Nat → Ent) : Prop :=
  SnapsAt w s len K T E ∧ ∀ i, i < len → EntsAt w (E i).1 (E i).2.1 (EE i) ∧ ((E i).2.1 : Int) ≤ 4611686018427387904
theorem SnsAt.below {w w' : World} {s : Option Addr} {len : Nat} {K T : Nat → Int} {E : Nat → Option Addr × Nat × Nat} {EE : Nat → Nat → Ent} (h : SnsAt w s len K T E EE) (hb : Below w.heap.size w w') : SnsAt w' s len K T E EE :=
  ⟨h.1.below hb, fun i hi => ⟨(h.2 i hi).1.below hb, (h.2 i hi).2⟩⟩
/-- what is wrong with n snapshots from the i-th on -/
def chkS (K T : Nat → Int) (E : Nat → Option Addr × Nat × Nat) (EE : Nat → Nat → Ent) : Nat → Nat → Int
  | 0, _ => 0
  | n + 1, i => if snapChk (K i) (T i) (E i).2.1 (EE i) = 0 then chkS K T E EE n (i + 1) else snapChk (K i) (T i) (E i).2.1 (EE i)
def pchk (c : Cfg) (K T : Nat → Int) (E : Nat → Option Addr × Nat × Nat) (EE : Nat → Nat → Ent) (len : Nat) : Int := if cchk c = 0 then chkS K T E EE len 0 else cchk c

set_option maxHeartbeats 1000000 in
theorem pcheck_f (c : Cfg) (s : Option Addr) (len cap : Nat) (K T : Nat → Int) (E : Nat → Option Addr × Nat × Nat) (EE : Nat → Nat → Ent) (w : World) (h : SnsAt w s len K T E EE) (hlen : (len : Int) ≤ 4611686018427387904) :
    Calls Try.prog 28 #[cfgV c, .slice s len cap] w fun e w' => e = .returned (.int .i64 (pchk c K T E EE len)) ∧ Below w.heap.size w w' := by
  have CC := ccheck_f c
  obtain ⟨hs, he⟩ := h
  have HE := Lib.hid he
  unfold cfgV at CC ⊢
  clear he
  by_cases hc : cchk c = 0
  · have HP : Hid (pchk c K T E EE len = chkS K T E EE len 0) := Lib.hid (by unfold pchk; rw [if_pos hc])
    rw [hc] at CC
    generalize pchk c K T E EE len = r at *
    clear hc
    rcases hs with hz | ⟨b, off, rfl, hb, hcs⟩
    all_goals
      go_enter Try.func28, Try.ntmps28
      go_wp2_with fail
      refine (CC _).mono ?_; rintro e w1 ⟨rfl, hb1⟩
      have HB1 : Hid (Below w.heap.size w w1) := Lib.hid (((Below.refl _ _).alloc (Nat.le_refl _) _).trans (hb1.mono (by simp)))
      clear hb1 CC
      go_wp2_with fail
      go_loopw [16] (fun i wr => ∃ k : Nat, k ≤ len ∧ i = .int .i64 k ∧ chkS K T E EE len 0 = chkS K T E EE (len - k) k ∧ Below w.heap.size w wr) (fun i _ => len - (intOf i).toNat)
      case atStart => exact ⟨0, Nat.zero_le _, rfl, rfl, HB1.out⟩
      case round =>
        rename_i wr
        obtain ⟨k, hk, rfl, hch, hB⟩ := hrel
        have hsz := hB.size
        by_cases hlt : k < len
        · first
          | (exfalso; omega)
          | (obtain ⟨n, hn⟩ : ∃ n, len - k = n + 1 := ⟨len - k - 1, by omega⟩
             have hn2 : len - (k + 1) = n := by omega
             rw [hn] at hch
             obtain ⟨d0, d1, d2⟩ := hcs k hlt
             have c0 := (hB.cell (p := ⟨b, off + k * 3, none⟩) hb).trans d0
             have c1 := (hB.cell (p := ⟨b, off + k * 3 + 1, none⟩) hb).trans d1
             have c2 := (hB.cell (p := ⟨b, off + k * 3 + 2, none⟩) hb).trans d2
             obtain ⟨he1, he2⟩ := HE.out k hlt
             have DC := Lib.hid (fun w' (hw : Below w.heap.size w w') => delchk_f (K k) (T k) (E k).1 (E k).2.1 (E k).2.2 (EE k) w' (he1.below hw) he2)
             unfold snapV at DC
             have HCH : Hid (chkS K T E EE len 0 = if snapChk (K k) (T k) (E k).2.1 (EE k) = 0 then chkS K T E EE n (k + 1) else snapChk (K k) (T k) (E k).2.1 (EE k)) := Lib.hid hch
             have HC := Lib.hid hcs
             have HB := Lib.hid hB
             have hlt' : (k : Int) < len := by omega
             clear hch hcs hn d0 d1 d2 he1 he2 hB
             generalize snapChk (K k) (T k) (E k).2.1 (EE k) = sc at *
             generalize K k = kk at *
             generalize T k = tt at *
             generalize (E k).1 = ea at *
             generalize (E k).2.1 = el at *
             generalize (E k).2.2 = ec at *
             have dc := DC.out _ (HB.out.alloc hsz (.cells #[.int .i64 kk, .int .i64 tt, .slice ea el ec] 26))
             by_cases r0 : sc = 0
             · have HF : Hid (chkS K T E EE len 0 = chkS K T E EE n (k + 1)) := Lib.hid (by rw [HCH.out, if_pos r0])
               subst r0
               clear HCH
               go_wp2_with fail
               refine dc.mono ?_; rintro e w2 ⟨rfl, hb2⟩
               have HB2 := Lib.hid ((HB.out.alloc hsz _).trans (hb2.mono (by simp; omega)))
               clear hb2 dc c0 c1 c2
               go_wp2
               go_roundw
               case rel => exact ⟨k + 1, by omega, by go_num, by rw [hn2]; exact HF.out, HB2.out⟩
               case measure => simp [intOf]; omega
             · have HF : Hid (chkS K T E EE len 0 = sc) := Lib.hid (by rw [HCH.out, if_neg r0])
               have r1 : (sc != 0) = true := by simpa using r0
               clear HCH r0
               go_wp2_with fail
               refine dc.mono ?_; rintro e w2 ⟨rfl, hb2⟩
               have HB2 := Lib.hid ((HB.out.alloc hsz _).trans (hb2.mono (by simp; omega)))
               clear hb2 dc c0 c1 c2
               go_wp2
               go_ret
               exact ⟨ret_int (by rw [HP.out, HF.out]), HB2.out⟩)
        · obtain rfl : k = len := by omega
          have HF : Hid (chkS K T E EE k 0 = 0) := Lib.hid (by rw [hch, Nat.sub_self]; rfl)
          clear hch
          go_wp2
          go_ret
          exact ⟨ret_int (by rw [HP.out, HF.out]), hB⟩
  · have HP : Hid (pchk c K T E EE len = cchk c) := Lib.hid (by unfold pchk; rw [if_neg hc])
    generalize pchk c K T E EE len = r at *
    generalize cchk c = cc at *
    have hc1 : (cc != 0) = true := by simpa using hc
    clear hc
    go_enter Try.func28, Try.ntmps28
    go_wp2_with fail
    refine (CC _).mono ?_; rintro e w1 ⟨rfl, hb1⟩
    have HB1 : Hid (Below w.heap.size w w1) := Lib.hid (((Below.refl _ _).alloc (Nat.le_refl _) _).trans (hb1.mono (by simp)))
    clear hb1 CC
    go_wp2
    go_ret
    exact ⟨ret_int HP.out.symm, HB1.out⟩
end Go.Proofs.Ytobphhbmlhjbcaa
