/- Parts of the walk of TopJumps: Pose4, Pose5, Pose6. -/
import Derived.Test.YtklkooeimkedgaaGreatJ5
import Derived.Test.YtklkooeimkedgaaGreatJ6
import Derived.Test.YtklkooeimkedgaaGreatJ17
import Derived.Test.YtklkooeimkedgaaGreatJ23
set_option linter.unusedVariables false
set_option linter.unusedSimpArgs false
namespace Go.Proofs.YtklkooeimkedgaaGreat
open Go.RowKit
set_option maxRecDepth 8000
structure Po where
  id : Int
  px : Int
  py : Int
  pz : Int
  ang : Int
  mode : Int
def poV (p : Po) : Value := .agg #[.int .i64 (p).id, .int .i64 (p).px, .int .i64 (p).py, .int .i64 (p).pz, .int .u16 (p).ang, .int .i64 (p).mode]
def exactP (e : Ent) : Po := ⟨e.id, e.px, e.py, e.pz, e.ang, 0⟩
theorem exact_f (e : Ent) (w : World) : Calls Tryz.prog 94 #[entV e] w fun e' w' => e' = .returned (poV (exactP e)) ∧ Below w.heap.size w w' := by
  obtain ⟨xid, px, py, pz, vx, vy, vz, ang, gen⟩ := e
  unfold entV poV exactP
  dsimp only
  go_enter Tryz.func94, Tryz.ntmps94
  go_wp2
  exact bodyPost_ret (v := .agg #[.int .i64 xid, .int .i64 px, .int .i64 py, .int .i64 pz, .int .u16 ang, .int .i64 0]) (by simp [results, Tryz.results94, go_sem]) rfl ⟨rfl, by (repeat (first | exact Below.refl _ _ | assumption | (refine Below.drew ?_) | (refine below_drewN ?_ _) | (refine Below.alloc ?_ (by simp <;> omega) _) | (refine Below.setCell ?_ (by simp <;> omega) _)))⟩
theorem lmode_f (w : World) : Calls Tryz.prog 254 #[.agg #[]] w fun e w' => e = .returned (.int .i64 1) ∧ Below w.heap.size w w' := by
  go_enter Tryz.func254, Tryz.ntmps254
  go_wp2
  go_ret
  exact ⟨rfl, by (repeat (first | exact Below.refl _ _ | assumption | (refine Below.drew ?_) | (refine below_drewN ?_ _) | (refine Below.alloc ?_ (by simp <;> omega) _) | (refine Below.setCell ?_ (by simp <;> omega) _)))⟩
theorem cmode_f (w : World) : Calls Tryz.prog 247 #[.agg #[]] w fun e w' => e = .returned (.int .i64 2) ∧ Below w.heap.size w w' := by
  go_enter Tryz.func247, Tryz.ntmps247
  go_wp2
  go_ret
  exact ⟨rfl, by (repeat (first | exact Below.refl _ _ | assumption | (refine Below.drew ?_) | (refine below_drewN ?_ _) | (refine Below.alloc ?_ (by simp <;> omega) _) | (refine Below.setCell ?_ (by simp <;> omega) _)))⟩
theorem lplace_f (x y : Ent) (num den : Int) (hx : x.Ok) (hy : y.Ok) (h : fineB num den = true) (w : World) :
    Calls Tryz.prog 255 #[.agg #[], entV x, entV y, .int .i64 num, .int .i64 den] w fun e w' => e = .returned (v3 (lerpF x.px y.px num den) (lerpF x.py y.py num den) (lerpF x.pz y.pz num den)) ∧ Below w.heap.size w w' := by
  have c := vlerp_f x.px x.py x.pz y.px y.py y.pz num den hx.px hx.py hx.pz hy.px hy.py hy.pz h
  generalize lerpF x.px y.px num den = r0 at *
  generalize lerpF x.py y.py num den = r1 at *
  generalize lerpF x.pz y.pz num den = r2 at *
  obtain ⟨xid, px, py, pz, vx, vy, vz, ang, gen⟩ := x
  obtain ⟨yid, qx, qy, qz, ux, uy, uz, yang, ygen⟩ := y
  unfold entV
  dsimp only at c ⊢
  clear hx hy h
  go_enter Tryz.func255, Tryz.ntmps255
  go_wp2_with fail
  have hB0 : Below w.heap.size w ((((w.alloc (.cells #[] 233)).alloc (.cells #[.int .i64 xid, .int .i64 px, .int .i64 py, .int .i64 pz, .int .i64 vx, .int .i64 vy, .int .i64 vz, .int .u16 ang, .int .u8 gen] 33)).alloc (.cells #[.int .i64 yid, .int .i64 qx, .int .i64 qy, .int .i64 qz, .int .i64 ux, .int .i64 uy, .int .i64 uz, .int .u16 yang, .int .u8 ygen] 33)).alloc (.cells #[.int .i64 0, .int .i64 0, .int .i64 0] 22)) := by (repeat (first | exact Below.refl _ _ | assumption | (refine Below.drew ?_) | (refine below_drewN ?_ _) | (refine Below.alloc ?_ (by simp <;> omega) _) | (refine Below.setCell ?_ (by simp <;> omega) _)))
  have B4 := Blk.new (((w.alloc (.cells #[] 233)).alloc (.cells #[.int .i64 xid, .int .i64 px, .int .i64 py, .int .i64 pz, .int .i64 vx, .int .i64 vy, .int .i64 vz, .int .u16 ang, .int .u8 gen] 33)).alloc (.cells #[.int .i64 yid, .int .i64 qx, .int .i64 qy, .int .i64 qz, .int .i64 ux, .int .i64 uy, .int .i64 uz, .int .u16 yang, .int .u8 ygen] 33)) #[.int .i64 0, .int .i64 0, .int .i64 0] 22
  refine (c _).mono ?_; rintro e w1 ⟨rfl, hb1⟩
  have HB1 : Hid (Below w.heap.size w w1) := Lib.hid (hB0.trans (hb1.mono hB0.size))
  have B41 := B4.below hb1 B4.lt
  simp only [World.size_alloc] at B41
  have hs := HB1.out.size
  clear hB0 B4 hb1 c
  have r4 := B41.cell 0; have r5 := B41.cell 1; have r6 := B41.cell 2
  have f4 := B41.free 0; have f5 := B41.free 1; have f6 := B41.free 2
  have hl := B41.lt
  simp at r4 r5 r6
  clear B41
  go_wp2
  have HB2 := HB1.out
  exact bodyPost_ret (v := v3 r0 r1 r2) (by simp [results, Tryz.results255, go_sem, *]) rfl ⟨rfl, by (repeat (first | exact Below.refl _ _ | assumption | (refine Below.drew ?_) | (refine below_drewN ?_ _) | (refine Below.alloc ?_ (by simp <;> omega) _) | (refine Below.setCell ?_ (by simp <;> omega) _)))⟩
theorem cplace_f (x y : Ent) (num den : Int) (hx : x.Ok) (hy : y.Ok) (h : fineB num den = true) (w : World) :
    Calls Tryz.prog 248 #[.agg #[], entV x, entV y, .int .i64 num, .int .i64 den] w fun e w' => e = .returned (v3 (curveF x.px x.vx y.px y.vx num den) (curveF x.py x.vy y.py y.vy num den) (curveF x.pz x.vz y.pz y.vz num den)) ∧ Below w.heap.size w w' := by
  have c := cvec_f x.px x.py x.pz x.vx x.vy x.vz y.px y.py y.pz y.vx y.vy y.vz num den hx.px hx.py hx.pz hx.vx hx.vy hx.vz hy.px hy.py hy.pz hy.vx hy.vy hy.vz h
  generalize curveF x.px x.vx y.px y.vx num den = r0 at *
  generalize curveF x.py x.vy y.py y.vy num den = r1 at *
  generalize curveF x.pz x.vz y.pz y.vz num den = r2 at *
  obtain ⟨xid, px, py, pz, vx, vy, vz, ang, gen⟩ := x
  obtain ⟨yid, qx, qy, qz, ux, uy, uz, yang, ygen⟩ := y
  unfold entV
  dsimp only at c ⊢
  clear hx hy h
  go_enter Tryz.func248, Tryz.ntmps248
  go_wp2_with fail
  have hB0 : Below w.heap.size w ((((w.alloc (.cells #[] 232)).alloc (.cells #[.int .i64 xid, .int .i64 px, .int .i64 py, .int .i64 pz, .int .i64 vx, .int .i64 vy, .int .i64 vz, .int .u16 ang, .int .u8 gen] 33)).alloc (.cells #[.int .i64 yid, .int .i64 qx, .int .i64 qy, .int .i64 qz, .int .i64 ux, .int .i64 uy, .int .i64 uz, .int .u16 yang, .int .u8 ygen] 33)).alloc (.cells #[.int .i64 0, .int .i64 0, .int .i64 0] 22)) := by (repeat (first | exact Below.refl _ _ | assumption | (refine Below.drew ?_) | (refine below_drewN ?_ _) | (refine Below.alloc ?_ (by simp <;> omega) _) | (refine Below.setCell ?_ (by simp <;> omega) _)))
  have B4 := Blk.new (((w.alloc (.cells #[] 232)).alloc (.cells #[.int .i64 xid, .int .i64 px, .int .i64 py, .int .i64 pz, .int .i64 vx, .int .i64 vy, .int .i64 vz, .int .u16 ang, .int .u8 gen] 33)).alloc (.cells #[.int .i64 yid, .int .i64 qx, .int .i64 qy, .int .i64 qz, .int .i64 ux, .int .i64 uy, .int .i64 uz, .int .u16 yang, .int .u8 ygen] 33)) #[.int .i64 0, .int .i64 0, .int .i64 0] 22
  refine (c _).mono ?_; rintro e w1 ⟨rfl, hb1⟩
  have HB1 : Hid (Below w.heap.size w w1) := Lib.hid (hB0.trans (hb1.mono hB0.size))
  have B41 := B4.below hb1 B4.lt
  simp only [World.size_alloc] at B41
  have hs := HB1.out.size
  clear hB0 B4 hb1 c
  have r4 := B41.cell 0; have r5 := B41.cell 1; have r6 := B41.cell 2
  have f4 := B41.free 0; have f5 := B41.free 1; have f6 := B41.free 2
  have hl := B41.lt
  simp at r4 r5 r6
  clear B41
  go_wp2
  have HB2 := HB1.out
  exact bodyPost_ret (v := v3 r0 r1 r2) (by simp [results, Tryz.results248, go_sem, *]) rfl ⟨rfl, by (repeat (first | exact Below.refl _ _ | assumption | (refine Below.drew ?_) | (refine below_drewN ?_ _) | (refine Below.alloc ?_ (by simp <;> omega) _) | (refine Below.setCell ?_ (by simp <;> omega) _)))⟩
def SnsAt (w : World) (s : Option Addr) (len : Nat) (K T : Nat → Int) (E : Nat → Option Addr × Nat × Nat) (EE : Nat → Nat → Ent) : Prop :=
  SnapsAt w s len K T E ∧ ∀ i, i < len → EntsAt w (E i).1 (E i).2.1 (EE i) ∧ ((E i).2.1 : Int) ≤ 4611686018427387904
theorem SnsAt.below {w w' : World} {s : Option Addr} {len : Nat} {K T : Nat → Int} {E : Nat → Option Addr × Nat × Nat} {EE : Nat → Nat → Ent} (h : SnsAt w s len K T E EE) (hb : Below w.heap.size w w') : SnsAt w' s len K T E EE :=
  ⟨h.1.below hb, fun i hi => ⟨(h.2 i hi).1.below hb, (h.2 i hi).2⟩⟩
def chkS (K T : Nat → Int) (E : Nat → Option Addr × Nat × Nat) (EE : Nat → Nat → Ent) : Nat → Nat → Int
  | 0, _ => 0
  | n + 1, i => if snapChk (K i) (T i) (E i).2.1 (EE i) = 0 then chkS K T E EE n (i + 1) else snapChk (K i) (T i) (E i).2.1 (EE i)
def pchk (c : Cfg) (K T : Nat → Int) (E : Nat → Option Addr × Nat × Nat) (EE : Nat → Nat → Ent) (len : Nat) : Int := if cchk c = 0 then chkS K T E EE len 0 else cchk c
set_option maxHeartbeats 1000000 in
theorem pcheck_f (c : Cfg) (s : Option Addr) (len cap : Nat) (K T : Nat → Int) (E : Nat → Option Addr × Nat × Nat) (EE : Nat → Nat → Ent) (w : World) (h : SnsAt w s len K T E EE) (hlen : (len : Int) ≤ 4611686018427387904) :
    Calls Tryz.prog 45 #[cfgV c, .slice s len cap] w fun e w' => e = .returned (.int .i64 (pchk c K T E EE len)) ∧ Below w.heap.size w w' := by
  have CC := ccheck_f c
  obtain ⟨hs, he⟩ := h
  have HE := Lib.hid he
  unfold cfgV at CC ⊢
  clear he
  by_cases hc : cchk c = 0
  · have HP : Hid (pchk c K T E EE len = chkS K T E EE len 0) := Lib.hid (by unfold pchk; rw [if_pos hc])
    rw [hc] at CC
    generalize pchk c K T E EE len = r at *
    clear hc
    rcases hs with hz | ⟨b, off, rfl, hb, hcs⟩
    all_goals
      go_enter Tryz.func45, Tryz.ntmps45
      go_wp2_with fail
      refine (CC _).mono ?_; rintro e w1 ⟨rfl, hb1⟩
      have HB1 : Hid (Below w.heap.size w w1) := Lib.hid (((Below.refl _ _).alloc (Nat.le_refl _) _).trans (hb1.mono (by simp)))
      clear hb1 CC
      go_wp2_with fail
      go_loopw [16] (fun i wr => ∃ k : Nat, k ≤ len ∧ i = .int .i64 k ∧ chkS K T E EE len 0 = chkS K T E EE (len - k) k ∧ Below w.heap.size w wr) (fun i _ => len - (intOf i).toNat)
      case atStart => exact ⟨0, Nat.zero_le _, rfl, rfl, HB1.out⟩
      case round =>
        rename_i wr
        obtain ⟨k, hk, rfl, hch, hB⟩ := hrel
        have hsz := hB.size
        by_cases hlt : k < len
        · first
          | (exfalso; omega)
          | (obtain ⟨n, hn⟩ : ∃ n, len - k = n + 1 := ⟨len - k - 1, by omega⟩
             have hn2 : len - (k + 1) = n := by omega
             rw [hn] at hch
             obtain ⟨d0, d1, d2⟩ := hcs k hlt
             have c0 := (hB.cell (p := ⟨b, off + k * 3, none⟩) hb).trans d0
             have c1 := (hB.cell (p := ⟨b, off + k * 3 + 1, none⟩) hb).trans d1
             have c2 := (hB.cell (p := ⟨b, off + k * 3 + 2, none⟩) hb).trans d2
             obtain ⟨he1, he2⟩ := HE.out k hlt
             have DC := Lib.hid (fun w' (hw : Below w.heap.size w w') => delchk_f (K k) (T k) (E k).1 (E k).2.1 (E k).2.2 (EE k) w' (he1.below hw) he2)
             unfold snapV at DC
             have HCH : Hid (chkS K T E EE len 0 = if snapChk (K k) (T k) (E k).2.1 (EE k) = 0 then chkS K T E EE n (k + 1) else snapChk (K k) (T k) (E k).2.1 (EE k)) := Lib.hid hch
             have HC := Lib.hid hcs
             have HB := Lib.hid hB
             have hlt' : (k : Int) < len := by omega
             clear hch hcs hn d0 d1 d2 he1 he2 hB
             generalize snapChk (K k) (T k) (E k).2.1 (EE k) = sc at *
             generalize K k = kk at *
             generalize T k = tt at *
             generalize (E k).1 = ea at *
             generalize (E k).2.1 = el at *
             generalize (E k).2.2 = ec at *
             have dc := DC.out _ (HB.out.alloc hsz (.cells #[.int .i64 kk, .int .i64 tt, .slice ea el ec] 36))
             by_cases r0 : sc = 0
             · have HF : Hid (chkS K T E EE len 0 = chkS K T E EE n (k + 1)) := Lib.hid (by rw [HCH.out, if_pos r0])
               subst r0
               clear HCH
               go_wp2_with fail
               refine dc.mono ?_; rintro e w2 ⟨rfl, hb2⟩
               have HB2 := Lib.hid ((HB.out.alloc hsz _).trans (hb2.mono (by simp; omega)))
               clear hb2 dc c0 c1 c2
               go_wp2
               go_roundw
               case rel => exact ⟨k + 1, by omega, by go_num, by rw [hn2]; exact HF.out, HB2.out⟩
               case measure => simp [intOf]; omega
             · have HF : Hid (chkS K T E EE len 0 = sc) := Lib.hid (by rw [HCH.out, if_neg r0])
               have r1 : (sc != 0) = true := by simpa using r0
               clear HCH r0
               go_wp2_with fail
               refine dc.mono ?_; rintro e w2 ⟨rfl, hb2⟩
               have HB2 := Lib.hid ((HB.out.alloc hsz _).trans (hb2.mono (by simp; omega)))
               clear hb2 dc c0 c1 c2
               go_wp2
               go_ret
               exact ⟨ret_int (by rw [HP.out, HF.out]), HB2.out⟩)
        · obtain rfl : k = len := by omega
          have HF : Hid (chkS K T E EE k 0 = 0) := Lib.hid (by rw [hch, Nat.sub_self]; rfl)
          clear hch
          go_wp2
          go_ret
          exact ⟨ret_int (by rw [HP.out, HF.out]), hB⟩
  · have HP : Hid (pchk c K T E EE len = cchk c) := Lib.hid (by unfold pchk; rw [if_neg hc])
    generalize pchk c K T E EE len = r at *
    generalize cchk c = cc at *
    have hc1 : (cc != 0) = true := by simpa using hc
    clear hc
    go_enter Tryz.func45, Tryz.ntmps45
    go_wp2_with fail
    refine (CC _).mono ?_; rintro e w1 ⟨rfl, hb1⟩
    have HB1 : Hid (Below w.heap.size w w1) := Lib.hid (((Below.refl _ _).alloc (Nat.le_refl _) _).trans (hb1.mono (by simp)))
    clear hb1 CC
    go_wp2
    go_ret
    exact ⟨ret_int HP.out.symm, HB1.out⟩
set_option maxRecDepth 8000
theorem of_line (c : Cfg) (h : c.curved = false) (w : World) :
  Calls Tryz.prog 97 #[cfgV c] w fun e w'=>e = .returned (.iface 233 (.agg #[])) ∧ Below w.heap.size w w':=by
 unfold cfgV
 go_enter Tryz.func97,Tryz.ntmps97
 go_wp2
 go_ret
 exact ⟨rfl,by (repeat (first | exact Below.refl _ _ | assumption | (refine Below.drew ?_) | (refine below_drewN ?_ _) | (refine Below.alloc ?_ (by simp <;> omega) _) | (refine Below.setCell ?_ (by simp <;> omega) _)))⟩
theorem of_curved (c : Cfg) (h : c.curved = true) (w : World) :
  Calls Tryz.prog 97 #[cfgV c] w fun e w'=>e = .returned (.iface 232 (.agg #[])) ∧ Below w.heap.size w w':=by
 unfold cfgV
 go_enter Tryz.func97,Tryz.ntmps97
 go_wp2
 go_ret
 exact ⟨rfl,by (repeat (first | exact Below.refl _ _ | assumption | (refine Below.drew ?_) | (refine below_drewN ?_ _) | (refine Below.alloc ?_ (by simp <;> omega) _) | (refine Below.setCell ?_ (by simp <;> omega) _)))⟩
def PoCells (w : World) (b o : Nat) (p : Po) : Prop:=w.cell? ⟨b,o,none⟩ = some (.int .i64 (p).id) ∧ w.cell? ⟨b,o + 1,none⟩ = some (.int .i64 (p).px) ∧ w.cell? ⟨b,o + 2,none⟩ = some (.int .i64 (p).py) ∧ w.cell? ⟨b,o + 3,none⟩ = some (.int .i64 (p).pz) ∧ w.cell? ⟨b,o + 4,none⟩ = some (.int .u16 (p).ang) ∧ w.cell? ⟨b,o + 5,none⟩ = some (.int .i64 (p).mode)
def PosesAt (w : World) (s : Option Addr) (n : Nat) (P : Nat → Po) : Prop :=
 n = 0 ∨ ∃ b off,s = some ⟨b,off,none⟩ ∧ b < w.heap.size ∧ ∀ i,i < n → PoCells w b (off + i * 6) (P i)
theorem PoCells.below {w w' : World} {b o : Nat} {p : Po} (h : PoCells w b o p) (hb : Below w.heap.size w w') (hl : b < w.heap.size) : PoCells w' b o p:=by
 unfold PoCells at *
 refine ⟨?_,?_,?_,?_,?_,?_⟩ <;> (rw [hb.cell (by simpa using hl)];first | exact h.1 | exact h.2.1 | exact h.2.2.1 | exact h.2.2.2.1 | exact h.2.2.2.2.1 | exact h.2.2.2.2.2)
def poL (P : Nat → Po) : Nat → List Value
 | 0=>[]
 | k + 1=>poL P k ++ [.int .i64 (P k).id,.int .i64 (P k).px,.int .i64 (P k).py,.int .i64 (P k).pz,.int .u16 (P k).ang,.int .i64 (P k).mode]
theorem poL_length (P : Nat → Po) : ∀ k,(poL P k).length = k * 6
 | 0=>rfl
 | k + 1=>by rw [poL,List.length_append,poL_length P k];simp;omega
theorem poL_at (P : Nat → Po) : ∀ k i,i < k → (poL P k)[i * 6]? = some (.int .i64 (P i).id) ∧ (poL P k)[i * 6 + 1]? = some (.int .i64 (P i).px) ∧ (poL P k)[i * 6 + 2]? = some (.int .i64 (P i).py) ∧ (poL P k)[i * 6 + 3]? = some (.int .i64 (P i).pz) ∧ (poL P k)[i * 6 + 4]? = some (.int .u16 (P i).ang) ∧ (poL P k)[i * 6 + 5]? = some (.int .i64 (P i).mode)
 | 0,i,h=>by omega
 | k + 1,i,h=>by
  have hl:=poL_length P k
  rw [poL]
  by_cases e : i = k
  ·subst e
   rw [List.getElem?_append_right (by omega),List.getElem?_append_right (by omega),List.getElem?_append_right (by omega),List.getElem?_append_right (by omega),List.getElem?_append_right (by omega),List.getElem?_append_right (by omega),hl,show i * 6 - i * 6 = 0 by omega,show i * 6 + 1 - i * 6 = 1 by omega,show i * 6 + 2 - i * 6 = 2 by omega,show i * 6 + 3 - i * 6 = 3 by omega,show i * 6 + 4 - i * 6 = 4 by omega,show i * 6 + 5 - i * 6 = 5 by omega]
   exact ⟨rfl,rfl,rfl,rfl,rfl,rfl⟩
  ·rw [List.getElem?_append_left (by omega),List.getElem?_append_left (by omega),List.getElem?_append_left (by omega),List.getElem?_append_left (by omega),List.getElem?_append_left (by omega),List.getElem?_append_left (by omega)]
   exact poL_at P k i (by omega)
theorem poses_of_row {w : World} {base : Nat} {v : Value} {k : Nat} {P : Nat → Po} (h : w.ownsRow base 52 6 v k (poL P k)) :
  ∃ s cp,v = .slice s k cp ∧ PosesAt w s k P:=by
 have h':=h
 obtain ⟨_,⟨rfl,rfl⟩ | ⟨g,cap,cur,rfl,hb,hg,hk,hm,hs,ht⟩⟩:=h'
 ·exact ⟨none,0,rfl,.inl rfl⟩
 ·refine ⟨_,_,rfl,.inr ⟨g,0,rfl,?_,fun i hi=>?_⟩⟩
  ·exact (Array.getElem?_eq_some_iff.1 hg).1
  ·obtain ⟨a0,a1,a2,a3,a4,a5⟩:=poL_at P k i hi
   have c:=h.cells (g:=g) rfl
   have e : ∀ j,(⟨g,0,none⟩ : Addr).add j = ⟨g,0 + j,none⟩:=fun j=>by unfold Addr.add;split <;> simp_all
   exact ⟨by rw [← e];exact c _ _ a0,by rw [Nat.add_assoc,← e];exact c _ _ a1,by rw [Nat.add_assoc,← e];exact c _ _ a2,by rw [Nat.add_assoc,← e];exact c _ _ a3,by rw [Nat.add_assoc,← e];exact c _ _ a4,by rw [Nat.add_assoc,← e];exact c _ _ a5⟩
theorem own_below {w w' : World} {base : Nat} {e : TypeId} {size : Nat} {v : Value} {n : Nat} {xs : List Value} (h : w.ownsRow base e size v n xs) (hb : Below w.heap.size w w') : w'.ownsRow base e size v n xs:=by
 obtain ⟨h1,h2⟩:=h
 refine ⟨h1,?_⟩
 rcases h2 with h2 | ⟨g,cap,cur,hv,hg,hh,r⟩
 ·exact Or.inl h2
 ·exact Or.inr ⟨g,cap,cur,hv,hg,by rw [hb.block g (Array.getElem?_eq_some_iff.1 hh).1];exact hh,r⟩
theorem ent_cells {w : World} {b : Nat} {t : TypeId} {x0 x1 x2 x3 x4 x5 x6 x7 x8 : Value} (h : Blk w b #[x0,x1,x2,x3,x4,x5,x6,x7,x8] t) :
  w.cell? ⟨b,0,none⟩ = some x0 ∧ w.cell? ⟨b,1,none⟩ = some x1 ∧ w.cell? ⟨b,2,none⟩ = some x2 ∧ w.cell? ⟨b,3,none⟩ = some x3 ∧ w.cell? ⟨b,4,none⟩ = some x4 ∧ w.cell? ⟨b,5,none⟩ = some x5 ∧ w.cell? ⟨b,6,none⟩ = some x6 ∧ w.cell? ⟨b,7,none⟩ = some x7 ∧ w.cell? ⟨b,8,none⟩ = some x8 :=
 ⟨by simpa using h.cell 0,by simpa using h.cell 1,by simpa using h.cell 2,by simpa using h.cell 3,by simpa using h.cell 4,by simpa using h.cell 5,by simpa using h.cell 6,by simpa using h.cell 7,by simpa using h.cell 8⟩
theorem po_cells {w : World} {b : Nat} {t : TypeId} {x0 x1 x2 x3 x4 x5 : Value} (h : Blk w b #[x0,x1,x2,x3,x4,x5] t) :
  w.cell? ⟨b,0,none⟩ = some x0 ∧ w.cell? ⟨b,1,none⟩ = some x1 ∧ w.cell? ⟨b,2,none⟩ = some x2 ∧ w.cell? ⟨b,3,none⟩ = some x3 ∧ w.cell? ⟨b,4,none⟩ = some x4 ∧ w.cell? ⟨b,5,none⟩ = some x5 :=
 ⟨by simpa using h.cell 0,by simpa using h.cell 1,by simpa using h.cell 2,by simpa using h.cell 3,by simpa using h.cell 4,by simpa using h.cell 5⟩
theorem po_free {w : World} {b : Nat} {t : TypeId} {cs : Array Value} (h : Blk w b cs t) :
  w.frozen? ⟨b,0,none⟩ = false ∧ w.frozen? ⟨b,1,none⟩ = false ∧ w.frozen? ⟨b,2,none⟩ = false ∧ w.frozen? ⟨b,3,none⟩ = false ∧ w.frozen? ⟨b,4,none⟩ = false ∧ w.frozen? ⟨b,5,none⟩ = false :=
 ⟨h.free 0,h.free 1,h.free 2,h.free 3,h.free 4,h.free 5⟩
theorem sn_cells {w : World} {b : Nat} {t : TypeId} {x0 x1 x2 : Value} (h : Blk w b #[x0,x1,x2] t) :
  w.cell? ⟨b,0,none⟩ = some x0 ∧ w.cell? ⟨b,1,none⟩ = some x1 ∧ w.cell? ⟨b,2,none⟩ = some x2 :=
 ⟨by simpa using h.cell 0,by simpa using h.cell 1,by simpa using h.cell 2⟩
theorem infoPose : (Tryz.prog.info? 52).map (fun i=>(i.zero,i.size,i.bytes)) = some (some (.agg #[.int .i64 0,.int .i64 0,.int .i64 0,.int .i64 0,.int .u16 0,.int .i64 0]),6,48):=by kernel_rfl
theorem ent0_ok : ent0.Ok:=by
 constructor <;> (simp only [ent0];first | exact ⟨by omega,by omega⟩ | (unfold I64;omega))
theorem fdE_ok {w : World} {a : Option Addr} {len : Nat} {E : Nat → Ent} (h : EntsAt w a len E) (id : Int) : (fdE E id len).Ok:=by
 unfold fdE
 split
 ·rename_i hj;exact h.1 _ hj
 ·exact ent0_ok
theorem sns2 (w : World) (k0 t0 k1 t1 : Int) (a b : Option Addr) (la ca lb cb : Nat) (A B : Nat → Ent) (ha : EntsAt w a la A) (hb : EntsAt w b lb B) (hla : (la : Int) ≤ 4611686018427387904) (hlb : (lb : Int) ≤ 4611686018427387904) :
  SnsAt (w.alloc (.cells #[.int .i64 k0,.int .i64 t0,.slice a la ca,.int .i64 k1,.int .i64 t1,.slice b lb cb] 36)) (some ⟨w.heap.size,0,none⟩) 2 (two k0 k1) (two t0 t1) (two (a,la,ca) (b,lb,cb)) (two A B):=by
 refine ⟨snaps2 w k0 t0 k1 t1 a b la ca lb cb,fun i hi=>?_⟩
 have hB : Below w.heap.size w (w.alloc (.cells #[.int .i64 k0,.int .i64 t0,.slice a la ca,.int .i64 k1,.int .i64 t1,.slice b lb cb] 36)):=(Below.refl _ _).alloc (Nat.le_refl _) _
 match i,hi with
 | 0,_=>exact ⟨ha.below hB,hla⟩
 | 1,_=>exact ⟨hb.below hB,hlb⟩
theorem sns1 (w : World) (k0 t0 : Int) (a : Option Addr) (la ca : Nat) (A : Nat → Ent) (ha : EntsAt w a la A) (hla : (la : Int) ≤ 4611686018427387904) :
  SnsAt (w.alloc (.cells #[.int .i64 k0,.int .i64 t0,.slice a la ca] 36)) (some ⟨w.heap.size,0,none⟩) 1 (fun _=>k0) (fun _=>t0) (fun _=>(a,la,ca)) (fun _=>A) :=
 ⟨snaps1 w k0 t0 a la ca,fun i hi=>⟨ha.below ((Below.refl _ _).alloc (Nat.le_refl _) _),hla⟩⟩
set_option maxRecDepth 100000
theorem part_fine {a b t : Int} (h : partE a b t = 0) : fineB (partN a b t) (partD a b t) = true ∧ a ≤ t ∧ t ≤ b ∧ a < b ∧ (-2305843009213693952 ≤ a ∧ a ≤ 2305843009213693952) ∧ (-2305843009213693952 ≤ b ∧ b ≤ 2305843009213693952) ∧ partN a b t = t - a ∧ partD a b t = b - a := by
  have hn : partN a b t = t - a := by unfold partN; rw [if_pos h]
  have hd : partD a b t = b - a := by unfold partD; rw [if_pos h]
  have hc : chkT (two a b) 2 = 0 := by
    unfold partE at h
    split at h
    · assumption
    · assumption
  have h1 : ¬ (t < a ∨ b < t) := by
    unfold partE at h
    rw [if_pos hc] at h
    intro hh; rw [if_pos hh] at h; exact absurd h (by decide)
  have b0 := chk_bounds hc (show 0 < 2 by omega)
  have b1 := chk_bounds hc (show 1 < 2 by omega)
  have b2 := chk_mono hc (show 0 < 1 by omega) (show 1 < 2 by omega)
  simp only [two] at b0 b1 b2
  refine ⟨?_, by omega, by omega, b2, b0, b1, hn, hd⟩
  rw [hn, hd]
  exact fineB_iff.2 ⟨by omega, by omega, by omega, by omega⟩
theorem own_only {w w' : World} {S : Nat → Prop} {base : Nat} {e : TypeId} {size : Nat} {v : Value} {n : Nat} {xs : List Value} (h : w.ownsRow base e size v n xs) (ho : Only S w w') (hS : ∀ j, v.ownBlock = some j → ¬ S j) : w'.ownsRow base e size v n xs := by
  obtain ⟨h1, h2⟩ := h
  refine ⟨h1, ?_⟩
  rcases h2 with h2 | ⟨g, cap, cur, hv, hg, hh, r⟩
  · exact Or.inl h2
  · exact Or.inr ⟨g, cap, cur, hv, hg, by rw [ho.block g (Array.getElem?_eq_some_iff.1 hh).1 (hS g (by rw [hv]; rfl))]; exact hh, r⟩
theorem alerp_b (a b num den : Int) (ha : U16 a) (hb : U16 b) (h : fineB num den = true) (w : World) :
    Calls Tryz.prog 98 #[.int .u16 a, .int .u16 b, .int .i64 num, .int .i64 den] w fun e w' => e = .returned (.tuple #[.int .u16 (alerpF a b num den), .int .i64 0]) ∧ Below w.heap.size w w' :=
  (alerp_f a b num den ha hb h w).mono fun e w' ⟨h1, n, h2⟩ => ⟨h1, by rw [h2]; exact below_drewN (Below.refl _ _) n⟩
theorem cells_new {U : World} {n : Nat} {cs : Array Value} {t : TypeId} (hn : U.heap.size = n) : ∀ (j : Nat) (u : Value), cs.toList[j]? = some u → (U.alloc (.cells cs t)).cell? ((⟨n, 0, none⟩ : Addr).add j) = some u := by
  intro j u h
  subst hn
  have e : (⟨U.heap.size, 0, none⟩ : Addr).add j = ⟨U.heap.size, j, none⟩ := by unfold Addr.add; split <;> simp_all
  rw [e, (Blk.new U cs t).cell j]
  simpa using h
theorem sets4 {w : World} {b : Nat} {cs : Array Value} {t : TypeId} (h : Blk w b cs t) (i0 : Nat) (v0 : Value) (i1 : Nat) (v1 : Value) (i2 : Nat) (v2 : Value) (i3 : Nat) (v3 : Value) :
    Blk ((((w.setCell ⟨b, i0, none⟩ v0).setCell ⟨b, i1, none⟩ v1).setCell ⟨b, i2, none⟩ v2).setCell ⟨b, i3, none⟩ v3) b ((((cs.setIfInBounds i0 v0).setIfInBounds i1 v1).setIfInBounds i2 v2).setIfInBounds i3 v3) t ∧
      Only (· = b) w ((((w.setCell ⟨b, i0, none⟩ v0).setCell ⟨b, i1, none⟩ v1).setCell ⟨b, i2, none⟩ v2).setCell ⟨b, i3, none⟩ v3) :=
  ⟨(((h.set i0 v0).set i1 v1).set i2 v2).set i3 v3, ((((Only.refl (· = b) w).setCell (.inl rfl) _).setCell (.inl rfl) _).setCell (.inl rfl) _).setCell (.inl rfl) _⟩
def btwP (cur : Bool) (x y : Ent) (ok : Bool) (num den : Int) : Po :=
  if ok = true ∧ y.gen = x.gen then
    (if cur = true then ⟨x.id, curveF x.px x.vx y.px y.vx num den, curveF x.py x.vy y.py y.vy num den, curveF x.pz x.vz y.pz y.vz num den, alerpF x.ang y.ang num den, 2⟩
     else ⟨x.id, lerpF x.px y.px num den, lerpF x.py y.py num den, lerpF x.pz y.pz num den, alerpF x.ang y.ang num den, 1⟩)
  else exactP x
def btwF (cur : Bool) (A B : Nat → Ent) (lb : Nat) (num den : Int) (i : Nat) : Po := btwP cur (A i) (fdE B (A i).id lb) (fdB B (A i).id lb) num den
def chk2 (c : Cfg) (ka ta : Int) (aa : Option Addr) (la ca : Nat) (A : Nat → Ent) (kb tb : Int) (ab : Option Addr) (lb cb : Nat) (B : Nat → Ent) : Int :=
  pchk c (two ka kb) (two ta tb) (two (aa, la, ca) (ab, lb, cb)) (two A B) 2
theorem snapChk_len {tick time : Int} {len : Nat} {E : Nat → Ent} (h : snapChk tick time len E = 0) : len ≤ 64 := by
  unfold snapChk at h
  split at h
  · exact absurd h (by decide)
  · split at h
    · exact absurd h (by decide)
    · omega
theorem chk2_len {c : Cfg} {ka ta : Int} {aa : Option Addr} {la ca : Nat} {A : Nat → Ent} {kb tb : Int} {ab : Option Addr} {lb cb : Nat} {B : Nat → Ent} (h : chk2 c ka ta aa la ca A kb tb ab lb cb B = 0) : la ≤ 64 := by
  unfold chk2 pchk at h
  split at h
  · have h2 : snapChk ka ta la A = 0 := by
      by_cases e : snapChk ka ta la A = 0
      · exact e
      · have : chkS (two ka kb) (two ta tb) (two (aa, la, ca) (ab, lb, cb)) (two A B) 2 0 = snapChk ka ta la A := by
          show (if snapChk ka ta la A = 0 then _ else snapChk ka ta la A) = _
          rw [if_neg e]
        rw [this] at h; exact h
    exact snapChk_len h2
  · contradiction
set_option maxHeartbeats 1000000 in
theorem pbtw_bad (c : Cfg) (ka ta : Int) (aa : Option Addr) (la ca : Nat) (A : Nat → Ent) (kb tb : Int) (ab : Option Addr) (lb cb : Nat) (B : Nat → Ent) (at0 : Int) (w : World) (ha : EntsAt w aa la A) (hb : EntsAt w ab lb B) (hla : (la : Int) ≤ 4611686018427387904) (hlb : (lb : Int) ≤ 4611686018427387904) (h0 : chk2 c ka ta aa la ca A kb tb ab lb cb B ≠ 0) :
    Calls Tryz.prog 48 #[cfgV c, snapV ka ta aa la ca, snapV kb tb ab lb cb, .int .i64 at0] w fun e w' => e = .returned (.tuple #[.slice none 0 0, .int .i64 (chk2 c ka ta aa la ca A kb tb ab lb cb B)]) ∧ Below w.heap.size w w' := by
  have hB3 : Below w.heap.size w (((w.alloc (.cells #[.int .i64 c.ring, .int .i64 c.window, .int .i64 c.base, .int .i64 c.gain, .int .i64 c.least, .int .i64 c.most, .int .i64 c.slack, .int .i64 c.num, .int .i64 c.den, .int .i64 c.extra, .bool c.curved] 29)).alloc (.cells #[.int .i64 ka, .int .i64 ta, .slice aa la ca] 36)).alloc (.cells #[.int .i64 kb, .int .i64 tb, .slice ab lb cb] 36)) := (((Below.refl _ _).alloc (Nat.le_refl _) _).alloc (by simp) _).alloc (by simp; omega) _
  have bc := (((Blk.new w #[.int .i64 c.ring, .int .i64 c.window, .int .i64 c.base, .int .i64 c.gain, .int .i64 c.least, .int .i64 c.most, .int .i64 c.slack, .int .i64 c.num, .int .i64 c.den, .int .i64 c.extra, .bool c.curved] 29).alloc (.cells #[.int .i64 ka, .int .i64 ta, .slice aa la ca] 36)).alloc (.cells #[.int .i64 kb, .int .i64 tb, .slice ab lb cb] 36))
  have ba := ((Blk.new (w.alloc (.cells #[.int .i64 c.ring, .int .i64 c.window, .int .i64 c.base, .int .i64 c.gain, .int .i64 c.least, .int .i64 c.most, .int .i64 c.slack, .int .i64 c.num, .int .i64 c.den, .int .i64 c.extra, .bool c.curved] 29)) #[.int .i64 ka, .int .i64 ta, .slice aa la ca] 36).alloc (.cells #[.int .i64 kb, .int .i64 tb, .slice ab lb cb] 36))
  have bb := Blk.new ((w.alloc (.cells #[.int .i64 c.ring, .int .i64 c.window, .int .i64 c.base, .int .i64 c.gain, .int .i64 c.least, .int .i64 c.most, .int .i64 c.slack, .int .i64 c.num, .int .i64 c.den, .int .i64 c.extra, .bool c.curved] 29)).alloc (.cells #[.int .i64 ka, .int .i64 ta, .slice aa la ca] 36)) #[.int .i64 kb, .int .i64 tb, .slice ab lb cb] 36
  have CK := pcheck_f c (some ⟨(((w.alloc (.cells #[.int .i64 c.ring, .int .i64 c.window, .int .i64 c.base, .int .i64 c.gain, .int .i64 c.least, .int .i64 c.most, .int .i64 c.slack, .int .i64 c.num, .int .i64 c.den, .int .i64 c.extra, .bool c.curved] 29)).alloc (.cells #[.int .i64 ka, .int .i64 ta, .slice aa la ca] 36)).alloc (.cells #[.int .i64 kb, .int .i64 tb, .slice ab lb cb] 36)).heap.size, 0, none⟩) 2 2 _ _ _ _ _ (sns2 (((w.alloc (.cells #[.int .i64 c.ring, .int .i64 c.window, .int .i64 c.base, .int .i64 c.gain, .int .i64 c.least, .int .i64 c.most, .int .i64 c.slack, .int .i64 c.num, .int .i64 c.den, .int .i64 c.extra, .bool c.curved] 29)).alloc (.cells #[.int .i64 ka, .int .i64 ta, .slice aa la ca] 36)).alloc (.cells #[.int .i64 kb, .int .i64 tb, .slice ab lb cb] 36)) ka ta kb tb aa ab la ca lb cb A B (ha.below hB3) (hb.below hB3) hla hlb) (by decide)
  have hs3 : (((w.alloc (.cells #[.int .i64 c.ring, .int .i64 c.window, .int .i64 c.base, .int .i64 c.gain, .int .i64 c.least, .int .i64 c.most, .int .i64 c.slack, .int .i64 c.num, .int .i64 c.den, .int .i64 c.extra, .bool c.curved] 29)).alloc (.cells #[.int .i64 ka, .int .i64 ta, .slice aa la ca] 36)).alloc (.cells #[.int .i64 kb, .int .i64 tb, .slice ab lb cb] 36)).heap.size = w.heap.size + 1 + 1 + 1 := by simp
  change Calls _ _ _ _ (fun e w' => e = .returned (.int .i64 (chk2 c ka ta aa la ca A kb tb ab lb cb B)) ∧ _) at CK
  simp only [World.size_alloc] at ba bb
  unfold cfgV at CK ⊢
  unfold snapV
  generalize chk2 c ka ta aa la ca A kb tb ab lb cb B = z at *
  have hz : (z != 0) = true := by simpa using h0
  go_enter Tryz.func48, Tryz.ntmps48
  go_wp2_with fail
  generalize (((w.alloc (.cells #[.int .i64 c.ring, .int .i64 c.window, .int .i64 c.base, .int .i64 c.gain, .int .i64 c.least, .int .i64 c.most, .int .i64 c.slack, .int .i64 c.num, .int .i64 c.den, .int .i64 c.extra, .bool c.curved] 29)).alloc (.cells #[.int .i64 ka, .int .i64 ta, .slice aa la ca] 36)).alloc (.cells #[.int .i64 kb, .int .i64 tb, .slice ab lb cb] 36)) = W at *
  rw [hs3] at CK
  refine CK.mono ?_; rintro e w1 ⟨rfl, hb1⟩
  have hB1 : Below W.heap.size W w1 := ((Below.refl _ _).alloc (Nat.le_refl _) _).trans (hb1.mono (by simp))
  have HB1 : Hid (Below w.heap.size w w1) := Lib.hid (hB3.trans (hB1.mono hB3.size))
  have SC := Lib.hid (bc.below hB1 bc.lt)
  have SA := Lib.hid (ba.below hB1 ba.lt)
  have SB := Lib.hid (bb.below hB1 bb.lt)
  clear hB3 hb1 hB1 CK bc ba bb hs3
  go_wp2
  exact bodyPost_ret (v := .tuple #[.slice none 0 0, .int .i64 z]) (by simp [results, Tryz.results48, go_sem]) rfl ⟨rfl, HB1.out⟩
set_option maxHeartbeats 1000000 in
theorem pbtw_bad2 (c : Cfg) (ka ta : Int) (aa : Option Addr) (la ca : Nat) (A : Nat → Ent) (kb tb : Int) (ab : Option Addr) (lb cb : Nat) (B : Nat → Ent) (at0 : Int) (w : World) (ha : EntsAt w aa la A) (hb : EntsAt w ab lb B) (hla : (la : Int) ≤ 4611686018427387904) (hlb : (lb : Int) ≤ 4611686018427387904) (h0 : chk2 c ka ta aa la ca A kb tb ab lb cb B = 0) (h1 : partE ta tb at0 ≠ 0) :
    Calls Tryz.prog 48 #[cfgV c, snapV ka ta aa la ca, snapV kb tb ab lb cb, .int .i64 at0] w fun e w' => e = .returned (.tuple #[.slice none 0 0, .int .i64 (partE ta tb at0)]) ∧ Below w.heap.size w w' := by
  have PT := bpart_f ka ta kb tb at0 aa ab la ca lb cb
  have hB3 : Below w.heap.size w (((w.alloc (.cells #[.int .i64 c.ring, .int .i64 c.window, .int .i64 c.base, .int .i64 c.gain, .int .i64 c.least, .int .i64 c.most, .int .i64 c.slack, .int .i64 c.num, .int .i64 c.den, .int .i64 c.extra, .bool c.curved] 29)).alloc (.cells #[.int .i64 ka, .int .i64 ta, .slice aa la ca] 36)).alloc (.cells #[.int .i64 kb, .int .i64 tb, .slice ab lb cb] 36)) := (((Below.refl _ _).alloc (Nat.le_refl _) _).alloc (by simp) _).alloc (by simp; omega) _
  have bc := (((Blk.new w #[.int .i64 c.ring, .int .i64 c.window, .int .i64 c.base, .int .i64 c.gain, .int .i64 c.least, .int .i64 c.most, .int .i64 c.slack, .int .i64 c.num, .int .i64 c.den, .int .i64 c.extra, .bool c.curved] 29).alloc (.cells #[.int .i64 ka, .int .i64 ta, .slice aa la ca] 36)).alloc (.cells #[.int .i64 kb, .int .i64 tb, .slice ab lb cb] 36))
  have ba := ((Blk.new (w.alloc (.cells #[.int .i64 c.ring, .int .i64 c.window, .int .i64 c.base, .int .i64 c.gain, .int .i64 c.least, .int .i64 c.most, .int .i64 c.slack, .int .i64 c.num, .int .i64 c.den, .int .i64 c.extra, .bool c.curved] 29)) #[.int .i64 ka, .int .i64 ta, .slice aa la ca] 36).alloc (.cells #[.int .i64 kb, .int .i64 tb, .slice ab lb cb] 36))
  have bb := Blk.new ((w.alloc (.cells #[.int .i64 c.ring, .int .i64 c.window, .int .i64 c.base, .int .i64 c.gain, .int .i64 c.least, .int .i64 c.most, .int .i64 c.slack, .int .i64 c.num, .int .i64 c.den, .int .i64 c.extra, .bool c.curved] 29)).alloc (.cells #[.int .i64 ka, .int .i64 ta, .slice aa la ca] 36)) #[.int .i64 kb, .int .i64 tb, .slice ab lb cb] 36
  have CK := pcheck_f c (some ⟨(((w.alloc (.cells #[.int .i64 c.ring, .int .i64 c.window, .int .i64 c.base, .int .i64 c.gain, .int .i64 c.least, .int .i64 c.most, .int .i64 c.slack, .int .i64 c.num, .int .i64 c.den, .int .i64 c.extra, .bool c.curved] 29)).alloc (.cells #[.int .i64 ka, .int .i64 ta, .slice aa la ca] 36)).alloc (.cells #[.int .i64 kb, .int .i64 tb, .slice ab lb cb] 36)).heap.size, 0, none⟩) 2 2 _ _ _ _ _ (sns2 (((w.alloc (.cells #[.int .i64 c.ring, .int .i64 c.window, .int .i64 c.base, .int .i64 c.gain, .int .i64 c.least, .int .i64 c.most, .int .i64 c.slack, .int .i64 c.num, .int .i64 c.den, .int .i64 c.extra, .bool c.curved] 29)).alloc (.cells #[.int .i64 ka, .int .i64 ta, .slice aa la ca] 36)).alloc (.cells #[.int .i64 kb, .int .i64 tb, .slice ab lb cb] 36)) ka ta kb tb aa ab la ca lb cb A B (ha.below hB3) (hb.below hB3) hla hlb) (by decide)
  have hs3 : (((w.alloc (.cells #[.int .i64 c.ring, .int .i64 c.window, .int .i64 c.base, .int .i64 c.gain, .int .i64 c.least, .int .i64 c.most, .int .i64 c.slack, .int .i64 c.num, .int .i64 c.den, .int .i64 c.extra, .bool c.curved] 29)).alloc (.cells #[.int .i64 ka, .int .i64 ta, .slice aa la ca] 36)).alloc (.cells #[.int .i64 kb, .int .i64 tb, .slice ab lb cb] 36)).heap.size = w.heap.size + 1 + 1 + 1 := by simp
  change Calls _ _ _ _ (fun e w' => e = .returned (.int .i64 (chk2 c ka ta aa la ca A kb tb ab lb cb B)) ∧ _) at CK
  simp only [World.size_alloc] at ba bb
  unfold cfgV at CK ⊢
  unfold snapV
  rw [h0] at CK
  clear h0
  generalize partE ta tb at0 = z at *
  generalize partN ta tb at0 = num at *
  generalize partD ta tb at0 = den at *
  have hz : (z != 0) = true := by simpa using h1
  go_enter Tryz.func48, Tryz.ntmps48
  go_wp2_with fail
  generalize (((w.alloc (.cells #[.int .i64 c.ring, .int .i64 c.window, .int .i64 c.base, .int .i64 c.gain, .int .i64 c.least, .int .i64 c.most, .int .i64 c.slack, .int .i64 c.num, .int .i64 c.den, .int .i64 c.extra, .bool c.curved] 29)).alloc (.cells #[.int .i64 ka, .int .i64 ta, .slice aa la ca] 36)).alloc (.cells #[.int .i64 kb, .int .i64 tb, .slice ab lb cb] 36)) = W at *
  rw [hs3] at CK
  refine CK.mono ?_; rintro e w1 ⟨rfl, hb1⟩
  have hB1 : Below W.heap.size W w1 := ((Below.refl _ _).alloc (Nat.le_refl _) _).trans (hb1.mono (by simp))
  have HB1 : Hid (Below w.heap.size w w1) := Lib.hid (hB3.trans (hB1.mono hB3.size))
  have SC := Lib.hid (bc.below hB1 bc.lt)
  have SA := Lib.hid (ba.below hB1 ba.lt)
  have SB := Lib.hid (bb.below hB1 bb.lt)
  clear hB3 hb1 hB1 CK bc ba bb hs3
  obtain ⟨a0, a1, a2⟩ := sn_cells SA.out
  obtain ⟨b0, b1, b2⟩ := sn_cells SB.out
  go_wp2_with fail
  refine (PT _).mono ?_; rintro e w2 ⟨rfl, hb2⟩
  have HB2 : Hid (Below w.heap.size w w2) := Lib.hid (HB1.out.trans (hb2.mono HB1.out.size))
  clear hb2 a0 a1 a2 b0 b1 b2 PT
  go_wp2
  exact bodyPost_ret (v := .tuple #[.slice none 0 0, .int .i64 z]) (by simp [results, Tryz.results48, go_sem]) rfl ⟨rfl, HB2.out⟩
set_option maxHeartbeats 4000000 in
theorem pbtw_line (c : Cfg) (hcu : c.curved = false) (ka ta : Int) (aa : Option Addr) (la ca : Nat) (A : Nat → Ent) (kb tb : Int) (ab : Option Addr) (lb cb : Nat) (B : Nat → Ent) (at0 : Int) (w : World) (ha : EntsAt w aa la A) (hb : EntsAt w ab lb B) (hla : (la : Int) ≤ 4611686018427387904) (hlb : (lb : Int) ≤ 4611686018427387904) (h0 : chk2 c ka ta aa la ca A kb tb ab lb cb B = 0) (h1 : partE ta tb at0 = 0) :
    Calls Tryz.prog 48 #[cfgV c, snapV ka ta aa la ca, snapV kb tb ab lb cb, .int .i64 at0] w fun e w' => ∃ s cp, e = .returned (.tuple #[.slice s la cp, .int .i64 0]) ∧ PosesAt w' s la (btwF false A B lb (at0 - ta) (tb - ta)) ∧ Below w.heap.size w w' := by
  obtain ⟨i0, hi, hz0, hz1, hz2⟩ := info_parts infoPose
  have PT := bpart_f ka ta kb tb at0 aa ab la ca lb cb
  have OF := of_line c hcu
  have hl64 := chk2_len h0
  obtain ⟨hfine, _, _, _, _, _, hN, hD⟩ := part_fine h1
  rw [hN, hD] at hfine PT
  rw [h1] at PT
  obtain ⟨num, hnum⟩ : ∃ x, at0 - ta = x := ⟨_, rfl⟩
  obtain ⟨den, hden⟩ : ∃ x, tb - ta = x := ⟨_, rfl⟩
  rw [hnum, hden] at hfine PT ⊢
  clear hN hD h1 hnum hden hcu
  obtain ⟨P, hP⟩ : ∃ P, btwF false A B lb num den = P := ⟨_, rfl⟩
  have HP : Hid (∀ i, P i = btwP false (A i) (fdE B (A i).id lb) (fdB B (A i).id lb) num den) := Lib.hid (fun i => by rw [← hP]; rfl)
  rw [hP]
  clear hP
  have FND := dfind_f
  have EXA := exact_f
  have hB3 : Below w.heap.size w (((w.alloc (.cells #[.int .i64 c.ring, .int .i64 c.window, .int .i64 c.base, .int .i64 c.gain, .int .i64 c.least, .int .i64 c.most, .int .i64 c.slack, .int .i64 c.num, .int .i64 c.den, .int .i64 c.extra, .bool c.curved] 29)).alloc (.cells #[.int .i64 ka, .int .i64 ta, .slice aa la ca] 36)).alloc (.cells #[.int .i64 kb, .int .i64 tb, .slice ab lb cb] 36)) := (((Below.refl _ _).alloc (Nat.le_refl _) _).alloc (by simp) _).alloc (by simp; omega) _
  have bc := (((Blk.new w #[.int .i64 c.ring, .int .i64 c.window, .int .i64 c.base, .int .i64 c.gain, .int .i64 c.least, .int .i64 c.most, .int .i64 c.slack, .int .i64 c.num, .int .i64 c.den, .int .i64 c.extra, .bool c.curved] 29).alloc (.cells #[.int .i64 ka, .int .i64 ta, .slice aa la ca] 36)).alloc (.cells #[.int .i64 kb, .int .i64 tb, .slice ab lb cb] 36))
  have ba := ((Blk.new (w.alloc (.cells #[.int .i64 c.ring, .int .i64 c.window, .int .i64 c.base, .int .i64 c.gain, .int .i64 c.least, .int .i64 c.most, .int .i64 c.slack, .int .i64 c.num, .int .i64 c.den, .int .i64 c.extra, .bool c.curved] 29)) #[.int .i64 ka, .int .i64 ta, .slice aa la ca] 36).alloc (.cells #[.int .i64 kb, .int .i64 tb, .slice ab lb cb] 36))
  have bb := Blk.new ((w.alloc (.cells #[.int .i64 c.ring, .int .i64 c.window, .int .i64 c.base, .int .i64 c.gain, .int .i64 c.least, .int .i64 c.most, .int .i64 c.slack, .int .i64 c.num, .int .i64 c.den, .int .i64 c.extra, .bool c.curved] 29)).alloc (.cells #[.int .i64 ka, .int .i64 ta, .slice aa la ca] 36)) #[.int .i64 kb, .int .i64 tb, .slice ab lb cb] 36
  have CK := pcheck_f c (some ⟨(((w.alloc (.cells #[.int .i64 c.ring, .int .i64 c.window, .int .i64 c.base, .int .i64 c.gain, .int .i64 c.least, .int .i64 c.most, .int .i64 c.slack, .int .i64 c.num, .int .i64 c.den, .int .i64 c.extra, .bool c.curved] 29)).alloc (.cells #[.int .i64 ka, .int .i64 ta, .slice aa la ca] 36)).alloc (.cells #[.int .i64 kb, .int .i64 tb, .slice ab lb cb] 36)).heap.size, 0, none⟩) 2 2 _ _ _ _ _ (sns2 (((w.alloc (.cells #[.int .i64 c.ring, .int .i64 c.window, .int .i64 c.base, .int .i64 c.gain, .int .i64 c.least, .int .i64 c.most, .int .i64 c.slack, .int .i64 c.num, .int .i64 c.den, .int .i64 c.extra, .bool c.curved] 29)).alloc (.cells #[.int .i64 ka, .int .i64 ta, .slice aa la ca] 36)).alloc (.cells #[.int .i64 kb, .int .i64 tb, .slice ab lb cb] 36)) ka ta kb tb aa ab la ca lb cb A B (ha.below hB3) (hb.below hB3) hla hlb) (by decide)
  have hs3 : (((w.alloc (.cells #[.int .i64 c.ring, .int .i64 c.window, .int .i64 c.base, .int .i64 c.gain, .int .i64 c.least, .int .i64 c.most, .int .i64 c.slack, .int .i64 c.num, .int .i64 c.den, .int .i64 c.extra, .bool c.curved] 29)).alloc (.cells #[.int .i64 ka, .int .i64 ta, .slice aa la ca] 36)).alloc (.cells #[.int .i64 kb, .int .i64 tb, .slice ab lb cb] 36)).heap.size = w.heap.size + 1 + 1 + 1 := by simp
  change Calls _ _ _ _ (fun e w' => e = .returned (.int .i64 (chk2 c ka ta aa la ca A kb tb ab lb cb B)) ∧ _) at CK
  simp only [World.size_alloc] at ba bb
  unfold cfgV at CK ⊢
  unfold snapV
  go_enter Tryz.func48, Tryz.ntmps48
  go_wp2_with fail
  generalize (((w.alloc (.cells #[.int .i64 c.ring, .int .i64 c.window, .int .i64 c.base, .int .i64 c.gain, .int .i64 c.least, .int .i64 c.most, .int .i64 c.slack, .int .i64 c.num, .int .i64 c.den, .int .i64 c.extra, .bool c.curved] 29)).alloc (.cells #[.int .i64 ka, .int .i64 ta, .slice aa la ca] 36)).alloc (.cells #[.int .i64 kb, .int .i64 tb, .slice ab lb cb] 36)) = W at *
  rw [hs3] at CK
  refine CK.mono ?_; rintro e w1 ⟨rfl, hb1⟩
  have hB1 : Below W.heap.size W w1 := ((Below.refl _ _).alloc (Nat.le_refl _) _).trans (hb1.mono (by simp))
  have HB1 : Hid (Below w.heap.size w w1) := Lib.hid (hB3.trans (hB1.mono hB3.size))
  have SC := Lib.hid (bc.below hB1 bc.lt)
  have SA := Lib.hid (ba.below hB1 ba.lt)
  have SB := Lib.hid (bb.below hB1 bb.lt)
  clear hB3 hb1 hB1 CK bc ba bb hs3
  rw [h0]
  clear h0
  have hokA := ha.1
  have HCA : Hid (∀ k, k < la → ∃ b off, aa = some ⟨b, off, none⟩ ∧ b < w.heap.size ∧ EntCells w b (off + k * 9) (A k)) := Lib.hid (fun k hk => by
    rcases ha.2 with h0 | ⟨b, off, e, hb, hc⟩
    · omega
    · exact ⟨b, off, e, hb, hc k hk⟩)
  obtain ⟨a0, a1, a2⟩ := sn_cells SA.out
  obtain ⟨b0, b1, b2⟩ := sn_cells SB.out
  go_wp2_with fail
  refine (PT _).mono ?_; rintro e w2 ⟨rfl, hb2⟩
  have SCn := Lib.hid (SC.out.below hb2 SC.out.lt)
  clear SC
  have SC := SCn
  clear SCn
  have SAn := Lib.hid (SA.out.below hb2 SA.out.lt)
  clear SA
  have SA := SAn
  clear SAn
  have SBn := Lib.hid (SB.out.below hb2 SB.out.lt)
  clear SB
  have SB := SBn
  clear SBn
  have HB2 : Hid (Below w.heap.size w w2) := Lib.hid (HB1.out.trans (hb2.mono HB1.out.size))
  clear hb2 a0 a1 a2 b0 b1 b2 PT HB1
  obtain ⟨q0, q1, q2, q3, q4, q5, q6, q7, q8, q9, q10⟩ := cfg_cells SC.out
  unfold cfgV at OF
  go_wp2_with fail
  refine (OF _).mono ?_; rintro e W0 ⟨rfl, hb3⟩
  have SAn := Lib.hid (SA.out.below hb3 SA.out.lt)
  clear SA
  have SA := SAn
  clear SAn
  have SBn := Lib.hid (SB.out.below hb3 SB.out.lt)
  clear SB
  have SB := SBn
  clear SBn
  have HW0 : Hid (Below w.heap.size w W0) := Lib.hid (HB2.out.trans (hb3.mono HB2.out.size))
  clear hb3 q0 q1 q2 q3 q4 q5 q6 q7 q8 q9 q10 OF HB2 SC
  obtain ⟨a0, a1, a2⟩ := sn_cells SA.out
  have hs2 := SB.out.lt
  go_wp2_with fail
  clear a0 a1 a2
  go_loopw [15, 45] (fun v i wr => ∃ k : Nat, k ≤ la ∧ i = .int .i64 k ∧ wr.ownsRow W0.heap.size 52 6 v k (poL P k) ∧ Below W0.heap.size W0 wr) (fun _ i _ => la - (intOf i).toNat)
  case atStart => exact ⟨0, Nat.zero_le _, rfl, World.ownsRow_nil _ _ _ _, Below.refl _ _⟩
  case round =>
      rename_i wr
      obtain ⟨k, hk, rfl, hown, hB⟩ := hrel
      have hsz := hB.size
      by_cases hlt : k < la
      · obtain ⟨b, off, hea, hbw, hc⟩ := HCA.out k hlt
        subst hea
        have hcw := hc.below (HW0.out.trans (hB.mono HW0.out.size)) hbw
        have hx := hokA k hlt
        have hy : (fdE B (A k).id lb).Ok := fdE_ok hb (A k).id
        have HPk := Lib.hid (HP.out k)
        have HL : Hid (poL P (k + 1) = poL P k ++ [.int .i64 (P k).id, .int .i64 (P k).px, .int .i64 (P k).py, .int .i64 (P k).pz, .int .u16 (P k).ang, .int .i64 (P k).mode]) := Lib.hid rfl
        have FD := Lib.hid (fun w' (hw : Below w.heap.size w w') => FND kb tb ab lb cb B (A k).id w' (hb.below hw) hlb)
        have EX := EXA (A k)
        unfold entV poV exactP at EX
        unfold entV snapV at FD
        have hkl : (k : Int) < la := by omega
        have HOWN := Lib.hid hown
        have HLT := Lib.hid (fun j e => (hown.lt j e).2)
        have HB := Lib.hid hB
        clear hc hown hB
        generalize P k = pk at *
        generalize fdB B (A k).id lb = fb at *
        generalize fdE B (A k).id lb = y at *
        generalize A k = x at *
        obtain ⟨xid, px, py, pz, vx, vy, vz, ang, gen⟩ := x
        obtain ⟨yid, qx, qy, qz, ux, uy, uz, yang, ygen⟩ := y
        obtain ⟨c0, c1, c2, c3, c4, c5, c6, c7, c8⟩ := hcw
        dsimp only at c0 c1 c2 c3 c4 c5 c6 c7 c8 EX FD
        go_wp2_with fail
        refine (EX _).mono ?_; rintro e w4 ⟨rfl, hb4⟩
        have X4 := Lib.hid ((Blk.new wr #[.int .i64 xid, .int .i64 px, .int .i64 py, .int .i64 pz, .int .i64 vx, .int .i64 vy, .int .i64 vz, .int .u16 ang, .int .u8 gen] 33).below hb4 (by simp))
        have HB4 : Hid (Below W0.heap.size W0 w4) := Lib.hid ((HB.out.alloc hsz _).trans (hb4.mono (by simp; omega)))
        have OW4 := Lib.hid (own_below (HOWN.out.alloc _) hb4)
        have SB4 := Lib.hid (SB.out.below HB4.out SB.out.lt)
        have l4 := X4.out.lt
        have l4b := SB4.out.lt
        clear hb4 EX c0 c1 c2 c3 c4 c5 c6 c7 c8 HB HOWN
        obtain ⟨c0, c1, c2, c3, c4, c5, c6, c7, c8⟩ := ent_cells X4.out
        obtain ⟨b0, b1, b2⟩ := sn_cells SB4.out
        have HB5 : Hid (Below W0.heap.size W0 (w4.alloc (.cells #[.int .i64 xid, .int .i64 px, .int .i64 py, .int .i64 pz, .int .u16 ang, .int .i64 0] 52))) := Lib.hid (HB4.out.alloc HB4.out.size _)
        have fd := FD.out _ (HW0.out.trans (HB5.out.mono HW0.out.size))
        go_wp2_with fail
        refine fd.mono ?_; rintro e w6 ⟨rfl, hb6⟩
        have X6 := Lib.hid ((X4.out.alloc (.cells #[.int .i64 xid, .int .i64 px, .int .i64 py, .int .i64 pz, .int .u16 ang, .int .i64 0] 52)).below hb6 (by simp; omega))
        have P6 := Lib.hid ((Blk.new w4 #[.int .i64 xid, .int .i64 px, .int .i64 py, .int .i64 pz, .int .u16 ang, .int .i64 0] 52).below hb6 (by simp))
        have HB6 : Hid (Below W0.heap.size W0 w6) := Lib.hid (HB5.out.trans (hb6.mono HB5.out.size))
        have OW6 := Lib.hid (own_below (OW4.out.alloc _) hb6)
        have l6 := X6.out.lt
        have l6b := P6.out.lt
        clear hb6 fd FD c0 c1 c2 c3 c4 c5 c6 c7 c8 b0 b1 b2 HB4 HB5 OW4 X4 SB4
        obtain ⟨c0, c1, c2, c3, c4, c5, c6, c7, c8⟩ := ent_cells X6.out
        obtain ⟨p0, p1, p2, p3, p4, p5⟩ := po_cells P6.out
        obtain ⟨f0, f1, f2, f3, f4, f5⟩ := po_free P6.out
        by_cases hm : fb = true ∧ ygen = gen
        · obtain ⟨rfl, rfl⟩ := hm
          have HPK : Hid (pk = ⟨xid, lerpF px qx num den, lerpF py qy num den, lerpF pz qz num den, alerpF ang yang num den, 1⟩) := Lib.hid (by rw [HPk.out]; unfold btwP; rw [if_pos ⟨rfl, rfl⟩]; rfl)
          have PL := Lib.hid (lplace_f ⟨xid, px, py, pz, vx, vy, vz, ang, ygen⟩ ⟨yid, qx, qy, qz, ux, uy, uz, yang, ygen⟩ num den hx hy hfine)
          have AL := Lib.hid (alerp_b ang yang num den hx.ang hy.ang hfine)
          unfold entV at PL
          dsimp only at PL
          generalize lerpF px qx num den = z1 at *
          generalize lerpF py qy num den = z2 at *
          generalize lerpF pz qz num den = z3 at *
          generalize alerpF ang yang num den = z4 at *
          go_wp2_with fail
          have X7 := Lib.hid (X6.out.alloc (.cells #[.int .i64 yid, .int .i64 qx, .int .i64 qy, .int .i64 qz, .int .i64 ux, .int .i64 uy, .int .i64 uz, .int .u16 yang, .int .u8 ygen] 33))
          have P7 := Lib.hid (P6.out.alloc (.cells #[.int .i64 yid, .int .i64 qx, .int .i64 qy, .int .i64 qz, .int .i64 ux, .int .i64 uy, .int .i64 uz, .int .u16 yang, .int .u8 ygen] 33))
          have Y7 := Lib.hid (Blk.new w6 #[.int .i64 yid, .int .i64 qx, .int .i64 qy, .int .i64 qz, .int .i64 ux, .int .i64 uy, .int .i64 uz, .int .u16 yang, .int .u8 ygen] 33)
          have HB7 : Hid (Below W0.heap.size W0 (w6.alloc (.cells #[.int .i64 yid, .int .i64 qx, .int .i64 qy, .int .i64 qz, .int .i64 ux, .int .i64 uy, .int .i64 uz, .int .u16 yang, .int .u8 ygen] 33))) := Lib.hid (HB6.out.alloc HB6.out.size _)
          have OW7 := Lib.hid (OW6.out.alloc (.cells #[.int .i64 yid, .int .i64 qx, .int .i64 qy, .int .i64 qz, .int .i64 ux, .int .i64 uy, .int .i64 uz, .int .u16 yang, .int .u8 ygen] 33))
          clear c0 c1 c2 c3 c4 c5 c6 c7 c8 p0 p1 p2 p3 p4 p5 f0 f1 f2 f3 f4 f5 X6 P6 HB6 OW6
          generalize w6.alloc (.cells #[.int .i64 yid, .int .i64 qx, .int .i64 qy, .int .i64 qz, .int .i64 ux, .int .i64 uy, .int .i64 uz, .int .u16 yang, .int .u8 ygen] 33) = w7 at *
          obtain ⟨c0, c1, c2, c3, c4, c5, c6, c7, c8⟩ := ent_cells X7.out
          obtain ⟨d0, d1, d2, d3, d4, d5, d6, d7, d8⟩ := ent_cells Y7.out
          refine wp_region_calm 9 (by kernel_rfl) (by kernel_rfl) ?_
          simp only [List.take_succ_cons, List.take_zero, List.drop_succ_cons, List.drop_zero]
          repeat (apply wpCalm_step; (next => (intro W hW K hK; have y0 := hW.cell c0; have y1 := hW.cell c1; have y2 := hW.cell c2; have y3 := hW.cell c3; have y4 := hW.cell c4; have y5 := hW.cell c5; have y6 := hW.cell c6; have y7 := hW.cell c7; have y8 := hW.cell c8; have y9 := hW.cell d0; have y10 := hW.cell d1; have y11 := hW.cell d2; have y12 := hW.cell d3; have y13 := hW.cell d4; have y14 := hW.cell d5; have y15 := hW.cell d6; have y16 := hW.cell d7; have y17 := hW.cell d8; go_simp; first | exact ⟨hW, hK⟩ | exact hK)); (next => exact CalmI.self _); (try go_simp))
          (apply wpCalm_step; (next => (intro W hW K hK; go_simp; first | exact ⟨_, hW.call (lmode_f W), hK⟩ | exact ⟨hW, _, hW.call (lmode_f W), hK⟩)); (next => exact CalmI.self _); (try go_simp))
          repeat (apply wpCalm_step; (next => (intro W hW K hK; have y0 := hW.cell c0; have y1 := hW.cell c1; have y2 := hW.cell c2; have y3 := hW.cell c3; have y4 := hW.cell c4; have y5 := hW.cell c5; have y6 := hW.cell c6; have y7 := hW.cell c7; have y8 := hW.cell c8; have y9 := hW.cell d0; have y10 := hW.cell d1; have y11 := hW.cell d2; have y12 := hW.cell d3; have y13 := hW.cell d4; have y14 := hW.cell d5; have y15 := hW.cell d6; have y16 := hW.cell d7; have y17 := hW.cell d8; go_simp; first | exact ⟨hW, hK⟩ | exact hK)); (next => exact CalmI.self _); (try go_simp))
          (apply wpCalm_step; (next => (intro W hW K hK; go_simp; first | exact ⟨_, hW.call (PL.out W), hK⟩ | exact ⟨hW, _, hW.call (PL.out W), hK⟩)); (next => exact CalmI.self _); (try go_simp))
          repeat (apply wpCalm_step; (next => (intro W hW K hK; have y0 := hW.cell c0; have y1 := hW.cell c1; have y2 := hW.cell c2; have y3 := hW.cell c3; have y4 := hW.cell c4; have y5 := hW.cell c5; have y6 := hW.cell c6; have y7 := hW.cell c7; have y8 := hW.cell c8; have y9 := hW.cell d0; have y10 := hW.cell d1; have y11 := hW.cell d2; have y12 := hW.cell d3; have y13 := hW.cell d4; have y14 := hW.cell d5; have y15 := hW.cell d6; have y16 := hW.cell d7; have y17 := hW.cell d8; go_simp; first | exact ⟨hW, hK⟩ | exact hK)); (next => exact CalmI.self _); (try go_simp))
          refine wpCalm_nil ?_
          intro WC hWC
          have hWC' : Below w7.heap.size w7 WC := hWC
          have X8 := Lib.hid (X7.out.below hWC' X7.out.lt)
          have Y8 := Lib.hid (Y7.out.below hWC' Y7.out.lt)
          have P8 := Lib.hid (P7.out.below hWC' P7.out.lt)
          have HB8 : Hid (Below W0.heap.size W0 WC) := Lib.hid (HB7.out.trans (hWC'.mono HB7.out.size))
          have OW8 := Lib.hid (own_below OW7.out hWC')
          clear hWC hWC' c0 c1 c2 c3 c4 c5 c6 c7 c8 d0 d1 d2 d3 d4 d5 d6 d7 d8 X7 Y7 P7 HB7 OW7 PL
          obtain ⟨c0, c1, c2, c3, c4, c5, c6, c7, c8⟩ := ent_cells X8.out
          obtain ⟨d0, d1, d2, d3, d4, d5, d6, d7, d8⟩ := ent_cells Y8.out
          obtain ⟨p0, p1, p2, p3, p4, p5⟩ := po_cells P8.out
          obtain ⟨f0, f1, f2, f3, f4, f5⟩ := po_free P8.out
          go_wp2_with fail
          have Z9 := sets4 P8.out 5 (.int .i64 1) 1 (.int .i64 z1) 2 (.int .i64 z2) 3 (.int .i64 z3)
          clear c0 c1 c2 c3 c4 c5 c6 c7 c8 d0 d1 d2 d3 d4 d5 d6 d7 d8 p0 p1 p2 p3 p4 p5 f0 f1 f2 f3 f4 f5
          obtain ⟨w9, hw9⟩ : ∃ w9, w9 = ((((WC.setCell ⟨w4.heap.size, 5, none⟩ (.int .i64 1)).setCell ⟨w4.heap.size, 1, none⟩ (.int .i64 z1)).setCell ⟨w4.heap.size, 2, none⟩ (.int .i64 z2)).setCell ⟨w4.heap.size, 3, none⟩ (.int .i64 z3)) := ⟨_, rfl⟩
          rw [← hw9] at Z9 ⊢
          clear hw9
          obtain ⟨Z9, O9⟩ := Z9
          simp at Z9
          have X9 := Lib.hid (O9.blk X8.out (by omega))
          have Y9 := Lib.hid (O9.blk Y8.out (by omega))
          have P9 := Lib.hid Z9
          have HB9 : Hid (Below W0.heap.size W0 w9) := Lib.hid (HB8.out.trans (O9.below HB8.out.size (by rintro i rfl; omega)))
          have OW9 := Lib.hid (own_only OW8.out O9 (fun j e h => by have := HLT.out j e; have h2 : j = w4.heap.size := h; omega))
          clear Z9 O9 X8 Y8 P8 HB8 OW8
          refine (AL.out _).mono ?_; rintro e wd ⟨rfl, hbd⟩
          have P10 := P9.out.below hbd P9.out.lt
          have l9 := P10.lt
          have HB10 := HB9.out.trans (hbd.mono HB9.out.size)
          have OW10 := own_below OW9.out hbd
          obtain ⟨p0, p1, p2, p3, p4, p5⟩ := po_cells P10
          obtain ⟨f0, f1, f2, f3, f4, f5⟩ := po_free P10
          have OWZ := Lib.hid (own_only OW10 ((Only.refl (· = w4.heap.size) wd).setCell (p := ⟨w4.heap.size, 4, none⟩) (.inl rfl) (.int .u16 z4)) (fun j e h => by have := HLT.out j e; have h2 : j = w4.heap.size := h; omega))
          have HBZ : Hid (Below W0.heap.size W0 (wd.setCell ⟨w4.heap.size, 4, none⟩ (.int .u16 z4))) := Lib.hid (HB10.setCell (by simp; omega) _)
          clear hbd P10 HB10 OW10 X9 Y9 P9 HB9 OW9
          go_wp2_with (at_builtin; refine wpList_append_own _ rfl (.tmp 87) (.tmp 89) 47 rfl W0.heap.size 52 i0 (.agg #[.int .i64 0, .int .i64 0, .int .i64 0, .int .i64 0, .int .u16 0, .int .i64 0]) 6 48 Tryz.underlying47 hi hz0 hz1 hz2 rfl (by decide) _ _ _ rfl (OWZ.out.alloc _) ⟨wd.heap.size, 0, none⟩ 1 1 [.int .i64 xid, .int .i64 z1, .int .i64 z2, .int .i64 z3, .int .u16 z4, .int .i64 1] rfl rfl ?c1 ?c2 ?c3 ?c4 ?c5 ?_)
          case c1 => exact cells_new (by simp)
          case c2 => intro u hu; simp at hu; rcases hu with rfl | rfl | rfl | rfl | rfl | rfl <;> rfl
          case c3 => unfold maxLen; omega
          case c4 => omega
          case c5 => have := HBZ.out.size; simp at *; omega
          intro v' w10 hown' hgrow _
          have hszz := HBZ.out.size
          have hB' : Hid (Below W0.heap.size W0 w10) := Lib.hid ((HBZ.out.alloc hszz _).grown hgrow (by simp at *; omega) (fun j e => (OWZ.out.lt j e).1))
          have HO : Hid (w10.ownsRow W0.heap.size 52 6 v' (k + 1) (poL P (k + 1))) := Lib.hid (by rw [HL.out, HPK.out]; exact hown')
          clear hown' hgrow
          go_wp2
          go_roundw
          case rel => exact ⟨k + 1, by omega, by go_num, HO.out, hB'.out⟩
          case measure => simp [intOf]; omega
        · have HPK : Hid (pk = ⟨xid, px, py, pz, ang, 0⟩) := Lib.hid (by rw [HPk.out]; unfold btwP; rw [if_neg hm]; rfl)
          have HB7 : Hid (Below W0.heap.size W0 (w6.alloc (.cells #[.int .i64 yid, .int .i64 qx, .int .i64 qy, .int .i64 qz, .int .i64 ux, .int .i64 uy, .int .i64 uz, .int .u16 yang, .int .u8 ygen] 33))) := Lib.hid (HB6.out.alloc HB6.out.size _)
          have OW7 := Lib.hid (OW6.out.alloc (.cells #[.int .i64 yid, .int .i64 qx, .int .i64 qy, .int .i64 qz, .int .i64 ux, .int .i64 uy, .int .i64 uz, .int .u16 yang, .int .u8 ygen] 33))
          cases fb
          · clear hm
            go_wp2_with (at_builtin; refine wpList_append_own _ rfl (.tmp 87) (.tmp 89) 47 rfl W0.heap.size 52 i0 (.agg #[.int .i64 0, .int .i64 0, .int .i64 0, .int .i64 0, .int .u16 0, .int .i64 0]) 6 48 Tryz.underlying47 hi hz0 hz1 hz2 rfl (by decide) _ _ _ rfl (OW7.out.alloc _) ⟨w6.heap.size + 1, 0, none⟩ 1 1 [.int .i64 xid, .int .i64 px, .int .i64 py, .int .i64 pz, .int .u16 ang, .int .i64 0] rfl rfl ?c1 ?c2 ?c3 ?c4 ?c5 ?_)
            case c1 => exact cells_new (by simp)
            case c2 => intro u hu; simp at hu; rcases hu with rfl | rfl | rfl | rfl | rfl | rfl <;> rfl
            case c3 => unfold maxLen; omega
            case c4 => omega
            case c5 => have := HB7.out.size; simp at *; omega
            intro v' w10 hown' hgrow _
            have hszz := HB7.out.size
            have hB' : Hid (Below W0.heap.size W0 w10) := Lib.hid ((HB7.out.alloc hszz _).grown hgrow (by simp at *; omega) (fun j e => (OW7.out.lt j e).1))
            have HO : Hid (w10.ownsRow W0.heap.size 52 6 v' (k + 1) (poL P (k + 1))) := Lib.hid (by rw [HL.out, HPK.out]; exact hown')
            clear hown' hgrow
            go_wp2
            go_roundw
            case rel => exact ⟨k + 1, by omega, by go_num, HO.out, hB'.out⟩
            case measure => simp [intOf]; omega
          · have hg : (ygen == gen) = false := by simpa using hm
            clear hm
            go_wp2_with (at_builtin; refine wpList_append_own _ rfl (.tmp 87) (.tmp 89) 47 rfl W0.heap.size 52 i0 (.agg #[.int .i64 0, .int .i64 0, .int .i64 0, .int .i64 0, .int .u16 0, .int .i64 0]) 6 48 Tryz.underlying47 hi hz0 hz1 hz2 rfl (by decide) _ _ _ rfl (OW7.out.alloc _) ⟨w6.heap.size + 1, 0, none⟩ 1 1 [.int .i64 xid, .int .i64 px, .int .i64 py, .int .i64 pz, .int .u16 ang, .int .i64 0] rfl rfl ?c1 ?c2 ?c3 ?c4 ?c5 ?_)
            case c1 => exact cells_new (by simp)
            case c2 => intro u hu; simp at hu; rcases hu with rfl | rfl | rfl | rfl | rfl | rfl <;> rfl
            case c3 => unfold maxLen; omega
            case c4 => omega
            case c5 => have := HB7.out.size; simp at *; omega
            intro v' w10 hown' hgrow _
            have hszz := HB7.out.size
            have hB' : Hid (Below W0.heap.size W0 w10) := Lib.hid ((HB7.out.alloc hszz _).grown hgrow (by simp at *; omega) (fun j e => (OW7.out.lt j e).1))
            have HO : Hid (w10.ownsRow W0.heap.size 52 6 v' (k + 1) (poL P (k + 1))) := Lib.hid (by rw [HL.out, HPK.out]; exact hown')
            clear hown' hgrow
            go_wp2
            go_roundw
            case rel => exact ⟨k + 1, by omega, by go_num, HO.out, hB'.out⟩
            case measure => simp [intOf]; omega
      · obtain rfl : k = la := by omega
        obtain ⟨s, cp, rfl, hS⟩ := poses_of_row hown
        have HS := Lib.hid hS
        have HBE := Lib.hid (HW0.out.trans (hB.mono HW0.out.size))
        clear hS hown hB
        go_wp2
        exact bodyPost_ret (v := .tuple #[.slice s k cp, .int .i64 0]) (by simp [results, Tryz.results48, go_sem]) rfl ⟨s, cp, rfl, HS.out, HBE.out⟩
set_option maxHeartbeats 4000000 in
theorem pbtw_curved (c : Cfg) (hcu : c.curved = true) (ka ta : Int) (aa : Option Addr) (la ca : Nat) (A : Nat → Ent) (kb tb : Int) (ab : Option Addr) (lb cb : Nat) (B : Nat → Ent) (at0 : Int) (w : World) (ha : EntsAt w aa la A) (hb : EntsAt w ab lb B) (hla : (la : Int) ≤ 4611686018427387904) (hlb : (lb : Int) ≤ 4611686018427387904) (h0 : chk2 c ka ta aa la ca A kb tb ab lb cb B = 0) (h1 : partE ta tb at0 = 0) :
    Calls Tryz.prog 48 #[cfgV c, snapV ka ta aa la ca, snapV kb tb ab lb cb, .int .i64 at0] w fun e w' => ∃ s cp, e = .returned (.tuple #[.slice s la cp, .int .i64 0]) ∧ PosesAt w' s la (btwF true A B lb (at0 - ta) (tb - ta)) ∧ Below w.heap.size w w' := by
  obtain ⟨i0, hi, hz0, hz1, hz2⟩ := info_parts infoPose
  have PT := bpart_f ka ta kb tb at0 aa ab la ca lb cb
  have OF := of_curved c hcu
  have hl64 := chk2_len h0
  obtain ⟨hfine, _, _, _, _, _, hN, hD⟩ := part_fine h1
  rw [hN, hD] at hfine PT
  rw [h1] at PT
  obtain ⟨num, hnum⟩ : ∃ x, at0 - ta = x := ⟨_, rfl⟩
  obtain ⟨den, hden⟩ : ∃ x, tb - ta = x := ⟨_, rfl⟩
  rw [hnum, hden] at hfine PT ⊢
  clear hN hD h1 hnum hden hcu
  obtain ⟨P, hP⟩ : ∃ P, btwF true A B lb num den = P := ⟨_, rfl⟩
  have HP : Hid (∀ i, P i = btwP true (A i) (fdE B (A i).id lb) (fdB B (A i).id lb) num den) := Lib.hid (fun i => by rw [← hP]; rfl)
  rw [hP]
  clear hP
  have FND := dfind_f
  have EXA := exact_f
  have hB3 : Below w.heap.size w (((w.alloc (.cells #[.int .i64 c.ring, .int .i64 c.window, .int .i64 c.base, .int .i64 c.gain, .int .i64 c.least, .int .i64 c.most, .int .i64 c.slack, .int .i64 c.num, .int .i64 c.den, .int .i64 c.extra, .bool c.curved] 29)).alloc (.cells #[.int .i64 ka, .int .i64 ta, .slice aa la ca] 36)).alloc (.cells #[.int .i64 kb, .int .i64 tb, .slice ab lb cb] 36)) := (((Below.refl _ _).alloc (Nat.le_refl _) _).alloc (by simp) _).alloc (by simp; omega) _
  have bc := (((Blk.new w #[.int .i64 c.ring, .int .i64 c.window, .int .i64 c.base, .int .i64 c.gain, .int .i64 c.least, .int .i64 c.most, .int .i64 c.slack, .int .i64 c.num, .int .i64 c.den, .int .i64 c.extra, .bool c.curved] 29).alloc (.cells #[.int .i64 ka, .int .i64 ta, .slice aa la ca] 36)).alloc (.cells #[.int .i64 kb, .int .i64 tb, .slice ab lb cb] 36))
  have ba := ((Blk.new (w.alloc (.cells #[.int .i64 c.ring, .int .i64 c.window, .int .i64 c.base, .int .i64 c.gain, .int .i64 c.least, .int .i64 c.most, .int .i64 c.slack, .int .i64 c.num, .int .i64 c.den, .int .i64 c.extra, .bool c.curved] 29)) #[.int .i64 ka, .int .i64 ta, .slice aa la ca] 36).alloc (.cells #[.int .i64 kb, .int .i64 tb, .slice ab lb cb] 36))
  have bb := Blk.new ((w.alloc (.cells #[.int .i64 c.ring, .int .i64 c.window, .int .i64 c.base, .int .i64 c.gain, .int .i64 c.least, .int .i64 c.most, .int .i64 c.slack, .int .i64 c.num, .int .i64 c.den, .int .i64 c.extra, .bool c.curved] 29)).alloc (.cells #[.int .i64 ka, .int .i64 ta, .slice aa la ca] 36)) #[.int .i64 kb, .int .i64 tb, .slice ab lb cb] 36
  have CK := pcheck_f c (some ⟨(((w.alloc (.cells #[.int .i64 c.ring, .int .i64 c.window, .int .i64 c.base, .int .i64 c.gain, .int .i64 c.least, .int .i64 c.most, .int .i64 c.slack, .int .i64 c.num, .int .i64 c.den, .int .i64 c.extra, .bool c.curved] 29)).alloc (.cells #[.int .i64 ka, .int .i64 ta, .slice aa la ca] 36)).alloc (.cells #[.int .i64 kb, .int .i64 tb, .slice ab lb cb] 36)).heap.size, 0, none⟩) 2 2 _ _ _ _ _ (sns2 (((w.alloc (.cells #[.int .i64 c.ring, .int .i64 c.window, .int .i64 c.base, .int .i64 c.gain, .int .i64 c.least, .int .i64 c.most, .int .i64 c.slack, .int .i64 c.num, .int .i64 c.den, .int .i64 c.extra, .bool c.curved] 29)).alloc (.cells #[.int .i64 ka, .int .i64 ta, .slice aa la ca] 36)).alloc (.cells #[.int .i64 kb, .int .i64 tb, .slice ab lb cb] 36)) ka ta kb tb aa ab la ca lb cb A B (ha.below hB3) (hb.below hB3) hla hlb) (by decide)
  have hs3 : (((w.alloc (.cells #[.int .i64 c.ring, .int .i64 c.window, .int .i64 c.base, .int .i64 c.gain, .int .i64 c.least, .int .i64 c.most, .int .i64 c.slack, .int .i64 c.num, .int .i64 c.den, .int .i64 c.extra, .bool c.curved] 29)).alloc (.cells #[.int .i64 ka, .int .i64 ta, .slice aa la ca] 36)).alloc (.cells #[.int .i64 kb, .int .i64 tb, .slice ab lb cb] 36)).heap.size = w.heap.size + 1 + 1 + 1 := by simp
  change Calls _ _ _ _ (fun e w' => e = .returned (.int .i64 (chk2 c ka ta aa la ca A kb tb ab lb cb B)) ∧ _) at CK
  simp only [World.size_alloc] at ba bb
  unfold cfgV at CK ⊢
  unfold snapV
  go_enter Tryz.func48, Tryz.ntmps48
  go_wp2_with fail
  generalize (((w.alloc (.cells #[.int .i64 c.ring, .int .i64 c.window, .int .i64 c.base, .int .i64 c.gain, .int .i64 c.least, .int .i64 c.most, .int .i64 c.slack, .int .i64 c.num, .int .i64 c.den, .int .i64 c.extra, .bool c.curved] 29)).alloc (.cells #[.int .i64 ka, .int .i64 ta, .slice aa la ca] 36)).alloc (.cells #[.int .i64 kb, .int .i64 tb, .slice ab lb cb] 36)) = W at *
  rw [hs3] at CK
  refine CK.mono ?_; rintro e w1 ⟨rfl, hb1⟩
  have hB1 : Below W.heap.size W w1 := ((Below.refl _ _).alloc (Nat.le_refl _) _).trans (hb1.mono (by simp))
  have HB1 : Hid (Below w.heap.size w w1) := Lib.hid (hB3.trans (hB1.mono hB3.size))
  have SC := Lib.hid (bc.below hB1 bc.lt)
  have SA := Lib.hid (ba.below hB1 ba.lt)
  have SB := Lib.hid (bb.below hB1 bb.lt)
  clear hB3 hb1 hB1 CK bc ba bb hs3
  rw [h0]
  clear h0
  have hokA := ha.1
  have HCA : Hid (∀ k, k < la → ∃ b off, aa = some ⟨b, off, none⟩ ∧ b < w.heap.size ∧ EntCells w b (off + k * 9) (A k)) := Lib.hid (fun k hk => by
    rcases ha.2 with h0 | ⟨b, off, e, hb, hc⟩
    · omega
    · exact ⟨b, off, e, hb, hc k hk⟩)
  obtain ⟨a0, a1, a2⟩ := sn_cells SA.out
  obtain ⟨b0, b1, b2⟩ := sn_cells SB.out
  go_wp2_with fail
  refine (PT _).mono ?_; rintro e w2 ⟨rfl, hb2⟩
  have SCn := Lib.hid (SC.out.below hb2 SC.out.lt)
  clear SC
  have SC := SCn
  clear SCn
  have SAn := Lib.hid (SA.out.below hb2 SA.out.lt)
  clear SA
  have SA := SAn
  clear SAn
  have SBn := Lib.hid (SB.out.below hb2 SB.out.lt)
  clear SB
  have SB := SBn
  clear SBn
  have HB2 : Hid (Below w.heap.size w w2) := Lib.hid (HB1.out.trans (hb2.mono HB1.out.size))
  clear hb2 a0 a1 a2 b0 b1 b2 PT HB1
  obtain ⟨q0, q1, q2, q3, q4, q5, q6, q7, q8, q9, q10⟩ := cfg_cells SC.out
  unfold cfgV at OF
  go_wp2_with fail
  refine (OF _).mono ?_; rintro e W0 ⟨rfl, hb3⟩
  have SAn := Lib.hid (SA.out.below hb3 SA.out.lt)
  clear SA
  have SA := SAn
  clear SAn
  have SBn := Lib.hid (SB.out.below hb3 SB.out.lt)
  clear SB
  have SB := SBn
  clear SBn
  have HW0 : Hid (Below w.heap.size w W0) := Lib.hid (HB2.out.trans (hb3.mono HB2.out.size))
  clear hb3 q0 q1 q2 q3 q4 q5 q6 q7 q8 q9 q10 OF HB2 SC
  obtain ⟨a0, a1, a2⟩ := sn_cells SA.out
  have hs2 := SB.out.lt
  go_wp2_with fail
  clear a0 a1 a2
  go_loopw [15, 45] (fun v i wr => ∃ k : Nat, k ≤ la ∧ i = .int .i64 k ∧ wr.ownsRow W0.heap.size 52 6 v k (poL P k) ∧ Below W0.heap.size W0 wr) (fun _ i _ => la - (intOf i).toNat)
  case atStart => exact ⟨0, Nat.zero_le _, rfl, World.ownsRow_nil _ _ _ _, Below.refl _ _⟩
  case round =>
      rename_i wr
      obtain ⟨k, hk, rfl, hown, hB⟩ := hrel
      have hsz := hB.size
      by_cases hlt : k < la
      · obtain ⟨b, off, hea, hbw, hc⟩ := HCA.out k hlt
        subst hea
        have hcw := hc.below (HW0.out.trans (hB.mono HW0.out.size)) hbw
        have hx := hokA k hlt
        have hy : (fdE B (A k).id lb).Ok := fdE_ok hb (A k).id
        have HPk := Lib.hid (HP.out k)
        have HL : Hid (poL P (k + 1) = poL P k ++ [.int .i64 (P k).id, .int .i64 (P k).px, .int .i64 (P k).py, .int .i64 (P k).pz, .int .u16 (P k).ang, .int .i64 (P k).mode]) := Lib.hid rfl
        have FD := Lib.hid (fun w' (hw : Below w.heap.size w w') => FND kb tb ab lb cb B (A k).id w' (hb.below hw) hlb)
        have EX := EXA (A k)
        unfold entV poV exactP at EX
        unfold entV snapV at FD
        have hkl : (k : Int) < la := by omega
        have HOWN := Lib.hid hown
        have HLT := Lib.hid (fun j e => (hown.lt j e).2)
        have HB := Lib.hid hB
        clear hc hown hB
        generalize P k = pk at *
        generalize fdB B (A k).id lb = fb at *
        generalize fdE B (A k).id lb = y at *
        generalize A k = x at *
        obtain ⟨xid, px, py, pz, vx, vy, vz, ang, gen⟩ := x
        obtain ⟨yid, qx, qy, qz, ux, uy, uz, yang, ygen⟩ := y
        obtain ⟨c0, c1, c2, c3, c4, c5, c6, c7, c8⟩ := hcw
        dsimp only at c0 c1 c2 c3 c4 c5 c6 c7 c8 EX FD
        go_wp2_with fail
        refine (EX _).mono ?_; rintro e w4 ⟨rfl, hb4⟩
        have X4 := Lib.hid ((Blk.new wr #[.int .i64 xid, .int .i64 px, .int .i64 py, .int .i64 pz, .int .i64 vx, .int .i64 vy, .int .i64 vz, .int .u16 ang, .int .u8 gen] 33).below hb4 (by simp))
        have HB4 : Hid (Below W0.heap.size W0 w4) := Lib.hid ((HB.out.alloc hsz _).trans (hb4.mono (by simp; omega)))
        have OW4 := Lib.hid (own_below (HOWN.out.alloc _) hb4)
        have SB4 := Lib.hid (SB.out.below HB4.out SB.out.lt)
        have l4 := X4.out.lt
        have l4b := SB4.out.lt
        clear hb4 EX c0 c1 c2 c3 c4 c5 c6 c7 c8 HB HOWN
        obtain ⟨c0, c1, c2, c3, c4, c5, c6, c7, c8⟩ := ent_cells X4.out
        obtain ⟨b0, b1, b2⟩ := sn_cells SB4.out
        have HB5 : Hid (Below W0.heap.size W0 (w4.alloc (.cells #[.int .i64 xid, .int .i64 px, .int .i64 py, .int .i64 pz, .int .u16 ang, .int .i64 0] 52))) := Lib.hid (HB4.out.alloc HB4.out.size _)
        have fd := FD.out _ (HW0.out.trans (HB5.out.mono HW0.out.size))
        go_wp2_with fail
        refine fd.mono ?_; rintro e w6 ⟨rfl, hb6⟩
        have X6 := Lib.hid ((X4.out.alloc (.cells #[.int .i64 xid, .int .i64 px, .int .i64 py, .int .i64 pz, .int .u16 ang, .int .i64 0] 52)).below hb6 (by simp; omega))
        have P6 := Lib.hid ((Blk.new w4 #[.int .i64 xid, .int .i64 px, .int .i64 py, .int .i64 pz, .int .u16 ang, .int .i64 0] 52).below hb6 (by simp))
        have HB6 : Hid (Below W0.heap.size W0 w6) := Lib.hid (HB5.out.trans (hb6.mono HB5.out.size))
        have OW6 := Lib.hid (own_below (OW4.out.alloc _) hb6)
        have l6 := X6.out.lt
        have l6b := P6.out.lt
        clear hb6 fd FD c0 c1 c2 c3 c4 c5 c6 c7 c8 b0 b1 b2 HB4 HB5 OW4 X4 SB4
        obtain ⟨c0, c1, c2, c3, c4, c5, c6, c7, c8⟩ := ent_cells X6.out
        obtain ⟨p0, p1, p2, p3, p4, p5⟩ := po_cells P6.out
        obtain ⟨f0, f1, f2, f3, f4, f5⟩ := po_free P6.out
        by_cases hm : fb = true ∧ ygen = gen
        · obtain ⟨rfl, rfl⟩ := hm
          have HPK : Hid (pk = ⟨xid, curveF px vx qx ux num den, curveF py vy qy uy num den, curveF pz vz qz uz num den, alerpF ang yang num den, 2⟩) := Lib.hid (by rw [HPk.out]; unfold btwP; rw [if_pos ⟨rfl, rfl⟩]; rfl)
          have PL := Lib.hid (cplace_f ⟨xid, px, py, pz, vx, vy, vz, ang, ygen⟩ ⟨yid, qx, qy, qz, ux, uy, uz, yang, ygen⟩ num den hx hy hfine)
          have AL := Lib.hid (alerp_b ang yang num den hx.ang hy.ang hfine)
          unfold entV at PL
          dsimp only at PL
          generalize curveF px vx qx ux num den = z1 at *
          generalize curveF py vy qy uy num den = z2 at *
          generalize curveF pz vz qz uz num den = z3 at *
          generalize alerpF ang yang num den = z4 at *
          go_wp2_with fail
          have X7 := Lib.hid (X6.out.alloc (.cells #[.int .i64 yid, .int .i64 qx, .int .i64 qy, .int .i64 qz, .int .i64 ux, .int .i64 uy, .int .i64 uz, .int .u16 yang, .int .u8 ygen] 33))
          have P7 := Lib.hid (P6.out.alloc (.cells #[.int .i64 yid, .int .i64 qx, .int .i64 qy, .int .i64 qz, .int .i64 ux, .int .i64 uy, .int .i64 uz, .int .u16 yang, .int .u8 ygen] 33))
          have Y7 := Lib.hid (Blk.new w6 #[.int .i64 yid, .int .i64 qx, .int .i64 qy, .int .i64 qz, .int .i64 ux, .int .i64 uy, .int .i64 uz, .int .u16 yang, .int .u8 ygen] 33)
          have HB7 : Hid (Below W0.heap.size W0 (w6.alloc (.cells #[.int .i64 yid, .int .i64 qx, .int .i64 qy, .int .i64 qz, .int .i64 ux, .int .i64 uy, .int .i64 uz, .int .u16 yang, .int .u8 ygen] 33))) := Lib.hid (HB6.out.alloc HB6.out.size _)
          have OW7 := Lib.hid (OW6.out.alloc (.cells #[.int .i64 yid, .int .i64 qx, .int .i64 qy, .int .i64 qz, .int .i64 ux, .int .i64 uy, .int .i64 uz, .int .u16 yang, .int .u8 ygen] 33))
          clear c0 c1 c2 c3 c4 c5 c6 c7 c8 p0 p1 p2 p3 p4 p5 f0 f1 f2 f3 f4 f5 X6 P6 HB6 OW6
          generalize w6.alloc (.cells #[.int .i64 yid, .int .i64 qx, .int .i64 qy, .int .i64 qz, .int .i64 ux, .int .i64 uy, .int .i64 uz, .int .u16 yang, .int .u8 ygen] 33) = w7 at *
          obtain ⟨c0, c1, c2, c3, c4, c5, c6, c7, c8⟩ := ent_cells X7.out
          obtain ⟨d0, d1, d2, d3, d4, d5, d6, d7, d8⟩ := ent_cells Y7.out
          refine wp_region_calm 9 (by kernel_rfl) (by kernel_rfl) ?_
          simp only [List.take_succ_cons, List.take_zero, List.drop_succ_cons, List.drop_zero]
          repeat (apply wpCalm_step; (next => (intro W hW K hK; have y0 := hW.cell c0; have y1 := hW.cell c1; have y2 := hW.cell c2; have y3 := hW.cell c3; have y4 := hW.cell c4; have y5 := hW.cell c5; have y6 := hW.cell c6; have y7 := hW.cell c7; have y8 := hW.cell c8; have y9 := hW.cell d0; have y10 := hW.cell d1; have y11 := hW.cell d2; have y12 := hW.cell d3; have y13 := hW.cell d4; have y14 := hW.cell d5; have y15 := hW.cell d6; have y16 := hW.cell d7; have y17 := hW.cell d8; go_simp; first | exact ⟨hW, hK⟩ | exact hK)); (next => exact CalmI.self _); (try go_simp))
          (apply wpCalm_step; (next => (intro W hW K hK; go_simp; first | exact ⟨_, hW.call (cmode_f W), hK⟩ | exact ⟨hW, _, hW.call (cmode_f W), hK⟩)); (next => exact CalmI.self _); (try go_simp))
          repeat (apply wpCalm_step; (next => (intro W hW K hK; have y0 := hW.cell c0; have y1 := hW.cell c1; have y2 := hW.cell c2; have y3 := hW.cell c3; have y4 := hW.cell c4; have y5 := hW.cell c5; have y6 := hW.cell c6; have y7 := hW.cell c7; have y8 := hW.cell c8; have y9 := hW.cell d0; have y10 := hW.cell d1; have y11 := hW.cell d2; have y12 := hW.cell d3; have y13 := hW.cell d4; have y14 := hW.cell d5; have y15 := hW.cell d6; have y16 := hW.cell d7; have y17 := hW.cell d8; go_simp; first | exact ⟨hW, hK⟩ | exact hK)); (next => exact CalmI.self _); (try go_simp))
          (apply wpCalm_step; (next => (intro W hW K hK; go_simp; first | exact ⟨_, hW.call (PL.out W), hK⟩ | exact ⟨hW, _, hW.call (PL.out W), hK⟩)); (next => exact CalmI.self _); (try go_simp))
          repeat (apply wpCalm_step; (next => (intro W hW K hK; have y0 := hW.cell c0; have y1 := hW.cell c1; have y2 := hW.cell c2; have y3 := hW.cell c3; have y4 := hW.cell c4; have y5 := hW.cell c5; have y6 := hW.cell c6; have y7 := hW.cell c7; have y8 := hW.cell c8; have y9 := hW.cell d0; have y10 := hW.cell d1; have y11 := hW.cell d2; have y12 := hW.cell d3; have y13 := hW.cell d4; have y14 := hW.cell d5; have y15 := hW.cell d6; have y16 := hW.cell d7; have y17 := hW.cell d8; go_simp; first | exact ⟨hW, hK⟩ | exact hK)); (next => exact CalmI.self _); (try go_simp))
          refine wpCalm_nil ?_
          intro WC hWC
          have hWC' : Below w7.heap.size w7 WC := hWC
          have X8 := Lib.hid (X7.out.below hWC' X7.out.lt)
          have Y8 := Lib.hid (Y7.out.below hWC' Y7.out.lt)
          have P8 := Lib.hid (P7.out.below hWC' P7.out.lt)
          have HB8 : Hid (Below W0.heap.size W0 WC) := Lib.hid (HB7.out.trans (hWC'.mono HB7.out.size))
          have OW8 := Lib.hid (own_below OW7.out hWC')
          clear hWC hWC' c0 c1 c2 c3 c4 c5 c6 c7 c8 d0 d1 d2 d3 d4 d5 d6 d7 d8 X7 Y7 P7 HB7 OW7 PL
          obtain ⟨c0, c1, c2, c3, c4, c5, c6, c7, c8⟩ := ent_cells X8.out
          obtain ⟨d0, d1, d2, d3, d4, d5, d6, d7, d8⟩ := ent_cells Y8.out
          obtain ⟨p0, p1, p2, p3, p4, p5⟩ := po_cells P8.out
          obtain ⟨f0, f1, f2, f3, f4, f5⟩ := po_free P8.out
          go_wp2_with fail
          have Z9 := sets4 P8.out 5 (.int .i64 2) 1 (.int .i64 z1) 2 (.int .i64 z2) 3 (.int .i64 z3)
          clear c0 c1 c2 c3 c4 c5 c6 c7 c8 d0 d1 d2 d3 d4 d5 d6 d7 d8 p0 p1 p2 p3 p4 p5 f0 f1 f2 f3 f4 f5
          obtain ⟨w9, hw9⟩ : ∃ w9, w9 = ((((WC.setCell ⟨w4.heap.size, 5, none⟩ (.int .i64 2)).setCell ⟨w4.heap.size, 1, none⟩ (.int .i64 z1)).setCell ⟨w4.heap.size, 2, none⟩ (.int .i64 z2)).setCell ⟨w4.heap.size, 3, none⟩ (.int .i64 z3)) := ⟨_, rfl⟩
          rw [← hw9] at Z9 ⊢
          clear hw9
          obtain ⟨Z9, O9⟩ := Z9
          simp at Z9
          have X9 := Lib.hid (O9.blk X8.out (by omega))
          have Y9 := Lib.hid (O9.blk Y8.out (by omega))
          have P9 := Lib.hid Z9
          have HB9 : Hid (Below W0.heap.size W0 w9) := Lib.hid (HB8.out.trans (O9.below HB8.out.size (by rintro i rfl; omega)))
          have OW9 := Lib.hid (own_only OW8.out O9 (fun j e h => by have := HLT.out j e; have h2 : j = w4.heap.size := h; omega))
          clear Z9 O9 X8 Y8 P8 HB8 OW8
          refine (AL.out _).mono ?_; rintro e wd ⟨rfl, hbd⟩
          have P10 := P9.out.below hbd P9.out.lt
          have l9 := P10.lt
          have HB10 := HB9.out.trans (hbd.mono HB9.out.size)
          have OW10 := own_below OW9.out hbd
          obtain ⟨p0, p1, p2, p3, p4, p5⟩ := po_cells P10
          obtain ⟨f0, f1, f2, f3, f4, f5⟩ := po_free P10
          have OWZ := Lib.hid (own_only OW10 ((Only.refl (· = w4.heap.size) wd).setCell (p := ⟨w4.heap.size, 4, none⟩) (.inl rfl) (.int .u16 z4)) (fun j e h => by have := HLT.out j e; have h2 : j = w4.heap.size := h; omega))
          have HBZ : Hid (Below W0.heap.size W0 (wd.setCell ⟨w4.heap.size, 4, none⟩ (.int .u16 z4))) := Lib.hid (HB10.setCell (by simp; omega) _)
          clear hbd P10 HB10 OW10 X9 Y9 P9 HB9 OW9
          go_wp2_with (at_builtin; refine wpList_append_own _ rfl (.tmp 87) (.tmp 89) 47 rfl W0.heap.size 52 i0 (.agg #[.int .i64 0, .int .i64 0, .int .i64 0, .int .i64 0, .int .u16 0, .int .i64 0]) 6 48 Tryz.underlying47 hi hz0 hz1 hz2 rfl (by decide) _ _ _ rfl (OWZ.out.alloc _) ⟨wd.heap.size, 0, none⟩ 1 1 [.int .i64 xid, .int .i64 z1, .int .i64 z2, .int .i64 z3, .int .u16 z4, .int .i64 2] rfl rfl ?c1 ?c2 ?c3 ?c4 ?c5 ?_)
          case c1 => exact cells_new (by simp)
          case c2 => intro u hu; simp at hu; rcases hu with rfl | rfl | rfl | rfl | rfl | rfl <;> rfl
          case c3 => unfold maxLen; omega
          case c4 => omega
          case c5 => have := HBZ.out.size; simp at *; omega
          intro v' w10 hown' hgrow _
          have hszz := HBZ.out.size
          have hB' : Hid (Below W0.heap.size W0 w10) := Lib.hid ((HBZ.out.alloc hszz _).grown hgrow (by simp at *; omega) (fun j e => (OWZ.out.lt j e).1))
          have HO : Hid (w10.ownsRow W0.heap.size 52 6 v' (k + 1) (poL P (k + 1))) := Lib.hid (by rw [HL.out, HPK.out]; exact hown')
          clear hown' hgrow
          go_wp2
          go_roundw
          case rel => exact ⟨k + 1, by omega, by go_num, HO.out, hB'.out⟩
          case measure => simp [intOf]; omega
        · have HPK : Hid (pk = ⟨xid, px, py, pz, ang, 0⟩) := Lib.hid (by rw [HPk.out]; unfold btwP; rw [if_neg hm]; rfl)
          have HB7 : Hid (Below W0.heap.size W0 (w6.alloc (.cells #[.int .i64 yid, .int .i64 qx, .int .i64 qy, .int .i64 qz, .int .i64 ux, .int .i64 uy, .int .i64 uz, .int .u16 yang, .int .u8 ygen] 33))) := Lib.hid (HB6.out.alloc HB6.out.size _)
          have OW7 := Lib.hid (OW6.out.alloc (.cells #[.int .i64 yid, .int .i64 qx, .int .i64 qy, .int .i64 qz, .int .i64 ux, .int .i64 uy, .int .i64 uz, .int .u16 yang, .int .u8 ygen] 33))
          cases fb
          · clear hm
            go_wp2_with (at_builtin; refine wpList_append_own _ rfl (.tmp 87) (.tmp 89) 47 rfl W0.heap.size 52 i0 (.agg #[.int .i64 0, .int .i64 0, .int .i64 0, .int .i64 0, .int .u16 0, .int .i64 0]) 6 48 Tryz.underlying47 hi hz0 hz1 hz2 rfl (by decide) _ _ _ rfl (OW7.out.alloc _) ⟨w6.heap.size + 1, 0, none⟩ 1 1 [.int .i64 xid, .int .i64 px, .int .i64 py, .int .i64 pz, .int .u16 ang, .int .i64 0] rfl rfl ?c1 ?c2 ?c3 ?c4 ?c5 ?_)
            case c1 => exact cells_new (by simp)
            case c2 => intro u hu; simp at hu; rcases hu with rfl | rfl | rfl | rfl | rfl | rfl <;> rfl
            case c3 => unfold maxLen; omega
            case c4 => omega
            case c5 => have := HB7.out.size; simp at *; omega
            intro v' w10 hown' hgrow _
            have hszz := HB7.out.size
            have hB' : Hid (Below W0.heap.size W0 w10) := Lib.hid ((HB7.out.alloc hszz _).grown hgrow (by simp at *; omega) (fun j e => (OW7.out.lt j e).1))
            have HO : Hid (w10.ownsRow W0.heap.size 52 6 v' (k + 1) (poL P (k + 1))) := Lib.hid (by rw [HL.out, HPK.out]; exact hown')
            clear hown' hgrow
            go_wp2
            go_roundw
            case rel => exact ⟨k + 1, by omega, by go_num, HO.out, hB'.out⟩
            case measure => simp [intOf]; omega
          · have hg : (ygen == gen) = false := by simpa using hm
            clear hm
            go_wp2_with (at_builtin; refine wpList_append_own _ rfl (.tmp 87) (.tmp 89) 47 rfl W0.heap.size 52 i0 (.agg #[.int .i64 0, .int .i64 0, .int .i64 0, .int .i64 0, .int .u16 0, .int .i64 0]) 6 48 Tryz.underlying47 hi hz0 hz1 hz2 rfl (by decide) _ _ _ rfl (OW7.out.alloc _) ⟨w6.heap.size + 1, 0, none⟩ 1 1 [.int .i64 xid, .int .i64 px, .int .i64 py, .int .i64 pz, .int .u16 ang, .int .i64 0] rfl rfl ?c1 ?c2 ?c3 ?c4 ?c5 ?_)
            case c1 => exact cells_new (by simp)
            case c2 => intro u hu; simp at hu; rcases hu with rfl | rfl | rfl | rfl | rfl | rfl <;> rfl
            case c3 => unfold maxLen; omega
            case c4 => omega
            case c5 => have := HB7.out.size; simp at *; omega
            intro v' w10 hown' hgrow _
            have hszz := HB7.out.size
            have hB' : Hid (Below W0.heap.size W0 w10) := Lib.hid ((HB7.out.alloc hszz _).grown hgrow (by simp at *; omega) (fun j e => (OW7.out.lt j e).1))
            have HO : Hid (w10.ownsRow W0.heap.size 52 6 v' (k + 1) (poL P (k + 1))) := Lib.hid (by rw [HL.out, HPK.out]; exact hown')
            clear hown' hgrow
            go_wp2
            go_roundw
            case rel => exact ⟨k + 1, by omega, by go_num, HO.out, hB'.out⟩
            case measure => simp [intOf]; omega
      · obtain rfl : k = la := by omega
        obtain ⟨s, cp, rfl, hS⟩ := poses_of_row hown
        have HS := Lib.hid hS
        have HBE := Lib.hid (HW0.out.trans (hB.mono HW0.out.size))
        clear hS hown hB
        go_wp2
        exact bodyPost_ret (v := .tuple #[.slice s k cp, .int .i64 0]) (by simp [results, Tryz.results48, go_sem]) rfl ⟨s, cp, rfl, HS.out, HBE.out⟩
end Go.Proofs.YtklkooeimkedgaaGreat
