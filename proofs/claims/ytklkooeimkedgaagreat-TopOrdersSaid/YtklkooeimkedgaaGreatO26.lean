/- Parts of the walk of TopOrders: Pose4, Pose5, Pose6, Pose8. -/
import Derived.Test.YtklkooeimkedgaaGreatO0
import Derived.Test.YtklkooeimkedgaaGreatO6
import Derived.Test.YtklkooeimkedgaaGreatO12
import Derived.Test.YtklkooeimkedgaaGreatO19
import Derived.Test.YtklkooeimkedgaaGreatO25
set_option linter.unusedVariables false
set_option linter.unusedSimpArgs false
namespace Go.Proofs.YtklkooeimkedgaaGreat
open Go.RowKit
set_option maxRecDepth 8000
structure Po where
  id : Int
  px : Int
  py : Int
  pz : Int
  aI : Int
  mode : Int
def JU (p : Po) : Value := .agg #[.int .i64 (p).id, .int .i64 (p).px, .int .i64 (p).py, .int .i64 (p).pz, .int .u16 (p).aI, .int .i64 (p).mode]
def uF (e : ay) : Po := ⟨e.id, e.px, e.py, e.pz, e.aI, 0⟩
theorem yS (e : ay) (w : World) : Calls Tryz.prog 94 #[bR e] w λe' w' => e' = .returned (JU (uF e)) /\ Below w.heap.size w w' := by
  obtain ⟨eP, px, py, pz, vx, vy, vz, aI, gen⟩ := e
  unfold bR JU uF
  dsimp only
  go_enter Tryz.func94, Tryz.ntmps94
  go_wp2
  exact bodyPost_ret (v := .agg #[.int .i64 eP, .int .i64 px, .int .i64 py, .int .i64 pz, .int .u16 aI, .int .i64 0]) (by simp [results, Tryz.results94, go_sem]) rfl ⟨rfl, by (repeat (first | exact Below.refl _ _ | assumption | (refine Below.drew ?_) | (refine below_drewN ?_ _) | (refine Below.alloc ?_ (by simp <;> omega) _) | (refine Below.setCell ?_ (by simp <;> omega) _)))⟩
theorem MI (w : World) : Calls Tryz.prog 254 #[.agg #[]] w λe w' => e = .returned (.int .i64 1) /\ Below w.heap.size w w' := by
  go_enter Tryz.func254, Tryz.ntmps254
  go_wp2
  go_ret
  exact ⟨rfl, by (repeat (first | exact Below.refl _ _ | assumption | (refine Below.drew ?_) | (refine below_drewN ?_ _) | (refine Below.alloc ?_ (by simp <;> omega) _) | (refine Below.setCell ?_ (by simp <;> omega) _)))⟩
theorem MJ (w : World) : Calls Tryz.prog 247 #[.agg #[]] w λe w' => e = .returned (.int .i64 2) /\ Below w.heap.size w w' := by
  go_enter Tryz.func247, Tryz.ntmps247
  go_wp2
  go_ret
  exact ⟨rfl, by (repeat (first | exact Below.refl _ _ | assumption | (refine Below.drew ?_) | (refine below_drewN ?_ _) | (refine Below.alloc ?_ (by simp <;> omega) _) | (refine Below.setCell ?_ (by simp <;> omega) _)))⟩
theorem Uz (x y : ay) (num den : Int) (hx : x.Ok) (hy : y.Ok) (h : iP num den = true) (w : World) :
    Calls Tryz.prog 255 #[.agg #[], bR x, bR y, .int .i64 num, .int .i64 den] w λe w' => e = .returned (v3 (dA x.px y.px num den) (dA x.py y.py num den) (dA x.pz y.pz num den)) /\ Below w.heap.size w w' := by
  have c := XH x.px x.py x.pz y.px y.py y.pz num den hx.px hx.py hx.pz hy.px hy.py hy.pz h
  generalize dA x.px y.px num den = r0 at *
  generalize dA x.py y.py num den = r1 at *
  generalize dA x.pz y.pz num den = r2 at *
  obtain ⟨eP, px, py, pz, vx, vy, vz, aI, gen⟩ := x
  obtain ⟨nM, qx, qy, qz, ux, uy, uz, iE, iF⟩ := y
  unfold bR
  dsimp only at c ⊢
  clear hx hy h
  go_enter Tryz.func255, Tryz.ntmps255
  go_wp2_with fail
  have hB0 : Below w.heap.size w ((((w.alloc (.cells #[] 233)).alloc (.cells #[.int .i64 eP, .int .i64 px, .int .i64 py, .int .i64 pz, .int .i64 vx, .int .i64 vy, .int .i64 vz, .int .u16 aI, .int .u8 gen] 33)).alloc (.cells #[.int .i64 nM, .int .i64 qx, .int .i64 qy, .int .i64 qz, .int .i64 ux, .int .i64 uy, .int .i64 uz, .int .u16 iE, .int .u8 iF] 33)).alloc (.cells #[.int .i64 0, .int .i64 0, .int .i64 0] 22)) := by (repeat (first | exact Below.refl _ _ | assumption | (refine Below.drew ?_) | (refine below_drewN ?_ _) | (refine Below.alloc ?_ (by simp <;> omega) _) | (refine Below.setCell ?_ (by simp <;> omega) _)))
  have B4 := ak.new (((w.alloc (.cells #[] 233)).alloc (.cells #[.int .i64 eP, .int .i64 px, .int .i64 py, .int .i64 pz, .int .i64 vx, .int .i64 vy, .int .i64 vz, .int .u16 aI, .int .u8 gen] 33)).alloc (.cells #[.int .i64 nM, .int .i64 qx, .int .i64 qy, .int .i64 qz, .int .i64 ux, .int .i64 uy, .int .i64 uz, .int .u16 iE, .int .u8 iF] 33)) #[.int .i64 0, .int .i64 0, .int .i64 0] 22
  refine (c _).mono ?_; rintro e w1 ⟨rfl, hb1⟩
  have HB1 : Hid (Below w.heap.size w w1) := ahZ (hB0.trans (hb1.mono hB0.size))
  have rP := B4.below hb1 B4.lt
  simp only [World.size_alloc] at rP
  have hs := HB1.out.size
  clear hB0 B4 hb1 c
  have r4 := rP.cell 0; have r5 := rP.cell 1; have r6 := rP.cell 2
  have f4 := rP.free 0; have f5 := rP.free 1; have f6 := rP.free 2
  have hl := rP.lt
  simp at r4 r5 r6
  clear rP
  go_wp2
  have HB2 := HB1.out
  exact bodyPost_ret (v := v3 r0 r1 r2) (by simp [results, Tryz.results255, go_sem, *]) rfl ⟨rfl, by (repeat (first | exact Below.refl _ _ | assumption | (refine Below.drew ?_) | (refine below_drewN ?_ _) | (refine Below.alloc ?_ (by simp <;> omega) _) | (refine Below.setCell ?_ (by simp <;> omega) _)))⟩
theorem UA (x y : ay) (num den : Int) (hx : x.Ok) (hy : y.Ok) (h : iP num den = true) (w : World) :
    Calls Tryz.prog 248 #[.agg #[], bR x, bR y, .int .i64 num, .int .i64 den] w λe w' => e = .returned (v3 (dP x.px x.vx y.px y.vx num den) (dP x.py x.vy y.py y.vy num den) (dP x.pz x.vz y.pz y.vz num den)) /\ Below w.heap.size w w' := by
  have c := Y2 x.px x.py x.pz x.vx x.vy x.vz y.px y.py y.pz y.vx y.vy y.vz num den hx.px hx.py hx.pz hx.vx hx.vy hx.vz hy.px hy.py hy.pz hy.vx hy.vy hy.vz h
  generalize dP x.px x.vx y.px y.vx num den = r0 at *
  generalize dP x.py x.vy y.py y.vy num den = r1 at *
  generalize dP x.pz x.vz y.pz y.vz num den = r2 at *
  obtain ⟨eP, px, py, pz, vx, vy, vz, aI, gen⟩ := x
  obtain ⟨nM, qx, qy, qz, ux, uy, uz, iE, iF⟩ := y
  unfold bR
  dsimp only at c ⊢
  clear hx hy h
  go_enter Tryz.func248, Tryz.ntmps248
  go_wp2_with fail
  have hB0 : Below w.heap.size w ((((w.alloc (.cells #[] 232)).alloc (.cells #[.int .i64 eP, .int .i64 px, .int .i64 py, .int .i64 pz, .int .i64 vx, .int .i64 vy, .int .i64 vz, .int .u16 aI, .int .u8 gen] 33)).alloc (.cells #[.int .i64 nM, .int .i64 qx, .int .i64 qy, .int .i64 qz, .int .i64 ux, .int .i64 uy, .int .i64 uz, .int .u16 iE, .int .u8 iF] 33)).alloc (.cells #[.int .i64 0, .int .i64 0, .int .i64 0] 22)) := by (repeat (first | exact Below.refl _ _ | assumption | (refine Below.drew ?_) | (refine below_drewN ?_ _) | (refine Below.alloc ?_ (by simp <;> omega) _) | (refine Below.setCell ?_ (by simp <;> omega) _)))
  have B4 := ak.new (((w.alloc (.cells #[] 232)).alloc (.cells #[.int .i64 eP, .int .i64 px, .int .i64 py, .int .i64 pz, .int .i64 vx, .int .i64 vy, .int .i64 vz, .int .u16 aI, .int .u8 gen] 33)).alloc (.cells #[.int .i64 nM, .int .i64 qx, .int .i64 qy, .int .i64 qz, .int .i64 ux, .int .i64 uy, .int .i64 uz, .int .u16 iE, .int .u8 iF] 33)) #[.int .i64 0, .int .i64 0, .int .i64 0] 22
  refine (c _).mono ?_; rintro e w1 ⟨rfl, hb1⟩
  have HB1 : Hid (Below w.heap.size w w1) := ahZ (hB0.trans (hb1.mono hB0.size))
  have rP := B4.below hb1 B4.lt
  simp only [World.size_alloc] at rP
  have hs := HB1.out.size
  clear hB0 B4 hb1 c
  have r4 := rP.cell 0; have r5 := rP.cell 1; have r6 := rP.cell 2
  have f4 := rP.free 0; have f5 := rP.free 1; have f6 := rP.free 2
  have hl := rP.lt
  simp at r4 r5 r6
  clear rP
  go_wp2
  have HB2 := HB1.out
  exact bodyPost_ret (v := v3 r0 r1 r2) (by simp [results, Tryz.results248, go_sem, *]) rfl ⟨rfl, by (repeat (first | exact Below.refl _ _ | assumption | (refine Below.drew ?_) | (refine below_drewN ?_ _) | (refine Below.alloc ?_ (by simp <;> omega) _) | (refine Below.setCell ?_ (by simp <;> omega) _)))⟩
def qI (w : World) (s : Option Addr) (len : Nat) (K T : Nat -> Int) (E : Nat -> Option Addr × Nat × Nat) (EE : Nat -> Nat -> ay) : Prop :=
  jw w s len K T E /\ ∀ i, i < len -> bV w (E i).1 (E i).2.1 (EE i) /\ ((E i).2.1 : Int) <= 4611686018427387904
theorem qI.below {w w' : World} {s : Option Addr} {len : Nat} {K T : Nat -> Int} {E : Nat -> Option Addr × Nat × Nat} {EE : Nat -> Nat -> ay} (h : qI w s len K T E EE) (hb : Below w.heap.size w w') : qI w' s len K T E EE :=
  ⟨h.1.below hb, λi hi => ⟨(h.2 i hi).1.below hb, (h.2 i hi).2⟩⟩
def qw (K T : Nat -> Int) (E : Nat -> Option Addr × Nat × Nat) (EE : Nat -> Nat -> ay) : Nat -> Nat -> Int
  | 0, _ => 0
  | n + 1, i => if dJ (K i) (T i) (E i).2.1 (EE i) = 0 then qw K T E EE n (i + 1) else dJ (K i) (T i) (E i).2.1 (EE i)
def jH (c : aS) (K T : Nat -> Int) (E : Nat -> Option Addr × Nat × Nat) (EE : Nat -> Nat -> ay) (len : Nat) : Int := if iU c = 0 then qw K T E EE len 0 else iU c
set_option maxHeartbeats 1000000 in
theorem jy (c : aS) (s : Option Addr) (len cap : Nat) (K T : Nat -> Int) (E : Nat -> Option Addr × Nat × Nat) (EE : Nat -> Nat -> ay) (w : World) (h : qI w s len K T E EE) (hlen : (len : Int) <= 4611686018427387904) :
    Calls Tryz.prog 45 #[bE c, .slice s len cap] w λe w' => e = .returned (.int .i64 (jH c K T E EE len)) /\ Below w.heap.size w w' := by
  have CC := JK c
  obtain ⟨hs, he⟩ := h
  have HE := ahZ he
  unfold bE at CC ⊢
  clear he
  by_cases hc : iU c = 0
  · have HP : Hid (jH c K T E EE len = qw K T E EE len 0) := ahZ (by unfold jH; rw [if_pos hc])
    rw [hc] at CC
    generalize jH c K T E EE len = r at *
    clear hc
    rcases hs with hz | ⟨b, off, rfl, hb, hcs⟩
    all_goals
      go_enter Tryz.func45, Tryz.ntmps45
      go_wp2_with fail
      refine (CC _).mono ?_; rintro e w1 ⟨rfl, hb1⟩
      have HB1 : Hid (Below w.heap.size w w1) := ahZ (((Below.refl _ _).alloc (Nat.le_refl _) _).trans (hb1.mono (by simp)))
      clear hb1 CC
      go_wp2_with fail
      go_loopw [16] (λi wr => ∃ k : Nat, k <= len /\ i = .int .i64 k /\ qw K T E EE len 0 = qw K T E EE (len - k) k /\ Below w.heap.size w wr) (λi _ => len - (intOf i).toNat)
      case atStart => exact ⟨0, Nat.zero_le _, rfl, rfl, HB1.out⟩
      case round =>
        rename_i wr
        obtain ⟨k, hk, rfl, hch, hB⟩ := hrel
        have hsz := hB.size
        by_cases hlt : k < len
        · first
          | (exfalso; omega)
          | (obtain ⟨n, hn⟩ : ∃ n, len - k = n + 1 := ⟨len - k - 1, by omega⟩
             have hn2 : len - (k + 1) = n := by omega
             rw [hn] at hch
             obtain ⟨d0, d1, d2⟩ := hcs k hlt
             have c0 := (hB.cell (p := ⟨b, off + k * 3, none⟩) hb).trans d0
             have c1 := (hB.cell (p := ⟨b, off + k * 3 + 1, none⟩) hb).trans d1
             have c2 := (hB.cell (p := ⟨b, off + k * 3 + 2, none⟩) hb).trans d2
             obtain ⟨he1, he2⟩ := HE.out k hlt
             have DC := ahZ (λw' (hw : Below w.heap.size w w') => DZ (K k) (T k) (E k).1 (E k).2.1 (E k).2.2 (EE k) w' (he1.below hw) he2)
             unfold bC at DC
             have iW : Hid (qw K T E EE len 0 = if dJ (K k) (T k) (E k).2.1 (EE k) = 0 then qw K T E EE n (k + 1) else dJ (K k) (T k) (E k).2.1 (EE k)) := ahZ hch
             have HC := ahZ hcs
             have HB := ahZ hB
             have hlt' : (k : Int) < len := by omega
             clear hch hcs hn d0 d1 d2 he1 he2 hB
             generalize dJ (K k) (T k) (E k).2.1 (EE k) = sc at *
             generalize K k = kk at *
             generalize T k = tt at *
             generalize (E k).1 = ea at *
             generalize (E k).2.1 = el at *
             generalize (E k).2.2 = ec at *
             have dc := DC.out _ (HB.out.alloc hsz (.cells #[.int .i64 kk, .int .i64 tt, .slice ea el ec] 36))
             by_cases r0 : sc = 0
             · have HF : Hid (qw K T E EE len 0 = qw K T E EE n (k + 1)) := ahZ (by rw [iW.out, if_pos r0])
               subst r0
               clear iW
               go_wp2_with fail
               refine dc.mono ?_; rintro e w2 ⟨rfl, hb2⟩
               have HB2 := ahZ ((HB.out.alloc hsz _).trans (hb2.mono (by simp; omega)))
               clear hb2 dc c0 c1 c2
               go_wp2
               go_roundw
               case rel => exact ⟨k + 1, by omega, by go_num, by rw [hn2]; exact HF.out, HB2.out⟩
               case measure => simp [intOf]; omega
             · have HF : Hid (qw K T E EE len 0 = sc) := ahZ (by rw [iW.out, if_neg r0])
               have r1 : (sc != 0) = true := by simpa using r0
               clear iW r0
               go_wp2_with fail
               refine dc.mono ?_; rintro e w2 ⟨rfl, hb2⟩
               have HB2 := ahZ ((HB.out.alloc hsz _).trans (hb2.mono (by simp; omega)))
               clear hb2 dc c0 c1 c2
               go_wp2
               go_ret
               exact ⟨aQ (by rw [HP.out, HF.out]), HB2.out⟩)
        · obtain rfl : k = len := by omega
          have HF : Hid (qw K T E EE k 0 = 0) := ahZ (by rw [hch, Nat.sub_self]; rfl)
          clear hch
          go_wp2
          go_ret
          exact ⟨aQ (by rw [HP.out, HF.out]), hB⟩
  · have HP : Hid (jH c K T E EE len = iU c) := ahZ (by unfold jH; rw [if_neg hc])
    generalize jH c K T E EE len = r at *
    generalize iU c = cc at *
    have hc1 : (cc != 0) = true := by simpa using hc
    clear hc
    go_enter Tryz.func45, Tryz.ntmps45
    go_wp2_with fail
    refine (CC _).mono ?_; rintro e w1 ⟨rfl, hb1⟩
    have HB1 : Hid (Below w.heap.size w w1) := ahZ (((Below.refl _ _).alloc (Nat.le_refl _) _).trans (hb1.mono (by simp)))
    clear hb1 CC
    go_wp2
    go_ret
    exact ⟨aQ HP.out.symm, HB1.out⟩
set_option maxRecDepth 8000
theorem XL (c : aS) (h : c.aC = false) (w : World) :
  Calls Tryz.prog 97 #[bE c] w λe w'=>e = .returned (.iface 233 (.agg #[])) /\ Below w.heap.size w w':=by
 unfold bE
 go_enter Tryz.func97,Tryz.ntmps97
 go_wp2
 go_ret
 exact ⟨rfl,by (repeat (first | exact Below.refl _ _ | assumption | (refine Below.drew ?_) | (refine below_drewN ?_ _) | (refine Below.alloc ?_ (by simp <;> omega) _) | (refine Below.setCell ?_ (by simp <;> omega) _)))⟩
theorem QV (c : aS) (h : c.aC = true) (w : World) :
  Calls Tryz.prog 97 #[bE c] w λe w'=>e = .returned (.iface 232 (.agg #[])) /\ Below w.heap.size w w':=by
 unfold bE
 go_enter Tryz.func97,Tryz.ntmps97
 go_wp2
 go_ret
 exact ⟨rfl,by (repeat (first | exact Below.refl _ _ | assumption | (refine Below.drew ?_) | (refine below_drewN ?_ _) | (refine Below.alloc ?_ (by simp <;> omega) _) | (refine Below.setCell ?_ (by simp <;> omega) _)))⟩
def mo (w : World) (b o : Nat) (p : Po) : Prop:=w.cell? ⟨b,o,none⟩ = some (.int .i64 (p).id) /\ w.cell? ⟨b,o + 1,none⟩ = some (.int .i64 (p).px) /\ w.cell? ⟨b,o + 2,none⟩ = some (.int .i64 (p).py) /\ w.cell? ⟨b,o + 3,none⟩ = some (.int .i64 (p).pz) /\ w.cell? ⟨b,o + 4,none⟩ = some (.int .u16 (p).aI) /\ w.cell? ⟨b,o + 5,none⟩ = some (.int .i64 (p).mode)
def fO (w : World) (s : Option Addr) (n : Nat) (P : Nat -> Po) : Prop :=
 n = 0 \/ ∃ b off,s = some ⟨b,off,none⟩ /\ b < w.heap.size /\ ∀ i,i < n -> mo w b (off + i * 6) (P i)
theorem mo.below {w w' : World} {b o : Nat} {p : Po} (h : mo w b o p) (hb : Below w.heap.size w w') (hl : b < w.heap.size) : mo w' b o p:=by
 unfold mo at *
 refine ⟨?_,?_,?_,?_,?_,?_⟩ <;> (rw [hb.cell (by simpa using hl)];first | exact h.1 | exact h.2.1 | exact h.2.2.1 | exact h.2.2.2.1 | exact h.2.2.2.2.1 | exact h.2.2.2.2.2)
theorem fO.below {w w' : World} {s : Option Addr} {n : Nat} {P : Nat -> Po} (h : fO w s n P) (hb : Below w.heap.size w w') : fO w' s n P:=by
 rcases h with h | ⟨b,off,e,hl,hc⟩
 ·exact .inl h
 ·exact .inr ⟨b,off,e,Nat.lt_of_lt_of_le hl hb.size,λi hi=>(hc i hi).below hb hl⟩
def jI (P : Nat -> Po) : Nat -> List Value
 | 0=>[]
 | k + 1=>jI P k ++ [.int .i64 (P k).id,.int .i64 (P k).px,.int .i64 (P k).py,.int .i64 (P k).pz,.int .u16 (P k).aI,.int .i64 (P k).mode]
theorem ER (P : Nat -> Po) : ∀ k,(jI P k).length = k * 6
 | 0=>rfl
 | k + 1=>by rw [jI,List.length_append,ER P k];simp;omega
theorem QW (P : Nat -> Po) : ∀ k i,i < k -> (jI P k)[i * 6]? = some (.int .i64 (P i).id) /\ (jI P k)[i * 6 + 1]? = some (.int .i64 (P i).px) /\ (jI P k)[i * 6 + 2]? = some (.int .i64 (P i).py) /\ (jI P k)[i * 6 + 3]? = some (.int .i64 (P i).pz) /\ (jI P k)[i * 6 + 4]? = some (.int .u16 (P i).aI) /\ (jI P k)[i * 6 + 5]? = some (.int .i64 (P i).mode)
 | 0,i,h=>by omega
 | k + 1,i,h=>by
  have hl:=ER P k
  rw [jI]
  by_cases e : i = k
  ·subst e
   rw [List.getElem?_append_right (by omega),List.getElem?_append_right (by omega),List.getElem?_append_right (by omega),List.getElem?_append_right (by omega),List.getElem?_append_right (by omega),List.getElem?_append_right (by omega),hl,show i * 6 - i * 6 = 0 by omega,show i * 6 + 1 - i * 6 = 1 by omega,show i * 6 + 2 - i * 6 = 2 by omega,show i * 6 + 3 - i * 6 = 3 by omega,show i * 6 + 4 - i * 6 = 4 by omega,show i * 6 + 5 - i * 6 = 5 by omega]
   exact ⟨rfl,rfl,rfl,rfl,rfl,rfl⟩
  ·rw [List.getElem?_append_left (by omega),List.getElem?_append_left (by omega),List.getElem?_append_left (by omega),List.getElem?_append_left (by omega),List.getElem?_append_left (by omega),List.getElem?_append_left (by omega)]
   exact QW P k i (by omega)
theorem oG {w : World} {base : Nat} {v : Value} {k : Nat} {P : Nat -> Po} (h : w.ownsRow base 52 6 v k (jI P k)) :
  ∃ s cp,v = .slice s k cp /\ fO w s k P:=by
 have h':=h
 obtain ⟨_,⟨rfl,rfl⟩ | ⟨g,cap,cur,rfl,hb,hg,hk,hm,hs,ht⟩⟩:=h'
 ·exact ⟨none,0,rfl,.inl rfl⟩
 ·refine ⟨_,_,rfl,.inr ⟨g,0,rfl,?_,λi hi=>?_⟩⟩
  ·exact (Array.getElem?_eq_some_iff.1 hg).1
  ·obtain ⟨a0,a1,a2,a3,a4,a5⟩:=QW P k i hi
   have c:=h.cells (g:=g) rfl
   have e : ∀ j,(⟨g,0,none⟩ : Addr).add j = ⟨g,0 + j,none⟩:=λj=>by unfold Addr.add;split <;> simp_all
   exact ⟨by rw [← e];exact c _ _ a0,by rw [Nat.add_assoc,← e];exact c _ _ a1,by rw [Nat.add_assoc,← e];exact c _ _ a2,by rw [Nat.add_assoc,← e];exact c _ _ a3,by rw [Nat.add_assoc,← e];exact c _ _ a4,by rw [Nat.add_assoc,← e];exact c _ _ a5⟩
theorem own_below {w w' : World} {base : Nat} {e : TypeId} {size : Nat} {v : Value} {n : Nat} {xs : List Value} (h : w.ownsRow base e size v n xs) (hb : Below w.heap.size w w') : w'.ownsRow base e size v n xs:=by
 obtain ⟨h1,h2⟩:=h
 refine ⟨h1,?_⟩
 rcases h2 with h2 | ⟨g,cap,cur,hv,hg,hh,r⟩
 ·exact Or.inl h2
 ·exact Or.inr ⟨g,cap,cur,hv,hg,by rw [hb.block g (Array.getElem?_eq_some_iff.1 hh).1];exact hh,r⟩
theorem gG {w : World} {b : Nat} {t : TypeId} {x0 x1 x2 x3 x4 x5 x6 x7 x8 : Value} (h : ak w b #[x0,x1,x2,x3,x4,x5,x6,x7,x8] t) :
  w.cell? ⟨b,0,none⟩ = some x0 /\ w.cell? ⟨b,1,none⟩ = some x1 /\ w.cell? ⟨b,2,none⟩ = some x2 /\ w.cell? ⟨b,3,none⟩ = some x3 /\ w.cell? ⟨b,4,none⟩ = some x4 /\ w.cell? ⟨b,5,none⟩ = some x5 /\ w.cell? ⟨b,6,none⟩ = some x6 /\ w.cell? ⟨b,7,none⟩ = some x7 /\ w.cell? ⟨b,8,none⟩ = some x8 :=
 ⟨by simpa using h.cell 0,by simpa using h.cell 1,by simpa using h.cell 2,by simpa using h.cell 3,by simpa using h.cell 4,by simpa using h.cell 5,by simpa using h.cell 6,by simpa using h.cell 7,by simpa using h.cell 8⟩
theorem nu {w : World} {b : Nat} {t : TypeId} {x0 x1 x2 x3 x4 x5 : Value} (h : ak w b #[x0,x1,x2,x3,x4,x5] t) :
  w.cell? ⟨b,0,none⟩ = some x0 /\ w.cell? ⟨b,1,none⟩ = some x1 /\ w.cell? ⟨b,2,none⟩ = some x2 /\ w.cell? ⟨b,3,none⟩ = some x3 /\ w.cell? ⟨b,4,none⟩ = some x4 /\ w.cell? ⟨b,5,none⟩ = some x5 :=
 ⟨by simpa using h.cell 0,by simpa using h.cell 1,by simpa using h.cell 2,by simpa using h.cell 3,by simpa using h.cell 4,by simpa using h.cell 5⟩
theorem pV {w : World} {b : Nat} {t : TypeId} {cs : Array Value} (h : ak w b cs t) :
  w.frozen? ⟨b,0,none⟩ = false /\ w.frozen? ⟨b,1,none⟩ = false /\ w.frozen? ⟨b,2,none⟩ = false /\ w.frozen? ⟨b,3,none⟩ = false /\ w.frozen? ⟨b,4,none⟩ = false /\ w.frozen? ⟨b,5,none⟩ = false :=
 ⟨h.free 0,h.free 1,h.free 2,h.free 3,h.free 4,h.free 5⟩
theorem fV {w : World} {b : Nat} {t : TypeId} {x0 x1 x2 : Value} (h : ak w b #[x0,x1,x2] t) :
  w.cell? ⟨b,0,none⟩ = some x0 /\ w.cell? ⟨b,1,none⟩ = some x1 /\ w.cell? ⟨b,2,none⟩ = some x2 :=
 ⟨by simpa using h.cell 0,by simpa using h.cell 1,by simpa using h.cell 2⟩
theorem vQ : (Tryz.prog.info? 52).map (λi=>(i.zero,i.size,i.bytes)) = some (some (.agg #[.int .i64 0,.int .i64 0,.int .i64 0,.int .i64 0,.int .u16 0,.int .i64 0]),6,48):=by kernel_rfl
theorem XM : bS.Ok:=by
 constructor <;> (simp only [bS];first | exact ⟨by omega,by omega⟩ | (unfold aA;omega))
theorem QX {w : World} {a : Option Addr} {len : Nat} {E : Nat -> ay} (h : bV w a len E) (id : Int) : (Af E id len).Ok:=by
 unfold Af
 split
 ·rename_i hj;exact h.1 _ hj
 ·exact XM
theorem Oo (w : World) (k0 t0 k1 t1 : Int) (a b : Option Addr) (la ca lb cb : Nat) (A B : Nat -> ay) (ha : bV w a la A) (hb : bV w b lb B) (hla : (la : Int) <= 4611686018427387904) (hlb : (lb : Int) <= 4611686018427387904) :
  qI (w.alloc (.cells #[.int .i64 k0,.int .i64 t0,.slice a la ca,.int .i64 k1,.int .i64 t1,.slice b lb cb] 36)) (some ⟨w.heap.size,0,none⟩) 2 (two k0 k1) (two t0 t1) (two (a,la,ca) (b,lb,cb)) (two A B):=by
 refine ⟨QF w k0 t0 k1 t1 a b la ca lb cb,λi hi=>?_⟩
 have hB : Below w.heap.size w (w.alloc (.cells #[.int .i64 k0,.int .i64 t0,.slice a la ca,.int .i64 k1,.int .i64 t1,.slice b lb cb] 36)):=(Below.refl _ _).alloc (Nat.le_refl _) _
 match i,hi with
 | 0,_=>exact ⟨ha.below hB,hla⟩
 | 1,_=>exact ⟨hb.below hB,hlb⟩
theorem JV (w : World) (k0 t0 : Int) (a : Option Addr) (la ca : Nat) (A : Nat -> ay) (ha : bV w a la A) (hla : (la : Int) <= 4611686018427387904) :
  qI (w.alloc (.cells #[.int .i64 k0,.int .i64 t0,.slice a la ca] 36)) (some ⟨w.heap.size,0,none⟩) 1 (λ_=>k0) (λ_=>t0) (λ_=>(a,la,ca)) (λ_=>A) :=
 ⟨QG w k0 t0 a la ca,λi hi=>⟨ha.below ((Below.refl _ _).alloc (Nat.le_refl _) _),hla⟩⟩
set_option maxRecDepth 100000
theorem Hl {a b t : Int} (h : jE a b t = 0) : iP (tV a b t) (tX a b t) = true /\ a <= t /\ t <= b /\ a < b /\ (-2305843009213693952 <= a /\ a <= 2305843009213693952) /\ (-2305843009213693952 <= b /\ b <= 2305843009213693952) /\ tV a b t = t - a /\ tX a b t = b - a := by
  have hn : tV a b t = t - a := by unfold tV; rw [if_pos h]
  have hd : tX a b t = b - a := by unfold tX; rw [if_pos h]
  have hc : gK (two a b) 2 = 0 := by
    unfold jE at h
    split at h
    · assumption
    · assumption
  have h1 : ¬ (t < a \/ b < t) := by
    unfold jE at h
    rw [if_pos hc] at h
    intro hh; rw [if_pos hh] at h; exact absurd h (by decide)
  have b0 := rM hc (show 0 < 2 by omega)
  have b1 := rM hc (show 1 < 2 by omega)
  have b2 := JL hc (show 0 < 1 by omega) (show 1 < 2 by omega)
  simp only [two] at b0 b1 b2
  refine ⟨?_, by omega, by omega, b2, b0, b1, hn, hd⟩
  rw [hn, hd]
  exact qU.2 ⟨by omega, by omega, by omega, by omega⟩
theorem qQ {w w' : World} {S : Nat -> Prop} {base : Nat} {e : TypeId} {size : Nat} {v : Value} {n : Nat} {xs : List Value} (h : w.ownsRow base e size v n xs) (ho : Only S w w') (hS : ∀ j, v.ownBlock = some j -> ¬ S j) : w'.ownsRow base e size v n xs := by
  obtain ⟨h1, h2⟩ := h
  refine ⟨h1, ?_⟩
  rcases h2 with h2 | ⟨g, cap, cur, hv, hg, hh, r⟩
  · exact Or.inl h2
  · exact Or.inr ⟨g, cap, cur, hv, hg, by rw [ho.block g (Array.getElem?_eq_some_iff.1 hh).1 (hS g (by rw [hv]; rfl))]; exact hh, r⟩
theorem MK (a b num den : Int) (ha : Dn a) (hb : Dn b) (h : iP num den = true) (w : World) :
    Calls Tryz.prog 98 #[.int .u16 a, .int .u16 b, .int .i64 num, .int .i64 den] w λe w' => e = .returned (.tuple #[.int .u16 (rO a b num den), .int .i64 0]) /\ Below w.heap.size w w' :=
  (XK a b num den ha hb h w).mono λe w' ⟨h1, n, h2⟩ => ⟨h1, by rw [h2]; exact below_drewN (Below.refl _ _) n⟩
theorem kY {U : World} {n : Nat} {cs : Array Value} {t : TypeId} (hn : U.heap.size = n) : ∀ (j : Nat) (u : Value), cs.toList[j]? = some u -> (U.alloc (.cells cs t)).cell? ((⟨n, 0, none⟩ : Addr).add j) = some u := by
  intro j u h
  subst hn
  have e : (⟨U.heap.size, 0, none⟩ : Addr).add j = ⟨U.heap.size, j, none⟩ := by unfold Addr.add; split <;> simp_all
  rw [e, (ak.new U cs t).cell j]
  simpa using h
theorem ES {w : World} {b : Nat} {cs : Array Value} {t : TypeId} (h : ak w b cs t) (i0 : Nat) (v0 : Value) (i1 : Nat) (v1 : Value) (i2 : Nat) (v2 : Value) (i3 : Nat) (v3 : Value) :
    ak ((((w.setCell ⟨b, i0, none⟩ v0).setCell ⟨b, i1, none⟩ v1).setCell ⟨b, i2, none⟩ v2).setCell ⟨b, i3, none⟩ v3) b ((((cs.setIfInBounds i0 v0).setIfInBounds i1 v1).setIfInBounds i2 v2).setIfInBounds i3 v3) t /\
      Only (· = b) w ((((w.setCell ⟨b, i0, none⟩ v0).setCell ⟨b, i1, none⟩ v1).setCell ⟨b, i2, none⟩ v2).setCell ⟨b, i3, none⟩ v3) :=
  ⟨(((h.set i0 v0).set i1 v1).set i2 v2).set i3 v3, ((((Only.refl (· = b) w).setCell (.inl rfl) _).setCell (.inl rfl) _).setCell (.inl rfl) _).setCell (.inl rfl) _⟩
def D9 (cur : Bool) (x y : ay) (ok : Bool) (num den : Int) : Po :=
  if ok = true /\ y.gen = x.gen then
    (if cur = true then ⟨x.id, dP x.px x.vx y.px y.vx num den, dP x.py x.vy y.py y.vy num den, dP x.pz x.vz y.pz y.vz num den, rO x.aI y.aI num den, 2⟩
     else ⟨x.id, dA x.px y.px num den, dA x.py y.py num den, dA x.pz y.pz num den, rO x.aI y.aI num den, 1⟩)
  else uF x
def AZ (cur : Bool) (A B : Nat -> ay) (lb : Nat) (num den : Int) (i : Nat) : Po := D9 cur (A i) (Af B (A i).id lb) (He B (A i).id lb) num den
def oH (c : aS) (ka ta : Int) (aa : Option Addr) (la ca : Nat) (A : Nat -> ay) (kb tb : Int) (ab : Option Addr) (lb cb : Nat) (B : Nat -> ay) : Int :=
  jH c (two ka kb) (two ta tb) (two (aa, la, ca) (ab, lb, cb)) (two A B) 2
theorem Dp {tick time : Int} {len : Nat} {E : Nat -> ay} (h : dJ tick time len E = 0) : len <= 64 := by
  unfold dJ at h
  split at h
  · exact absurd h (by decide)
  · split at h
    · exact absurd h (by decide)
    · omega
theorem JW {c : aS} {ka ta : Int} {aa : Option Addr} {la ca : Nat} {A : Nat -> ay} {kb tb : Int} {ab : Option Addr} {lb cb : Nat} {B : Nat -> ay} (h : oH c ka ta aa la ca A kb tb ab lb cb B = 0) : la <= 64 := by
  unfold oH jH at h
  split at h
  · have h2 : dJ ka ta la A = 0 := by
      by_cases e : dJ ka ta la A = 0
      · exact e
      · have : qw (two ka kb) (two ta tb) (two (aa, la, ca) (ab, lb, cb)) (two A B) 2 0 = dJ ka ta la A := by
          show (if dJ ka ta la A = 0 then _ else dJ ka ta la A) = _
          rw [if_neg e]
        rw [this] at h; exact h
    exact Dp h2
  · contradiction
set_option maxHeartbeats 1000000 in
theorem UC (c : aS) (ka ta : Int) (aa : Option Addr) (la ca : Nat) (A : Nat -> ay) (kb tb : Int) (ab : Option Addr) (lb cb : Nat) (B : Nat -> ay) (au : Int) (w : World) (ha : bV w aa la A) (hb : bV w ab lb B) (hla : (la : Int) <= 4611686018427387904) (hlb : (lb : Int) <= 4611686018427387904) (h0 : oH c ka ta aa la ca A kb tb ab lb cb B ≠ 0) :
    Calls Tryz.prog 48 #[bE c, bC ka ta aa la ca, bC kb tb ab lb cb, .int .i64 au] w λe w' => e = .returned (.tuple #[.slice none 0 0, .int .i64 (oH c ka ta aa la ca A kb tb ab lb cb B)]) /\ Below w.heap.size w w' := by
  have hB3 : Below w.heap.size w (((w.alloc (.cells #[.int .i64 c.ring, .int .i64 c.window, .int .i64 c.base, .int .i64 c.gain, .int .i64 c.least, .int .i64 c.most, .int .i64 c.aF, .int .i64 c.num, .int .i64 c.den, .int .i64 c.extra, .bool c.aC] 29)).alloc (.cells #[.int .i64 ka, .int .i64 ta, .slice aa la ca] 36)).alloc (.cells #[.int .i64 kb, .int .i64 tb, .slice ab lb cb] 36)) := (((Below.refl _ _).alloc (Nat.le_refl _) _).alloc (by simp) _).alloc (by simp; omega) _
  have bc := (((ak.new w #[.int .i64 c.ring, .int .i64 c.window, .int .i64 c.base, .int .i64 c.gain, .int .i64 c.least, .int .i64 c.most, .int .i64 c.aF, .int .i64 c.num, .int .i64 c.den, .int .i64 c.extra, .bool c.aC] 29).alloc (.cells #[.int .i64 ka, .int .i64 ta, .slice aa la ca] 36)).alloc (.cells #[.int .i64 kb, .int .i64 tb, .slice ab lb cb] 36))
  have ba := ((ak.new (w.alloc (.cells #[.int .i64 c.ring, .int .i64 c.window, .int .i64 c.base, .int .i64 c.gain, .int .i64 c.least, .int .i64 c.most, .int .i64 c.aF, .int .i64 c.num, .int .i64 c.den, .int .i64 c.extra, .bool c.aC] 29)) #[.int .i64 ka, .int .i64 ta, .slice aa la ca] 36).alloc (.cells #[.int .i64 kb, .int .i64 tb, .slice ab lb cb] 36))
  have bb := ak.new ((w.alloc (.cells #[.int .i64 c.ring, .int .i64 c.window, .int .i64 c.base, .int .i64 c.gain, .int .i64 c.least, .int .i64 c.most, .int .i64 c.aF, .int .i64 c.num, .int .i64 c.den, .int .i64 c.extra, .bool c.aC] 29)).alloc (.cells #[.int .i64 ka, .int .i64 ta, .slice aa la ca] 36)) #[.int .i64 kb, .int .i64 tb, .slice ab lb cb] 36
  have CK := jy c (some ⟨(((w.alloc (.cells #[.int .i64 c.ring, .int .i64 c.window, .int .i64 c.base, .int .i64 c.gain, .int .i64 c.least, .int .i64 c.most, .int .i64 c.aF, .int .i64 c.num, .int .i64 c.den, .int .i64 c.extra, .bool c.aC] 29)).alloc (.cells #[.int .i64 ka, .int .i64 ta, .slice aa la ca] 36)).alloc (.cells #[.int .i64 kb, .int .i64 tb, .slice ab lb cb] 36)).heap.size, 0, none⟩) 2 2 _ _ _ _ _ (Oo (((w.alloc (.cells #[.int .i64 c.ring, .int .i64 c.window, .int .i64 c.base, .int .i64 c.gain, .int .i64 c.least, .int .i64 c.most, .int .i64 c.aF, .int .i64 c.num, .int .i64 c.den, .int .i64 c.extra, .bool c.aC] 29)).alloc (.cells #[.int .i64 ka, .int .i64 ta, .slice aa la ca] 36)).alloc (.cells #[.int .i64 kb, .int .i64 tb, .slice ab lb cb] 36)) ka ta kb tb aa ab la ca lb cb A B (ha.below hB3) (hb.below hB3) hla hlb) (by decide)
  have hs3 : (((w.alloc (.cells #[.int .i64 c.ring, .int .i64 c.window, .int .i64 c.base, .int .i64 c.gain, .int .i64 c.least, .int .i64 c.most, .int .i64 c.aF, .int .i64 c.num, .int .i64 c.den, .int .i64 c.extra, .bool c.aC] 29)).alloc (.cells #[.int .i64 ka, .int .i64 ta, .slice aa la ca] 36)).alloc (.cells #[.int .i64 kb, .int .i64 tb, .slice ab lb cb] 36)).heap.size = w.heap.size + 1 + 1 + 1 := by simp
  change Calls _ _ _ _ (λe w' => e = .returned (.int .i64 (oH c ka ta aa la ca A kb tb ab lb cb B)) /\ _) at CK
  simp only [World.size_alloc] at ba bb
  unfold bE at CK ⊢
  unfold bC
  generalize oH c ka ta aa la ca A kb tb ab lb cb B = z at *
  have hz : (z != 0) = true := by simpa using h0
  go_enter Tryz.func48, Tryz.ntmps48
  go_wp2_with fail
  generalize (((w.alloc (.cells #[.int .i64 c.ring, .int .i64 c.window, .int .i64 c.base, .int .i64 c.gain, .int .i64 c.least, .int .i64 c.most, .int .i64 c.aF, .int .i64 c.num, .int .i64 c.den, .int .i64 c.extra, .bool c.aC] 29)).alloc (.cells #[.int .i64 ka, .int .i64 ta, .slice aa la ca] 36)).alloc (.cells #[.int .i64 kb, .int .i64 tb, .slice ab lb cb] 36)) = W at *
  rw [hs3] at CK
  refine CK.mono ?_; rintro e w1 ⟨rfl, hb1⟩
  have hB1 : Below W.heap.size W w1 := ((Below.refl _ _).alloc (Nat.le_refl _) _).trans (hb1.mono (by simp))
  have HB1 : Hid (Below w.heap.size w w1) := ahZ (hB3.trans (hB1.mono hB3.size))
  have SC := ahZ (bc.below hB1 bc.lt)
  have SA := ahZ (ba.below hB1 ba.lt)
  have SB := ahZ (bb.below hB1 bb.lt)
  clear hB3 hb1 hB1 CK bc ba bb hs3
  go_wp2
  exact bodyPost_ret (v := .tuple #[.slice none 0 0, .int .i64 z]) (by simp [results, Tryz.results48, go_sem]) rfl ⟨rfl, HB1.out⟩
set_option maxHeartbeats 1000000 in
theorem QY (c : aS) (ka ta : Int) (aa : Option Addr) (la ca : Nat) (A : Nat -> ay) (kb tb : Int) (ab : Option Addr) (lb cb : Nat) (B : Nat -> ay) (au : Int) (w : World) (ha : bV w aa la A) (hb : bV w ab lb B) (hla : (la : Int) <= 4611686018427387904) (hlb : (lb : Int) <= 4611686018427387904) (h0 : oH c ka ta aa la ca A kb tb ab lb cb B = 0) (h1 : jE ta tb au ≠ 0) :
    Calls Tryz.prog 48 #[bE c, bC ka ta aa la ca, bC kb tb ab lb cb, .int .i64 au] w λe w' => e = .returned (.tuple #[.slice none 0 0, .int .i64 (jE ta tb au)]) /\ Below w.heap.size w w' := by
  have PT := Gg ka ta kb tb au aa ab la ca lb cb
  have hB3 : Below w.heap.size w (((w.alloc (.cells #[.int .i64 c.ring, .int .i64 c.window, .int .i64 c.base, .int .i64 c.gain, .int .i64 c.least, .int .i64 c.most, .int .i64 c.aF, .int .i64 c.num, .int .i64 c.den, .int .i64 c.extra, .bool c.aC] 29)).alloc (.cells #[.int .i64 ka, .int .i64 ta, .slice aa la ca] 36)).alloc (.cells #[.int .i64 kb, .int .i64 tb, .slice ab lb cb] 36)) := (((Below.refl _ _).alloc (Nat.le_refl _) _).alloc (by simp) _).alloc (by simp; omega) _
  have bc := (((ak.new w #[.int .i64 c.ring, .int .i64 c.window, .int .i64 c.base, .int .i64 c.gain, .int .i64 c.least, .int .i64 c.most, .int .i64 c.aF, .int .i64 c.num, .int .i64 c.den, .int .i64 c.extra, .bool c.aC] 29).alloc (.cells #[.int .i64 ka, .int .i64 ta, .slice aa la ca] 36)).alloc (.cells #[.int .i64 kb, .int .i64 tb, .slice ab lb cb] 36))
  have ba := ((ak.new (w.alloc (.cells #[.int .i64 c.ring, .int .i64 c.window, .int .i64 c.base, .int .i64 c.gain, .int .i64 c.least, .int .i64 c.most, .int .i64 c.aF, .int .i64 c.num, .int .i64 c.den, .int .i64 c.extra, .bool c.aC] 29)) #[.int .i64 ka, .int .i64 ta, .slice aa la ca] 36).alloc (.cells #[.int .i64 kb, .int .i64 tb, .slice ab lb cb] 36))
  have bb := ak.new ((w.alloc (.cells #[.int .i64 c.ring, .int .i64 c.window, .int .i64 c.base, .int .i64 c.gain, .int .i64 c.least, .int .i64 c.most, .int .i64 c.aF, .int .i64 c.num, .int .i64 c.den, .int .i64 c.extra, .bool c.aC] 29)).alloc (.cells #[.int .i64 ka, .int .i64 ta, .slice aa la ca] 36)) #[.int .i64 kb, .int .i64 tb, .slice ab lb cb] 36
  have CK := jy c (some ⟨(((w.alloc (.cells #[.int .i64 c.ring, .int .i64 c.window, .int .i64 c.base, .int .i64 c.gain, .int .i64 c.least, .int .i64 c.most, .int .i64 c.aF, .int .i64 c.num, .int .i64 c.den, .int .i64 c.extra, .bool c.aC] 29)).alloc (.cells #[.int .i64 ka, .int .i64 ta, .slice aa la ca] 36)).alloc (.cells #[.int .i64 kb, .int .i64 tb, .slice ab lb cb] 36)).heap.size, 0, none⟩) 2 2 _ _ _ _ _ (Oo (((w.alloc (.cells #[.int .i64 c.ring, .int .i64 c.window, .int .i64 c.base, .int .i64 c.gain, .int .i64 c.least, .int .i64 c.most, .int .i64 c.aF, .int .i64 c.num, .int .i64 c.den, .int .i64 c.extra, .bool c.aC] 29)).alloc (.cells #[.int .i64 ka, .int .i64 ta, .slice aa la ca] 36)).alloc (.cells #[.int .i64 kb, .int .i64 tb, .slice ab lb cb] 36)) ka ta kb tb aa ab la ca lb cb A B (ha.below hB3) (hb.below hB3) hla hlb) (by decide)
  have hs3 : (((w.alloc (.cells #[.int .i64 c.ring, .int .i64 c.window, .int .i64 c.base, .int .i64 c.gain, .int .i64 c.least, .int .i64 c.most, .int .i64 c.aF, .int .i64 c.num, .int .i64 c.den, .int .i64 c.extra, .bool c.aC] 29)).alloc (.cells #[.int .i64 ka, .int .i64 ta, .slice aa la ca] 36)).alloc (.cells #[.int .i64 kb, .int .i64 tb, .slice ab lb cb] 36)).heap.size = w.heap.size + 1 + 1 + 1 := by simp
  change Calls _ _ _ _ (λe w' => e = .returned (.int .i64 (oH c ka ta aa la ca A kb tb ab lb cb B)) /\ _) at CK
  simp only [World.size_alloc] at ba bb
  unfold bE at CK ⊢
  unfold bC
  rw [h0] at CK
  clear h0
  generalize jE ta tb au = z at *
  generalize tV ta tb au = num at *
  generalize tX ta tb au = den at *
  have hz : (z != 0) = true := by simpa using h1
  go_enter Tryz.func48, Tryz.ntmps48
  go_wp2_with fail
  generalize (((w.alloc (.cells #[.int .i64 c.ring, .int .i64 c.window, .int .i64 c.base, .int .i64 c.gain, .int .i64 c.least, .int .i64 c.most, .int .i64 c.aF, .int .i64 c.num, .int .i64 c.den, .int .i64 c.extra, .bool c.aC] 29)).alloc (.cells #[.int .i64 ka, .int .i64 ta, .slice aa la ca] 36)).alloc (.cells #[.int .i64 kb, .int .i64 tb, .slice ab lb cb] 36)) = W at *
  rw [hs3] at CK
  refine CK.mono ?_; rintro e w1 ⟨rfl, hb1⟩
  have hB1 : Below W.heap.size W w1 := ((Below.refl _ _).alloc (Nat.le_refl _) _).trans (hb1.mono (by simp))
  have HB1 : Hid (Below w.heap.size w w1) := ahZ (hB3.trans (hB1.mono hB3.size))
  have SC := ahZ (bc.below hB1 bc.lt)
  have SA := ahZ (ba.below hB1 ba.lt)
  have SB := ahZ (bb.below hB1 bb.lt)
  clear hB3 hb1 hB1 CK bc ba bb hs3
  obtain ⟨a0, a1, a2⟩ := fV SA.out
  obtain ⟨b0, b1, b2⟩ := fV SB.out
  go_wp2_with fail
  refine (PT _).mono ?_; rintro e w2 ⟨rfl, hb2⟩
  have HB2 : Hid (Below w.heap.size w w2) := ahZ (HB1.out.trans (hb2.mono HB1.out.size))
  clear hb2 a0 a1 a2 b0 b1 b2 PT
  go_wp2
  exact bodyPost_ret (v := .tuple #[.slice none 0 0, .int .i64 z]) (by simp [results, Tryz.results48, go_sem]) rfl ⟨rfl, HB2.out⟩
set_option maxHeartbeats 4000000 in
theorem QZ (c : aS) (Q0 : c.aC = false) (ka ta : Int) (aa : Option Addr) (la ca : Nat) (A : Nat -> ay) (kb tb : Int) (ab : Option Addr) (lb cb : Nat) (B : Nat -> ay) (au : Int) (w : World) (ha : bV w aa la A) (hb : bV w ab lb B) (hla : (la : Int) <= 4611686018427387904) (hlb : (lb : Int) <= 4611686018427387904) (h0 : oH c ka ta aa la ca A kb tb ab lb cb B = 0) (h1 : jE ta tb au = 0) :
    Calls Tryz.prog 48 #[bE c, bC ka ta aa la ca, bC kb tb ab lb cb, .int .i64 au] w λe w' => ∃ s cp, e = .returned (.tuple #[.slice s la cp, .int .i64 0]) /\ fO w' s la (AZ false A B lb (au - ta) (tb - ta)) /\ Below w.heap.size w w' := by
  obtain ⟨i0, hi, hz0, hz1, hz2⟩ := info_parts vQ
  have PT := Gg ka ta kb tb au aa ab la ca lb cb
  have OF := XL c Q0
  have Gi := JW h0
  obtain ⟨vw, _, _, _, _, _, hN, hD⟩ := Hl h1
  rw [hN, hD] at vw PT
  rw [h1] at PT
  obtain ⟨num, JX⟩ : ∃ x, au - ta = x := ⟨_, rfl⟩
  obtain ⟨den, hden⟩ : ∃ x, tb - ta = x := ⟨_, rfl⟩
  rw [JX, hden] at vw PT ⊢
  clear hN hD h1 JX hden Q0
  obtain ⟨P, hP⟩ : ∃ P, AZ false A B lb num den = P := ⟨_, rfl⟩
  have HP : Hid (∀ i, P i = D9 false (A i) (Af B (A i).id lb) (He B (A i).id lb) num den) := ahZ (λi => by rw [← hP]; rfl)
  rw [hP]
  clear hP
  have Ze := ME
  have Zf := yS
  have hB3 : Below w.heap.size w (((w.alloc (.cells #[.int .i64 c.ring, .int .i64 c.window, .int .i64 c.base, .int .i64 c.gain, .int .i64 c.least, .int .i64 c.most, .int .i64 c.aF, .int .i64 c.num, .int .i64 c.den, .int .i64 c.extra, .bool c.aC] 29)).alloc (.cells #[.int .i64 ka, .int .i64 ta, .slice aa la ca] 36)).alloc (.cells #[.int .i64 kb, .int .i64 tb, .slice ab lb cb] 36)) := (((Below.refl _ _).alloc (Nat.le_refl _) _).alloc (by simp) _).alloc (by simp; omega) _
  have bc := (((ak.new w #[.int .i64 c.ring, .int .i64 c.window, .int .i64 c.base, .int .i64 c.gain, .int .i64 c.least, .int .i64 c.most, .int .i64 c.aF, .int .i64 c.num, .int .i64 c.den, .int .i64 c.extra, .bool c.aC] 29).alloc (.cells #[.int .i64 ka, .int .i64 ta, .slice aa la ca] 36)).alloc (.cells #[.int .i64 kb, .int .i64 tb, .slice ab lb cb] 36))
  have ba := ((ak.new (w.alloc (.cells #[.int .i64 c.ring, .int .i64 c.window, .int .i64 c.base, .int .i64 c.gain, .int .i64 c.least, .int .i64 c.most, .int .i64 c.aF, .int .i64 c.num, .int .i64 c.den, .int .i64 c.extra, .bool c.aC] 29)) #[.int .i64 ka, .int .i64 ta, .slice aa la ca] 36).alloc (.cells #[.int .i64 kb, .int .i64 tb, .slice ab lb cb] 36))
  have bb := ak.new ((w.alloc (.cells #[.int .i64 c.ring, .int .i64 c.window, .int .i64 c.base, .int .i64 c.gain, .int .i64 c.least, .int .i64 c.most, .int .i64 c.aF, .int .i64 c.num, .int .i64 c.den, .int .i64 c.extra, .bool c.aC] 29)).alloc (.cells #[.int .i64 ka, .int .i64 ta, .slice aa la ca] 36)) #[.int .i64 kb, .int .i64 tb, .slice ab lb cb] 36
  have CK := jy c (some ⟨(((w.alloc (.cells #[.int .i64 c.ring, .int .i64 c.window, .int .i64 c.base, .int .i64 c.gain, .int .i64 c.least, .int .i64 c.most, .int .i64 c.aF, .int .i64 c.num, .int .i64 c.den, .int .i64 c.extra, .bool c.aC] 29)).alloc (.cells #[.int .i64 ka, .int .i64 ta, .slice aa la ca] 36)).alloc (.cells #[.int .i64 kb, .int .i64 tb, .slice ab lb cb] 36)).heap.size, 0, none⟩) 2 2 _ _ _ _ _ (Oo (((w.alloc (.cells #[.int .i64 c.ring, .int .i64 c.window, .int .i64 c.base, .int .i64 c.gain, .int .i64 c.least, .int .i64 c.most, .int .i64 c.aF, .int .i64 c.num, .int .i64 c.den, .int .i64 c.extra, .bool c.aC] 29)).alloc (.cells #[.int .i64 ka, .int .i64 ta, .slice aa la ca] 36)).alloc (.cells #[.int .i64 kb, .int .i64 tb, .slice ab lb cb] 36)) ka ta kb tb aa ab la ca lb cb A B (ha.below hB3) (hb.below hB3) hla hlb) (by decide)
  have hs3 : (((w.alloc (.cells #[.int .i64 c.ring, .int .i64 c.window, .int .i64 c.base, .int .i64 c.gain, .int .i64 c.least, .int .i64 c.most, .int .i64 c.aF, .int .i64 c.num, .int .i64 c.den, .int .i64 c.extra, .bool c.aC] 29)).alloc (.cells #[.int .i64 ka, .int .i64 ta, .slice aa la ca] 36)).alloc (.cells #[.int .i64 kb, .int .i64 tb, .slice ab lb cb] 36)).heap.size = w.heap.size + 1 + 1 + 1 := by simp
  change Calls _ _ _ _ (λe w' => e = .returned (.int .i64 (oH c ka ta aa la ca A kb tb ab lb cb B)) /\ _) at CK
  simp only [World.size_alloc] at ba bb
  unfold bE at CK ⊢
  unfold bC
  go_enter Tryz.func48, Tryz.ntmps48
  go_wp2_with fail
  generalize (((w.alloc (.cells #[.int .i64 c.ring, .int .i64 c.window, .int .i64 c.base, .int .i64 c.gain, .int .i64 c.least, .int .i64 c.most, .int .i64 c.aF, .int .i64 c.num, .int .i64 c.den, .int .i64 c.extra, .bool c.aC] 29)).alloc (.cells #[.int .i64 ka, .int .i64 ta, .slice aa la ca] 36)).alloc (.cells #[.int .i64 kb, .int .i64 tb, .slice ab lb cb] 36)) = W at *
  rw [hs3] at CK
  refine CK.mono ?_; rintro e w1 ⟨rfl, hb1⟩
  have hB1 : Below W.heap.size W w1 := ((Below.refl _ _).alloc (Nat.le_refl _) _).trans (hb1.mono (by simp))
  have HB1 : Hid (Below w.heap.size w w1) := ahZ (hB3.trans (hB1.mono hB3.size))
  have SC := ahZ (bc.below hB1 bc.lt)
  have SA := ahZ (ba.below hB1 ba.lt)
  have SB := ahZ (bb.below hB1 bb.lt)
  clear hB3 hb1 hB1 CK bc ba bb hs3
  rw [h0]
  clear h0
  have zN := ha.1
  have yT : Hid (∀ k, k < la -> ∃ b off, aa = some ⟨b, off, none⟩ /\ b < w.heap.size /\ dh w b (off + k * 9) (A k)) := ahZ (λk hk => by
    rcases ha.2 with h0 | ⟨b, off, e, hb, hc⟩
    · omega
    · exact ⟨b, off, e, hb, hc k hk⟩)
  obtain ⟨a0, a1, a2⟩ := fV SA.out
  obtain ⟨b0, b1, b2⟩ := fV SB.out
  go_wp2_with fail
  refine (PT _).mono ?_; rintro e w2 ⟨rfl, hb2⟩
  have ql := ahZ (SC.out.below hb2 SC.out.lt)
  clear SC
  have SC := ql
  clear ql
  have oI := ahZ (SA.out.below hb2 SA.out.lt)
  clear SA
  have SA := oI
  clear oI
  have A8 := ahZ (SB.out.below hb2 SB.out.lt)
  clear SB
  have SB := A8
  clear A8
  have HB2 : Hid (Below w.heap.size w w2) := ahZ (HB1.out.trans (hb2.mono HB1.out.size))
  clear hb2 a0 a1 a2 b0 b1 b2 PT HB1
  obtain ⟨q0, q1, q2, q3, q4, q5, q6, q7, q8, q9, mP⟩ := gD SC.out
  unfold bE at OF
  go_wp2_with fail
  refine (OF _).mono ?_; rintro e W0 ⟨rfl, hb3⟩
  have oI := ahZ (SA.out.below hb3 SA.out.lt)
  clear SA
  have SA := oI
  clear oI
  have A8 := ahZ (SB.out.below hb3 SB.out.lt)
  clear SB
  have SB := A8
  clear A8
  have HW0 : Hid (Below w.heap.size w W0) := ahZ (HB2.out.trans (hb3.mono HB2.out.size))
  clear hb3 q0 q1 q2 q3 q4 q5 q6 q7 q8 q9 mP OF HB2 SC
  obtain ⟨a0, a1, a2⟩ := fV SA.out
  have hs2 := SB.out.lt
  go_wp2_with fail
  clear a0 a1 a2
  go_loopw [15, 45] (λv i wr => ∃ k : Nat, k <= la /\ i = .int .i64 k /\ wr.ownsRow W0.heap.size 52 6 v k (jI P k) /\ Below W0.heap.size W0 wr) (λ_ i _ => la - (intOf i).toNat)
  case atStart => exact ⟨0, Nat.zero_le _, rfl, World.ownsRow_nil _ _ _ _, Below.refl _ _⟩
  case round =>
      rename_i wr
      obtain ⟨k, hk, rfl, hown, hB⟩ := hrel
      have hsz := hB.size
      by_cases hlt : k < la
      · obtain ⟨b, off, ET, hbw, hc⟩ := yT.out k hlt
        subst ET
        have hcw := hc.below (HW0.out.trans (hB.mono HW0.out.size)) hbw
        have hx := zN k hlt
        have hy : (Af B (A k).id lb).Ok := QX hb (A k).id
        have A9 := ahZ (HP.out k)
        have HL : Hid (jI P (k + 1) = jI P k ++ [.int .i64 (P k).id, .int .i64 (P k).px, .int .i64 (P k).py, .int .i64 (P k).pz, .int .u16 (P k).aI, .int .i64 (P k).mode]) := ahZ rfl
        have FD := ahZ (λw' (hw : Below w.heap.size w w') => Ze kb tb ab lb cb B (A k).id w' (hb.below hw) hlb)
        have EX := Zf (A k)
        unfold bR JU uF at EX
        unfold bR bC at FD
        have hkl : (k : Int) < la := by omega
        have HOWN := ahZ hown
        have eB := ahZ (λj e => (hown.lt j e).2)
        have HB := ahZ hB
        clear hc hown hB
        generalize P k = pk at *
        generalize He B (A k).id lb = fb at *
        generalize Af B (A k).id lb = y at *
        generalize A k = x at *
        obtain ⟨eP, px, py, pz, vx, vy, vz, aI, gen⟩ := x
        obtain ⟨nM, qx, qy, qz, ux, uy, uz, iE, iF⟩ := y
        obtain ⟨c0, c1, c2, c3, c4, c5, c6, c7, c8⟩ := hcw
        dsimp only at c0 c1 c2 c3 c4 c5 c6 c7 c8 EX FD
        go_wp2_with fail
        refine (EX _).mono ?_; rintro e w4 ⟨rfl, hb4⟩
        have X4 := ahZ ((ak.new wr #[.int .i64 eP, .int .i64 px, .int .i64 py, .int .i64 pz, .int .i64 vx, .int .i64 vy, .int .i64 vz, .int .u16 aI, .int .u8 gen] 33).below hb4 (by simp))
        have gF : Hid (Below W0.heap.size W0 w4) := ahZ ((HB.out.alloc hsz _).trans (hb4.mono (by simp; omega)))
        have xA := ahZ (own_below (HOWN.out.alloc _) hb4)
        have JY := ahZ (SB.out.below gF.out SB.out.lt)
        have l4 := X4.out.lt
        have l4b := JY.out.lt
        clear hb4 EX c0 c1 c2 c3 c4 c5 c6 c7 c8 HB HOWN
        obtain ⟨c0, c1, c2, c3, c4, c5, c6, c7, c8⟩ := gG X4.out
        obtain ⟨b0, b1, b2⟩ := fV JY.out
        have kZ : Hid (Below W0.heap.size W0 (w4.alloc (.cells #[.int .i64 eP, .int .i64 px, .int .i64 py, .int .i64 pz, .int .u16 aI, .int .i64 0] 52))) := ahZ (gF.out.alloc gF.out.size _)
        have fd := FD.out _ (HW0.out.trans (kZ.out.mono HW0.out.size))
        go_wp2_with fail
        refine fd.mono ?_; rintro e w6 ⟨rfl, hb6⟩
        have X6 := ahZ ((X4.out.alloc (.cells #[.int .i64 eP, .int .i64 px, .int .i64 py, .int .i64 pz, .int .u16 aI, .int .i64 0] 52)).below hb6 (by simp; omega))
        have P6 := ahZ ((ak.new w4 #[.int .i64 eP, .int .i64 px, .int .i64 py, .int .i64 pz, .int .u16 aI, .int .i64 0] 52).below hb6 (by simp))
        have lg : Hid (Below W0.heap.size W0 w6) := ahZ (kZ.out.trans (hb6.mono kZ.out.size))
        have yU := ahZ (own_below (xA.out.alloc _) hb6)
        have l6 := X6.out.lt
        have l6b := P6.out.lt
        clear hb6 fd FD c0 c1 c2 c3 c4 c5 c6 c7 c8 b0 b1 b2 gF kZ xA X4 JY
        obtain ⟨c0, c1, c2, c3, c4, c5, c6, c7, c8⟩ := gG X6.out
        obtain ⟨p0, p1, p2, p3, p4, p5⟩ := nu P6.out
        obtain ⟨f0, f1, f2, f3, f4, f5⟩ := pV P6.out
        by_cases hm : fb = true /\ iF = gen
        · obtain ⟨rfl, rfl⟩ := hm
          have vR : Hid (pk = ⟨eP, dA px qx num den, dA py qy num den, dA pz qz num den, rO aI iE num den, 1⟩) := ahZ (by rw [A9.out]; unfold D9; rw [if_pos ⟨rfl, rfl⟩]; rfl)
          have PL := ahZ (Uz ⟨eP, px, py, pz, vx, vy, vz, aI, iF⟩ ⟨nM, qx, qy, qz, ux, uy, uz, iE, iF⟩ num den hx hy vw)
          have AL := ahZ (MK aI iE num den hx.aI hy.aI vw)
          unfold bR at PL
          dsimp only at PL
          generalize dA px qx num den = z1 at *
          generalize dA py qy num den = z2 at *
          generalize dA pz qz num den = z3 at *
          generalize rO aI iE num den = z4 at *
          go_wp2_with fail
          have X7 := ahZ (X6.out.alloc (.cells #[.int .i64 nM, .int .i64 qx, .int .i64 qy, .int .i64 qz, .int .i64 ux, .int .i64 uy, .int .i64 uz, .int .u16 iE, .int .u8 iF] 33))
          have P7 := ahZ (P6.out.alloc (.cells #[.int .i64 nM, .int .i64 qx, .int .i64 qy, .int .i64 qz, .int .i64 ux, .int .i64 uy, .int .i64 uz, .int .u16 iE, .int .u8 iF] 33))
          have Y7 := ahZ (ak.new w6 #[.int .i64 nM, .int .i64 qx, .int .i64 qy, .int .i64 qz, .int .i64 ux, .int .i64 uy, .int .i64 uz, .int .u16 iE, .int .u8 iF] 33)
          have lT : Hid (Below W0.heap.size W0 (w6.alloc (.cells #[.int .i64 nM, .int .i64 qx, .int .i64 qy, .int .i64 qz, .int .i64 ux, .int .i64 uy, .int .i64 uz, .int .u16 iE, .int .u8 iF] 33))) := ahZ (lg.out.alloc lg.out.size _)
          have vS := ahZ (yU.out.alloc (.cells #[.int .i64 nM, .int .i64 qx, .int .i64 qy, .int .i64 qz, .int .i64 ux, .int .i64 uy, .int .i64 uz, .int .u16 iE, .int .u8 iF] 33))
          clear c0 c1 c2 c3 c4 c5 c6 c7 c8 p0 p1 p2 p3 p4 p5 f0 f1 f2 f3 f4 f5 X6 P6 lg yU
          generalize w6.alloc (.cells #[.int .i64 nM, .int .i64 qx, .int .i64 qy, .int .i64 qz, .int .i64 ux, .int .i64 uy, .int .i64 uz, .int .u16 iE, .int .u8 iF] 33) = w7 at *
          obtain ⟨c0, c1, c2, c3, c4, c5, c6, c7, c8⟩ := gG X7.out
          obtain ⟨d0, d1, d2, d3, d4, d5, d6, d7, d8⟩ := gG Y7.out
          refine aR 9 (by kernel_rfl) (by kernel_rfl) ?_
          simp only [List.take_succ_cons, List.take_zero, List.drop_succ_cons, List.drop_zero]
          repeat (apply aB; (next => (intro W hW K hK; have y0 := hW.cell c0; have y1 := hW.cell c1; have y2 := hW.cell c2; have y3 := hW.cell c3; have y4 := hW.cell c4; have y5 := hW.cell c5; have y6 := hW.cell c6; have y7 := hW.cell c7; have y8 := hW.cell c8; have y9 := hW.cell d0; have JZ := hW.cell d1; have Q5 := hW.cell d2; have Q6 := hW.cell d3; have y13 := hW.cell d4; have Q7 := hW.cell d5; have Q8 := hW.cell d6; have Q9 := hW.cell d7; have Ra := hW.cell d8; go_simp; first | exact ⟨hW, hK⟩ | exact hK)); (next => exact aO.self _); (try go_simp))
          (apply aB; (next => (intro W hW K hK; go_simp; first | exact ⟨_, hW.call (MI W), hK⟩ | exact ⟨hW, _, hW.call (MI W), hK⟩)); (next => exact aO.self _); (try go_simp))
          repeat (apply aB; (next => (intro W hW K hK; have y0 := hW.cell c0; have y1 := hW.cell c1; have y2 := hW.cell c2; have y3 := hW.cell c3; have y4 := hW.cell c4; have y5 := hW.cell c5; have y6 := hW.cell c6; have y7 := hW.cell c7; have y8 := hW.cell c8; have y9 := hW.cell d0; have JZ := hW.cell d1; have Q5 := hW.cell d2; have Q6 := hW.cell d3; have y13 := hW.cell d4; have Q7 := hW.cell d5; have Q8 := hW.cell d6; have Q9 := hW.cell d7; have Ra := hW.cell d8; go_simp; first | exact ⟨hW, hK⟩ | exact hK)); (next => exact aO.self _); (try go_simp))
          (apply aB; (next => (intro W hW K hK; go_simp; first | exact ⟨_, hW.call (PL.out W), hK⟩ | exact ⟨hW, _, hW.call (PL.out W), hK⟩)); (next => exact aO.self _); (try go_simp))
          repeat (apply aB; (next => (intro W hW K hK; have y0 := hW.cell c0; have y1 := hW.cell c1; have y2 := hW.cell c2; have y3 := hW.cell c3; have y4 := hW.cell c4; have y5 := hW.cell c5; have y6 := hW.cell c6; have y7 := hW.cell c7; have y8 := hW.cell c8; have y9 := hW.cell d0; have JZ := hW.cell d1; have Q5 := hW.cell d2; have Q6 := hW.cell d3; have y13 := hW.cell d4; have Q7 := hW.cell d5; have Q8 := hW.cell d6; have Q9 := hW.cell d7; have Ra := hW.cell d8; go_simp; first | exact ⟨hW, hK⟩ | exact hK)); (next => exact aO.self _); (try go_simp))
          refine aW ?_
          intro WC aM
          have tq : Below w7.heap.size w7 WC := aM
          have X8 := ahZ (X7.out.below tq X7.out.lt)
          have Y8 := ahZ (Y7.out.below tq Y7.out.lt)
          have P8 := ahZ (P7.out.below tq P7.out.lt)
          have vT : Hid (Below W0.heap.size W0 WC) := ahZ (lT.out.trans (tq.mono lT.out.size))
          have Rb := ahZ (own_below vS.out tq)
          clear aM tq c0 c1 c2 c3 c4 c5 c6 c7 c8 d0 d1 d2 d3 d4 d5 d6 d7 d8 X7 Y7 P7 lT vS PL
          obtain ⟨c0, c1, c2, c3, c4, c5, c6, c7, c8⟩ := gG X8.out
          obtain ⟨d0, d1, d2, d3, d4, d5, d6, d7, d8⟩ := gG Y8.out
          obtain ⟨p0, p1, p2, p3, p4, p5⟩ := nu P8.out
          obtain ⟨f0, f1, f2, f3, f4, f5⟩ := pV P8.out
          go_wp2_with fail
          have Z9 := ES P8.out 5 (.int .i64 1) 1 (.int .i64 z1) 2 (.int .i64 z2) 3 (.int .i64 z3)
          clear c0 c1 c2 c3 c4 c5 c6 c7 c8 d0 d1 d2 d3 d4 d5 d6 d7 d8 p0 p1 p2 p3 p4 p5 f0 f1 f2 f3 f4 f5
          obtain ⟨w9, Rf⟩ : ∃ w9, w9 = ((((WC.setCell ⟨w4.heap.size, 5, none⟩ (.int .i64 1)).setCell ⟨w4.heap.size, 1, none⟩ (.int .i64 z1)).setCell ⟨w4.heap.size, 2, none⟩ (.int .i64 z2)).setCell ⟨w4.heap.size, 3, none⟩ (.int .i64 z3)) := ⟨_, rfl⟩
          rw [← Rf] at Z9 ⊢
          clear Rf
          obtain ⟨Z9, O9⟩ := Z9
          simp at Z9
          have X9 := ahZ (O9.blk X8.out (by omega))
          have Y9 := ahZ (O9.blk Y8.out (by omega))
          have P9 := ahZ Z9
          have vU : Hid (Below W0.heap.size W0 w9) := ahZ (vT.out.trans (O9.below vT.out.size (by rintro i rfl; omega)))
          have Rh := ahZ (qQ Rb.out O9 (λj e h => by have := eB.out j e; have h2 : j = w4.heap.size := h; omega))
          clear Z9 O9 X8 Y8 P8 vT Rb
          refine (AL.out _).mono ?_; rintro e wd ⟨rfl, hbd⟩
          have EU := P9.out.below hbd P9.out.lt
          have l9 := EU.lt
          have J3 := vU.out.trans (hbd.mono vU.out.size)
          have J4 := own_below Rh.out hbd
          obtain ⟨p0, p1, p2, p3, p4, p5⟩ := nu EU
          obtain ⟨f0, f1, f2, f3, f4, f5⟩ := pV EU
          have xB := ahZ (qQ J4 ((Only.refl (· = w4.heap.size) wd).setCell (p := ⟨w4.heap.size, 4, none⟩) (.inl rfl) (.int .u16 z4)) (λj e h => by have := eB.out j e; have h2 : j = w4.heap.size := h; omega))
          have rQ : Hid (Below W0.heap.size W0 (wd.setCell ⟨w4.heap.size, 4, none⟩ (.int .u16 z4))) := ahZ (J3.setCell (by simp; omega) _)
          clear hbd EU J3 J4 X9 Y9 P9 vU Rh
          go_wp2_with (at_builtin; refine wpList_append_own _ rfl (.tmp 87) (.tmp 89) 47 rfl W0.heap.size 52 i0 (.agg #[.int .i64 0, .int .i64 0, .int .i64 0, .int .i64 0, .int .u16 0, .int .i64 0]) 6 48 Tryz.underlying47 hi hz0 hz1 hz2 rfl (by decide) _ _ _ rfl (xB.out.alloc _) ⟨wd.heap.size, 0, none⟩ 1 1 [.int .i64 eP, .int .i64 z1, .int .i64 z2, .int .i64 z3, .int .u16 z4, .int .i64 1] rfl rfl ?c1 ?c2 ?c3 ?c4 ?c5 ?_)
          case c1 => exact kY (by simp)
          case c2 => intro u hu; simp at hu; rcases hu with rfl | rfl | rfl | rfl | rfl | rfl <;> rfl
          case c3 => unfold maxLen; omega
          case c4 => omega
          case c5 => have := rQ.out.size; simp at *; omega
          intro v' kC hown' hgrow _
          have hszz := rQ.out.size
          have hB' : Hid (Below W0.heap.size W0 kC) := ahZ ((rQ.out.alloc hszz _).grown hgrow (by simp at *; omega) (λj e => (xB.out.lt j e).1))
          have HO : Hid (kC.ownsRow W0.heap.size 52 6 v' (k + 1) (jI P (k + 1))) := ahZ (by rw [HL.out, vR.out]; exact hown')
          clear hown' hgrow
          go_wp2
          go_roundw
          case rel => exact ⟨k + 1, by omega, by go_num, HO.out, hB'.out⟩
          case measure => simp [intOf]; omega
        · have vR : Hid (pk = ⟨eP, px, py, pz, aI, 0⟩) := ahZ (by rw [A9.out]; unfold D9; rw [if_neg hm]; rfl)
          have lT : Hid (Below W0.heap.size W0 (w6.alloc (.cells #[.int .i64 nM, .int .i64 qx, .int .i64 qy, .int .i64 qz, .int .i64 ux, .int .i64 uy, .int .i64 uz, .int .u16 iE, .int .u8 iF] 33))) := ahZ (lg.out.alloc lg.out.size _)
          have vS := ahZ (yU.out.alloc (.cells #[.int .i64 nM, .int .i64 qx, .int .i64 qy, .int .i64 qz, .int .i64 ux, .int .i64 uy, .int .i64 uz, .int .u16 iE, .int .u8 iF] 33))
          cases fb
          · clear hm
            go_wp2_with (at_builtin; refine wpList_append_own _ rfl (.tmp 87) (.tmp 89) 47 rfl W0.heap.size 52 i0 (.agg #[.int .i64 0, .int .i64 0, .int .i64 0, .int .i64 0, .int .u16 0, .int .i64 0]) 6 48 Tryz.underlying47 hi hz0 hz1 hz2 rfl (by decide) _ _ _ rfl (vS.out.alloc _) ⟨w6.heap.size + 1, 0, none⟩ 1 1 [.int .i64 eP, .int .i64 px, .int .i64 py, .int .i64 pz, .int .u16 aI, .int .i64 0] rfl rfl ?c1 ?c2 ?c3 ?c4 ?c5 ?_)
            case c1 => exact kY (by simp)
            case c2 => intro u hu; simp at hu; rcases hu with rfl | rfl | rfl | rfl | rfl | rfl <;> rfl
            case c3 => unfold maxLen; omega
            case c4 => omega
            case c5 => have := lT.out.size; simp at *; omega
            intro v' kC hown' hgrow _
            have hszz := lT.out.size
            have hB' : Hid (Below W0.heap.size W0 kC) := ahZ ((lT.out.alloc hszz _).grown hgrow (by simp at *; omega) (λj e => (vS.out.lt j e).1))
            have HO : Hid (kC.ownsRow W0.heap.size 52 6 v' (k + 1) (jI P (k + 1))) := ahZ (by rw [HL.out, vR.out]; exact hown')
            clear hown' hgrow
            go_wp2
            go_roundw
            case rel => exact ⟨k + 1, by omega, by go_num, HO.out, hB'.out⟩
            case measure => simp [intOf]; omega
          · have hg : (iF == gen) = false := by simpa using hm
            clear hm
            go_wp2_with (at_builtin; refine wpList_append_own _ rfl (.tmp 87) (.tmp 89) 47 rfl W0.heap.size 52 i0 (.agg #[.int .i64 0, .int .i64 0, .int .i64 0, .int .i64 0, .int .u16 0, .int .i64 0]) 6 48 Tryz.underlying47 hi hz0 hz1 hz2 rfl (by decide) _ _ _ rfl (vS.out.alloc _) ⟨w6.heap.size + 1, 0, none⟩ 1 1 [.int .i64 eP, .int .i64 px, .int .i64 py, .int .i64 pz, .int .u16 aI, .int .i64 0] rfl rfl ?c1 ?c2 ?c3 ?c4 ?c5 ?_)
            case c1 => exact kY (by simp)
            case c2 => intro u hu; simp at hu; rcases hu with rfl | rfl | rfl | rfl | rfl | rfl <;> rfl
            case c3 => unfold maxLen; omega
            case c4 => omega
            case c5 => have := lT.out.size; simp at *; omega
            intro v' kC hown' hgrow _
            have hszz := lT.out.size
            have hB' : Hid (Below W0.heap.size W0 kC) := ahZ ((lT.out.alloc hszz _).grown hgrow (by simp at *; omega) (λj e => (vS.out.lt j e).1))
            have HO : Hid (kC.ownsRow W0.heap.size 52 6 v' (k + 1) (jI P (k + 1))) := ahZ (by rw [HL.out, vR.out]; exact hown')
            clear hown' hgrow
            go_wp2
            go_roundw
            case rel => exact ⟨k + 1, by omega, by go_num, HO.out, hB'.out⟩
            case measure => simp [intOf]; omega
      · obtain rfl : k = la := by omega
        obtain ⟨s, cp, rfl, hS⟩ := oG hown
        have HS := ahZ hS
        have sJ := ahZ (HW0.out.trans (hB.mono HW0.out.size))
        clear hS hown hB
        go_wp2
        exact bodyPost_ret (v := .tuple #[.slice s k cp, .int .i64 0]) (by simp [results, Tryz.results48, go_sem]) rfl ⟨s, cp, rfl, HS.out, sJ.out⟩
set_option maxHeartbeats 4000000 in
theorem LK (c : aS) (Q0 : c.aC = true) (ka ta : Int) (aa : Option Addr) (la ca : Nat) (A : Nat -> ay) (kb tb : Int) (ab : Option Addr) (lb cb : Nat) (B : Nat -> ay) (au : Int) (w : World) (ha : bV w aa la A) (hb : bV w ab lb B) (hla : (la : Int) <= 4611686018427387904) (hlb : (lb : Int) <= 4611686018427387904) (h0 : oH c ka ta aa la ca A kb tb ab lb cb B = 0) (h1 : jE ta tb au = 0) :
    Calls Tryz.prog 48 #[bE c, bC ka ta aa la ca, bC kb tb ab lb cb, .int .i64 au] w λe w' => ∃ s cp, e = .returned (.tuple #[.slice s la cp, .int .i64 0]) /\ fO w' s la (AZ true A B lb (au - ta) (tb - ta)) /\ Below w.heap.size w w' := by
  obtain ⟨i0, hi, hz0, hz1, hz2⟩ := info_parts vQ
  have PT := Gg ka ta kb tb au aa ab la ca lb cb
  have OF := QV c Q0
  have Gi := JW h0
  obtain ⟨vw, _, _, _, _, _, hN, hD⟩ := Hl h1
  rw [hN, hD] at vw PT
  rw [h1] at PT
  obtain ⟨num, JX⟩ : ∃ x, au - ta = x := ⟨_, rfl⟩
  obtain ⟨den, hden⟩ : ∃ x, tb - ta = x := ⟨_, rfl⟩
  rw [JX, hden] at vw PT ⊢
  clear hN hD h1 JX hden Q0
  obtain ⟨P, hP⟩ : ∃ P, AZ true A B lb num den = P := ⟨_, rfl⟩
  have HP : Hid (∀ i, P i = D9 true (A i) (Af B (A i).id lb) (He B (A i).id lb) num den) := ahZ (λi => by rw [← hP]; rfl)
  rw [hP]
  clear hP
  have Ze := ME
  have Zf := yS
  have hB3 : Below w.heap.size w (((w.alloc (.cells #[.int .i64 c.ring, .int .i64 c.window, .int .i64 c.base, .int .i64 c.gain, .int .i64 c.least, .int .i64 c.most, .int .i64 c.aF, .int .i64 c.num, .int .i64 c.den, .int .i64 c.extra, .bool c.aC] 29)).alloc (.cells #[.int .i64 ka, .int .i64 ta, .slice aa la ca] 36)).alloc (.cells #[.int .i64 kb, .int .i64 tb, .slice ab lb cb] 36)) := (((Below.refl _ _).alloc (Nat.le_refl _) _).alloc (by simp) _).alloc (by simp; omega) _
  have bc := (((ak.new w #[.int .i64 c.ring, .int .i64 c.window, .int .i64 c.base, .int .i64 c.gain, .int .i64 c.least, .int .i64 c.most, .int .i64 c.aF, .int .i64 c.num, .int .i64 c.den, .int .i64 c.extra, .bool c.aC] 29).alloc (.cells #[.int .i64 ka, .int .i64 ta, .slice aa la ca] 36)).alloc (.cells #[.int .i64 kb, .int .i64 tb, .slice ab lb cb] 36))
  have ba := ((ak.new (w.alloc (.cells #[.int .i64 c.ring, .int .i64 c.window, .int .i64 c.base, .int .i64 c.gain, .int .i64 c.least, .int .i64 c.most, .int .i64 c.aF, .int .i64 c.num, .int .i64 c.den, .int .i64 c.extra, .bool c.aC] 29)) #[.int .i64 ka, .int .i64 ta, .slice aa la ca] 36).alloc (.cells #[.int .i64 kb, .int .i64 tb, .slice ab lb cb] 36))
  have bb := ak.new ((w.alloc (.cells #[.int .i64 c.ring, .int .i64 c.window, .int .i64 c.base, .int .i64 c.gain, .int .i64 c.least, .int .i64 c.most, .int .i64 c.aF, .int .i64 c.num, .int .i64 c.den, .int .i64 c.extra, .bool c.aC] 29)).alloc (.cells #[.int .i64 ka, .int .i64 ta, .slice aa la ca] 36)) #[.int .i64 kb, .int .i64 tb, .slice ab lb cb] 36
  have CK := jy c (some ⟨(((w.alloc (.cells #[.int .i64 c.ring, .int .i64 c.window, .int .i64 c.base, .int .i64 c.gain, .int .i64 c.least, .int .i64 c.most, .int .i64 c.aF, .int .i64 c.num, .int .i64 c.den, .int .i64 c.extra, .bool c.aC] 29)).alloc (.cells #[.int .i64 ka, .int .i64 ta, .slice aa la ca] 36)).alloc (.cells #[.int .i64 kb, .int .i64 tb, .slice ab lb cb] 36)).heap.size, 0, none⟩) 2 2 _ _ _ _ _ (Oo (((w.alloc (.cells #[.int .i64 c.ring, .int .i64 c.window, .int .i64 c.base, .int .i64 c.gain, .int .i64 c.least, .int .i64 c.most, .int .i64 c.aF, .int .i64 c.num, .int .i64 c.den, .int .i64 c.extra, .bool c.aC] 29)).alloc (.cells #[.int .i64 ka, .int .i64 ta, .slice aa la ca] 36)).alloc (.cells #[.int .i64 kb, .int .i64 tb, .slice ab lb cb] 36)) ka ta kb tb aa ab la ca lb cb A B (ha.below hB3) (hb.below hB3) hla hlb) (by decide)
  have hs3 : (((w.alloc (.cells #[.int .i64 c.ring, .int .i64 c.window, .int .i64 c.base, .int .i64 c.gain, .int .i64 c.least, .int .i64 c.most, .int .i64 c.aF, .int .i64 c.num, .int .i64 c.den, .int .i64 c.extra, .bool c.aC] 29)).alloc (.cells #[.int .i64 ka, .int .i64 ta, .slice aa la ca] 36)).alloc (.cells #[.int .i64 kb, .int .i64 tb, .slice ab lb cb] 36)).heap.size = w.heap.size + 1 + 1 + 1 := by simp
  change Calls _ _ _ _ (λe w' => e = .returned (.int .i64 (oH c ka ta aa la ca A kb tb ab lb cb B)) /\ _) at CK
  simp only [World.size_alloc] at ba bb
  unfold bE at CK ⊢
  unfold bC
  go_enter Tryz.func48, Tryz.ntmps48
  go_wp2_with fail
  generalize (((w.alloc (.cells #[.int .i64 c.ring, .int .i64 c.window, .int .i64 c.base, .int .i64 c.gain, .int .i64 c.least, .int .i64 c.most, .int .i64 c.aF, .int .i64 c.num, .int .i64 c.den, .int .i64 c.extra, .bool c.aC] 29)).alloc (.cells #[.int .i64 ka, .int .i64 ta, .slice aa la ca] 36)).alloc (.cells #[.int .i64 kb, .int .i64 tb, .slice ab lb cb] 36)) = W at *
  rw [hs3] at CK
  refine CK.mono ?_; rintro e w1 ⟨rfl, hb1⟩
  have hB1 : Below W.heap.size W w1 := ((Below.refl _ _).alloc (Nat.le_refl _) _).trans (hb1.mono (by simp))
  have HB1 : Hid (Below w.heap.size w w1) := ahZ (hB3.trans (hB1.mono hB3.size))
  have SC := ahZ (bc.below hB1 bc.lt)
  have SA := ahZ (ba.below hB1 ba.lt)
  have SB := ahZ (bb.below hB1 bb.lt)
  clear hB3 hb1 hB1 CK bc ba bb hs3
  rw [h0]
  clear h0
  have zN := ha.1
  have yT : Hid (∀ k, k < la -> ∃ b off, aa = some ⟨b, off, none⟩ /\ b < w.heap.size /\ dh w b (off + k * 9) (A k)) := ahZ (λk hk => by
    rcases ha.2 with h0 | ⟨b, off, e, hb, hc⟩
    · omega
    · exact ⟨b, off, e, hb, hc k hk⟩)
  obtain ⟨a0, a1, a2⟩ := fV SA.out
  obtain ⟨b0, b1, b2⟩ := fV SB.out
  go_wp2_with fail
  refine (PT _).mono ?_; rintro e w2 ⟨rfl, hb2⟩
  have ql := ahZ (SC.out.below hb2 SC.out.lt)
  clear SC
  have SC := ql
  clear ql
  have oI := ahZ (SA.out.below hb2 SA.out.lt)
  clear SA
  have SA := oI
  clear oI
  have A8 := ahZ (SB.out.below hb2 SB.out.lt)
  clear SB
  have SB := A8
  clear A8
  have HB2 : Hid (Below w.heap.size w w2) := ahZ (HB1.out.trans (hb2.mono HB1.out.size))
  clear hb2 a0 a1 a2 b0 b1 b2 PT HB1
  obtain ⟨q0, q1, q2, q3, q4, q5, q6, q7, q8, q9, mP⟩ := gD SC.out
  unfold bE at OF
  go_wp2_with fail
  refine (OF _).mono ?_; rintro e W0 ⟨rfl, hb3⟩
  have oI := ahZ (SA.out.below hb3 SA.out.lt)
  clear SA
  have SA := oI
  clear oI
  have A8 := ahZ (SB.out.below hb3 SB.out.lt)
  clear SB
  have SB := A8
  clear A8
  have HW0 : Hid (Below w.heap.size w W0) := ahZ (HB2.out.trans (hb3.mono HB2.out.size))
  clear hb3 q0 q1 q2 q3 q4 q5 q6 q7 q8 q9 mP OF HB2 SC
  obtain ⟨a0, a1, a2⟩ := fV SA.out
  have hs2 := SB.out.lt
  go_wp2_with fail
  clear a0 a1 a2
  go_loopw [15, 45] (λv i wr => ∃ k : Nat, k <= la /\ i = .int .i64 k /\ wr.ownsRow W0.heap.size 52 6 v k (jI P k) /\ Below W0.heap.size W0 wr) (λ_ i _ => la - (intOf i).toNat)
  case atStart => exact ⟨0, Nat.zero_le _, rfl, World.ownsRow_nil _ _ _ _, Below.refl _ _⟩
  case round =>
      rename_i wr
      obtain ⟨k, hk, rfl, hown, hB⟩ := hrel
      have hsz := hB.size
      by_cases hlt : k < la
      · obtain ⟨b, off, ET, hbw, hc⟩ := yT.out k hlt
        subst ET
        have hcw := hc.below (HW0.out.trans (hB.mono HW0.out.size)) hbw
        have hx := zN k hlt
        have hy : (Af B (A k).id lb).Ok := QX hb (A k).id
        have A9 := ahZ (HP.out k)
        have HL : Hid (jI P (k + 1) = jI P k ++ [.int .i64 (P k).id, .int .i64 (P k).px, .int .i64 (P k).py, .int .i64 (P k).pz, .int .u16 (P k).aI, .int .i64 (P k).mode]) := ahZ rfl
        have FD := ahZ (λw' (hw : Below w.heap.size w w') => Ze kb tb ab lb cb B (A k).id w' (hb.below hw) hlb)
        have EX := Zf (A k)
        unfold bR JU uF at EX
        unfold bR bC at FD
        have hkl : (k : Int) < la := by omega
        have HOWN := ahZ hown
        have eB := ahZ (λj e => (hown.lt j e).2)
        have HB := ahZ hB
        clear hc hown hB
        generalize P k = pk at *
        generalize He B (A k).id lb = fb at *
        generalize Af B (A k).id lb = y at *
        generalize A k = x at *
        obtain ⟨eP, px, py, pz, vx, vy, vz, aI, gen⟩ := x
        obtain ⟨nM, qx, qy, qz, ux, uy, uz, iE, iF⟩ := y
        obtain ⟨c0, c1, c2, c3, c4, c5, c6, c7, c8⟩ := hcw
        dsimp only at c0 c1 c2 c3 c4 c5 c6 c7 c8 EX FD
        go_wp2_with fail
        refine (EX _).mono ?_; rintro e w4 ⟨rfl, hb4⟩
        have X4 := ahZ ((ak.new wr #[.int .i64 eP, .int .i64 px, .int .i64 py, .int .i64 pz, .int .i64 vx, .int .i64 vy, .int .i64 vz, .int .u16 aI, .int .u8 gen] 33).below hb4 (by simp))
        have gF : Hid (Below W0.heap.size W0 w4) := ahZ ((HB.out.alloc hsz _).trans (hb4.mono (by simp; omega)))
        have xA := ahZ (own_below (HOWN.out.alloc _) hb4)
        have JY := ahZ (SB.out.below gF.out SB.out.lt)
        have l4 := X4.out.lt
        have l4b := JY.out.lt
        clear hb4 EX c0 c1 c2 c3 c4 c5 c6 c7 c8 HB HOWN
        obtain ⟨c0, c1, c2, c3, c4, c5, c6, c7, c8⟩ := gG X4.out
        obtain ⟨b0, b1, b2⟩ := fV JY.out
        have kZ : Hid (Below W0.heap.size W0 (w4.alloc (.cells #[.int .i64 eP, .int .i64 px, .int .i64 py, .int .i64 pz, .int .u16 aI, .int .i64 0] 52))) := ahZ (gF.out.alloc gF.out.size _)
        have fd := FD.out _ (HW0.out.trans (kZ.out.mono HW0.out.size))
        go_wp2_with fail
        refine fd.mono ?_; rintro e w6 ⟨rfl, hb6⟩
        have X6 := ahZ ((X4.out.alloc (.cells #[.int .i64 eP, .int .i64 px, .int .i64 py, .int .i64 pz, .int .u16 aI, .int .i64 0] 52)).below hb6 (by simp; omega))
        have P6 := ahZ ((ak.new w4 #[.int .i64 eP, .int .i64 px, .int .i64 py, .int .i64 pz, .int .u16 aI, .int .i64 0] 52).below hb6 (by simp))
        have lg : Hid (Below W0.heap.size W0 w6) := ahZ (kZ.out.trans (hb6.mono kZ.out.size))
        have yU := ahZ (own_below (xA.out.alloc _) hb6)
        have l6 := X6.out.lt
        have l6b := P6.out.lt
        clear hb6 fd FD c0 c1 c2 c3 c4 c5 c6 c7 c8 b0 b1 b2 gF kZ xA X4 JY
        obtain ⟨c0, c1, c2, c3, c4, c5, c6, c7, c8⟩ := gG X6.out
        obtain ⟨p0, p1, p2, p3, p4, p5⟩ := nu P6.out
        obtain ⟨f0, f1, f2, f3, f4, f5⟩ := pV P6.out
        by_cases hm : fb = true /\ iF = gen
        · obtain ⟨rfl, rfl⟩ := hm
          have vR : Hid (pk = ⟨eP, dP px vx qx ux num den, dP py vy qy uy num den, dP pz vz qz uz num den, rO aI iE num den, 2⟩) := ahZ (by rw [A9.out]; unfold D9; rw [if_pos ⟨rfl, rfl⟩]; rfl)
          have PL := ahZ (UA ⟨eP, px, py, pz, vx, vy, vz, aI, iF⟩ ⟨nM, qx, qy, qz, ux, uy, uz, iE, iF⟩ num den hx hy vw)
          have AL := ahZ (MK aI iE num den hx.aI hy.aI vw)
          unfold bR at PL
          dsimp only at PL
          generalize dP px vx qx ux num den = z1 at *
          generalize dP py vy qy uy num den = z2 at *
          generalize dP pz vz qz uz num den = z3 at *
          generalize rO aI iE num den = z4 at *
          go_wp2_with fail
          have X7 := ahZ (X6.out.alloc (.cells #[.int .i64 nM, .int .i64 qx, .int .i64 qy, .int .i64 qz, .int .i64 ux, .int .i64 uy, .int .i64 uz, .int .u16 iE, .int .u8 iF] 33))
          have P7 := ahZ (P6.out.alloc (.cells #[.int .i64 nM, .int .i64 qx, .int .i64 qy, .int .i64 qz, .int .i64 ux, .int .i64 uy, .int .i64 uz, .int .u16 iE, .int .u8 iF] 33))
          have Y7 := ahZ (ak.new w6 #[.int .i64 nM, .int .i64 qx, .int .i64 qy, .int .i64 qz, .int .i64 ux, .int .i64 uy, .int .i64 uz, .int .u16 iE, .int .u8 iF] 33)
          have lT : Hid (Below W0.heap.size W0 (w6.alloc (.cells #[.int .i64 nM, .int .i64 qx, .int .i64 qy, .int .i64 qz, .int .i64 ux, .int .i64 uy, .int .i64 uz, .int .u16 iE, .int .u8 iF] 33))) := ahZ (lg.out.alloc lg.out.size _)
          have vS := ahZ (yU.out.alloc (.cells #[.int .i64 nM, .int .i64 qx, .int .i64 qy, .int .i64 qz, .int .i64 ux, .int .i64 uy, .int .i64 uz, .int .u16 iE, .int .u8 iF] 33))
          clear c0 c1 c2 c3 c4 c5 c6 c7 c8 p0 p1 p2 p3 p4 p5 f0 f1 f2 f3 f4 f5 X6 P6 lg yU
          generalize w6.alloc (.cells #[.int .i64 nM, .int .i64 qx, .int .i64 qy, .int .i64 qz, .int .i64 ux, .int .i64 uy, .int .i64 uz, .int .u16 iE, .int .u8 iF] 33) = w7 at *
          obtain ⟨c0, c1, c2, c3, c4, c5, c6, c7, c8⟩ := gG X7.out
          obtain ⟨d0, d1, d2, d3, d4, d5, d6, d7, d8⟩ := gG Y7.out
          refine aR 9 (by kernel_rfl) (by kernel_rfl) ?_
          simp only [List.take_succ_cons, List.take_zero, List.drop_succ_cons, List.drop_zero]
          repeat (apply aB; (next => (intro W hW K hK; have y0 := hW.cell c0; have y1 := hW.cell c1; have y2 := hW.cell c2; have y3 := hW.cell c3; have y4 := hW.cell c4; have y5 := hW.cell c5; have y6 := hW.cell c6; have y7 := hW.cell c7; have y8 := hW.cell c8; have y9 := hW.cell d0; have JZ := hW.cell d1; have Q5 := hW.cell d2; have Q6 := hW.cell d3; have y13 := hW.cell d4; have Q7 := hW.cell d5; have Q8 := hW.cell d6; have Q9 := hW.cell d7; have Ra := hW.cell d8; go_simp; first | exact ⟨hW, hK⟩ | exact hK)); (next => exact aO.self _); (try go_simp))
          (apply aB; (next => (intro W hW K hK; go_simp; first | exact ⟨_, hW.call (MJ W), hK⟩ | exact ⟨hW, _, hW.call (MJ W), hK⟩)); (next => exact aO.self _); (try go_simp))
          repeat (apply aB; (next => (intro W hW K hK; have y0 := hW.cell c0; have y1 := hW.cell c1; have y2 := hW.cell c2; have y3 := hW.cell c3; have y4 := hW.cell c4; have y5 := hW.cell c5; have y6 := hW.cell c6; have y7 := hW.cell c7; have y8 := hW.cell c8; have y9 := hW.cell d0; have JZ := hW.cell d1; have Q5 := hW.cell d2; have Q6 := hW.cell d3; have y13 := hW.cell d4; have Q7 := hW.cell d5; have Q8 := hW.cell d6; have Q9 := hW.cell d7; have Ra := hW.cell d8; go_simp; first | exact ⟨hW, hK⟩ | exact hK)); (next => exact aO.self _); (try go_simp))
          (apply aB; (next => (intro W hW K hK; go_simp; first | exact ⟨_, hW.call (PL.out W), hK⟩ | exact ⟨hW, _, hW.call (PL.out W), hK⟩)); (next => exact aO.self _); (try go_simp))
          repeat (apply aB; (next => (intro W hW K hK; have y0 := hW.cell c0; have y1 := hW.cell c1; have y2 := hW.cell c2; have y3 := hW.cell c3; have y4 := hW.cell c4; have y5 := hW.cell c5; have y6 := hW.cell c6; have y7 := hW.cell c7; have y8 := hW.cell c8; have y9 := hW.cell d0; have JZ := hW.cell d1; have Q5 := hW.cell d2; have Q6 := hW.cell d3; have y13 := hW.cell d4; have Q7 := hW.cell d5; have Q8 := hW.cell d6; have Q9 := hW.cell d7; have Ra := hW.cell d8; go_simp; first | exact ⟨hW, hK⟩ | exact hK)); (next => exact aO.self _); (try go_simp))
          refine aW ?_
          intro WC aM
          have tq : Below w7.heap.size w7 WC := aM
          have X8 := ahZ (X7.out.below tq X7.out.lt)
          have Y8 := ahZ (Y7.out.below tq Y7.out.lt)
          have P8 := ahZ (P7.out.below tq P7.out.lt)
          have vT : Hid (Below W0.heap.size W0 WC) := ahZ (lT.out.trans (tq.mono lT.out.size))
          have Rb := ahZ (own_below vS.out tq)
          clear aM tq c0 c1 c2 c3 c4 c5 c6 c7 c8 d0 d1 d2 d3 d4 d5 d6 d7 d8 X7 Y7 P7 lT vS PL
          obtain ⟨c0, c1, c2, c3, c4, c5, c6, c7, c8⟩ := gG X8.out
          obtain ⟨d0, d1, d2, d3, d4, d5, d6, d7, d8⟩ := gG Y8.out
          obtain ⟨p0, p1, p2, p3, p4, p5⟩ := nu P8.out
          obtain ⟨f0, f1, f2, f3, f4, f5⟩ := pV P8.out
          go_wp2_with fail
          have Z9 := ES P8.out 5 (.int .i64 2) 1 (.int .i64 z1) 2 (.int .i64 z2) 3 (.int .i64 z3)
          clear c0 c1 c2 c3 c4 c5 c6 c7 c8 d0 d1 d2 d3 d4 d5 d6 d7 d8 p0 p1 p2 p3 p4 p5 f0 f1 f2 f3 f4 f5
          obtain ⟨w9, Rf⟩ : ∃ w9, w9 = ((((WC.setCell ⟨w4.heap.size, 5, none⟩ (.int .i64 2)).setCell ⟨w4.heap.size, 1, none⟩ (.int .i64 z1)).setCell ⟨w4.heap.size, 2, none⟩ (.int .i64 z2)).setCell ⟨w4.heap.size, 3, none⟩ (.int .i64 z3)) := ⟨_, rfl⟩
          rw [← Rf] at Z9 ⊢
          clear Rf
          obtain ⟨Z9, O9⟩ := Z9
          simp at Z9
          have X9 := ahZ (O9.blk X8.out (by omega))
          have Y9 := ahZ (O9.blk Y8.out (by omega))
          have P9 := ahZ Z9
          have vU : Hid (Below W0.heap.size W0 w9) := ahZ (vT.out.trans (O9.below vT.out.size (by rintro i rfl; omega)))
          have Rh := ahZ (qQ Rb.out O9 (λj e h => by have := eB.out j e; have h2 : j = w4.heap.size := h; omega))
          clear Z9 O9 X8 Y8 P8 vT Rb
          refine (AL.out _).mono ?_; rintro e wd ⟨rfl, hbd⟩
          have EU := P9.out.below hbd P9.out.lt
          have l9 := EU.lt
          have J3 := vU.out.trans (hbd.mono vU.out.size)
          have J4 := own_below Rh.out hbd
          obtain ⟨p0, p1, p2, p3, p4, p5⟩ := nu EU
          obtain ⟨f0, f1, f2, f3, f4, f5⟩ := pV EU
          have xB := ahZ (qQ J4 ((Only.refl (· = w4.heap.size) wd).setCell (p := ⟨w4.heap.size, 4, none⟩) (.inl rfl) (.int .u16 z4)) (λj e h => by have := eB.out j e; have h2 : j = w4.heap.size := h; omega))
          have rQ : Hid (Below W0.heap.size W0 (wd.setCell ⟨w4.heap.size, 4, none⟩ (.int .u16 z4))) := ahZ (J3.setCell (by simp; omega) _)
          clear hbd EU J3 J4 X9 Y9 P9 vU Rh
          go_wp2_with (at_builtin; refine wpList_append_own _ rfl (.tmp 87) (.tmp 89) 47 rfl W0.heap.size 52 i0 (.agg #[.int .i64 0, .int .i64 0, .int .i64 0, .int .i64 0, .int .u16 0, .int .i64 0]) 6 48 Tryz.underlying47 hi hz0 hz1 hz2 rfl (by decide) _ _ _ rfl (xB.out.alloc _) ⟨wd.heap.size, 0, none⟩ 1 1 [.int .i64 eP, .int .i64 z1, .int .i64 z2, .int .i64 z3, .int .u16 z4, .int .i64 2] rfl rfl ?c1 ?c2 ?c3 ?c4 ?c5 ?_)
          case c1 => exact kY (by simp)
          case c2 => intro u hu; simp at hu; rcases hu with rfl | rfl | rfl | rfl | rfl | rfl <;> rfl
          case c3 => unfold maxLen; omega
          case c4 => omega
          case c5 => have := rQ.out.size; simp at *; omega
          intro v' kC hown' hgrow _
          have hszz := rQ.out.size
          have hB' : Hid (Below W0.heap.size W0 kC) := ahZ ((rQ.out.alloc hszz _).grown hgrow (by simp at *; omega) (λj e => (xB.out.lt j e).1))
          have HO : Hid (kC.ownsRow W0.heap.size 52 6 v' (k + 1) (jI P (k + 1))) := ahZ (by rw [HL.out, vR.out]; exact hown')
          clear hown' hgrow
          go_wp2
          go_roundw
          case rel => exact ⟨k + 1, by omega, by go_num, HO.out, hB'.out⟩
          case measure => simp [intOf]; omega
        · have vR : Hid (pk = ⟨eP, px, py, pz, aI, 0⟩) := ahZ (by rw [A9.out]; unfold D9; rw [if_neg hm]; rfl)
          have lT : Hid (Below W0.heap.size W0 (w6.alloc (.cells #[.int .i64 nM, .int .i64 qx, .int .i64 qy, .int .i64 qz, .int .i64 ux, .int .i64 uy, .int .i64 uz, .int .u16 iE, .int .u8 iF] 33))) := ahZ (lg.out.alloc lg.out.size _)
          have vS := ahZ (yU.out.alloc (.cells #[.int .i64 nM, .int .i64 qx, .int .i64 qy, .int .i64 qz, .int .i64 ux, .int .i64 uy, .int .i64 uz, .int .u16 iE, .int .u8 iF] 33))
          cases fb
          · clear hm
            go_wp2_with (at_builtin; refine wpList_append_own _ rfl (.tmp 87) (.tmp 89) 47 rfl W0.heap.size 52 i0 (.agg #[.int .i64 0, .int .i64 0, .int .i64 0, .int .i64 0, .int .u16 0, .int .i64 0]) 6 48 Tryz.underlying47 hi hz0 hz1 hz2 rfl (by decide) _ _ _ rfl (vS.out.alloc _) ⟨w6.heap.size + 1, 0, none⟩ 1 1 [.int .i64 eP, .int .i64 px, .int .i64 py, .int .i64 pz, .int .u16 aI, .int .i64 0] rfl rfl ?c1 ?c2 ?c3 ?c4 ?c5 ?_)
            case c1 => exact kY (by simp)
            case c2 => intro u hu; simp at hu; rcases hu with rfl | rfl | rfl | rfl | rfl | rfl <;> rfl
            case c3 => unfold maxLen; omega
            case c4 => omega
            case c5 => have := lT.out.size; simp at *; omega
            intro v' kC hown' hgrow _
            have hszz := lT.out.size
            have hB' : Hid (Below W0.heap.size W0 kC) := ahZ ((lT.out.alloc hszz _).grown hgrow (by simp at *; omega) (λj e => (vS.out.lt j e).1))
            have HO : Hid (kC.ownsRow W0.heap.size 52 6 v' (k + 1) (jI P (k + 1))) := ahZ (by rw [HL.out, vR.out]; exact hown')
            clear hown' hgrow
            go_wp2
            go_roundw
            case rel => exact ⟨k + 1, by omega, by go_num, HO.out, hB'.out⟩
            case measure => simp [intOf]; omega
          · have hg : (iF == gen) = false := by simpa using hm
            clear hm
            go_wp2_with (at_builtin; refine wpList_append_own _ rfl (.tmp 87) (.tmp 89) 47 rfl W0.heap.size 52 i0 (.agg #[.int .i64 0, .int .i64 0, .int .i64 0, .int .i64 0, .int .u16 0, .int .i64 0]) 6 48 Tryz.underlying47 hi hz0 hz1 hz2 rfl (by decide) _ _ _ rfl (vS.out.alloc _) ⟨w6.heap.size + 1, 0, none⟩ 1 1 [.int .i64 eP, .int .i64 px, .int .i64 py, .int .i64 pz, .int .u16 aI, .int .i64 0] rfl rfl ?c1 ?c2 ?c3 ?c4 ?c5 ?_)
            case c1 => exact kY (by simp)
            case c2 => intro u hu; simp at hu; rcases hu with rfl | rfl | rfl | rfl | rfl | rfl <;> rfl
            case c3 => unfold maxLen; omega
            case c4 => omega
            case c5 => have := lT.out.size; simp at *; omega
            intro v' kC hown' hgrow _
            have hszz := lT.out.size
            have hB' : Hid (Below W0.heap.size W0 kC) := ahZ ((lT.out.alloc hszz _).grown hgrow (by simp at *; omega) (λj e => (vS.out.lt j e).1))
            have HO : Hid (kC.ownsRow W0.heap.size 52 6 v' (k + 1) (jI P (k + 1))) := ahZ (by rw [HL.out, vR.out]; exact hown')
            clear hown' hgrow
            go_wp2
            go_roundw
            case rel => exact ⟨k + 1, by omega, by go_num, HO.out, hB'.out⟩
            case measure => simp [intOf]; omega
      · obtain rfl : k = la := by omega
        obtain ⟨s, cp, rfl, hS⟩ := oG hown
        have HS := ahZ hS
        have sJ := ahZ (HW0.out.trans (hB.mono HW0.out.size))
        clear hS hown hB
        go_wp2
        exact bodyPost_ret (v := .tuple #[.slice s k cp, .int .i64 0]) (by simp [results, Tryz.results48, go_sem]) rfl ⟨s, cp, rfl, HS.out, sJ.out⟩
set_option maxRecDepth 100000
def ny (c : aS) (ka ta : Int) (aa : Option Addr) (la ca : Nat) (A : Nat -> ay) : Int:=jH c (λ_=>ka) (λ_=>ta) (λ_=>(aa,la,ca)) (λ_=>A) 1
theorem CJ {c : aS} {ka ta : Int} {aa : Option Addr} {la ca : Nat} {A : Nat -> ay} (h : ny c ka ta aa la ca A = 0) : la <= 64 /\ 0 <= c.extra /\ dJ ka ta la A = 0 /\ iU c = 0:=by
 unfold ny jH at h
 split at h
 ·rename_i hc
  have h2 : dJ ka ta la A = 0:=by
   by_cases e : dJ ka ta la A = 0
   ·exact e
   ·have : qw (λ_=>ka) (λ_=>ta) (λ_=>(aa,la,ca)) (λ_=>A) 1 0 = dJ ka ta la A:=by
     show (if dJ ka ta la A = 0 then _ else dJ ka ta la A) = _
     rw [if_neg e]
    rw [this] at h;exact h
  refine ⟨Dp h2,?_,h2,hc⟩
  unfold iU at hc
  split at hc
  ·split at hc
   ·contradiction
   ·split at hc
    ·rename_i h3
     simp only [Bool.and_eq_true] at h3
     have:=h3.2
     unfold qB at this
     simp at this
     exact this.1
    ·exact absurd hc (by decide)
  ·exact absurd hc (by decide)
 ·contradiction
def Wh (m d : Int) (x : ay) : Po:=⟨x.id,bM x.px (aT x.vx d),bM x.py (aT x.vy d),bM x.pz (aT x.vz d),x.aI,m⟩
def Dq (m d : Int) (A : Nat -> ay) (i : Nat) : Po:=Wh m d (A i)
def Dr (c : aS) (d : Int) : Int:=if d = 0 then 0 else if c.extra < d then 4 else 3
def Dt (c : aS) (d : Int) : Int:=if c.extra < d then c.extra else d
theorem J5 {a t : Int} (h : mg a t = 0) : a <= t /\ zM a t = aN t a /\ -2305843009213693952 <= a /\ a <= 2305843009213693952:=by
 have hn : zM a t = aN t a:=by unfold zM;rw [if_pos h]
 have hc : gK (λ_=>a) 1 = 0:=by
  unfold mg at h
  split at h
  ·assumption
  ·assumption
 have h1 : ¬ (t < a):=by
  unfold mg at h
  rw [if_pos hc] at h
  intro hh;rw [if_pos hh] at h;exact absurd h (by decide)
 have b0:=rM hc (show 0 < 1 by omega)
 exact ⟨by omega,hn,b0⟩
set_option maxHeartbeats 1000000 in
theorem UD (c : aS) (ka ta : Int) (aa : Option Addr) (la ca : Nat) (A : Nat -> ay) (au : Int) (w : World) (xC : aA ta) (hat : aA au) (ha : bV w aa la A) (hla : (la : Int) <= 4611686018427387904) (h0 : ny c ka ta aa la ca A ≠ 0) :
  Calls Tryz.prog 47 #[bE c,bC ka ta aa la ca,.int .i64 au] w λe w'=>e = .returned (.tuple #[.slice none 0 0,.int .i64 (ny c ka ta aa la ca A)]) /\ Below w.heap.size w w':=by
 have hB3 : Below w.heap.size w ((w.alloc (.cells #[.int .i64 c.ring,.int .i64 c.window,.int .i64 c.base,.int .i64 c.gain,.int .i64 c.least,.int .i64 c.most,.int .i64 c.aF,.int .i64 c.num,.int .i64 c.den,.int .i64 c.extra,.bool c.aC] 29)).alloc (.cells #[.int .i64 ka,.int .i64 ta,.slice aa la ca] 36)):=((Below.refl _ _).alloc (Nat.le_refl _) _).alloc (by simp) _
 have bc:=((ak.new w #[.int .i64 c.ring,.int .i64 c.window,.int .i64 c.base,.int .i64 c.gain,.int .i64 c.least,.int .i64 c.most,.int .i64 c.aF,.int .i64 c.num,.int .i64 c.den,.int .i64 c.extra,.bool c.aC] 29).alloc (.cells #[.int .i64 ka,.int .i64 ta,.slice aa la ca] 36))
 have ba:=ak.new (w.alloc (.cells #[.int .i64 c.ring,.int .i64 c.window,.int .i64 c.base,.int .i64 c.gain,.int .i64 c.least,.int .i64 c.most,.int .i64 c.aF,.int .i64 c.num,.int .i64 c.den,.int .i64 c.extra,.bool c.aC] 29)) #[.int .i64 ka,.int .i64 ta,.slice aa la ca] 36
 have CK:=jy c (some ⟨((w.alloc (.cells #[.int .i64 c.ring,.int .i64 c.window,.int .i64 c.base,.int .i64 c.gain,.int .i64 c.least,.int .i64 c.most,.int .i64 c.aF,.int .i64 c.num,.int .i64 c.den,.int .i64 c.extra,.bool c.aC] 29)).alloc (.cells #[.int .i64 ka,.int .i64 ta,.slice aa la ca] 36)).heap.size,0,none⟩) 1 1 _ _ _ _ _ (JV ((w.alloc (.cells #[.int .i64 c.ring,.int .i64 c.window,.int .i64 c.base,.int .i64 c.gain,.int .i64 c.least,.int .i64 c.most,.int .i64 c.aF,.int .i64 c.num,.int .i64 c.den,.int .i64 c.extra,.bool c.aC] 29)).alloc (.cells #[.int .i64 ka,.int .i64 ta,.slice aa la ca] 36)) ka ta aa la ca A (ha.below hB3) hla) (by decide)
 have hs3 : ((w.alloc (.cells #[.int .i64 c.ring,.int .i64 c.window,.int .i64 c.base,.int .i64 c.gain,.int .i64 c.least,.int .i64 c.most,.int .i64 c.aF,.int .i64 c.num,.int .i64 c.den,.int .i64 c.extra,.bool c.aC] 29)).alloc (.cells #[.int .i64 ka,.int .i64 ta,.slice aa la ca] 36)).heap.size = w.heap.size + 1 + 1:=by simp
 change Calls _ _ _ _ (λe w'=>e = .returned (.int .i64 (ny c ka ta aa la ca A)) /\ _) at CK
 simp only [World.size_alloc] at ba
 unfold bE at CK ⊢
 unfold bC
 generalize ny c ka ta aa la ca A = z at *
 have hz : (z != 0) = true:=by simpa using h0
 go_enter Tryz.func47,Tryz.ntmps47
 go_wp2_with fail
 generalize ((w.alloc (.cells #[.int .i64 c.ring,.int .i64 c.window,.int .i64 c.base,.int .i64 c.gain,.int .i64 c.least,.int .i64 c.most,.int .i64 c.aF,.int .i64 c.num,.int .i64 c.den,.int .i64 c.extra,.bool c.aC] 29)).alloc (.cells #[.int .i64 ka,.int .i64 ta,.slice aa la ca] 36)) = W at *
 rw [hs3] at CK
 refine CK.mono ?_;rintro e w1 ⟨rfl,hb1⟩
 have hB1 : Below W.heap.size W w1:=((Below.refl _ _).alloc (Nat.le_refl _) _).trans (hb1.mono (by simp))
 have HB1 : Hid (Below w.heap.size w w1):=ahZ (hB3.trans (hB1.mono hB3.size))
 have SC:=ahZ (bc.below hB1 bc.lt)
 have SA:=ahZ (ba.below hB1 ba.lt)
 clear hB3 hb1 hB1 CK bc ba hs3
 go_wp2
 exact bodyPost_ret (v:=.tuple #[.slice none 0 0,.int .i64 z]) (by simp [results,Tryz.results47,go_sem]) rfl ⟨rfl,HB1.out⟩
set_option maxHeartbeats 1000000 in
theorem Ri (c : aS) (ka ta : Int) (aa : Option Addr) (la ca : Nat) (A : Nat -> ay) (au : Int) (w : World) (xC : aA ta) (hat : aA au) (ha : bV w aa la A) (hla : (la : Int) <= 4611686018427387904) (h0 : ny c ka ta aa la ca A = 0) (h1 : mg ta au ≠ 0) :
  Calls Tryz.prog 47 #[bE c,bC ka ta aa la ca,.int .i64 au] w λe w'=>e = .returned (.tuple #[.slice none 0 0,.int .i64 (mg ta au)]) /\ Below w.heap.size w w':=by
 have PT:=Je ka ta au aa la ca xC hat
 have hB3 : Below w.heap.size w ((w.alloc (.cells #[.int .i64 c.ring,.int .i64 c.window,.int .i64 c.base,.int .i64 c.gain,.int .i64 c.least,.int .i64 c.most,.int .i64 c.aF,.int .i64 c.num,.int .i64 c.den,.int .i64 c.extra,.bool c.aC] 29)).alloc (.cells #[.int .i64 ka,.int .i64 ta,.slice aa la ca] 36)):=((Below.refl _ _).alloc (Nat.le_refl _) _).alloc (by simp) _
 have bc:=((ak.new w #[.int .i64 c.ring,.int .i64 c.window,.int .i64 c.base,.int .i64 c.gain,.int .i64 c.least,.int .i64 c.most,.int .i64 c.aF,.int .i64 c.num,.int .i64 c.den,.int .i64 c.extra,.bool c.aC] 29).alloc (.cells #[.int .i64 ka,.int .i64 ta,.slice aa la ca] 36))
 have ba:=ak.new (w.alloc (.cells #[.int .i64 c.ring,.int .i64 c.window,.int .i64 c.base,.int .i64 c.gain,.int .i64 c.least,.int .i64 c.most,.int .i64 c.aF,.int .i64 c.num,.int .i64 c.den,.int .i64 c.extra,.bool c.aC] 29)) #[.int .i64 ka,.int .i64 ta,.slice aa la ca] 36
 have CK:=jy c (some ⟨((w.alloc (.cells #[.int .i64 c.ring,.int .i64 c.window,.int .i64 c.base,.int .i64 c.gain,.int .i64 c.least,.int .i64 c.most,.int .i64 c.aF,.int .i64 c.num,.int .i64 c.den,.int .i64 c.extra,.bool c.aC] 29)).alloc (.cells #[.int .i64 ka,.int .i64 ta,.slice aa la ca] 36)).heap.size,0,none⟩) 1 1 _ _ _ _ _ (JV ((w.alloc (.cells #[.int .i64 c.ring,.int .i64 c.window,.int .i64 c.base,.int .i64 c.gain,.int .i64 c.least,.int .i64 c.most,.int .i64 c.aF,.int .i64 c.num,.int .i64 c.den,.int .i64 c.extra,.bool c.aC] 29)).alloc (.cells #[.int .i64 ka,.int .i64 ta,.slice aa la ca] 36)) ka ta aa la ca A (ha.below hB3) hla) (by decide)
 have hs3 : ((w.alloc (.cells #[.int .i64 c.ring,.int .i64 c.window,.int .i64 c.base,.int .i64 c.gain,.int .i64 c.least,.int .i64 c.most,.int .i64 c.aF,.int .i64 c.num,.int .i64 c.den,.int .i64 c.extra,.bool c.aC] 29)).alloc (.cells #[.int .i64 ka,.int .i64 ta,.slice aa la ca] 36)).heap.size = w.heap.size + 1 + 1:=by simp
 change Calls _ _ _ _ (λe w'=>e = .returned (.int .i64 (ny c ka ta aa la ca A)) /\ _) at CK
 simp only [World.size_alloc] at ba
 unfold bE at CK ⊢
 unfold bC
 rw [h0] at CK
 clear h0
 generalize mg ta au = z at *
 generalize zM ta au = num at *
 have hz : (z != 0) = true:=by simpa using h1
 go_enter Tryz.func47,Tryz.ntmps47
 go_wp2_with fail
 generalize ((w.alloc (.cells #[.int .i64 c.ring,.int .i64 c.window,.int .i64 c.base,.int .i64 c.gain,.int .i64 c.least,.int .i64 c.most,.int .i64 c.aF,.int .i64 c.num,.int .i64 c.den,.int .i64 c.extra,.bool c.aC] 29)).alloc (.cells #[.int .i64 ka,.int .i64 ta,.slice aa la ca] 36)) = W at *
 rw [hs3] at CK
 refine CK.mono ?_;rintro e w1 ⟨rfl,hb1⟩
 have hB1 : Below W.heap.size W w1:=((Below.refl _ _).alloc (Nat.le_refl _) _).trans (hb1.mono (by simp))
 have HB1 : Hid (Below w.heap.size w w1):=ahZ (hB3.trans (hB1.mono hB3.size))
 have SC:=ahZ (bc.below hB1 bc.lt)
 have SA:=ahZ (ba.below hB1 ba.lt)
 clear hB3 hb1 hB1 CK bc ba hs3
 obtain ⟨a0,a1,a2⟩:=fV SA.out
 go_wp2_with fail
 refine (PT _).mono ?_;rintro e w2 ⟨rfl,hb2⟩
 have HB2 : Hid (Below w.heap.size w w2):=ahZ (HB1.out.trans (hb2.mono HB1.out.size))
 clear hb2 a0 a1 a2 PT
 go_wp2
 exact bodyPost_ret (v:=.tuple #[.slice none 0 0,.int .i64 z]) (by simp [results,Tryz.results47,go_sem]) rfl ⟨rfl,HB2.out⟩
set_option maxHeartbeats 4000000 in
theorem Zg (c : aS) (ok : c.Ok) (ka ta : Int) (aa : Option Addr) (la ca : Nat) (A : Nat -> ay) (au : Int) (w : World) (xC : aA ta) (hat : aA au) (ha : bV w aa la A) (hla : (la : Int) <= 4611686018427387904) (h0 : ny c ka ta aa la ca A = 0) (h1 : mg ta au = 0) (hd : aN au ta = 0) :
  Calls Tryz.prog 47 #[bE c,bC ka ta aa la ca,.int .i64 au] w λe w'=>∃ s cp,e = .returned (.tuple #[.slice s la cp,.int .i64 0]) /\ fO w' s la (Dq 0 0 A) /\ Below w.heap.size w w':=by
 obtain ⟨i0,hi,hz0,hz1,hz2⟩:=info_parts vQ
 have PT:=Je ka ta au aa la ca xC hat
 obtain ⟨Gi,hex,_,_⟩:=CJ h0
 obtain ⟨hle,hN,_,_⟩:=J5 h1
 rw [hN,h1] at PT
 have Gj:=jv au ta
 have hd0 : 0 <= aN au ta:=by unfold aN sat;omega
 generalize aN au ta = d at *
 clear hN h1 hle
 subst hd
 have hg : decide (c.extra < 0) = false:=decide_eq_false (by omega)
 have hdd : aA 0:=by unfold aA;omega
 obtain ⟨P,hP⟩ : ∃ P,Dq 0 0 A = P:=⟨_,rfl⟩
 have HP : Hid (∀ i,P i = Wh 0 0 (A i)):=ahZ (λi=>by rw [← hP];rfl)
 rw [hP]
 have Rj:=ahZ hdd
 clear hP Gj hd0 hex hdd 
 have hB3 : Below w.heap.size w ((w.alloc (.cells #[.int .i64 c.ring,.int .i64 c.window,.int .i64 c.base,.int .i64 c.gain,.int .i64 c.least,.int .i64 c.most,.int .i64 c.aF,.int .i64 c.num,.int .i64 c.den,.int .i64 c.extra,.bool c.aC] 29)).alloc (.cells #[.int .i64 ka,.int .i64 ta,.slice aa la ca] 36)):=((Below.refl _ _).alloc (Nat.le_refl _) _).alloc (by simp) _
 have bc:=((ak.new w #[.int .i64 c.ring,.int .i64 c.window,.int .i64 c.base,.int .i64 c.gain,.int .i64 c.least,.int .i64 c.most,.int .i64 c.aF,.int .i64 c.num,.int .i64 c.den,.int .i64 c.extra,.bool c.aC] 29).alloc (.cells #[.int .i64 ka,.int .i64 ta,.slice aa la ca] 36))
 have ba:=ak.new (w.alloc (.cells #[.int .i64 c.ring,.int .i64 c.window,.int .i64 c.base,.int .i64 c.gain,.int .i64 c.least,.int .i64 c.most,.int .i64 c.aF,.int .i64 c.num,.int .i64 c.den,.int .i64 c.extra,.bool c.aC] 29)) #[.int .i64 ka,.int .i64 ta,.slice aa la ca] 36
 have CK:=jy c (some ⟨((w.alloc (.cells #[.int .i64 c.ring,.int .i64 c.window,.int .i64 c.base,.int .i64 c.gain,.int .i64 c.least,.int .i64 c.most,.int .i64 c.aF,.int .i64 c.num,.int .i64 c.den,.int .i64 c.extra,.bool c.aC] 29)).alloc (.cells #[.int .i64 ka,.int .i64 ta,.slice aa la ca] 36)).heap.size,0,none⟩) 1 1 _ _ _ _ _ (JV ((w.alloc (.cells #[.int .i64 c.ring,.int .i64 c.window,.int .i64 c.base,.int .i64 c.gain,.int .i64 c.least,.int .i64 c.most,.int .i64 c.aF,.int .i64 c.num,.int .i64 c.den,.int .i64 c.extra,.bool c.aC] 29)).alloc (.cells #[.int .i64 ka,.int .i64 ta,.slice aa la ca] 36)) ka ta aa la ca A (ha.below hB3) hla) (by decide)
 have hs3 : ((w.alloc (.cells #[.int .i64 c.ring,.int .i64 c.window,.int .i64 c.base,.int .i64 c.gain,.int .i64 c.least,.int .i64 c.most,.int .i64 c.aF,.int .i64 c.num,.int .i64 c.den,.int .i64 c.extra,.bool c.aC] 29)).alloc (.cells #[.int .i64 ka,.int .i64 ta,.slice aa la ca] 36)).heap.size = w.heap.size + 1 + 1:=by simp
 change Calls _ _ _ _ (λe w'=>e = .returned (.int .i64 (ny c ka ta aa la ca A)) /\ _) at CK
 simp only [World.size_alloc] at ba
 unfold bE at CK ⊢
 unfold bC
 go_enter Tryz.func47,Tryz.ntmps47
 go_wp2_with fail
 generalize ((w.alloc (.cells #[.int .i64 c.ring,.int .i64 c.window,.int .i64 c.base,.int .i64 c.gain,.int .i64 c.least,.int .i64 c.most,.int .i64 c.aF,.int .i64 c.num,.int .i64 c.den,.int .i64 c.extra,.bool c.aC] 29)).alloc (.cells #[.int .i64 ka,.int .i64 ta,.slice aa la ca] 36)) = W at *
 rw [hs3] at CK
 refine CK.mono ?_;rintro e w1 ⟨rfl,hb1⟩
 have hB1 : Below W.heap.size W w1:=((Below.refl _ _).alloc (Nat.le_refl _) _).trans (hb1.mono (by simp))
 have HB1 : Hid (Below w.heap.size w w1):=ahZ (hB3.trans (hB1.mono hB3.size))
 have SC:=ahZ (bc.below hB1 bc.lt)
 have SA:=ahZ (ba.below hB1 ba.lt)
 clear hB3 hb1 hB1 CK bc ba hs3
 rw [h0]
 clear h0
 have zN:=ha.1
 have yT : Hid (∀ k,k < la -> ∃ b off,aa = some ⟨b,off,none⟩ /\ b < w.heap.size /\ dh w b (off + k * 9) (A k)):=ahZ (λk hk=>by
  rcases ha.2 with h0 | ⟨b,off,e,hb,hc⟩
  ·omega
  ·exact ⟨b,off,e,hb,hc k hk⟩)
 obtain ⟨a0,a1,a2⟩:=fV SA.out
 go_wp2_with fail
 refine (PT _).mono ?_;rintro e W0 ⟨rfl,hb2⟩
 have ql:=ahZ (SC.out.below hb2 SC.out.lt)
 clear SC
 have SC:=ql
 clear ql
 have oI:=ahZ (SA.out.below hb2 SA.out.lt)
 clear SA
 have SA:=oI
 clear oI
 have HW0 : Hid (Below w.heap.size w W0):=ahZ (HB1.out.trans (hb2.mono HB1.out.size))
 clear hb2 a0 a1 a2 PT HB1
 obtain ⟨a0,a1,a2⟩:=fV SA.out
 obtain ⟨q0,q1,q2,q3,q4,q5,q6,q7,q8,q9,mP⟩:=gD SC.out
 go_wp2_with fail
 clear a0 a1 a2 q0 q1 q2 q3 q4 q5 q6 q7 q8 q9 mP
 go_loopw [12,45] (λv i wr=>∃ k : Nat,k <= la /\ i = .int .i64 k /\ wr.ownsRow W0.heap.size 52 6 v k (jI P k) /\ Below W0.heap.size W0 wr) (λ_ i _=>la - (intOf i).toNat)
 case atStart=>exact ⟨0,Nat.zero_le _,rfl,World.ownsRow_nil _ _ _ _,Below.refl _ _⟩
 case round =>
   rename_i wr
   obtain ⟨k,hk,rfl,hown,hB⟩:=hrel
   have hsz:=hB.size
   by_cases hlt : k < la
   ·obtain ⟨b,off,ET,hbw,hc⟩:=yT.out k hlt
    subst ET
    have hcw:=hc.below (HW0.out.trans (hB.mono HW0.out.size)) hbw
    have hx:=zN k hlt
    have A9:=ahZ (HP.out k)
    have HL : Hid (jI P (k + 1) = jI P k ++ [.int .i64 (P k).id,.int .i64 (P k).px,.int .i64 (P k).py,.int .i64 (P k).pz,.int .u16 (P k).aI,.int .i64 (P k).mode]):=ahZ rfl
    have EX:=yS (A k)
    unfold bR JU uF at EX
    have hkl : (k : Int) < la:=by omega
    have HOWN:=ahZ hown
    have eB:=ahZ (λj e=>(hown.lt j e).2)
    have HB:=ahZ hB
    have HCW:=ahZ hcw
    clear hc hown hB
    generalize P k = pk at *
    generalize A k = x at *
    obtain ⟨eP,px,py,pz,vx,vy,vz,aI,gen⟩:=x
    obtain ⟨c0,c1,c2,c3,c4,c5,c6,c7,c8⟩:=hcw
    dsimp only at c0 c1 c2 c3 c4 c5 c6 c7 c8 EX
    have VG:=ahZ (Ol px py pz vx vy vz 0 hx.px hx.py hx.pz hx.vx hx.vy hx.vz Rj.out)
    go_wp2_with fail
    refine (EX _).mono ?_;rintro e w4 ⟨rfl,hb4⟩
    have X4:=ahZ ((ak.new wr #[.int .i64 eP,.int .i64 px,.int .i64 py,.int .i64 pz,.int .i64 vx,.int .i64 vy,.int .i64 vz,.int .u16 aI,.int .u8 gen] 33).below hb4 (by simp))
    have gF : Hid (Below W0.heap.size W0 w4):=ahZ ((HB.out.alloc hsz _).trans (hb4.mono (by simp;omega)))
    have xA:=ahZ (own_below (HOWN.out.alloc _) hb4)
    have l4:=X4.out.lt
    clear hb4 EX c0 c1 c2 c3 c4 c5 c6 c7 c8 HB HOWN
    obtain ⟨c0,c1,c2,c3,c4,c5,c6,c7,c8⟩:=gG X4.out
    have vR : Hid (pk = ⟨eP,bM px (aT vx 0),bM py (aT vy 0),bM pz (aT vz 0),aI,0⟩):=ahZ A9.out
    generalize bM px (aT vx 0) = z1 at *
    generalize bM py (aT vy 0) = z2 at *
    generalize bM pz (aT vz 0) = z3 at *
    go_wp2_with fail
    refine (VG.out _).mono ?_;rintro e w6 ⟨rfl,hb6⟩
    have P6:=ahZ ((ak.new w4 #[.int .i64 eP,.int .i64 px,.int .i64 py,.int .i64 pz,.int .u16 aI,.int .i64 0] 52).below hb6 (by simp))
    have lg : Hid (Below W0.heap.size W0 w6):=ahZ ((gF.out.alloc gF.out.size _).trans (hb6.mono (by have:=gF.out.size;simp;omega)))
    have yU:=ahZ (own_below (xA.out.alloc _) hb6)
    have l6:=P6.out.lt
    clear hb6 c0 c1 c2 c3 c4 c5 c6 c7 c8 gF xA X4 VG
    obtain ⟨p0,p1,p2,p3,p4,p5⟩:=nu P6.out
    obtain ⟨f0,f1,f2,f3,f4,f5⟩:=pV P6.out
    have Z9:=ES P6.out 5 (.int .i64 0) 1 (.int .i64 z1) 2 (.int .i64 z2) 3 (.int .i64 z3)
    have xB:=ahZ (qQ yU.out Z9.2 (λj e h=>by have:=eB.out j e;have h2 : j = w4.heap.size:=h;omega))
    have rQ:=ahZ (lg.out.trans (Z9.2.below lg.out.size (by rintro i rfl;omega)))
    clear Z9
    go_wp2_with (at_builtin;refine wpList_append_own _ rfl (.tmp 60) (.tmp 62) 47 rfl W0.heap.size 52 i0 (.agg #[.int .i64 0,.int .i64 0,.int .i64 0,.int .i64 0,.int .u16 0,.int .i64 0]) 6 48 Tryz.underlying47 hi hz0 hz1 hz2 rfl (by decide) _ _ _ rfl (xB.out.alloc _) ⟨w6.heap.size,0,none⟩ 1 1 [.int .i64 eP,.int .i64 z1,.int .i64 z2,.int .i64 z3,.int .u16 aI,.int .i64 0] rfl rfl ?c1 ?c2 ?c3 ?c4 ?c5 ?_)
    case c1=>exact kY (by simp)
    case c2=>intro u hu;simp at hu;rcases hu with rfl | rfl | rfl | rfl | rfl | rfl <;> rfl
    case c3=>unfold maxLen;omega
    case c4=>omega
    case c5=>have:=rQ.out.size;simp at *;omega
    intro v' kC hown' hgrow _
    have hszz:=rQ.out.size
    have hB' : Hid (Below W0.heap.size W0 kC):=ahZ ((rQ.out.alloc hszz _).grown hgrow (by simp at *;omega) (λj e=>(xB.out.lt j e).1))
    have HO : Hid (kC.ownsRow W0.heap.size 52 6 v' (k + 1) (jI P (k + 1))):=ahZ (by rw [HL.out,vR.out];exact hown')
    clear hown' hgrow
    go_wp2
    go_roundw
    case rel=>exact ⟨k + 1,by omega,by go_num,HO.out,hB'.out⟩
    case measure=>simp [intOf];omega
   ·obtain rfl : k = la:=by omega
    obtain ⟨s,cp,rfl,hS⟩:=oG hown
    have HS:=ahZ hS
    have sJ:=ahZ (HW0.out.trans (hB.mono HW0.out.size))
    clear hS hown hB
    go_wp2
    exact bodyPost_ret (v:=.tuple #[.slice s k cp,.int .i64 0]) (by simp [results,Tryz.results47,go_sem]) rfl ⟨s,cp,rfl,HS.out,sJ.out⟩
set_option maxHeartbeats 4000000 in
theorem Zh (c : aS) (ok : c.Ok) (ka ta : Int) (aa : Option Addr) (la ca : Nat) (A : Nat -> ay) (au : Int) (w : World) (xC : aA ta) (hat : aA au) (ha : bV w aa la A) (hla : (la : Int) <= 4611686018427387904) (h0 : ny c ka ta aa la ca A = 0) (h1 : mg ta au = 0) (hd : aN au ta ≠ 0) (hf : c.extra < aN au ta) :
  Calls Tryz.prog 47 #[bE c,bC ka ta aa la ca,.int .i64 au] w λe w'=>∃ s cp,e = .returned (.tuple #[.slice s la cp,.int .i64 0]) /\ fO w' s la (Dq 4 c.extra A) /\ Below w.heap.size w w':=by
 obtain ⟨i0,hi,hz0,hz1,hz2⟩:=info_parts vQ
 have PT:=Je ka ta au aa la ca xC hat
 obtain ⟨Gi,hex,_,_⟩:=CJ h0
 obtain ⟨hle,hN,_,_⟩:=J5 h1
 rw [hN,h1] at PT
 have Gj:=jv au ta
 have hd0 : 0 <= aN au ta:=by unfold aN sat;omega
 generalize aN au ta = d at *
 clear hN h1 hle
 have hg0 : (d == 0) = false:=by simpa using hd
 have hg1 : decide (c.extra < d) = true:=decide_eq_true hf
 have hdd : aA c.extra:=ok.extra
 obtain ⟨P,hP⟩ : ∃ P,Dq 4 c.extra A = P:=⟨_,rfl⟩
 have HP : Hid (∀ i,P i = Wh 4 c.extra (A i)):=ahZ (λi=>by rw [← hP];rfl)
 rw [hP]
 have Rj:=ahZ hdd
 clear hP Gj hd0 hex hdd hd hf
 have hB3 : Below w.heap.size w ((w.alloc (.cells #[.int .i64 c.ring,.int .i64 c.window,.int .i64 c.base,.int .i64 c.gain,.int .i64 c.least,.int .i64 c.most,.int .i64 c.aF,.int .i64 c.num,.int .i64 c.den,.int .i64 c.extra,.bool c.aC] 29)).alloc (.cells #[.int .i64 ka,.int .i64 ta,.slice aa la ca] 36)):=((Below.refl _ _).alloc (Nat.le_refl _) _).alloc (by simp) _
 have bc:=((ak.new w #[.int .i64 c.ring,.int .i64 c.window,.int .i64 c.base,.int .i64 c.gain,.int .i64 c.least,.int .i64 c.most,.int .i64 c.aF,.int .i64 c.num,.int .i64 c.den,.int .i64 c.extra,.bool c.aC] 29).alloc (.cells #[.int .i64 ka,.int .i64 ta,.slice aa la ca] 36))
 have ba:=ak.new (w.alloc (.cells #[.int .i64 c.ring,.int .i64 c.window,.int .i64 c.base,.int .i64 c.gain,.int .i64 c.least,.int .i64 c.most,.int .i64 c.aF,.int .i64 c.num,.int .i64 c.den,.int .i64 c.extra,.bool c.aC] 29)) #[.int .i64 ka,.int .i64 ta,.slice aa la ca] 36
 have CK:=jy c (some ⟨((w.alloc (.cells #[.int .i64 c.ring,.int .i64 c.window,.int .i64 c.base,.int .i64 c.gain,.int .i64 c.least,.int .i64 c.most,.int .i64 c.aF,.int .i64 c.num,.int .i64 c.den,.int .i64 c.extra,.bool c.aC] 29)).alloc (.cells #[.int .i64 ka,.int .i64 ta,.slice aa la ca] 36)).heap.size,0,none⟩) 1 1 _ _ _ _ _ (JV ((w.alloc (.cells #[.int .i64 c.ring,.int .i64 c.window,.int .i64 c.base,.int .i64 c.gain,.int .i64 c.least,.int .i64 c.most,.int .i64 c.aF,.int .i64 c.num,.int .i64 c.den,.int .i64 c.extra,.bool c.aC] 29)).alloc (.cells #[.int .i64 ka,.int .i64 ta,.slice aa la ca] 36)) ka ta aa la ca A (ha.below hB3) hla) (by decide)
 have hs3 : ((w.alloc (.cells #[.int .i64 c.ring,.int .i64 c.window,.int .i64 c.base,.int .i64 c.gain,.int .i64 c.least,.int .i64 c.most,.int .i64 c.aF,.int .i64 c.num,.int .i64 c.den,.int .i64 c.extra,.bool c.aC] 29)).alloc (.cells #[.int .i64 ka,.int .i64 ta,.slice aa la ca] 36)).heap.size = w.heap.size + 1 + 1:=by simp
 change Calls _ _ _ _ (λe w'=>e = .returned (.int .i64 (ny c ka ta aa la ca A)) /\ _) at CK
 simp only [World.size_alloc] at ba
 unfold bE at CK ⊢
 unfold bC
 go_enter Tryz.func47,Tryz.ntmps47
 go_wp2_with fail
 generalize ((w.alloc (.cells #[.int .i64 c.ring,.int .i64 c.window,.int .i64 c.base,.int .i64 c.gain,.int .i64 c.least,.int .i64 c.most,.int .i64 c.aF,.int .i64 c.num,.int .i64 c.den,.int .i64 c.extra,.bool c.aC] 29)).alloc (.cells #[.int .i64 ka,.int .i64 ta,.slice aa la ca] 36)) = W at *
 rw [hs3] at CK
 refine CK.mono ?_;rintro e w1 ⟨rfl,hb1⟩
 have hB1 : Below W.heap.size W w1:=((Below.refl _ _).alloc (Nat.le_refl _) _).trans (hb1.mono (by simp))
 have HB1 : Hid (Below w.heap.size w w1):=ahZ (hB3.trans (hB1.mono hB3.size))
 have SC:=ahZ (bc.below hB1 bc.lt)
 have SA:=ahZ (ba.below hB1 ba.lt)
 clear hB3 hb1 hB1 CK bc ba hs3
 rw [h0]
 clear h0
 have zN:=ha.1
 have yT : Hid (∀ k,k < la -> ∃ b off,aa = some ⟨b,off,none⟩ /\ b < w.heap.size /\ dh w b (off + k * 9) (A k)):=ahZ (λk hk=>by
  rcases ha.2 with h0 | ⟨b,off,e,hb,hc⟩
  ·omega
  ·exact ⟨b,off,e,hb,hc k hk⟩)
 obtain ⟨a0,a1,a2⟩:=fV SA.out
 go_wp2_with fail
 refine (PT _).mono ?_;rintro e w2 ⟨rfl,hb2⟩
 have ql:=ahZ (SC.out.below hb2 SC.out.lt)
 clear SC
 have SC:=ql
 clear ql
 have oI:=ahZ (SA.out.below hb2 SA.out.lt)
 clear SA
 have SA:=oI
 clear oI
 have HW0 : Hid (Below w.heap.size w w2):=ahZ (HB1.out.trans (hb2.mono HB1.out.size))
 clear hb2 a0 a1 a2 PT HB1
 obtain ⟨a0,a1,a2⟩:=fV SA.out
 obtain ⟨q0,q1,q2,q3,q4,q5,q6,q7,q8,q9,mP⟩:=gD SC.out
 go_wp2_with fail
 refine aR 3 (by kernel_rfl) (by kernel_rfl) ?_
 simp only [List.take_succ_cons,List.take_zero,List.drop_succ_cons,List.drop_zero]
 repeat (apply aB;(next=>(intro W hW K hK;have y0:=hW.cell q9;go_simp;first | exact ⟨hW,hK⟩ | exact hK));(next=>exact aO.self _);(try go_simp))
 refine aW ?_
 intro WC aM
 generalize WC = W0 at *
 have hb3 : Below w2.heap.size w2 W0:=aM
 have oI:=ahZ (SA.out.below hb3 SA.out.lt)
 clear SA
 have SA:=oI
 clear oI
 have ql:=ahZ (SC.out.below hb3 SC.out.lt)
 clear SC
 have SC:=ql
 clear ql
 have HW1 : Hid (Below w.heap.size w W0):=ahZ (HW0.out.trans (hb3.mono HW0.out.size))
 clear HW0 aM hb3 a0 a1 a2 q0 q1 q2 q3 q4 q5 q6 q7 q8 q9 mP
 have HW0:=HW1
 clear HW1
 obtain ⟨a0,a1,a2⟩:=fV SA.out
 go_wp2_with fail
 clear a0 a1 a2
 go_loopw [12,45] (λv i wr=>∃ k : Nat,k <= la /\ i = .int .i64 k /\ wr.ownsRow W0.heap.size 52 6 v k (jI P k) /\ Below W0.heap.size W0 wr) (λ_ i _=>la - (intOf i).toNat)
 case atStart=>exact ⟨0,Nat.zero_le _,rfl,World.ownsRow_nil _ _ _ _,Below.refl _ _⟩
 case round =>
   rename_i wr
   obtain ⟨k,hk,rfl,hown,hB⟩:=hrel
   have hsz:=hB.size
   by_cases hlt : k < la
   ·obtain ⟨b,off,ET,hbw,hc⟩:=yT.out k hlt
    subst ET
    have hcw:=hc.below (HW0.out.trans (hB.mono HW0.out.size)) hbw
    have hx:=zN k hlt
    have A9:=ahZ (HP.out k)
    have HL : Hid (jI P (k + 1) = jI P k ++ [.int .i64 (P k).id,.int .i64 (P k).px,.int .i64 (P k).py,.int .i64 (P k).pz,.int .u16 (P k).aI,.int .i64 (P k).mode]):=ahZ rfl
    have EX:=yS (A k)
    unfold bR JU uF at EX
    have hkl : (k : Int) < la:=by omega
    have HOWN:=ahZ hown
    have eB:=ahZ (λj e=>(hown.lt j e).2)
    have HB:=ahZ hB
    have HCW:=ahZ hcw
    clear hc hown hB
    generalize P k = pk at *
    generalize A k = x at *
    obtain ⟨eP,px,py,pz,vx,vy,vz,aI,gen⟩:=x
    obtain ⟨c0,c1,c2,c3,c4,c5,c6,c7,c8⟩:=hcw
    dsimp only at c0 c1 c2 c3 c4 c5 c6 c7 c8 EX
    have VG:=ahZ (Ol px py pz vx vy vz c.extra hx.px hx.py hx.pz hx.vx hx.vy hx.vz Rj.out)
    go_wp2_with fail
    refine (EX _).mono ?_;rintro e w4 ⟨rfl,hb4⟩
    have X4:=ahZ ((ak.new wr #[.int .i64 eP,.int .i64 px,.int .i64 py,.int .i64 pz,.int .i64 vx,.int .i64 vy,.int .i64 vz,.int .u16 aI,.int .u8 gen] 33).below hb4 (by simp))
    have gF : Hid (Below W0.heap.size W0 w4):=ahZ ((HB.out.alloc hsz _).trans (hb4.mono (by simp;omega)))
    have xA:=ahZ (own_below (HOWN.out.alloc _) hb4)
    have l4:=X4.out.lt
    clear hb4 EX c0 c1 c2 c3 c4 c5 c6 c7 c8 HB HOWN
    obtain ⟨c0,c1,c2,c3,c4,c5,c6,c7,c8⟩:=gG X4.out
    have vR : Hid (pk = ⟨eP,bM px (aT vx c.extra),bM py (aT vy c.extra),bM pz (aT vz c.extra),aI,4⟩):=ahZ A9.out
    generalize bM px (aT vx c.extra) = z1 at *
    generalize bM py (aT vy c.extra) = z2 at *
    generalize bM pz (aT vz c.extra) = z3 at *
    go_wp2_with fail
    refine (VG.out _).mono ?_;rintro e w6 ⟨rfl,hb6⟩
    have P6:=ahZ ((ak.new w4 #[.int .i64 eP,.int .i64 px,.int .i64 py,.int .i64 pz,.int .u16 aI,.int .i64 0] 52).below hb6 (by simp))
    have lg : Hid (Below W0.heap.size W0 w6):=ahZ ((gF.out.alloc gF.out.size _).trans (hb6.mono (by have:=gF.out.size;simp;omega)))
    have yU:=ahZ (own_below (xA.out.alloc _) hb6)
    have l6:=P6.out.lt
    clear hb6 c0 c1 c2 c3 c4 c5 c6 c7 c8 gF xA X4 VG
    obtain ⟨p0,p1,p2,p3,p4,p5⟩:=nu P6.out
    obtain ⟨f0,f1,f2,f3,f4,f5⟩:=pV P6.out
    have Z9:=ES P6.out 5 (.int .i64 4) 1 (.int .i64 z1) 2 (.int .i64 z2) 3 (.int .i64 z3)
    have xB:=ahZ (qQ yU.out Z9.2 (λj e h=>by have:=eB.out j e;have h2 : j = w4.heap.size:=h;omega))
    have rQ:=ahZ (lg.out.trans (Z9.2.below lg.out.size (by rintro i rfl;omega)))
    clear Z9
    go_wp2_with (at_builtin;refine wpList_append_own _ rfl (.tmp 60) (.tmp 62) 47 rfl W0.heap.size 52 i0 (.agg #[.int .i64 0,.int .i64 0,.int .i64 0,.int .i64 0,.int .u16 0,.int .i64 0]) 6 48 Tryz.underlying47 hi hz0 hz1 hz2 rfl (by decide) _ _ _ rfl (xB.out.alloc _) ⟨w6.heap.size,0,none⟩ 1 1 [.int .i64 eP,.int .i64 z1,.int .i64 z2,.int .i64 z3,.int .u16 aI,.int .i64 4] rfl rfl ?c1 ?c2 ?c3 ?c4 ?c5 ?_)
    case c1=>exact kY (by simp)
    case c2=>intro u hu;simp at hu;rcases hu with rfl | rfl | rfl | rfl | rfl | rfl <;> rfl
    case c3=>unfold maxLen;omega
    case c4=>omega
    case c5=>have:=rQ.out.size;simp at *;omega
    intro v' kC hown' hgrow _
    have hszz:=rQ.out.size
    have hB' : Hid (Below W0.heap.size W0 kC):=ahZ ((rQ.out.alloc hszz _).grown hgrow (by simp at *;omega) (λj e=>(xB.out.lt j e).1))
    have HO : Hid (kC.ownsRow W0.heap.size 52 6 v' (k + 1) (jI P (k + 1))):=ahZ (by rw [HL.out,vR.out];exact hown')
    clear hown' hgrow
    go_wp2
    go_roundw
    case rel=>exact ⟨k + 1,by omega,by go_num,HO.out,hB'.out⟩
    case measure=>simp [intOf];omega
   ·obtain rfl : k = la:=by omega
    obtain ⟨s,cp,rfl,hS⟩:=oG hown
    have HS:=ahZ hS
    have sJ:=ahZ (HW0.out.trans (hB.mono HW0.out.size))
    clear hS hown hB
    go_wp2
    exact bodyPost_ret (v:=.tuple #[.slice s k cp,.int .i64 0]) (by simp [results,Tryz.results47,go_sem]) rfl ⟨s,cp,rfl,HS.out,sJ.out⟩
set_option maxHeartbeats 4000000 in
theorem Zi (c : aS) (ok : c.Ok) (ka ta : Int) (aa : Option Addr) (la ca : Nat) (A : Nat -> ay) (au : Int) (w : World) (xC : aA ta) (hat : aA au) (ha : bV w aa la A) (hla : (la : Int) <= 4611686018427387904) (h0 : ny c ka ta aa la ca A = 0) (h1 : mg ta au = 0) (hd : aN au ta ≠ 0) (hf : ¬ c.extra < aN au ta) :
  Calls Tryz.prog 47 #[bE c,bC ka ta aa la ca,.int .i64 au] w λe w'=>∃ s cp,e = .returned (.tuple #[.slice s la cp,.int .i64 0]) /\ fO w' s la (Dq 3 (aN au ta) A) /\ Below w.heap.size w w':=by
 obtain ⟨i0,hi,hz0,hz1,hz2⟩:=info_parts vQ
 have PT:=Je ka ta au aa la ca xC hat
 obtain ⟨Gi,hex,_,_⟩:=CJ h0
 obtain ⟨hle,hN,_,_⟩:=J5 h1
 rw [hN,h1] at PT
 have Gj:=jv au ta
 have hd0 : 0 <= aN au ta:=by unfold aN sat;omega
 generalize aN au ta = d at *
 clear hN h1 hle
 have hg0 : (d == 0) = false:=by simpa using hd
 have hg1 : decide (c.extra < d) = false:=decide_eq_false hf
 have hg2 : decide (0 < d) = true:=decide_eq_true (by omega)
 have hdd : aA d:=Gj
 obtain ⟨P,hP⟩ : ∃ P,Dq 3 d A = P:=⟨_,rfl⟩
 have HP : Hid (∀ i,P i = Wh 3 d (A i)):=ahZ (λi=>by rw [← hP];rfl)
 rw [hP]
 have Rj:=ahZ hdd
 clear hP Gj hd0 hex hdd hd hf
 have hB3 : Below w.heap.size w ((w.alloc (.cells #[.int .i64 c.ring,.int .i64 c.window,.int .i64 c.base,.int .i64 c.gain,.int .i64 c.least,.int .i64 c.most,.int .i64 c.aF,.int .i64 c.num,.int .i64 c.den,.int .i64 c.extra,.bool c.aC] 29)).alloc (.cells #[.int .i64 ka,.int .i64 ta,.slice aa la ca] 36)):=((Below.refl _ _).alloc (Nat.le_refl _) _).alloc (by simp) _
 have bc:=((ak.new w #[.int .i64 c.ring,.int .i64 c.window,.int .i64 c.base,.int .i64 c.gain,.int .i64 c.least,.int .i64 c.most,.int .i64 c.aF,.int .i64 c.num,.int .i64 c.den,.int .i64 c.extra,.bool c.aC] 29).alloc (.cells #[.int .i64 ka,.int .i64 ta,.slice aa la ca] 36))
 have ba:=ak.new (w.alloc (.cells #[.int .i64 c.ring,.int .i64 c.window,.int .i64 c.base,.int .i64 c.gain,.int .i64 c.least,.int .i64 c.most,.int .i64 c.aF,.int .i64 c.num,.int .i64 c.den,.int .i64 c.extra,.bool c.aC] 29)) #[.int .i64 ka,.int .i64 ta,.slice aa la ca] 36
 have CK:=jy c (some ⟨((w.alloc (.cells #[.int .i64 c.ring,.int .i64 c.window,.int .i64 c.base,.int .i64 c.gain,.int .i64 c.least,.int .i64 c.most,.int .i64 c.aF,.int .i64 c.num,.int .i64 c.den,.int .i64 c.extra,.bool c.aC] 29)).alloc (.cells #[.int .i64 ka,.int .i64 ta,.slice aa la ca] 36)).heap.size,0,none⟩) 1 1 _ _ _ _ _ (JV ((w.alloc (.cells #[.int .i64 c.ring,.int .i64 c.window,.int .i64 c.base,.int .i64 c.gain,.int .i64 c.least,.int .i64 c.most,.int .i64 c.aF,.int .i64 c.num,.int .i64 c.den,.int .i64 c.extra,.bool c.aC] 29)).alloc (.cells #[.int .i64 ka,.int .i64 ta,.slice aa la ca] 36)) ka ta aa la ca A (ha.below hB3) hla) (by decide)
 have hs3 : ((w.alloc (.cells #[.int .i64 c.ring,.int .i64 c.window,.int .i64 c.base,.int .i64 c.gain,.int .i64 c.least,.int .i64 c.most,.int .i64 c.aF,.int .i64 c.num,.int .i64 c.den,.int .i64 c.extra,.bool c.aC] 29)).alloc (.cells #[.int .i64 ka,.int .i64 ta,.slice aa la ca] 36)).heap.size = w.heap.size + 1 + 1:=by simp
 change Calls _ _ _ _ (λe w'=>e = .returned (.int .i64 (ny c ka ta aa la ca A)) /\ _) at CK
 simp only [World.size_alloc] at ba
 unfold bE at CK ⊢
 unfold bC
 go_enter Tryz.func47,Tryz.ntmps47
 go_wp2_with fail
 generalize ((w.alloc (.cells #[.int .i64 c.ring,.int .i64 c.window,.int .i64 c.base,.int .i64 c.gain,.int .i64 c.least,.int .i64 c.most,.int .i64 c.aF,.int .i64 c.num,.int .i64 c.den,.int .i64 c.extra,.bool c.aC] 29)).alloc (.cells #[.int .i64 ka,.int .i64 ta,.slice aa la ca] 36)) = W at *
 rw [hs3] at CK
 refine CK.mono ?_;rintro e w1 ⟨rfl,hb1⟩
 have hB1 : Below W.heap.size W w1:=((Below.refl _ _).alloc (Nat.le_refl _) _).trans (hb1.mono (by simp))
 have HB1 : Hid (Below w.heap.size w w1):=ahZ (hB3.trans (hB1.mono hB3.size))
 have SC:=ahZ (bc.below hB1 bc.lt)
 have SA:=ahZ (ba.below hB1 ba.lt)
 clear hB3 hb1 hB1 CK bc ba hs3
 rw [h0]
 clear h0
 have zN:=ha.1
 have yT : Hid (∀ k,k < la -> ∃ b off,aa = some ⟨b,off,none⟩ /\ b < w.heap.size /\ dh w b (off + k * 9) (A k)):=ahZ (λk hk=>by
  rcases ha.2 with h0 | ⟨b,off,e,hb,hc⟩
  ·omega
  ·exact ⟨b,off,e,hb,hc k hk⟩)
 obtain ⟨a0,a1,a2⟩:=fV SA.out
 go_wp2_with fail
 refine (PT _).mono ?_;rintro e W0 ⟨rfl,hb2⟩
 have ql:=ahZ (SC.out.below hb2 SC.out.lt)
 clear SC
 have SC:=ql
 clear ql
 have oI:=ahZ (SA.out.below hb2 SA.out.lt)
 clear SA
 have SA:=oI
 clear oI
 have HW0 : Hid (Below w.heap.size w W0):=ahZ (HB1.out.trans (hb2.mono HB1.out.size))
 clear hb2 a0 a1 a2 PT HB1
 obtain ⟨a0,a1,a2⟩:=fV SA.out
 obtain ⟨q0,q1,q2,q3,q4,q5,q6,q7,q8,q9,mP⟩:=gD SC.out
 go_wp2_with fail
 clear a0 a1 a2 q0 q1 q2 q3 q4 q5 q6 q7 q8 q9 mP
 go_loopw [12,45] (λv i wr=>∃ k : Nat,k <= la /\ i = .int .i64 k /\ wr.ownsRow W0.heap.size 52 6 v k (jI P k) /\ Below W0.heap.size W0 wr) (λ_ i _=>la - (intOf i).toNat)
 case atStart=>exact ⟨0,Nat.zero_le _,rfl,World.ownsRow_nil _ _ _ _,Below.refl _ _⟩
 case round =>
   rename_i wr
   obtain ⟨k,hk,rfl,hown,hB⟩:=hrel
   have hsz:=hB.size
   by_cases hlt : k < la
   ·obtain ⟨b,off,ET,hbw,hc⟩:=yT.out k hlt
    subst ET
    have hcw:=hc.below (HW0.out.trans (hB.mono HW0.out.size)) hbw
    have hx:=zN k hlt
    have A9:=ahZ (HP.out k)
    have HL : Hid (jI P (k + 1) = jI P k ++ [.int .i64 (P k).id,.int .i64 (P k).px,.int .i64 (P k).py,.int .i64 (P k).pz,.int .u16 (P k).aI,.int .i64 (P k).mode]):=ahZ rfl
    have EX:=yS (A k)
    unfold bR JU uF at EX
    have hkl : (k : Int) < la:=by omega
    have HOWN:=ahZ hown
    have eB:=ahZ (λj e=>(hown.lt j e).2)
    have HB:=ahZ hB
    have HCW:=ahZ hcw
    clear hc hown hB
    generalize P k = pk at *
    generalize A k = x at *
    obtain ⟨eP,px,py,pz,vx,vy,vz,aI,gen⟩:=x
    obtain ⟨c0,c1,c2,c3,c4,c5,c6,c7,c8⟩:=hcw
    dsimp only at c0 c1 c2 c3 c4 c5 c6 c7 c8 EX
    have VG:=ahZ (Ol px py pz vx vy vz d hx.px hx.py hx.pz hx.vx hx.vy hx.vz Rj.out)
    go_wp2_with fail
    refine (EX _).mono ?_;rintro e w4 ⟨rfl,hb4⟩
    have X4:=ahZ ((ak.new wr #[.int .i64 eP,.int .i64 px,.int .i64 py,.int .i64 pz,.int .i64 vx,.int .i64 vy,.int .i64 vz,.int .u16 aI,.int .u8 gen] 33).below hb4 (by simp))
    have gF : Hid (Below W0.heap.size W0 w4):=ahZ ((HB.out.alloc hsz _).trans (hb4.mono (by simp;omega)))
    have xA:=ahZ (own_below (HOWN.out.alloc _) hb4)
    have l4:=X4.out.lt
    clear hb4 EX c0 c1 c2 c3 c4 c5 c6 c7 c8 HB HOWN
    obtain ⟨c0,c1,c2,c3,c4,c5,c6,c7,c8⟩:=gG X4.out
    have vR : Hid (pk = ⟨eP,bM px (aT vx d),bM py (aT vy d),bM pz (aT vz d),aI,3⟩):=ahZ A9.out
    generalize bM px (aT vx d) = z1 at *
    generalize bM py (aT vy d) = z2 at *
    generalize bM pz (aT vz d) = z3 at *
    go_wp2_with fail
    refine (VG.out _).mono ?_;rintro e w6 ⟨rfl,hb6⟩
    have P6:=ahZ ((ak.new w4 #[.int .i64 eP,.int .i64 px,.int .i64 py,.int .i64 pz,.int .u16 aI,.int .i64 0] 52).below hb6 (by simp))
    have lg : Hid (Below W0.heap.size W0 w6):=ahZ ((gF.out.alloc gF.out.size _).trans (hb6.mono (by have:=gF.out.size;simp;omega)))
    have yU:=ahZ (own_below (xA.out.alloc _) hb6)
    have l6:=P6.out.lt
    clear hb6 c0 c1 c2 c3 c4 c5 c6 c7 c8 gF xA X4 VG
    obtain ⟨p0,p1,p2,p3,p4,p5⟩:=nu P6.out
    obtain ⟨f0,f1,f2,f3,f4,f5⟩:=pV P6.out
    have Z9:=ES P6.out 5 (.int .i64 3) 1 (.int .i64 z1) 2 (.int .i64 z2) 3 (.int .i64 z3)
    have xB:=ahZ (qQ yU.out Z9.2 (λj e h=>by have:=eB.out j e;have h2 : j = w4.heap.size:=h;omega))
    have rQ:=ahZ (lg.out.trans (Z9.2.below lg.out.size (by rintro i rfl;omega)))
    clear Z9
    go_wp2_with (at_builtin;refine wpList_append_own _ rfl (.tmp 60) (.tmp 62) 47 rfl W0.heap.size 52 i0 (.agg #[.int .i64 0,.int .i64 0,.int .i64 0,.int .i64 0,.int .u16 0,.int .i64 0]) 6 48 Tryz.underlying47 hi hz0 hz1 hz2 rfl (by decide) _ _ _ rfl (xB.out.alloc _) ⟨w6.heap.size,0,none⟩ 1 1 [.int .i64 eP,.int .i64 z1,.int .i64 z2,.int .i64 z3,.int .u16 aI,.int .i64 3] rfl rfl ?c1 ?c2 ?c3 ?c4 ?c5 ?_)
    case c1=>exact kY (by simp)
    case c2=>intro u hu;simp at hu;rcases hu with rfl | rfl | rfl | rfl | rfl | rfl <;> rfl
    case c3=>unfold maxLen;omega
    case c4=>omega
    case c5=>have:=rQ.out.size;simp at *;omega
    intro v' kC hown' hgrow _
    have hszz:=rQ.out.size
    have hB' : Hid (Below W0.heap.size W0 kC):=ahZ ((rQ.out.alloc hszz _).grown hgrow (by simp at *;omega) (λj e=>(xB.out.lt j e).1))
    have HO : Hid (kC.ownsRow W0.heap.size 52 6 v' (k + 1) (jI P (k + 1))):=ahZ (by rw [HL.out,vR.out];exact hown')
    clear hown' hgrow
    go_wp2
    go_roundw
    case rel=>exact ⟨k + 1,by omega,by go_num,HO.out,hB'.out⟩
    case measure=>simp [intOf];omega
   ·obtain rfl : k = la:=by omega
    obtain ⟨s,cp,rfl,hS⟩:=oG hown
    have HS:=ahZ hS
    have sJ:=ahZ (HW0.out.trans (hB.mono HW0.out.size))
    clear hS hown hB
    go_wp2
    exact bodyPost_ret (v:=.tuple #[.slice s k cp,.int .i64 0]) (by simp [results,Tryz.results47,go_sem]) rfl ⟨s,cp,rfl,HS.out,sJ.out⟩
end Go.Proofs.YtklkooeimkedgaaGreat
