/- Walk of TopExact. -/
import Derived.Test.YtklkooeimkedgaaGreatE12
import Derived.Test.YtklkooeimkedgaaGreatE25
import Derived.Test.YtklkooeimkedgaaGreatE30
set_option linter.unusedVariables false
set_option linter.unusedSimpArgs false
namespace Go.Proofs.YtklkooeimkedgaaGreat
open Go.RowKit
set_option maxRecDepth 8000
structure Po where
 id : Int
 px : Int
 py : Int
 pz : Int
 aI : Int
 mode : Int
def Jq (p : Po) : Value:=.agg #[.int .i64 (p).id,.int .i64 (p).px,.int .i64 (p).py,.int .i64 (p).pz,.int .u16 (p).aI,.int .i64 (p).mode]
def lC (e : aA) : Po:=⟨e.id,e.px,e.py,e.pz,e.aI,0⟩
theorem yQ (e : aA) (w : World) : Calls Tryz.prog 94 #[bN e] w λe' w'=>e' = .returned (Jq (lC e)) /\ Below w.heap.size w w':=by
 obtain ⟨eF,px,py,pz,vx,vy,vz,aI,gen⟩:=e
 unfold bN Jq lC
 dsimp only
 go_enter Tryz.func94,Tryz.ntmps94
 go_wp2
 exact bodyPost_ret (v:=.agg #[.int .i64 eF,.int .i64 px,.int .i64 py,.int .i64 pz,.int .u16 aI,.int .i64 0]) (by simp [results,Tryz.results94,go_sem]) rfl ⟨rfl,by (repeat (first | exact Below.refl _ _ | assumption | (refine Below.drew ?_) | (refine below_drewN ?_ _) | (refine Below.alloc ?_ (by simp <;> omega) _) | (refine Below.setCell ?_ (by simp <;> omega) _)))⟩
theorem LY (w : World) : Calls Tryz.prog 254 #[.agg #[]] w λe w'=>e = .returned (.int .i64 1) /\ Below w.heap.size w w':=by
 go_enter Tryz.func254,Tryz.ntmps254
 go_wp2
 go_ret
 exact ⟨rfl,by (repeat (first | exact Below.refl _ _ | assumption | (refine Below.drew ?_) | (refine below_drewN ?_ _) | (refine Below.alloc ?_ (by simp <;> omega) _) | (refine Below.setCell ?_ (by simp <;> omega) _)))⟩
theorem LZ (w : World) : Calls Tryz.prog 247 #[.agg #[]] w λe w'=>e = .returned (.int .i64 2) /\ Below w.heap.size w w':=by
 go_enter Tryz.func247,Tryz.ntmps247
 go_wp2
 go_ret
 exact ⟨rfl,by (repeat (first | exact Below.refl _ _ | assumption | (refine Below.drew ?_) | (refine below_drewN ?_ _) | (refine Below.alloc ?_ (by simp <;> omega) _) | (refine Below.setCell ?_ (by simp <;> omega) _)))⟩
theorem TF (x y : aA) (num den : Int) (hx : x.Ok) (hy : y.Ok) (h : iL num den = true) (w : World) :
 Calls Tryz.prog 255 #[.agg #[],bN x,bN y,.int .i64 num,.int .i64 den] w λe w'=>e = .returned (v3 (cK x.px y.px num den) (cK x.py y.py num den) (cK x.pz y.pz num den)) /\ Below w.heap.size w w':=by
 have c:=WQ x.px x.py x.pz y.px y.py y.pz num den hx.px hx.py hx.pz hy.px hy.py hy.pz h
 generalize cK x.px y.px num den = r0 at *
 generalize cK x.py y.py num den = r1 at *
 generalize cK x.pz y.pz num den = r2 at *
 obtain ⟨eF,px,py,pz,vx,vy,vz,aI,gen⟩:=x
 obtain ⟨nI,qx,qy,qz,ux,uy,uz,iB,iC⟩:=y
 unfold bN
 dsimp only at c ⊢
 clear hx hy h
 go_enter Tryz.func255,Tryz.ntmps255
 go_wp2_with fail
 have hB0 : Below w.heap.size w ((((w.alloc (.cells #[] 233)).alloc (.cells #[.int .i64 eF,.int .i64 px,.int .i64 py,.int .i64 pz,.int .i64 vx,.int .i64 vy,.int .i64 vz,.int .u16 aI,.int .u8 gen] 33)).alloc (.cells #[.int .i64 nI,.int .i64 qx,.int .i64 qy,.int .i64 qz,.int .i64 ux,.int .i64 uy,.int .i64 uz,.int .u16 iB,.int .u8 iC] 33)).alloc (.cells #[.int .i64 0,.int .i64 0,.int .i64 0] 22)):=by (repeat (first | exact Below.refl _ _ | assumption | (refine Below.drew ?_) | (refine below_drewN ?_ _) | (refine Below.alloc ?_ (by simp <;> omega) _) | (refine Below.setCell ?_ (by simp <;> omega) _)))
 have B4:=ak.new (((w.alloc (.cells #[] 233)).alloc (.cells #[.int .i64 eF,.int .i64 px,.int .i64 py,.int .i64 pz,.int .i64 vx,.int .i64 vy,.int .i64 vz,.int .u16 aI,.int .u8 gen] 33)).alloc (.cells #[.int .i64 nI,.int .i64 qx,.int .i64 qy,.int .i64 qz,.int .i64 ux,.int .i64 uy,.int .i64 uz,.int .u16 iB,.int .u8 iC] 33)) #[.int .i64 0,.int .i64 0,.int .i64 0] 22
 refine (c _).mono ?_;rintro e w1 ⟨rfl,hb1⟩
 have HB1 : Hid (Below w.heap.size w w1):=ah6 (hB0.trans (hb1.mono hB0.size))
 have rQ:=B4.below hb1 B4.lt
 simp only [World.size_alloc] at rQ
 have hs:=HB1.out.size;clear hB0 B4 hb1 c
 have r4:=rQ.cell 0;have r5:=rQ.cell 1;have r6:=rQ.cell 2
 have f4:=rQ.free 0;have f5:=rQ.free 1;have f6:=rQ.free 2
 have hl:=rQ.lt;simp at r4 r5 r6;clear rQ
 go_wp2
 have HB2:=HB1.out
 exact bodyPost_ret (v:=v3 r0 r1 r2) (by simp [results,Tryz.results255,go_sem, *]) rfl ⟨rfl,by (repeat (first | exact Below.refl _ _ | assumption | (refine Below.drew ?_) | (refine below_drewN ?_ _) | (refine Below.alloc ?_ (by simp <;> omega) _) | (refine Below.setCell ?_ (by simp <;> omega) _)))⟩
theorem TG (x y : aA) (num den : Int) (hx : x.Ok) (hy : y.Ok) (h : iL num den = true) (w : World) :
 Calls Tryz.prog 248 #[.agg #[],bN x,bN y,.int .i64 num,.int .i64 den] w λe w'=>e = .returned (v3 (dO x.px x.vx y.px y.vx num den) (dO x.py x.vy y.py y.vy num den) (dO x.pz x.vz y.pz y.vz num den)) /\ Below w.heap.size w w':=by
 have c:=Yt x.px x.py x.pz x.vx x.vy x.vz y.px y.py y.pz y.vx y.vy y.vz num den hx.px hx.py hx.pz hx.vx hx.vy hx.vz hy.px hy.py hy.pz hy.vx hy.vy hy.vz h
 generalize dO x.px x.vx y.px y.vx num den = r0 at *
 generalize dO x.py x.vy y.py y.vy num den = r1 at *
 generalize dO x.pz x.vz y.pz y.vz num den = r2 at *
 obtain ⟨eF,px,py,pz,vx,vy,vz,aI,gen⟩:=x
 obtain ⟨nI,qx,qy,qz,ux,uy,uz,iB,iC⟩:=y
 unfold bN
 dsimp only at c ⊢
 clear hx hy h
 go_enter Tryz.func248,Tryz.ntmps248
 go_wp2_with fail
 have hB0 : Below w.heap.size w ((((w.alloc (.cells #[] 232)).alloc (.cells #[.int .i64 eF,.int .i64 px,.int .i64 py,.int .i64 pz,.int .i64 vx,.int .i64 vy,.int .i64 vz,.int .u16 aI,.int .u8 gen] 33)).alloc (.cells #[.int .i64 nI,.int .i64 qx,.int .i64 qy,.int .i64 qz,.int .i64 ux,.int .i64 uy,.int .i64 uz,.int .u16 iB,.int .u8 iC] 33)).alloc (.cells #[.int .i64 0,.int .i64 0,.int .i64 0] 22)):=by (repeat (first | exact Below.refl _ _ | assumption | (refine Below.drew ?_) | (refine below_drewN ?_ _) | (refine Below.alloc ?_ (by simp <;> omega) _) | (refine Below.setCell ?_ (by simp <;> omega) _)))
 have B4:=ak.new (((w.alloc (.cells #[] 232)).alloc (.cells #[.int .i64 eF,.int .i64 px,.int .i64 py,.int .i64 pz,.int .i64 vx,.int .i64 vy,.int .i64 vz,.int .u16 aI,.int .u8 gen] 33)).alloc (.cells #[.int .i64 nI,.int .i64 qx,.int .i64 qy,.int .i64 qz,.int .i64 ux,.int .i64 uy,.int .i64 uz,.int .u16 iB,.int .u8 iC] 33)) #[.int .i64 0,.int .i64 0,.int .i64 0] 22
 refine (c _).mono ?_;rintro e w1 ⟨rfl,hb1⟩
 have HB1 : Hid (Below w.heap.size w w1):=ah6 (hB0.trans (hb1.mono hB0.size))
 have rQ:=B4.below hb1 B4.lt
 simp only [World.size_alloc] at rQ
 have hs:=HB1.out.size;clear hB0 B4 hb1 c
 have r4:=rQ.cell 0;have r5:=rQ.cell 1;have r6:=rQ.cell 2
 have f4:=rQ.free 0;have f5:=rQ.free 1;have f6:=rQ.free 2
 have hl:=rQ.lt;simp at r4 r5 r6;clear rQ
 go_wp2
 have HB2:=HB1.out
 exact bodyPost_ret (v:=v3 r0 r1 r2) (by simp [results,Tryz.results248,go_sem, *]) rfl ⟨rfl,by (repeat (first | exact Below.refl _ _ | assumption | (refine Below.drew ?_) | (refine below_drewN ?_ _) | (refine Below.alloc ?_ (by simp <;> omega) _) | (refine Below.setCell ?_ (by simp <;> omega) _)))⟩
def qE (w : World) (s : Option Addr) (len : Nat) (K T : Nat -> Int) (E : Nat -> Option Addr × Nat × Nat) (EE : Nat -> Nat -> aA) : Prop :=
 gP w s len K T E /\ ∀ i,i < len -> dx w (E i).1 (E i).2.1 (EE i) /\ ((E i).2.1 : Int) <= 4611686018427387904
theorem qE.below {w w' : World} {s : Option Addr} {len : Nat} {K T : Nat -> Int} {E : Nat -> Option Addr × Nat × Nat} {EE : Nat -> Nat -> aA} (h : qE w s len K T E EE) (hb : Below w.heap.size w w') : qE w' s len K T E EE :=
 ⟨h.1.below hb,λi hi=>⟨(h.2 i hi).1.below hb,(h.2 i hi).2⟩⟩
def nR (K T : Nat -> Int) (E : Nat -> Option Addr × Nat × Nat) (EE : Nat -> Nat -> aA) : Nat -> Nat -> Int
 | 0,_=>0
 | n + 1,i=>if dw (K i) (T i) (E i).2.1 (EE i) = 0 then nR K T E EE n (i + 1) else dw (K i) (T i) (E i).2.1 (EE i)
def gD (c : aN) (K T : Nat -> Int) (E : Nat -> Option Addr × Nat × Nat) (EE : Nat -> Nat -> aA) (len : Nat) : Int:=if dF c = 0 then nR K T E EE len 0 else dF c
set_option maxHeartbeats 1000000 in
theorem jy (c : aN) (s : Option Addr) (len cap : Nat) (K T : Nat -> Int) (E : Nat -> Option Addr × Nat × Nat) (EE : Nat -> Nat -> aA) (w : World) (h : qE w s len K T E EE) (hlen : (len : Int) <= 4611686018427387904) :
 Calls Tryz.prog 45 #[aY c,.slice s len cap] w λe w'=>e = .returned (.int .i64 (gD c K T E EE len)) /\ Below w.heap.size w w':=by
 have CC:=DK c
 obtain ⟨hs,he⟩:=h
 have HE:=ah6 he
 unfold aY at CC ⊢
 clear he
 by_cases hc : dF c = 0
 ·have HP : Hid (gD c K T E EE len = nR K T E EE len 0):=ah6 (by unfold gD;rw [if_pos hc])
  rw [hc] at CC
  generalize gD c K T E EE len = r at *
  clear hc
  rcases hs with hz | ⟨b,off,rfl,hb,hcs⟩
  all_goals
   go_enter Tryz.func45,Tryz.ntmps45
   go_wp2_with fail
   refine (CC _).mono ?_;rintro e w1 ⟨rfl,hb1⟩
   have HB1 : Hid (Below w.heap.size w w1):=ah6 ((ah7).trans (hb1.mono (by simp)))
   clear hb1 CC
   go_wp2_with fail
   go_loopw [16] (λi wr=>∃ k : Nat,k <= len /\ i = .int .i64 k /\ nR K T E EE len 0 = nR K T E EE (len - k) k /\ Below w.heap.size w wr) (λi _=>len - (intOf i).toNat)
   case atStart=>exact ⟨0,Nat.zero_le _,rfl,rfl,HB1.out⟩
   case round =>
    rename_i wr
    obtain ⟨k,hk,rfl,hch,hB⟩:=hrel
    have hsz:=hB.size
    by_cases hlt : k < len
    ·first
     | (exfalso;omega)
     | (obtain ⟨n,hn⟩ : ∃ n,len - k = n + 1:=⟨len - k - 1,by omega⟩
        have hn2 : len - (k + 1) = n:=by omega
        rw [hn] at hch
        obtain ⟨d0,d1,d2⟩:=hcs k hlt
        have c0:=(hB.cell (p:=⟨b,off + k * 3,none⟩) hb).trans d0;have c1:=(hB.cell (p:=⟨b,off + k * 3 + 1,none⟩) hb).trans d1;have c2:=(hB.cell (p:=⟨b,off + k * 3 + 2,none⟩) hb).trans d2
        obtain ⟨he1,he2⟩:=HE.out k hlt
        have DC:=ah6 (λw' (hw : Below w.heap.size w w')=>Dz (K k) (T k) (E k).1 (E k).2.1 (E k).2.2 (EE k) w' (he1.below hw) he2)
        unfold bP at DC
        have iP : Hid (nR K T E EE len 0 = if dw (K k) (T k) (E k).2.1 (EE k) = 0 then nR K T E EE n (k + 1) else dw (K k) (T k) (E k).2.1 (EE k)):=ah6 hch
        have HC:=ah6 hcs;have HB:=ah6 hB
        have hlt' : (k : Int) < len:=by omega
        clear hch hcs hn d0 d1 d2 he1 he2 hB
        generalize dw (K k) (T k) (E k).2.1 (EE k) = sc at *
        generalize K k = kk at *
        generalize T k = tt at *
        generalize (E k).1 = ea at *
        generalize (E k).2.1 = el at *
        generalize (E k).2.2 = ec at *
        have dc:=DC.out _ (HB.out.alloc hsz (.cells #[.int .i64 kk,.int .i64 tt,.slice ea el ec] 36))
        by_cases r0 : sc = 0
        ·have HF : Hid (nR K T E EE len 0 = nR K T E EE n (k + 1)):=ah6 (by rw [iP.out,if_pos r0])
         subst r0
         clear iP
         go_wp2_with fail
         refine dc.mono ?_;rintro e w2 ⟨rfl,hb2⟩
         have HB2:=ah6 ((HB.out.alloc hsz _).trans (hb2.mono (by simp;omega)))
         clear hb2 dc c0 c1 c2
         go_wp2
         go_roundw
         case rel=>exact ⟨k + 1,by omega,by go_num,by rw [hn2];exact HF.out,HB2.out⟩
         case measure=>simp [intOf];omega
        ·have HF : Hid (nR K T E EE len 0 = sc):=ah6 (by rw [iP.out,if_neg r0])
         have r1 : (sc != 0) = true:=by simpa using r0
         clear iP r0
         go_wp2_with fail
         refine dc.mono ?_;rintro e w2 ⟨rfl,hb2⟩
         have HB2:=ah6 ((HB.out.alloc hsz _).trans (hb2.mono (by simp;omega)))
         clear hb2 dc c0 c1 c2
         go_wp2
         go_ret
         exact ⟨aP (by rw [HP.out,HF.out]),HB2.out⟩)
    ·obtain rfl : k = len:=by omega
     have HF : Hid (nR K T E EE k 0 = 0):=ah6 (by rw [hch,Nat.sub_self];rfl)
     clear hch
     go_wp2
     go_ret
     exact ⟨aP (by rw [HP.out,HF.out]),hB⟩
 ·have HP : Hid (gD c K T E EE len = dF c):=ah6 (by unfold gD;rw [if_neg hc])
  generalize gD c K T E EE len = r at *
  generalize dF c = cc at *
  have hc1 : (cc != 0) = true:=by simpa using hc
  clear hc
  go_enter Tryz.func45,Tryz.ntmps45
  go_wp2_with fail
  refine (CC _).mono ?_;rintro e w1 ⟨rfl,hb1⟩
  have HB1 : Hid (Below w.heap.size w w1):=ah6 ((ah7).trans (hb1.mono (by simp)))
  clear hb1 CC
  go_wp2
  go_ret
  exact ⟨aP HP.out.symm,HB1.out⟩
set_option maxRecDepth 8000
theorem WU (c : aN) (h : c.aB = false) (w : World) :
 Calls Tryz.prog 97 #[aY c] w λe w'=>e = .returned (.iface 233 (.agg #[])) /\ Below w.heap.size w w':=by
 unfold aY
 go_enter Tryz.func97,Tryz.ntmps97
 go_wp2
 go_ret
 exact ⟨rfl,by (repeat (first | exact Below.refl _ _ | assumption | (refine Below.drew ?_) | (refine below_drewN ?_ _) | (refine Below.alloc ?_ (by simp <;> omega) _) | (refine Below.setCell ?_ (by simp <;> omega) _)))⟩
theorem Qc (c : aN) (h : c.aB = true) (w : World) :
 Calls Tryz.prog 97 #[aY c] w λe w'=>e = .returned (.iface 232 (.agg #[])) /\ Below w.heap.size w w':=by
 unfold aY
 go_enter Tryz.func97,Tryz.ntmps97
 go_wp2
 go_ret
 exact ⟨rfl,by (repeat (first | exact Below.refl _ _ | assumption | (refine Below.drew ?_) | (refine below_drewN ?_ _) | (refine Below.alloc ?_ (by simp <;> omega) _) | (refine Below.setCell ?_ (by simp <;> omega) _)))⟩
def kH (w : World) (b o : Nat) (p : Po) : Prop:=w.cell? ⟨b,o,none⟩ = some (.int .i64 (p).id) /\ w.cell? ⟨b,o + 1,none⟩ = some (.int .i64 (p).px) /\ w.cell? ⟨b,o + 2,none⟩ = some (.int .i64 (p).py) /\ w.cell? ⟨b,o + 3,none⟩ = some (.int .i64 (p).pz) /\ w.cell? ⟨b,o + 4,none⟩ = some (.int .u16 (p).aI) /\ w.cell? ⟨b,o + 5,none⟩ = some (.int .i64 (p).mode)
def dY (w : World) (s : Option Addr) (n : Nat) (P : Nat -> Po) : Prop :=
 n = 0 \/ ∃ b off,s = some ⟨b,off,none⟩ /\ b < w.heap.size /\ ∀ i,i < n -> kH w b (off + i * 6) (P i)
theorem kH.below {w w' : World} {b o : Nat} {p : Po} (h : kH w b o p) (hb : Below w.heap.size w w') (hl : b < w.heap.size) : kH w' b o p:=by
 unfold kH at *
 refine ⟨?_,?_,?_,?_,?_,?_⟩ <;> (rw [hb.cell (by simpa using hl)];first | exact h.1 | exact h.2.1 | exact h.2.2.1 | exact h.2.2.2.1 | exact h.2.2.2.2.1 | exact h.2.2.2.2.2)
theorem dY.below {w w' : World} {s : Option Addr} {n : Nat} {P : Nat -> Po} (h : dY w s n P) (hb : Below w.heap.size w w') : dY w' s n P:=by
 rcases h with h | ⟨b,off,e,hl,hc⟩
 ·exact .inl h
 ·exact .inr ⟨b,off,e,Nat.lt_of_lt_of_le hl hb.size,λi hi=>(hc i hi).below hb hl⟩
def jJ (P : Nat -> Po) : Nat -> List Value
 | 0=>[]
 | k + 1=>jJ P k ++ [.int .i64 (P k).id,.int .i64 (P k).px,.int .i64 (P k).py,.int .i64 (P k).pz,.int .u16 (P k).aI,.int .i64 (P k).mode]
theorem Ez (P : Nat -> Po) : ∀ k,(jJ P k).length = k * 6
 | 0=>rfl
 | k + 1=>by rw [jJ,List.length_append,Ez P k];simp;omega
theorem Qd (P : Nat -> Po) : ∀ k i,i < k -> (jJ P k)[i * 6]? = some (.int .i64 (P i).id) /\ (jJ P k)[i * 6 + 1]? = some (.int .i64 (P i).px) /\ (jJ P k)[i * 6 + 2]? = some (.int .i64 (P i).py) /\ (jJ P k)[i * 6 + 3]? = some (.int .i64 (P i).pz) /\ (jJ P k)[i * 6 + 4]? = some (.int .u16 (P i).aI) /\ (jJ P k)[i * 6 + 5]? = some (.int .i64 (P i).mode)
 | 0,i,h=>by omega
 | k + 1,i,h=>by
   have hl:=Ez P k
   rw [jJ]
   by_cases e : i = k
   ·subst e
    rw [List.getElem?_append_right (by omega),List.getElem?_append_right (by omega),List.getElem?_append_right (by omega),List.getElem?_append_right (by omega),List.getElem?_append_right (by omega),List.getElem?_append_right (by omega),hl,show i * 6 - i * 6 = 0 by omega,show i * 6 + 1 - i * 6 = 1 by omega,show i * 6 + 2 - i * 6 = 2 by omega,show i * 6 + 3 - i * 6 = 3 by omega,show i * 6 + 4 - i * 6 = 4 by omega,show i * 6 + 5 - i * 6 = 5 by omega]
    exact ⟨rfl,rfl,rfl,rfl,rfl,rfl⟩
   ·rw [List.getElem?_append_left (by omega),List.getElem?_append_left (by omega),List.getElem?_append_left (by omega),List.getElem?_append_left (by omega),List.getElem?_append_left (by omega),List.getElem?_append_left (by omega)]
    exact Qd P k i (by omega)
theorem oD {w : World} {base : Nat} {v : Value} {k : Nat} {P : Nat -> Po} (h : w.ownsRow base 52 6 v k (jJ P k)) :
 ∃ s cp,v = .slice s k cp /\ dY w s k P:=by
 have h':=h
 obtain ⟨_,⟨rfl,rfl⟩ | ⟨g,cap,cur,rfl,hb,hg,hk,hm,hs,ht⟩⟩:=h'
 ·exact ⟨none,0,rfl,.inl rfl⟩
 ·refine ⟨_,_,rfl,.inr ⟨g,0,rfl,?_,λi hi=>?_⟩⟩
  ·exact (Array.getElem?_eq_some_iff.1 hg).1
  ·obtain ⟨a0,a1,a2,a3,a4,a5⟩:=Qd P k i hi
   have c:=h.cells (g:=g) rfl
   have e : ∀ j,(⟨g,0,none⟩ : Addr).add j = ⟨g,0 + j,none⟩:=λj=>by unfold Addr.add;split <;> simp_all
   exact ⟨by rw [← e];exact c _ _ a0,by rw [Nat.add_assoc,← e];exact c _ _ a1,by rw [Nat.add_assoc,← e];exact c _ _ a2,by rw [Nat.add_assoc,← e];exact c _ _ a3,by rw [Nat.add_assoc,← e];exact c _ _ a4,by rw [Nat.add_assoc,← e];exact c _ _ a5⟩
theorem own_below {w w' : World} {base : Nat} {e : TypeId} {size : Nat} {v : Value} {n : Nat} {xs : List Value} (h : w.ownsRow base e size v n xs) (hb : Below w.heap.size w w') : w'.ownsRow base e size v n xs:=by
 obtain ⟨h1,h2⟩:=h
 refine ⟨h1,?_⟩
 rcases h2 with h2 | ⟨g,cap,cur,hv,hg,hh,r⟩
 ·exact Or.inl h2
 ·exact Or.inr ⟨g,cap,cur,hv,hg,by rw [hb.block g (Array.getElem?_eq_some_iff.1 hh).1];exact hh,r⟩
theorem gq {w : World} {b : Nat} {t : TypeId} {x0 x1 x2 x3 x4 x5 x6 x7 x8 : Value} (h : ak w b #[x0,x1,x2,x3,x4,x5,x6,x7,x8] t) :
 w.cell? ⟨b,0,none⟩ = some x0 /\ w.cell? ⟨b,1,none⟩ = some x1 /\ w.cell? ⟨b,2,none⟩ = some x2 /\ w.cell? ⟨b,3,none⟩ = some x3 /\ w.cell? ⟨b,4,none⟩ = some x4 /\ w.cell? ⟨b,5,none⟩ = some x5 /\ w.cell? ⟨b,6,none⟩ = some x6 /\ w.cell? ⟨b,7,none⟩ = some x7 /\ w.cell? ⟨b,8,none⟩ = some x8 :=
 ⟨by simpa using h.cell 0,by simpa using h.cell 1,by simpa using h.cell 2,by simpa using h.cell 3,by simpa using h.cell 4,by simpa using h.cell 5,by simpa using h.cell 6,by simpa using h.cell 7,by simpa using h.cell 8⟩
theorem nk {w : World} {b : Nat} {t : TypeId} {x0 x1 x2 x3 x4 x5 : Value} (h : ak w b #[x0,x1,x2,x3,x4,x5] t) :
 w.cell? ⟨b,0,none⟩ = some x0 /\ w.cell? ⟨b,1,none⟩ = some x1 /\ w.cell? ⟨b,2,none⟩ = some x2 /\ w.cell? ⟨b,3,none⟩ = some x3 /\ w.cell? ⟨b,4,none⟩ = some x4 /\ w.cell? ⟨b,5,none⟩ = some x5 :=
 ⟨by simpa using h.cell 0,by simpa using h.cell 1,by simpa using h.cell 2,by simpa using h.cell 3,by simpa using h.cell 4,by simpa using h.cell 5⟩
theorem pJ {w : World} {b : Nat} {t : TypeId} {cs : Array Value} (h : ak w b cs t) :
 w.frozen? ⟨b,0,none⟩ = false /\ w.frozen? ⟨b,1,none⟩ = false /\ w.frozen? ⟨b,2,none⟩ = false /\ w.frozen? ⟨b,3,none⟩ = false /\ w.frozen? ⟨b,4,none⟩ = false /\ w.frozen? ⟨b,5,none⟩ = false :=
 ⟨h.free 0,h.free 1,h.free 2,h.free 3,h.free 4,h.free 5⟩
theorem fM {w : World} {b : Nat} {t : TypeId} {x0 x1 x2 : Value} (h : ak w b #[x0,x1,x2] t) :
 w.cell? ⟨b,0,none⟩ = some x0 /\ w.cell? ⟨b,1,none⟩ = some x1 /\ w.cell? ⟨b,2,none⟩ = some x2 :=
 ⟨by simpa using h.cell 0,by simpa using h.cell 1,by simpa using h.cell 2⟩
theorem vM : (Tryz.prog.info? 52).map (λi=>(i.zero,i.size,i.bytes)) = some (some (.agg #[.int .i64 0,.int .i64 0,.int .i64 0,.int .i64 0,.int .u16 0,.int .i64 0]),6,48):=by kernel_rfl
theorem WV : bK.Ok:=by
 constructor <;> (simp only [bK];first | exact ⟨by omega,by omega⟩ | (unfold ay;omega))
theorem Qe {w : World} {a : Option Addr} {len : Nat} {E : Nat -> aA} (h : dx w a len E) (id : Int) : (wV E id len).Ok:=by
 unfold wV
 split
 ·rename_i hj;exact h.1 _ hj
 ·exact WV
theorem Ns (w : World) (k0 t0 k1 t1 : Int) (a b : Option Addr) (la ca lb cb : Nat) (A B : Nat -> aA) (ha : dx w a la A) (hb : dx w b lb B) (hla : (la : Int) <= 4611686018427387904) (hlb : (lb : Int) <= 4611686018427387904) :
 qE (w.alloc (.cells #[.int .i64 k0,.int .i64 t0,.slice a la ca,.int .i64 k1,.int .i64 t1,.slice b lb cb] 36)) (some ⟨w.heap.size,0,none⟩) 2 (two k0 k1) (two t0 t1) (two (a,la,ca) (b,lb,cb)) (two A B):=by
 refine ⟨PI w k0 t0 k1 t1 a b la ca lb cb,λi hi=>?_⟩
 have hB : Below w.heap.size w (w.alloc (.cells #[.int .i64 k0,.int .i64 t0,.slice a la ca,.int .i64 k1,.int .i64 t1,.slice b lb cb] 36)):=ah7
 match i,hi with
 | 0,_=>exact ⟨ha.below hB,hla⟩
 | 1,_=>exact ⟨hb.below hB,hlb⟩
theorem Jr (w : World) (k0 t0 : Int) (a : Option Addr) (la ca : Nat) (A : Nat -> aA) (ha : dx w a la A) (hla : (la : Int) <= 4611686018427387904) :
 qE (w.alloc (.cells #[.int .i64 k0,.int .i64 t0,.slice a la ca] 36)) (some ⟨w.heap.size,0,none⟩) 1 (λ_=>k0) (λ_=>t0) (λ_=>(a,la,ca)) (λ_=>A) :=
 ⟨PO w k0 t0 a la ca,λi hi=>⟨ha.below (ah7),hla⟩⟩
set_option maxRecDepth 100000
theorem GA {a b t : Int} (h : jl a b t = 0) : iL (tN a b t) (tO a b t) = true /\ a <= t /\ t <= b /\ a < b /\ (-2305843009213693952 <= a /\ a <= 2305843009213693952) /\ (-2305843009213693952 <= b /\ b <= 2305843009213693952) /\ tN a b t = t - a /\ tO a b t = b - a:=by
 have hn : tN a b t = t - a:=by unfold tN;rw [if_pos h]
 have hd : tO a b t = b - a:=by unfold tO;rw [if_pos h]
 have hc : eu (two a b) 2 = 0:=by
  unfold jl at h
  split at h
  ·assumption
  ·assumption
 have h1 : ¬ (t < a \/ b < t):=by
  unfold jl at h
  rw [if_pos hc] at h
  intro hh;rw [if_pos hh] at h;exact absurd h (by decide)
 have b0:=rO hc (show 0 < 2 by omega)
 have b1:=rO hc (show 1 < 2 by omega)
 have b2:=Jj hc (show 0 < 1 by omega) (show 1 < 2 by omega)
 simp only [two] at b0 b1 b2
 refine ⟨?_,by omega,by omega,b2,b0,b1,hn,hd⟩
 rw [hn,hd]
 exact qR.2 ⟨by omega,by omega,by omega,by omega⟩
theorem qN {w w' : World} {S : Nat -> Prop} {base : Nat} {e : TypeId} {size : Nat} {v : Value} {n : Nat} {xs : List Value} (h : w.ownsRow base e size v n xs) (ho : Only S w w') (hS : ∀ j,v.ownBlock = some j -> ¬ S j) : w'.ownsRow base e size v n xs:=by
 obtain ⟨h1,h2⟩:=h
 refine ⟨h1,?_⟩
 rcases h2 with h2 | ⟨g,cap,cur,hv,hg,hh,r⟩
 ·exact Or.inl h2
 ·exact Or.inr ⟨g,cap,cur,hv,hg,by rw [ho.block g (Array.getElem?_eq_some_iff.1 hh).1 (hS g (by rw [hv];rfl))];exact hh,r⟩
theorem L6 (a b num den : Int) (ha : Dg a) (hb : Dg b) (h : iL num den = true) (w : World) :
 Calls Tryz.prog 98 #[.int .u16 a,.int .u16 b,.int .i64 num,.int .i64 den] w λe w'=>e = .returned (.tuple #[.int .u16 (rP a b num den),.int .i64 0]) /\ Below w.heap.size w w' :=
 (WT a b num den ha hb h w).mono λe w' ⟨h1,n,h2⟩=>⟨h1,by rw [h2];exact below_drewN ah8 n⟩
theorem lD {U : World} {n : Nat} {cs : Array Value} {t : TypeId} (hn : U.heap.size = n) : ∀ (j : Nat) (u : Value),cs.toList[j]? = some u -> (U.alloc (.cells cs t)).cell? ((⟨n,0,none⟩ : Addr).add j) = some u:=by
 intro j u h
 subst hn
 have e : (⟨U.heap.size,0,none⟩ : Addr).add j = ⟨U.heap.size,j,none⟩:=by unfold Addr.add;split <;> simp_all
 rw [e,(ak.new U cs t).cell j]
 simpa using h
theorem EA {w : World} {b : Nat} {cs : Array Value} {t : TypeId} (h : ak w b cs t) (i0 : Nat) (v0 : Value) (i1 : Nat) (v1 : Value) (i2 : Nat) (v2 : Value) (i3 : Nat) (v3 : Value) :
 ak ((((w.setCell ⟨b,i0,none⟩ v0).setCell ⟨b,i1,none⟩ v1).setCell ⟨b,i2,none⟩ v2).setCell ⟨b,i3,none⟩ v3) b ((((cs.setIfInBounds i0 v0).setIfInBounds i1 v1).setIfInBounds i2 v2).setIfInBounds i3 v3) t /\
  Only (· = b) w ((((w.setCell ⟨b,i0,none⟩ v0).setCell ⟨b,i1,none⟩ v1).setCell ⟨b,i2,none⟩ v2).setCell ⟨b,i3,none⟩ v3) :=
 ⟨(((h.set i0 v0).set i1 v1).set i2 v2).set i3 v3,((((Only.refl (· = b) w).setCell (.inl rfl) _).setCell (.inl rfl) _).setCell (.inl rfl) _).setCell (.inl rfl) _⟩
def vN (cur : Bool) (x y : aA) (ok : Bool) (num den : Int) : Po :=
 if ok = true /\ y.gen = x.gen then
  (if cur = true then ⟨x.id,dO x.px x.vx y.px y.vx num den,dO x.py x.vy y.py y.vy num den,dO x.pz x.vz y.pz y.vz num den,rP x.aI y.aI num den,2⟩
   else ⟨x.id,cK x.px y.px num den,cK x.py y.py num den,cK x.pz y.pz num den,rP x.aI y.aI num den,1⟩)
 else lC x
def zH (cur : Bool) (A B : Nat -> aA) (lb : Nat) (num den : Int) (i : Nat) : Po:=vN cur (A i) (wV B (A i).id lb) (Dc B (A i).id lb) num den
def nu (c : aN) (ka ta : Int) (aa : Option Addr) (la ca : Nat) (A : Nat -> aA) (kb tb : Int) (ab : Option Addr) (lb cb : Nat) (B : Nat -> aA) : Int :=
 gD c (two ka kb) (two ta tb) (two (aa,la,ca) (ab,lb,cb)) (two A B) 2
theorem Dh {tick time : Int} {len : Nat} {E : Nat -> aA} (h : dw tick time len E = 0) : len <= 64:=by
 unfold dw at h
 split at h
 ·exact absurd h (by decide)
 ·split at h
  ·exact absurd h (by decide)
  ·omega
theorem Js {c : aN} {ka ta : Int} {aa : Option Addr} {la ca : Nat} {A : Nat -> aA} {kb tb : Int} {ab : Option Addr} {lb cb : Nat} {B : Nat -> aA} (h : nu c ka ta aa la ca A kb tb ab lb cb B = 0) : la <= 64:=by
 unfold nu gD at h
 split at h
 ·have h2 : dw ka ta la A = 0:=by
   by_cases e : dw ka ta la A = 0
   ·exact e
   ·have : nR (two ka kb) (two ta tb) (two (aa,la,ca) (ab,lb,cb)) (two A B) 2 0 = dw ka ta la A:=by
     show (if dw ka ta la A = 0 then _ else dw ka ta la A) = _
     rw [if_neg e]
    rw [this] at h;exact h
  exact Dh h2
 ·contradiction
set_option maxHeartbeats 1000000 in
theorem TH (c : aN) (ka ta : Int) (aa : Option Addr) (la ca : Nat) (A : Nat -> aA) (kb tb : Int) (ab : Option Addr) (lb cb : Nat) (B : Nat -> aA) (au : Int) (w : World) (ha : dx w aa la A) (hb : dx w ab lb B) (hla : (la : Int) <= 4611686018427387904) (hlb : (lb : Int) <= 4611686018427387904) (h0 : nu c ka ta aa la ca A kb tb ab lb cb B ≠ 0) :
 Calls Tryz.prog 48 #[aY c,bP ka ta aa la ca,bP kb tb ab lb cb,.int .i64 au] w λe w'=>e = .returned (.tuple #[.slice none 0 0,.int .i64 (nu c ka ta aa la ca A kb tb ab lb cb B)]) /\ Below w.heap.size w w':=by
 have hB3 : Below w.heap.size w (((w.alloc (.cells #[.int .i64 c.ring,.int .i64 c.window,.int .i64 c.base,.int .i64 c.gain,.int .i64 c.least,.int .i64 c.most,.int .i64 c.aC,.int .i64 c.num,.int .i64 c.den,.int .i64 c.extra,.bool c.aB] 29)).alloc (.cells #[.int .i64 ka,.int .i64 ta,.slice aa la ca] 36)).alloc (.cells #[.int .i64 kb,.int .i64 tb,.slice ab lb cb] 36)):=((ah7).alloc (by simp) _).alloc (by simp;omega) _
 have bc:=(((ak.new w #[.int .i64 c.ring,.int .i64 c.window,.int .i64 c.base,.int .i64 c.gain,.int .i64 c.least,.int .i64 c.most,.int .i64 c.aC,.int .i64 c.num,.int .i64 c.den,.int .i64 c.extra,.bool c.aB] 29).alloc (.cells #[.int .i64 ka,.int .i64 ta,.slice aa la ca] 36)).alloc (.cells #[.int .i64 kb,.int .i64 tb,.slice ab lb cb] 36));have ba:=((ak.new (w.alloc (.cells #[.int .i64 c.ring,.int .i64 c.window,.int .i64 c.base,.int .i64 c.gain,.int .i64 c.least,.int .i64 c.most,.int .i64 c.aC,.int .i64 c.num,.int .i64 c.den,.int .i64 c.extra,.bool c.aB] 29)) #[.int .i64 ka,.int .i64 ta,.slice aa la ca] 36).alloc (.cells #[.int .i64 kb,.int .i64 tb,.slice ab lb cb] 36))
 have bb:=ak.new ((w.alloc (.cells #[.int .i64 c.ring,.int .i64 c.window,.int .i64 c.base,.int .i64 c.gain,.int .i64 c.least,.int .i64 c.most,.int .i64 c.aC,.int .i64 c.num,.int .i64 c.den,.int .i64 c.extra,.bool c.aB] 29)).alloc (.cells #[.int .i64 ka,.int .i64 ta,.slice aa la ca] 36)) #[.int .i64 kb,.int .i64 tb,.slice ab lb cb] 36
 have CK:=jy c (some ⟨(((w.alloc (.cells #[.int .i64 c.ring,.int .i64 c.window,.int .i64 c.base,.int .i64 c.gain,.int .i64 c.least,.int .i64 c.most,.int .i64 c.aC,.int .i64 c.num,.int .i64 c.den,.int .i64 c.extra,.bool c.aB] 29)).alloc (.cells #[.int .i64 ka,.int .i64 ta,.slice aa la ca] 36)).alloc (.cells #[.int .i64 kb,.int .i64 tb,.slice ab lb cb] 36)).heap.size,0,none⟩) 2 2 _ _ _ _ _ (Ns (((w.alloc (.cells #[.int .i64 c.ring,.int .i64 c.window,.int .i64 c.base,.int .i64 c.gain,.int .i64 c.least,.int .i64 c.most,.int .i64 c.aC,.int .i64 c.num,.int .i64 c.den,.int .i64 c.extra,.bool c.aB] 29)).alloc (.cells #[.int .i64 ka,.int .i64 ta,.slice aa la ca] 36)).alloc (.cells #[.int .i64 kb,.int .i64 tb,.slice ab lb cb] 36)) ka ta kb tb aa ab la ca lb cb A B (ha.below hB3) (hb.below hB3) hla hlb) (by decide)
 have hs3 : (((w.alloc (.cells #[.int .i64 c.ring,.int .i64 c.window,.int .i64 c.base,.int .i64 c.gain,.int .i64 c.least,.int .i64 c.most,.int .i64 c.aC,.int .i64 c.num,.int .i64 c.den,.int .i64 c.extra,.bool c.aB] 29)).alloc (.cells #[.int .i64 ka,.int .i64 ta,.slice aa la ca] 36)).alloc (.cells #[.int .i64 kb,.int .i64 tb,.slice ab lb cb] 36)).heap.size = w.heap.size + 1 + 1 + 1:=by simp
 change Calls _ _ _ _ (λe w'=>e = .returned (.int .i64 (nu c ka ta aa la ca A kb tb ab lb cb B)) /\ _) at CK
 simp only [World.size_alloc] at ba bb
 unfold aY at CK ⊢
 unfold bP
 generalize nu c ka ta aa la ca A kb tb ab lb cb B = z at *
 have hz : (z != 0) = true:=by simpa using h0
 go_enter Tryz.func48,Tryz.ntmps48
 go_wp2_with fail
 generalize (((w.alloc (.cells #[.int .i64 c.ring,.int .i64 c.window,.int .i64 c.base,.int .i64 c.gain,.int .i64 c.least,.int .i64 c.most,.int .i64 c.aC,.int .i64 c.num,.int .i64 c.den,.int .i64 c.extra,.bool c.aB] 29)).alloc (.cells #[.int .i64 ka,.int .i64 ta,.slice aa la ca] 36)).alloc (.cells #[.int .i64 kb,.int .i64 tb,.slice ab lb cb] 36)) = W at *
 rw [hs3] at CK
 refine CK.mono ?_;rintro e w1 ⟨rfl,hb1⟩
 have hB1 : Below W.heap.size W w1:=(ah7).trans (hb1.mono (by simp))
 have HB1 : Hid (Below w.heap.size w w1):=ah6 (hB3.trans (hB1.mono hB3.size))
 have SC:=ah6 (bc.below hB1 bc.lt);have SA:=ah6 (ba.below hB1 ba.lt);have SB:=ah6 (bb.below hB1 bb.lt);clear hB3 hb1 hB1 CK bc ba bb hs3
 go_wp2
 exact bodyPost_ret (v:=.tuple #[.slice none 0 0,.int .i64 z]) (by simp [results,Tryz.results48,go_sem]) rfl ⟨rfl,HB1.out⟩
set_option maxHeartbeats 1000000 in
theorem Qf (c : aN) (ka ta : Int) (aa : Option Addr) (la ca : Nat) (A : Nat -> aA) (kb tb : Int) (ab : Option Addr) (lb cb : Nat) (B : Nat -> aA) (au : Int) (w : World) (ha : dx w aa la A) (hb : dx w ab lb B) (hla : (la : Int) <= 4611686018427387904) (hlb : (lb : Int) <= 4611686018427387904) (h0 : nu c ka ta aa la ca A kb tb ab lb cb B = 0) (h1 : jl ta tb au ≠ 0) :
 Calls Tryz.prog 48 #[aY c,bP ka ta aa la ca,bP kb tb ab lb cb,.int .i64 au] w λe w'=>e = .returned (.tuple #[.slice none 0 0,.int .i64 (jl ta tb au)]) /\ Below w.heap.size w w':=by
 have PT:=FR ka ta kb tb au aa ab la ca lb cb
 have hB3 : Below w.heap.size w (((w.alloc (.cells #[.int .i64 c.ring,.int .i64 c.window,.int .i64 c.base,.int .i64 c.gain,.int .i64 c.least,.int .i64 c.most,.int .i64 c.aC,.int .i64 c.num,.int .i64 c.den,.int .i64 c.extra,.bool c.aB] 29)).alloc (.cells #[.int .i64 ka,.int .i64 ta,.slice aa la ca] 36)).alloc (.cells #[.int .i64 kb,.int .i64 tb,.slice ab lb cb] 36)):=((ah7).alloc (by simp) _).alloc (by simp;omega) _
 have bc:=(((ak.new w #[.int .i64 c.ring,.int .i64 c.window,.int .i64 c.base,.int .i64 c.gain,.int .i64 c.least,.int .i64 c.most,.int .i64 c.aC,.int .i64 c.num,.int .i64 c.den,.int .i64 c.extra,.bool c.aB] 29).alloc (.cells #[.int .i64 ka,.int .i64 ta,.slice aa la ca] 36)).alloc (.cells #[.int .i64 kb,.int .i64 tb,.slice ab lb cb] 36));have ba:=((ak.new (w.alloc (.cells #[.int .i64 c.ring,.int .i64 c.window,.int .i64 c.base,.int .i64 c.gain,.int .i64 c.least,.int .i64 c.most,.int .i64 c.aC,.int .i64 c.num,.int .i64 c.den,.int .i64 c.extra,.bool c.aB] 29)) #[.int .i64 ka,.int .i64 ta,.slice aa la ca] 36).alloc (.cells #[.int .i64 kb,.int .i64 tb,.slice ab lb cb] 36))
 have bb:=ak.new ((w.alloc (.cells #[.int .i64 c.ring,.int .i64 c.window,.int .i64 c.base,.int .i64 c.gain,.int .i64 c.least,.int .i64 c.most,.int .i64 c.aC,.int .i64 c.num,.int .i64 c.den,.int .i64 c.extra,.bool c.aB] 29)).alloc (.cells #[.int .i64 ka,.int .i64 ta,.slice aa la ca] 36)) #[.int .i64 kb,.int .i64 tb,.slice ab lb cb] 36
 have CK:=jy c (some ⟨(((w.alloc (.cells #[.int .i64 c.ring,.int .i64 c.window,.int .i64 c.base,.int .i64 c.gain,.int .i64 c.least,.int .i64 c.most,.int .i64 c.aC,.int .i64 c.num,.int .i64 c.den,.int .i64 c.extra,.bool c.aB] 29)).alloc (.cells #[.int .i64 ka,.int .i64 ta,.slice aa la ca] 36)).alloc (.cells #[.int .i64 kb,.int .i64 tb,.slice ab lb cb] 36)).heap.size,0,none⟩) 2 2 _ _ _ _ _ (Ns (((w.alloc (.cells #[.int .i64 c.ring,.int .i64 c.window,.int .i64 c.base,.int .i64 c.gain,.int .i64 c.least,.int .i64 c.most,.int .i64 c.aC,.int .i64 c.num,.int .i64 c.den,.int .i64 c.extra,.bool c.aB] 29)).alloc (.cells #[.int .i64 ka,.int .i64 ta,.slice aa la ca] 36)).alloc (.cells #[.int .i64 kb,.int .i64 tb,.slice ab lb cb] 36)) ka ta kb tb aa ab la ca lb cb A B (ha.below hB3) (hb.below hB3) hla hlb) (by decide)
 have hs3 : (((w.alloc (.cells #[.int .i64 c.ring,.int .i64 c.window,.int .i64 c.base,.int .i64 c.gain,.int .i64 c.least,.int .i64 c.most,.int .i64 c.aC,.int .i64 c.num,.int .i64 c.den,.int .i64 c.extra,.bool c.aB] 29)).alloc (.cells #[.int .i64 ka,.int .i64 ta,.slice aa la ca] 36)).alloc (.cells #[.int .i64 kb,.int .i64 tb,.slice ab lb cb] 36)).heap.size = w.heap.size + 1 + 1 + 1:=by simp
 change Calls _ _ _ _ (λe w'=>e = .returned (.int .i64 (nu c ka ta aa la ca A kb tb ab lb cb B)) /\ _) at CK
 simp only [World.size_alloc] at ba bb
 unfold aY at CK ⊢
 unfold bP
 rw [h0] at CK
 clear h0
 generalize jl ta tb au = z at *
 generalize tN ta tb au = num at *
 generalize tO ta tb au = den at *
 have hz : (z != 0) = true:=by simpa using h1
 go_enter Tryz.func48,Tryz.ntmps48
 go_wp2_with fail
 generalize (((w.alloc (.cells #[.int .i64 c.ring,.int .i64 c.window,.int .i64 c.base,.int .i64 c.gain,.int .i64 c.least,.int .i64 c.most,.int .i64 c.aC,.int .i64 c.num,.int .i64 c.den,.int .i64 c.extra,.bool c.aB] 29)).alloc (.cells #[.int .i64 ka,.int .i64 ta,.slice aa la ca] 36)).alloc (.cells #[.int .i64 kb,.int .i64 tb,.slice ab lb cb] 36)) = W at *
 rw [hs3] at CK
 refine CK.mono ?_;rintro e w1 ⟨rfl,hb1⟩
 have hB1 : Below W.heap.size W w1:=(ah7).trans (hb1.mono (by simp))
 have HB1 : Hid (Below w.heap.size w w1):=ah6 (hB3.trans (hB1.mono hB3.size))
 have SC:=ah6 (bc.below hB1 bc.lt);have SA:=ah6 (ba.below hB1 ba.lt);have SB:=ah6 (bb.below hB1 bb.lt);clear hB3 hb1 hB1 CK bc ba bb hs3
 obtain ⟨a0,a1,a2⟩:=fM SA.out
 obtain ⟨b0,b1,b2⟩:=fM SB.out
 go_wp2_with fail
 refine (PT _).mono ?_;rintro e w2 ⟨rfl,hb2⟩
 have HB2 : Hid (Below w.heap.size w w2):=ah6 (HB1.out.trans (hb2.mono HB1.out.size))
 clear hb2 a0 a1 a2 b0 b1 b2 PT
 go_wp2
 exact bodyPost_ret (v:=.tuple #[.slice none 0 0,.int .i64 z]) (by simp [results,Tryz.results48,go_sem]) rfl ⟨rfl,HB2.out⟩
set_option maxHeartbeats 4000000 in
theorem Qg (c : aN) (Qh : c.aB = false) (ka ta : Int) (aa : Option Addr) (la ca : Nat) (A : Nat -> aA) (kb tb : Int) (ab : Option Addr) (lb cb : Nat) (B : Nat -> aA) (au : Int) (w : World) (ha : dx w aa la A) (hb : dx w ab lb B) (hla : (la : Int) <= 4611686018427387904) (hlb : (lb : Int) <= 4611686018427387904) (h0 : nu c ka ta aa la ca A kb tb ab lb cb B = 0) (h1 : jl ta tb au = 0) :
 Calls Tryz.prog 48 #[aY c,bP ka ta aa la ca,bP kb tb ab lb cb,.int .i64 au] w λe w'=>∃ s cp,e = .returned (.tuple #[.slice s la cp,.int .i64 0]) /\ dY w' s la (zH false A B lb (au - ta) (tb - ta)) /\ Below w.heap.size w w':=by
 obtain ⟨i0,hi,hz0,hz1,hz2⟩:=info_parts vM
 have PT:=FR ka ta kb tb au aa ab la ca lb cb;have OF:=WU c Qh;have FW:=Js h0
 obtain ⟨vk,_,_,_,_,_,hN,hD⟩:=GA h1
 rw [hN,hD] at vk PT
 rw [h1] at PT
 obtain ⟨num,Jt⟩ : ∃ x,au - ta = x:=⟨_,rfl⟩
 obtain ⟨den,hden⟩ : ∃ x,tb - ta = x:=⟨_,rfl⟩
 rw [Jt,hden] at vk PT ⊢
 clear hN hD h1 Jt hden Qh
 obtain ⟨P,hP⟩ : ∃ P,zH false A B lb num den = P:=⟨_,rfl⟩
 have HP : Hid (∀ i,P i = vN false (A i) (wV B (A i).id lb) (Dc B (A i).id lb) num den):=ah6 (λi=>by rw [← hP];rfl)
 rw [hP]
 clear hP;have YC:=FU;have YD:=yQ
 have hB3 : Below w.heap.size w (((w.alloc (.cells #[.int .i64 c.ring,.int .i64 c.window,.int .i64 c.base,.int .i64 c.gain,.int .i64 c.least,.int .i64 c.most,.int .i64 c.aC,.int .i64 c.num,.int .i64 c.den,.int .i64 c.extra,.bool c.aB] 29)).alloc (.cells #[.int .i64 ka,.int .i64 ta,.slice aa la ca] 36)).alloc (.cells #[.int .i64 kb,.int .i64 tb,.slice ab lb cb] 36)):=((ah7).alloc (by simp) _).alloc (by simp;omega) _
 have bc:=(((ak.new w #[.int .i64 c.ring,.int .i64 c.window,.int .i64 c.base,.int .i64 c.gain,.int .i64 c.least,.int .i64 c.most,.int .i64 c.aC,.int .i64 c.num,.int .i64 c.den,.int .i64 c.extra,.bool c.aB] 29).alloc (.cells #[.int .i64 ka,.int .i64 ta,.slice aa la ca] 36)).alloc (.cells #[.int .i64 kb,.int .i64 tb,.slice ab lb cb] 36));have ba:=((ak.new (w.alloc (.cells #[.int .i64 c.ring,.int .i64 c.window,.int .i64 c.base,.int .i64 c.gain,.int .i64 c.least,.int .i64 c.most,.int .i64 c.aC,.int .i64 c.num,.int .i64 c.den,.int .i64 c.extra,.bool c.aB] 29)) #[.int .i64 ka,.int .i64 ta,.slice aa la ca] 36).alloc (.cells #[.int .i64 kb,.int .i64 tb,.slice ab lb cb] 36))
 have bb:=ak.new ((w.alloc (.cells #[.int .i64 c.ring,.int .i64 c.window,.int .i64 c.base,.int .i64 c.gain,.int .i64 c.least,.int .i64 c.most,.int .i64 c.aC,.int .i64 c.num,.int .i64 c.den,.int .i64 c.extra,.bool c.aB] 29)).alloc (.cells #[.int .i64 ka,.int .i64 ta,.slice aa la ca] 36)) #[.int .i64 kb,.int .i64 tb,.slice ab lb cb] 36
 have CK:=jy c (some ⟨(((w.alloc (.cells #[.int .i64 c.ring,.int .i64 c.window,.int .i64 c.base,.int .i64 c.gain,.int .i64 c.least,.int .i64 c.most,.int .i64 c.aC,.int .i64 c.num,.int .i64 c.den,.int .i64 c.extra,.bool c.aB] 29)).alloc (.cells #[.int .i64 ka,.int .i64 ta,.slice aa la ca] 36)).alloc (.cells #[.int .i64 kb,.int .i64 tb,.slice ab lb cb] 36)).heap.size,0,none⟩) 2 2 _ _ _ _ _ (Ns (((w.alloc (.cells #[.int .i64 c.ring,.int .i64 c.window,.int .i64 c.base,.int .i64 c.gain,.int .i64 c.least,.int .i64 c.most,.int .i64 c.aC,.int .i64 c.num,.int .i64 c.den,.int .i64 c.extra,.bool c.aB] 29)).alloc (.cells #[.int .i64 ka,.int .i64 ta,.slice aa la ca] 36)).alloc (.cells #[.int .i64 kb,.int .i64 tb,.slice ab lb cb] 36)) ka ta kb tb aa ab la ca lb cb A B (ha.below hB3) (hb.below hB3) hla hlb) (by decide)
 have hs3 : (((w.alloc (.cells #[.int .i64 c.ring,.int .i64 c.window,.int .i64 c.base,.int .i64 c.gain,.int .i64 c.least,.int .i64 c.most,.int .i64 c.aC,.int .i64 c.num,.int .i64 c.den,.int .i64 c.extra,.bool c.aB] 29)).alloc (.cells #[.int .i64 ka,.int .i64 ta,.slice aa la ca] 36)).alloc (.cells #[.int .i64 kb,.int .i64 tb,.slice ab lb cb] 36)).heap.size = w.heap.size + 1 + 1 + 1:=by simp
 change Calls _ _ _ _ (λe w'=>e = .returned (.int .i64 (nu c ka ta aa la ca A kb tb ab lb cb B)) /\ _) at CK
 simp only [World.size_alloc] at ba bb
 unfold aY at CK ⊢
 unfold bP
 go_enter Tryz.func48,Tryz.ntmps48
 go_wp2_with fail
 generalize (((w.alloc (.cells #[.int .i64 c.ring,.int .i64 c.window,.int .i64 c.base,.int .i64 c.gain,.int .i64 c.least,.int .i64 c.most,.int .i64 c.aC,.int .i64 c.num,.int .i64 c.den,.int .i64 c.extra,.bool c.aB] 29)).alloc (.cells #[.int .i64 ka,.int .i64 ta,.slice aa la ca] 36)).alloc (.cells #[.int .i64 kb,.int .i64 tb,.slice ab lb cb] 36)) = W at *
 rw [hs3] at CK
 refine CK.mono ?_;rintro e w1 ⟨rfl,hb1⟩
 have hB1 : Below W.heap.size W w1:=(ah7).trans (hb1.mono (by simp))
 have HB1 : Hid (Below w.heap.size w w1):=ah6 (hB3.trans (hB1.mono hB3.size))
 have SC:=ah6 (bc.below hB1 bc.lt);have SA:=ah6 (ba.below hB1 ba.lt);have SB:=ah6 (bb.below hB1 bb.lt);clear hB3 hb1 hB1 CK bc ba bb hs3
 rw [h0]
 clear h0;have zI:=ha.1
 have yR : Hid (∀ k,k < la -> ∃ b off,aa = some ⟨b,off,none⟩ /\ b < w.heap.size /\ dG w b (off + k * 9) (A k)):=ah6 (λk hk=>by
  rcases ha.2 with h0 | ⟨b,off,e,hb,hc⟩
  ·omega
  ·exact ⟨b,off,e,hb,hc k hk⟩)
 obtain ⟨a0,a1,a2⟩:=fM SA.out
 obtain ⟨b0,b1,b2⟩:=fM SB.out
 go_wp2_with fail
 refine (PT _).mono ?_;rintro e w2 ⟨rfl,hb2⟩
 have pX:=ah6 (SC.out.below hb2 SC.out.lt);clear SC;have SC:=pX;clear pX;have oF:=ah6 (SA.out.below hb2 SA.out.lt);clear SA;have SA:=oF;clear oF;have AV:=ah6 (SB.out.below hb2 SB.out.lt);clear SB;have SB:=AV;clear AV
 have HB2 : Hid (Below w.heap.size w w2):=ah6 (HB1.out.trans (hb2.mono HB1.out.size))
 clear hb2 a0 a1 a2 b0 b1 b2 PT HB1
 obtain ⟨q0,q1,q2,q3,q4,q5,q6,q7,q8,q9,ku⟩:=eH SC.out
 unfold aY at OF
 go_wp2_with fail
 refine (OF _).mono ?_;rintro e W0 ⟨rfl,hb3⟩
 have oF:=ah6 (SA.out.below hb3 SA.out.lt);clear SA;have SA:=oF;clear oF;have AV:=ah6 (SB.out.below hb3 SB.out.lt);clear SB;have SB:=AV;clear AV
 have HW0 : Hid (Below w.heap.size w W0):=ah6 (HB2.out.trans (hb3.mono HB2.out.size))
 clear hb3 q0 q1 q2 q3 q4 q5 q6 q7 q8 q9 ku OF HB2 SC
 obtain ⟨a0,a1,a2⟩:=fM SA.out
 have hs2:=SB.out.lt
 go_wp2_with fail
 clear a0 a1 a2
 go_loopw [15,45] (λv i wr=>∃ k : Nat,k <= la /\ i = .int .i64 k /\ wr.ownsRow W0.heap.size 52 6 v k (jJ P k) /\ Below W0.heap.size W0 wr) (λ_ i _=>la - (intOf i).toNat)
 case atStart=>exact ⟨0,Nat.zero_le _,rfl,World.ownsRow_nil _ _ _ _,Below.refl _ _⟩
 case round =>
  rename_i wr
  obtain ⟨k,hk,rfl,hown,hB⟩:=hrel
  have hsz:=hB.size
  by_cases hlt : k < la
  ·obtain ⟨b,off,EB,hbw,hc⟩:=yR.out k hlt
   subst EB
   have hcw:=hc.below (HW0.out.trans (hB.mono HW0.out.size)) hbw;have hx:=zI k hlt
   have hy : (wV B (A k).id lb).Ok:=Qe hb (A k).id
   have AX:=ah6 (HP.out k)
   have HL : Hid (jJ P (k + 1) = jJ P k ++ [.int .i64 (P k).id,.int .i64 (P k).px,.int .i64 (P k).py,.int .i64 (P k).pz,.int .u16 (P k).aI,.int .i64 (P k).mode]):=ah6 rfl
   have FD:=ah6 (λw' (hw : Below w.heap.size w w')=>YC kb tb ab lb cb B (A k).id w' (hb.below hw) hlb)
   have EX:=YD (A k)
   unfold bN Jq lC at EX
   unfold bN bP at FD
   have hkl : (k : Int) < la:=by omega
   have HOWN:=ah6 hown
   have dz:=ah6 (λj e=>(hown.lt j e).2)
   have HB:=ah6 hB;clear hc hown hB
   generalize P k = pk at *
   generalize Dc B (A k).id lb = fb at *
   generalize wV B (A k).id lb = y at *
   generalize A k = x at *
   obtain ⟨eF,px,py,pz,vx,vy,vz,aI,gen⟩:=x
   obtain ⟨nI,qx,qy,qz,ux,uy,uz,iB,iC⟩:=y
   obtain ⟨c0,c1,c2,c3,c4,c5,c6,c7,c8⟩:=hcw
   dsimp only at c0 c1 c2 c3 c4 c5 c6 c7 c8 EX FD
   go_wp2_with fail
   refine (EX _).mono ?_;rintro e w4 ⟨rfl,hb4⟩
   have X4:=ah6 ((ak.new wr #[.int .i64 eF,.int .i64 px,.int .i64 py,.int .i64 pz,.int .i64 vx,.int .i64 vy,.int .i64 vz,.int .u16 aI,.int .u8 gen] 33).below hb4 (by simp))
   have gT : Hid (Below W0.heap.size W0 w4):=ah6 ((HB.out.alloc hsz _).trans (hb4.mono (by simp;omega)))
   have xq:=ah6 (own_below (HOWN.out.alloc _) hb4);have Ju:=ah6 (SB.out.below gT.out SB.out.lt);have l4:=X4.out.lt;have l4b:=Ju.out.lt;clear hb4 EX c0 c1 c2 c3 c4 c5 c6 c7 c8 HB HOWN
   obtain ⟨c0,c1,c2,c3,c4,c5,c6,c7,c8⟩:=gq X4.out
   obtain ⟨b0,b1,b2⟩:=fM Ju.out
   have uQ : Hid (Below W0.heap.size W0 (w4.alloc (.cells #[.int .i64 eF,.int .i64 px,.int .i64 py,.int .i64 pz,.int .u16 aI,.int .i64 0] 52))):=ah6 (gT.out.alloc gT.out.size _)
   have fd:=FD.out _ (HW0.out.trans (uQ.out.mono HW0.out.size))
   go_wp2_with fail
   refine fd.mono ?_;rintro e w6 ⟨rfl,hb6⟩
   have X6:=ah6 ((X4.out.alloc (.cells #[.int .i64 eF,.int .i64 px,.int .i64 py,.int .i64 pz,.int .u16 aI,.int .i64 0] 52)).below hb6 (by simp;omega))
   have P6:=ah6 ((ak.new w4 #[.int .i64 eF,.int .i64 px,.int .i64 py,.int .i64 pz,.int .u16 aI,.int .i64 0] 52).below hb6 (by simp))
   have mQ : Hid (Below W0.heap.size W0 w6):=ah6 (uQ.out.trans (hb6.mono uQ.out.size))
   have yS:=ah6 (own_below (xq.out.alloc _) hb6);have l6:=X6.out.lt;have l6b:=P6.out.lt;clear hb6 fd FD c0 c1 c2 c3 c4 c5 c6 c7 c8 b0 b1 b2 gT uQ xq X4 Ju
   obtain ⟨c0,c1,c2,c3,c4,c5,c6,c7,c8⟩:=gq X6.out
   obtain ⟨p0,p1,p2,p3,p4,p5⟩:=nk P6.out
   obtain ⟨f0,f1,f2,f3,f4,f5⟩:=pJ P6.out
   by_cases hm : fb = true /\ iC = gen
   ·obtain ⟨rfl,rfl⟩:=hm
    have vO : Hid (pk = ⟨eF,cK px qx num den,cK py qy num den,cK pz qz num den,rP aI iB num den,1⟩):=ah6 (by rw [AX.out];unfold vN;rw [if_pos ⟨rfl,rfl⟩];rfl)
    have PL:=ah6 (TF ⟨eF,px,py,pz,vx,vy,vz,aI,iC⟩ ⟨nI,qx,qy,qz,ux,uy,uz,iB,iC⟩ num den hx hy vk);have AL:=ah6 (L6 aI iB num den hx.aI hy.aI vk)
    unfold bN at PL
    dsimp only at PL
    generalize cK px qx num den = z1 at *
    generalize cK py qy num den = z2 at *
    generalize cK pz qz num den = z3 at *
    generalize rP aI iB num den = z4 at *
    go_wp2_with fail
    have X7:=ah6 (X6.out.alloc (.cells #[.int .i64 nI,.int .i64 qx,.int .i64 qy,.int .i64 qz,.int .i64 ux,.int .i64 uy,.int .i64 uz,.int .u16 iB,.int .u8 iC] 33));have P7:=ah6 (P6.out.alloc (.cells #[.int .i64 nI,.int .i64 qx,.int .i64 qy,.int .i64 qz,.int .i64 ux,.int .i64 uy,.int .i64 uz,.int .u16 iB,.int .u8 iC] 33));have Y7:=ah6 (ak.new w6 #[.int .i64 nI,.int .i64 qx,.int .i64 qy,.int .i64 qz,.int .i64 ux,.int .i64 uy,.int .i64 uz,.int .u16 iB,.int .u8 iC] 33)
    have ql : Hid (Below W0.heap.size W0 (w6.alloc (.cells #[.int .i64 nI,.int .i64 qx,.int .i64 qy,.int .i64 qz,.int .i64 ux,.int .i64 uy,.int .i64 uz,.int .u16 iB,.int .u8 iC] 33))):=ah6 (mQ.out.alloc mQ.out.size _)
    have vP:=ah6 (yS.out.alloc (.cells #[.int .i64 nI,.int .i64 qx,.int .i64 qy,.int .i64 qz,.int .i64 ux,.int .i64 uy,.int .i64 uz,.int .u16 iB,.int .u8 iC] 33));clear c0 c1 c2 c3 c4 c5 c6 c7 c8 p0 p1 p2 p3 p4 p5 f0 f1 f2 f3 f4 f5 X6 P6 mQ yS
    generalize w6.alloc (.cells #[.int .i64 nI,.int .i64 qx,.int .i64 qy,.int .i64 qz,.int .i64 ux,.int .i64 uy,.int .i64 uz,.int .u16 iB,.int .u8 iC] 33) = w7 at *
    obtain ⟨c0,c1,c2,c3,c4,c5,c6,c7,c8⟩:=gq X7.out
    obtain ⟨d0,d1,d2,d3,d4,d5,d6,d7,d8⟩:=gq Y7.out
    refine aR 9 (by kernel_rfl) (by kernel_rfl) ?_
    simp only [List.take_succ_cons,List.take_zero,List.drop_succ_cons,List.drop_zero]
    repeat (apply aF;(next=>(intro W hW K hK;have y0:=hW.cell c0;have y1:=hW.cell c1;have y2:=hW.cell c2;have y3:=hW.cell c3;have y4:=hW.cell c4;have y5:=hW.cell c5;have y6:=hW.cell c6;have y7:=hW.cell c7;have y8:=hW.cell c8;have y9:=hW.cell d0;have Jv:=hW.cell d1;have Qi:=hW.cell d2;have Qj:=hW.cell d3;have y13:=hW.cell d4;have Qk:=hW.cell d5;have Ql:=hW.cell d6;have Qm:=hW.cell d7;have Qn:=hW.cell d8;go_simp;first | exact ⟨hW,hK⟩ | exact hK));(next=>exact aO.self _);(try go_simp))
    (apply aF;(next=>(intro W hW K hK;go_simp;first | exact ⟨_,hW.call (LY W),hK⟩ | exact ⟨hW,_,hW.call (LY W),hK⟩));(next=>exact aO.self _);(try go_simp))
    repeat (apply aF;(next=>(intro W hW K hK;have y0:=hW.cell c0;have y1:=hW.cell c1;have y2:=hW.cell c2;have y3:=hW.cell c3;have y4:=hW.cell c4;have y5:=hW.cell c5;have y6:=hW.cell c6;have y7:=hW.cell c7;have y8:=hW.cell c8;have y9:=hW.cell d0;have Jv:=hW.cell d1;have Qi:=hW.cell d2;have Qj:=hW.cell d3;have y13:=hW.cell d4;have Qk:=hW.cell d5;have Ql:=hW.cell d6;have Qm:=hW.cell d7;have Qn:=hW.cell d8;go_simp;first | exact ⟨hW,hK⟩ | exact hK));(next=>exact aO.self _);(try go_simp))
    (apply aF;(next=>(intro W hW K hK;go_simp;first | exact ⟨_,hW.call (PL.out W),hK⟩ | exact ⟨hW,_,hW.call (PL.out W),hK⟩));(next=>exact aO.self _);(try go_simp))
    repeat (apply aF;(next=>(intro W hW K hK;have y0:=hW.cell c0;have y1:=hW.cell c1;have y2:=hW.cell c2;have y3:=hW.cell c3;have y4:=hW.cell c4;have y5:=hW.cell c5;have y6:=hW.cell c6;have y7:=hW.cell c7;have y8:=hW.cell c8;have y9:=hW.cell d0;have Jv:=hW.cell d1;have Qi:=hW.cell d2;have Qj:=hW.cell d3;have y13:=hW.cell d4;have Qk:=hW.cell d5;have Ql:=hW.cell d6;have Qm:=hW.cell d7;have Qn:=hW.cell d8;go_simp;first | exact ⟨hW,hK⟩ | exact hK));(next=>exact aO.self _);(try go_simp))
    refine aV ?_
    intro WC aL
    have tq : Below w7.heap.size w7 WC:=aL
    have X8:=ah6 (X7.out.below tq X7.out.lt);have Y8:=ah6 (Y7.out.below tq Y7.out.lt);have P8:=ah6 (P7.out.below tq P7.out.lt)
    have Jw : Hid (Below W0.heap.size W0 WC):=ah6 (ql.out.trans (tq.mono ql.out.size))
    have Qo:=ah6 (own_below vP.out tq);clear aL tq c0 c1 c2 c3 c4 c5 c6 c7 c8 d0 d1 d2 d3 d4 d5 d6 d7 d8 X7 Y7 P7 ql vP PL
    obtain ⟨c0,c1,c2,c3,c4,c5,c6,c7,c8⟩:=gq X8.out
    obtain ⟨d0,d1,d2,d3,d4,d5,d6,d7,d8⟩:=gq Y8.out
    obtain ⟨p0,p1,p2,p3,p4,p5⟩:=nk P8.out
    obtain ⟨f0,f1,f2,f3,f4,f5⟩:=pJ P8.out
    go_wp2_with fail
    have Z9:=EA P8.out 5 (.int .i64 1) 1 (.int .i64 z1) 2 (.int .i64 z2) 3 (.int .i64 z3);clear c0 c1 c2 c3 c4 c5 c6 c7 c8 d0 d1 d2 d3 d4 d5 d6 d7 d8 p0 p1 p2 p3 p4 p5 f0 f1 f2 f3 f4 f5
    obtain ⟨w9,Qp⟩ : ∃ w9,w9 = ((((WC.setCell ⟨w4.heap.size,5,none⟩ (.int .i64 1)).setCell ⟨w4.heap.size,1,none⟩ (.int .i64 z1)).setCell ⟨w4.heap.size,2,none⟩ (.int .i64 z2)).setCell ⟨w4.heap.size,3,none⟩ (.int .i64 z3)):=⟨_,rfl⟩
    rw [← Qp] at Z9 ⊢
    clear Qp
    obtain ⟨Z9,O9⟩:=Z9
    simp at Z9
    have X9:=ah6 (O9.blk X8.out (by omega))
    have Y9:=ah6 (O9.blk Y8.out (by omega))
    have P9:=ah6 Z9
    have Jy : Hid (Below W0.heap.size W0 w9):=ah6 (Jw.out.trans (O9.below Jw.out.size (by rintro i rfl;omega)))
    have Qq:=ah6 (qN Qo.out O9 (λj e h=>by have:=dz.out j e;have h2 : j = w4.heap.size:=h;omega))
    clear Z9 O9 X8 Y8 P8 Jw Qo
    refine (AL.out _).mono ?_;rintro e wd ⟨rfl,hbd⟩
    have EC:=P9.out.below hbd P9.out.lt;have l9:=EC.lt;have Jz:=Jy.out.trans (hbd.mono Jy.out.size);have JA:=own_below Qq.out hbd
    obtain ⟨p0,p1,p2,p3,p4,p5⟩:=nk EC
    obtain ⟨f0,f1,f2,f3,f4,f5⟩:=pJ EC
    have xu:=ah6 (qN JA ((Only.refl (· = w4.heap.size) wd).setCell (p:=⟨w4.heap.size,4,none⟩) (.inl rfl) (.int .u16 z4)) (λj e h=>by have:=dz.out j e;have h2 : j = w4.heap.size:=h;omega))
    have rR : Hid (Below W0.heap.size W0 (wd.setCell ⟨w4.heap.size,4,none⟩ (.int .u16 z4))):=ah6 (Jz.setCell (by simp;omega) _)
    clear hbd EC Jz JA X9 Y9 P9 Jy Qq
    go_wp2_with (at_builtin;refine wpList_append_own _ rfl (.tmp 87) (.tmp 89) 47 rfl W0.heap.size 52 i0 (.agg #[.int .i64 0,.int .i64 0,.int .i64 0,.int .i64 0,.int .u16 0,.int .i64 0]) 6 48 Tryz.underlying47 hi hz0 hz1 hz2 rfl (by decide) _ _ _ rfl (xu.out.alloc _) ⟨wd.heap.size,0,none⟩ 1 1 [.int .i64 eF,.int .i64 z1,.int .i64 z2,.int .i64 z3,.int .u16 z4,.int .i64 1] rfl rfl ?c1 ?c2 ?c3 ?c4 ?c5 ?_)
    case c1=>exact lD (by simp)
    case c2=>intro u hu;simp at hu;rcases hu with rfl | rfl | rfl | rfl | rfl | rfl <;> rfl
    case c3=>unfold maxLen;omega
    case c4=>omega
    case c5=>have:=rR.out.size;simp at *;omega
    intro v' kC hown' hgrow _
    have hszz:=rR.out.size
    have hB' : Hid (Below W0.heap.size W0 kC):=ah6 ((rR.out.alloc hszz _).grown hgrow (by simp at *;omega) (λj e=>(xu.out.lt j e).1))
    have HO : Hid (kC.ownsRow W0.heap.size 52 6 v' (k + 1) (jJ P (k + 1))):=ah6 (by rw [HL.out,vO.out];exact hown')
    clear hown' hgrow
    go_wp2
    go_roundw
    case rel=>exact ⟨k + 1,by omega,by go_num,HO.out,hB'.out⟩
    case measure=>simp [intOf];omega
   ·have vO : Hid (pk = ⟨eF,px,py,pz,aI,0⟩):=ah6 (by rw [AX.out];unfold vN;rw [if_neg hm];rfl)
    have ql : Hid (Below W0.heap.size W0 (w6.alloc (.cells #[.int .i64 nI,.int .i64 qx,.int .i64 qy,.int .i64 qz,.int .i64 ux,.int .i64 uy,.int .i64 uz,.int .u16 iB,.int .u8 iC] 33))):=ah6 (mQ.out.alloc mQ.out.size _)
    have vP:=ah6 (yS.out.alloc (.cells #[.int .i64 nI,.int .i64 qx,.int .i64 qy,.int .i64 qz,.int .i64 ux,.int .i64 uy,.int .i64 uz,.int .u16 iB,.int .u8 iC] 33))
    cases fb
    ·clear hm
     go_wp2_with (at_builtin;refine wpList_append_own _ rfl (.tmp 87) (.tmp 89) 47 rfl W0.heap.size 52 i0 (.agg #[.int .i64 0,.int .i64 0,.int .i64 0,.int .i64 0,.int .u16 0,.int .i64 0]) 6 48 Tryz.underlying47 hi hz0 hz1 hz2 rfl (by decide) _ _ _ rfl (vP.out.alloc _) ⟨w6.heap.size + 1,0,none⟩ 1 1 [.int .i64 eF,.int .i64 px,.int .i64 py,.int .i64 pz,.int .u16 aI,.int .i64 0] rfl rfl ?c1 ?c2 ?c3 ?c4 ?c5 ?_)
     case c1=>exact lD (by simp)
     case c2=>intro u hu;simp at hu;rcases hu with rfl | rfl | rfl | rfl | rfl | rfl <;> rfl
     case c3=>unfold maxLen;omega
     case c4=>omega
     case c5=>have:=ql.out.size;simp at *;omega
     intro v' kC hown' hgrow _
     have hszz:=ql.out.size
     have hB' : Hid (Below W0.heap.size W0 kC):=ah6 ((ql.out.alloc hszz _).grown hgrow (by simp at *;omega) (λj e=>(vP.out.lt j e).1))
     have HO : Hid (kC.ownsRow W0.heap.size 52 6 v' (k + 1) (jJ P (k + 1))):=ah6 (by rw [HL.out,vO.out];exact hown')
     clear hown' hgrow
     go_wp2
     go_roundw
     case rel=>exact ⟨k + 1,by omega,by go_num,HO.out,hB'.out⟩
     case measure=>simp [intOf];omega
    ·have hg : (iC == gen) = false:=by simpa using hm
     clear hm
     go_wp2_with (at_builtin;refine wpList_append_own _ rfl (.tmp 87) (.tmp 89) 47 rfl W0.heap.size 52 i0 (.agg #[.int .i64 0,.int .i64 0,.int .i64 0,.int .i64 0,.int .u16 0,.int .i64 0]) 6 48 Tryz.underlying47 hi hz0 hz1 hz2 rfl (by decide) _ _ _ rfl (vP.out.alloc _) ⟨w6.heap.size + 1,0,none⟩ 1 1 [.int .i64 eF,.int .i64 px,.int .i64 py,.int .i64 pz,.int .u16 aI,.int .i64 0] rfl rfl ?c1 ?c2 ?c3 ?c4 ?c5 ?_)
     case c1=>exact lD (by simp)
     case c2=>intro u hu;simp at hu;rcases hu with rfl | rfl | rfl | rfl | rfl | rfl <;> rfl
     case c3=>unfold maxLen;omega
     case c4=>omega
     case c5=>have:=ql.out.size;simp at *;omega
     intro v' kC hown' hgrow _
     have hszz:=ql.out.size
     have hB' : Hid (Below W0.heap.size W0 kC):=ah6 ((ql.out.alloc hszz _).grown hgrow (by simp at *;omega) (λj e=>(vP.out.lt j e).1))
     have HO : Hid (kC.ownsRow W0.heap.size 52 6 v' (k + 1) (jJ P (k + 1))):=ah6 (by rw [HL.out,vO.out];exact hown')
     clear hown' hgrow
     go_wp2
     go_roundw
     case rel=>exact ⟨k + 1,by omega,by go_num,HO.out,hB'.out⟩
     case measure=>simp [intOf];omega
  ·obtain rfl : k = la:=by omega
   obtain ⟨s,cp,rfl,hS⟩:=oD hown
   have HS:=ah6 hS;have sI:=ah6 (HW0.out.trans (hB.mono HW0.out.size));clear hS hown hB
   go_wp2
   exact bodyPost_ret (v:=.tuple #[.slice s k cp,.int .i64 0]) (by simp [results,Tryz.results48,go_sem]) rfl ⟨s,cp,rfl,HS.out,sI.out⟩
set_option maxHeartbeats 4000000 in
theorem La (c : aN) (Qh : c.aB = true) (ka ta : Int) (aa : Option Addr) (la ca : Nat) (A : Nat -> aA) (kb tb : Int) (ab : Option Addr) (lb cb : Nat) (B : Nat -> aA) (au : Int) (w : World) (ha : dx w aa la A) (hb : dx w ab lb B) (hla : (la : Int) <= 4611686018427387904) (hlb : (lb : Int) <= 4611686018427387904) (h0 : nu c ka ta aa la ca A kb tb ab lb cb B = 0) (h1 : jl ta tb au = 0) :
 Calls Tryz.prog 48 #[aY c,bP ka ta aa la ca,bP kb tb ab lb cb,.int .i64 au] w λe w'=>∃ s cp,e = .returned (.tuple #[.slice s la cp,.int .i64 0]) /\ dY w' s la (zH true A B lb (au - ta) (tb - ta)) /\ Below w.heap.size w w':=by
 obtain ⟨i0,hi,hz0,hz1,hz2⟩:=info_parts vM
 have PT:=FR ka ta kb tb au aa ab la ca lb cb;have OF:=Qc c Qh;have FW:=Js h0
 obtain ⟨vk,_,_,_,_,_,hN,hD⟩:=GA h1
 rw [hN,hD] at vk PT
 rw [h1] at PT
 obtain ⟨num,Jt⟩ : ∃ x,au - ta = x:=⟨_,rfl⟩
 obtain ⟨den,hden⟩ : ∃ x,tb - ta = x:=⟨_,rfl⟩
 rw [Jt,hden] at vk PT ⊢
 clear hN hD h1 Jt hden Qh
 obtain ⟨P,hP⟩ : ∃ P,zH true A B lb num den = P:=⟨_,rfl⟩
 have HP : Hid (∀ i,P i = vN true (A i) (wV B (A i).id lb) (Dc B (A i).id lb) num den):=ah6 (λi=>by rw [← hP];rfl)
 rw [hP]
 clear hP;have YC:=FU;have YD:=yQ
 have hB3 : Below w.heap.size w (((w.alloc (.cells #[.int .i64 c.ring,.int .i64 c.window,.int .i64 c.base,.int .i64 c.gain,.int .i64 c.least,.int .i64 c.most,.int .i64 c.aC,.int .i64 c.num,.int .i64 c.den,.int .i64 c.extra,.bool c.aB] 29)).alloc (.cells #[.int .i64 ka,.int .i64 ta,.slice aa la ca] 36)).alloc (.cells #[.int .i64 kb,.int .i64 tb,.slice ab lb cb] 36)):=((ah7).alloc (by simp) _).alloc (by simp;omega) _
 have bc:=(((ak.new w #[.int .i64 c.ring,.int .i64 c.window,.int .i64 c.base,.int .i64 c.gain,.int .i64 c.least,.int .i64 c.most,.int .i64 c.aC,.int .i64 c.num,.int .i64 c.den,.int .i64 c.extra,.bool c.aB] 29).alloc (.cells #[.int .i64 ka,.int .i64 ta,.slice aa la ca] 36)).alloc (.cells #[.int .i64 kb,.int .i64 tb,.slice ab lb cb] 36));have ba:=((ak.new (w.alloc (.cells #[.int .i64 c.ring,.int .i64 c.window,.int .i64 c.base,.int .i64 c.gain,.int .i64 c.least,.int .i64 c.most,.int .i64 c.aC,.int .i64 c.num,.int .i64 c.den,.int .i64 c.extra,.bool c.aB] 29)) #[.int .i64 ka,.int .i64 ta,.slice aa la ca] 36).alloc (.cells #[.int .i64 kb,.int .i64 tb,.slice ab lb cb] 36))
 have bb:=ak.new ((w.alloc (.cells #[.int .i64 c.ring,.int .i64 c.window,.int .i64 c.base,.int .i64 c.gain,.int .i64 c.least,.int .i64 c.most,.int .i64 c.aC,.int .i64 c.num,.int .i64 c.den,.int .i64 c.extra,.bool c.aB] 29)).alloc (.cells #[.int .i64 ka,.int .i64 ta,.slice aa la ca] 36)) #[.int .i64 kb,.int .i64 tb,.slice ab lb cb] 36
 have CK:=jy c (some ⟨(((w.alloc (.cells #[.int .i64 c.ring,.int .i64 c.window,.int .i64 c.base,.int .i64 c.gain,.int .i64 c.least,.int .i64 c.most,.int .i64 c.aC,.int .i64 c.num,.int .i64 c.den,.int .i64 c.extra,.bool c.aB] 29)).alloc (.cells #[.int .i64 ka,.int .i64 ta,.slice aa la ca] 36)).alloc (.cells #[.int .i64 kb,.int .i64 tb,.slice ab lb cb] 36)).heap.size,0,none⟩) 2 2 _ _ _ _ _ (Ns (((w.alloc (.cells #[.int .i64 c.ring,.int .i64 c.window,.int .i64 c.base,.int .i64 c.gain,.int .i64 c.least,.int .i64 c.most,.int .i64 c.aC,.int .i64 c.num,.int .i64 c.den,.int .i64 c.extra,.bool c.aB] 29)).alloc (.cells #[.int .i64 ka,.int .i64 ta,.slice aa la ca] 36)).alloc (.cells #[.int .i64 kb,.int .i64 tb,.slice ab lb cb] 36)) ka ta kb tb aa ab la ca lb cb A B (ha.below hB3) (hb.below hB3) hla hlb) (by decide)
 have hs3 : (((w.alloc (.cells #[.int .i64 c.ring,.int .i64 c.window,.int .i64 c.base,.int .i64 c.gain,.int .i64 c.least,.int .i64 c.most,.int .i64 c.aC,.int .i64 c.num,.int .i64 c.den,.int .i64 c.extra,.bool c.aB] 29)).alloc (.cells #[.int .i64 ka,.int .i64 ta,.slice aa la ca] 36)).alloc (.cells #[.int .i64 kb,.int .i64 tb,.slice ab lb cb] 36)).heap.size = w.heap.size + 1 + 1 + 1:=by simp
 change Calls _ _ _ _ (λe w'=>e = .returned (.int .i64 (nu c ka ta aa la ca A kb tb ab lb cb B)) /\ _) at CK
 simp only [World.size_alloc] at ba bb
 unfold aY at CK ⊢
 unfold bP
 go_enter Tryz.func48,Tryz.ntmps48
 go_wp2_with fail
 generalize (((w.alloc (.cells #[.int .i64 c.ring,.int .i64 c.window,.int .i64 c.base,.int .i64 c.gain,.int .i64 c.least,.int .i64 c.most,.int .i64 c.aC,.int .i64 c.num,.int .i64 c.den,.int .i64 c.extra,.bool c.aB] 29)).alloc (.cells #[.int .i64 ka,.int .i64 ta,.slice aa la ca] 36)).alloc (.cells #[.int .i64 kb,.int .i64 tb,.slice ab lb cb] 36)) = W at *
 rw [hs3] at CK
 refine CK.mono ?_;rintro e w1 ⟨rfl,hb1⟩
 have hB1 : Below W.heap.size W w1:=(ah7).trans (hb1.mono (by simp))
 have HB1 : Hid (Below w.heap.size w w1):=ah6 (hB3.trans (hB1.mono hB3.size))
 have SC:=ah6 (bc.below hB1 bc.lt);have SA:=ah6 (ba.below hB1 ba.lt);have SB:=ah6 (bb.below hB1 bb.lt);clear hB3 hb1 hB1 CK bc ba bb hs3
 rw [h0]
 clear h0;have zI:=ha.1
 have yR : Hid (∀ k,k < la -> ∃ b off,aa = some ⟨b,off,none⟩ /\ b < w.heap.size /\ dG w b (off + k * 9) (A k)):=ah6 (λk hk=>by
  rcases ha.2 with h0 | ⟨b,off,e,hb,hc⟩
  ·omega
  ·exact ⟨b,off,e,hb,hc k hk⟩)
 obtain ⟨a0,a1,a2⟩:=fM SA.out
 obtain ⟨b0,b1,b2⟩:=fM SB.out
 go_wp2_with fail
 refine (PT _).mono ?_;rintro e w2 ⟨rfl,hb2⟩
 have pX:=ah6 (SC.out.below hb2 SC.out.lt);clear SC;have SC:=pX;clear pX;have oF:=ah6 (SA.out.below hb2 SA.out.lt);clear SA;have SA:=oF;clear oF;have AV:=ah6 (SB.out.below hb2 SB.out.lt);clear SB;have SB:=AV;clear AV
 have HB2 : Hid (Below w.heap.size w w2):=ah6 (HB1.out.trans (hb2.mono HB1.out.size))
 clear hb2 a0 a1 a2 b0 b1 b2 PT HB1
 obtain ⟨q0,q1,q2,q3,q4,q5,q6,q7,q8,q9,ku⟩:=eH SC.out
 unfold aY at OF
 go_wp2_with fail
 refine (OF _).mono ?_;rintro e W0 ⟨rfl,hb3⟩
 have oF:=ah6 (SA.out.below hb3 SA.out.lt);clear SA;have SA:=oF;clear oF;have AV:=ah6 (SB.out.below hb3 SB.out.lt);clear SB;have SB:=AV;clear AV
 have HW0 : Hid (Below w.heap.size w W0):=ah6 (HB2.out.trans (hb3.mono HB2.out.size))
 clear hb3 q0 q1 q2 q3 q4 q5 q6 q7 q8 q9 ku OF HB2 SC
 obtain ⟨a0,a1,a2⟩:=fM SA.out
 have hs2:=SB.out.lt
 go_wp2_with fail
 clear a0 a1 a2
 go_loopw [15,45] (λv i wr=>∃ k : Nat,k <= la /\ i = .int .i64 k /\ wr.ownsRow W0.heap.size 52 6 v k (jJ P k) /\ Below W0.heap.size W0 wr) (λ_ i _=>la - (intOf i).toNat)
 case atStart=>exact ⟨0,Nat.zero_le _,rfl,World.ownsRow_nil _ _ _ _,Below.refl _ _⟩
 case round =>
  rename_i wr
  obtain ⟨k,hk,rfl,hown,hB⟩:=hrel
  have hsz:=hB.size
  by_cases hlt : k < la
  ·obtain ⟨b,off,EB,hbw,hc⟩:=yR.out k hlt
   subst EB
   have hcw:=hc.below (HW0.out.trans (hB.mono HW0.out.size)) hbw;have hx:=zI k hlt
   have hy : (wV B (A k).id lb).Ok:=Qe hb (A k).id
   have AX:=ah6 (HP.out k)
   have HL : Hid (jJ P (k + 1) = jJ P k ++ [.int .i64 (P k).id,.int .i64 (P k).px,.int .i64 (P k).py,.int .i64 (P k).pz,.int .u16 (P k).aI,.int .i64 (P k).mode]):=ah6 rfl
   have FD:=ah6 (λw' (hw : Below w.heap.size w w')=>YC kb tb ab lb cb B (A k).id w' (hb.below hw) hlb)
   have EX:=YD (A k)
   unfold bN Jq lC at EX
   unfold bN bP at FD
   have hkl : (k : Int) < la:=by omega
   have HOWN:=ah6 hown
   have dz:=ah6 (λj e=>(hown.lt j e).2)
   have HB:=ah6 hB;clear hc hown hB
   generalize P k = pk at *
   generalize Dc B (A k).id lb = fb at *
   generalize wV B (A k).id lb = y at *
   generalize A k = x at *
   obtain ⟨eF,px,py,pz,vx,vy,vz,aI,gen⟩:=x
   obtain ⟨nI,qx,qy,qz,ux,uy,uz,iB,iC⟩:=y
   obtain ⟨c0,c1,c2,c3,c4,c5,c6,c7,c8⟩:=hcw
   dsimp only at c0 c1 c2 c3 c4 c5 c6 c7 c8 EX FD
   go_wp2_with fail
   refine (EX _).mono ?_;rintro e w4 ⟨rfl,hb4⟩
   have X4:=ah6 ((ak.new wr #[.int .i64 eF,.int .i64 px,.int .i64 py,.int .i64 pz,.int .i64 vx,.int .i64 vy,.int .i64 vz,.int .u16 aI,.int .u8 gen] 33).below hb4 (by simp))
   have gT : Hid (Below W0.heap.size W0 w4):=ah6 ((HB.out.alloc hsz _).trans (hb4.mono (by simp;omega)))
   have xq:=ah6 (own_below (HOWN.out.alloc _) hb4);have Ju:=ah6 (SB.out.below gT.out SB.out.lt);have l4:=X4.out.lt;have l4b:=Ju.out.lt;clear hb4 EX c0 c1 c2 c3 c4 c5 c6 c7 c8 HB HOWN
   obtain ⟨c0,c1,c2,c3,c4,c5,c6,c7,c8⟩:=gq X4.out
   obtain ⟨b0,b1,b2⟩:=fM Ju.out
   have uQ : Hid (Below W0.heap.size W0 (w4.alloc (.cells #[.int .i64 eF,.int .i64 px,.int .i64 py,.int .i64 pz,.int .u16 aI,.int .i64 0] 52))):=ah6 (gT.out.alloc gT.out.size _)
   have fd:=FD.out _ (HW0.out.trans (uQ.out.mono HW0.out.size))
   go_wp2_with fail
   refine fd.mono ?_;rintro e w6 ⟨rfl,hb6⟩
   have X6:=ah6 ((X4.out.alloc (.cells #[.int .i64 eF,.int .i64 px,.int .i64 py,.int .i64 pz,.int .u16 aI,.int .i64 0] 52)).below hb6 (by simp;omega))
   have P6:=ah6 ((ak.new w4 #[.int .i64 eF,.int .i64 px,.int .i64 py,.int .i64 pz,.int .u16 aI,.int .i64 0] 52).below hb6 (by simp))
   have mQ : Hid (Below W0.heap.size W0 w6):=ah6 (uQ.out.trans (hb6.mono uQ.out.size))
   have yS:=ah6 (own_below (xq.out.alloc _) hb6);have l6:=X6.out.lt;have l6b:=P6.out.lt;clear hb6 fd FD c0 c1 c2 c3 c4 c5 c6 c7 c8 b0 b1 b2 gT uQ xq X4 Ju
   obtain ⟨c0,c1,c2,c3,c4,c5,c6,c7,c8⟩:=gq X6.out
   obtain ⟨p0,p1,p2,p3,p4,p5⟩:=nk P6.out
   obtain ⟨f0,f1,f2,f3,f4,f5⟩:=pJ P6.out
   by_cases hm : fb = true /\ iC = gen
   ·obtain ⟨rfl,rfl⟩:=hm
    have vO : Hid (pk = ⟨eF,dO px vx qx ux num den,dO py vy qy uy num den,dO pz vz qz uz num den,rP aI iB num den,2⟩):=ah6 (by rw [AX.out];unfold vN;rw [if_pos ⟨rfl,rfl⟩];rfl)
    have PL:=ah6 (TG ⟨eF,px,py,pz,vx,vy,vz,aI,iC⟩ ⟨nI,qx,qy,qz,ux,uy,uz,iB,iC⟩ num den hx hy vk);have AL:=ah6 (L6 aI iB num den hx.aI hy.aI vk)
    unfold bN at PL
    dsimp only at PL
    generalize dO px vx qx ux num den = z1 at *
    generalize dO py vy qy uy num den = z2 at *
    generalize dO pz vz qz uz num den = z3 at *
    generalize rP aI iB num den = z4 at *
    go_wp2_with fail
    have X7:=ah6 (X6.out.alloc (.cells #[.int .i64 nI,.int .i64 qx,.int .i64 qy,.int .i64 qz,.int .i64 ux,.int .i64 uy,.int .i64 uz,.int .u16 iB,.int .u8 iC] 33));have P7:=ah6 (P6.out.alloc (.cells #[.int .i64 nI,.int .i64 qx,.int .i64 qy,.int .i64 qz,.int .i64 ux,.int .i64 uy,.int .i64 uz,.int .u16 iB,.int .u8 iC] 33));have Y7:=ah6 (ak.new w6 #[.int .i64 nI,.int .i64 qx,.int .i64 qy,.int .i64 qz,.int .i64 ux,.int .i64 uy,.int .i64 uz,.int .u16 iB,.int .u8 iC] 33)
    have ql : Hid (Below W0.heap.size W0 (w6.alloc (.cells #[.int .i64 nI,.int .i64 qx,.int .i64 qy,.int .i64 qz,.int .i64 ux,.int .i64 uy,.int .i64 uz,.int .u16 iB,.int .u8 iC] 33))):=ah6 (mQ.out.alloc mQ.out.size _)
    have vP:=ah6 (yS.out.alloc (.cells #[.int .i64 nI,.int .i64 qx,.int .i64 qy,.int .i64 qz,.int .i64 ux,.int .i64 uy,.int .i64 uz,.int .u16 iB,.int .u8 iC] 33));clear c0 c1 c2 c3 c4 c5 c6 c7 c8 p0 p1 p2 p3 p4 p5 f0 f1 f2 f3 f4 f5 X6 P6 mQ yS
    generalize w6.alloc (.cells #[.int .i64 nI,.int .i64 qx,.int .i64 qy,.int .i64 qz,.int .i64 ux,.int .i64 uy,.int .i64 uz,.int .u16 iB,.int .u8 iC] 33) = w7 at *
    obtain ⟨c0,c1,c2,c3,c4,c5,c6,c7,c8⟩:=gq X7.out
    obtain ⟨d0,d1,d2,d3,d4,d5,d6,d7,d8⟩:=gq Y7.out
    refine aR 9 (by kernel_rfl) (by kernel_rfl) ?_
    simp only [List.take_succ_cons,List.take_zero,List.drop_succ_cons,List.drop_zero]
    repeat (apply aF;(next=>(intro W hW K hK;have y0:=hW.cell c0;have y1:=hW.cell c1;have y2:=hW.cell c2;have y3:=hW.cell c3;have y4:=hW.cell c4;have y5:=hW.cell c5;have y6:=hW.cell c6;have y7:=hW.cell c7;have y8:=hW.cell c8;have y9:=hW.cell d0;have Jv:=hW.cell d1;have Qi:=hW.cell d2;have Qj:=hW.cell d3;have y13:=hW.cell d4;have Qk:=hW.cell d5;have Ql:=hW.cell d6;have Qm:=hW.cell d7;have Qn:=hW.cell d8;go_simp;first | exact ⟨hW,hK⟩ | exact hK));(next=>exact aO.self _);(try go_simp))
    (apply aF;(next=>(intro W hW K hK;go_simp;first | exact ⟨_,hW.call (LZ W),hK⟩ | exact ⟨hW,_,hW.call (LZ W),hK⟩));(next=>exact aO.self _);(try go_simp))
    repeat (apply aF;(next=>(intro W hW K hK;have y0:=hW.cell c0;have y1:=hW.cell c1;have y2:=hW.cell c2;have y3:=hW.cell c3;have y4:=hW.cell c4;have y5:=hW.cell c5;have y6:=hW.cell c6;have y7:=hW.cell c7;have y8:=hW.cell c8;have y9:=hW.cell d0;have Jv:=hW.cell d1;have Qi:=hW.cell d2;have Qj:=hW.cell d3;have y13:=hW.cell d4;have Qk:=hW.cell d5;have Ql:=hW.cell d6;have Qm:=hW.cell d7;have Qn:=hW.cell d8;go_simp;first | exact ⟨hW,hK⟩ | exact hK));(next=>exact aO.self _);(try go_simp))
    (apply aF;(next=>(intro W hW K hK;go_simp;first | exact ⟨_,hW.call (PL.out W),hK⟩ | exact ⟨hW,_,hW.call (PL.out W),hK⟩));(next=>exact aO.self _);(try go_simp))
    repeat (apply aF;(next=>(intro W hW K hK;have y0:=hW.cell c0;have y1:=hW.cell c1;have y2:=hW.cell c2;have y3:=hW.cell c3;have y4:=hW.cell c4;have y5:=hW.cell c5;have y6:=hW.cell c6;have y7:=hW.cell c7;have y8:=hW.cell c8;have y9:=hW.cell d0;have Jv:=hW.cell d1;have Qi:=hW.cell d2;have Qj:=hW.cell d3;have y13:=hW.cell d4;have Qk:=hW.cell d5;have Ql:=hW.cell d6;have Qm:=hW.cell d7;have Qn:=hW.cell d8;go_simp;first | exact ⟨hW,hK⟩ | exact hK));(next=>exact aO.self _);(try go_simp))
    refine aV ?_
    intro WC aL
    have tq : Below w7.heap.size w7 WC:=aL
    have X8:=ah6 (X7.out.below tq X7.out.lt);have Y8:=ah6 (Y7.out.below tq Y7.out.lt);have P8:=ah6 (P7.out.below tq P7.out.lt)
    have Jw : Hid (Below W0.heap.size W0 WC):=ah6 (ql.out.trans (tq.mono ql.out.size))
    have Qo:=ah6 (own_below vP.out tq);clear aL tq c0 c1 c2 c3 c4 c5 c6 c7 c8 d0 d1 d2 d3 d4 d5 d6 d7 d8 X7 Y7 P7 ql vP PL
    obtain ⟨c0,c1,c2,c3,c4,c5,c6,c7,c8⟩:=gq X8.out
    obtain ⟨d0,d1,d2,d3,d4,d5,d6,d7,d8⟩:=gq Y8.out
    obtain ⟨p0,p1,p2,p3,p4,p5⟩:=nk P8.out
    obtain ⟨f0,f1,f2,f3,f4,f5⟩:=pJ P8.out
    go_wp2_with fail
    have Z9:=EA P8.out 5 (.int .i64 2) 1 (.int .i64 z1) 2 (.int .i64 z2) 3 (.int .i64 z3);clear c0 c1 c2 c3 c4 c5 c6 c7 c8 d0 d1 d2 d3 d4 d5 d6 d7 d8 p0 p1 p2 p3 p4 p5 f0 f1 f2 f3 f4 f5
    obtain ⟨w9,Qp⟩ : ∃ w9,w9 = ((((WC.setCell ⟨w4.heap.size,5,none⟩ (.int .i64 2)).setCell ⟨w4.heap.size,1,none⟩ (.int .i64 z1)).setCell ⟨w4.heap.size,2,none⟩ (.int .i64 z2)).setCell ⟨w4.heap.size,3,none⟩ (.int .i64 z3)):=⟨_,rfl⟩
    rw [← Qp] at Z9 ⊢
    clear Qp
    obtain ⟨Z9,O9⟩:=Z9
    simp at Z9
    have X9:=ah6 (O9.blk X8.out (by omega))
    have Y9:=ah6 (O9.blk Y8.out (by omega))
    have P9:=ah6 Z9
    have Jy : Hid (Below W0.heap.size W0 w9):=ah6 (Jw.out.trans (O9.below Jw.out.size (by rintro i rfl;omega)))
    have Qq:=ah6 (qN Qo.out O9 (λj e h=>by have:=dz.out j e;have h2 : j = w4.heap.size:=h;omega))
    clear Z9 O9 X8 Y8 P8 Jw Qo
    refine (AL.out _).mono ?_;rintro e wd ⟨rfl,hbd⟩
    have EC:=P9.out.below hbd P9.out.lt;have l9:=EC.lt;have Jz:=Jy.out.trans (hbd.mono Jy.out.size);have JA:=own_below Qq.out hbd
    obtain ⟨p0,p1,p2,p3,p4,p5⟩:=nk EC
    obtain ⟨f0,f1,f2,f3,f4,f5⟩:=pJ EC
    have xu:=ah6 (qN JA ((Only.refl (· = w4.heap.size) wd).setCell (p:=⟨w4.heap.size,4,none⟩) (.inl rfl) (.int .u16 z4)) (λj e h=>by have:=dz.out j e;have h2 : j = w4.heap.size:=h;omega))
    have rR : Hid (Below W0.heap.size W0 (wd.setCell ⟨w4.heap.size,4,none⟩ (.int .u16 z4))):=ah6 (Jz.setCell (by simp;omega) _)
    clear hbd EC Jz JA X9 Y9 P9 Jy Qq
    go_wp2_with (at_builtin;refine wpList_append_own _ rfl (.tmp 87) (.tmp 89) 47 rfl W0.heap.size 52 i0 (.agg #[.int .i64 0,.int .i64 0,.int .i64 0,.int .i64 0,.int .u16 0,.int .i64 0]) 6 48 Tryz.underlying47 hi hz0 hz1 hz2 rfl (by decide) _ _ _ rfl (xu.out.alloc _) ⟨wd.heap.size,0,none⟩ 1 1 [.int .i64 eF,.int .i64 z1,.int .i64 z2,.int .i64 z3,.int .u16 z4,.int .i64 2] rfl rfl ?c1 ?c2 ?c3 ?c4 ?c5 ?_)
    case c1=>exact lD (by simp)
    case c2=>intro u hu;simp at hu;rcases hu with rfl | rfl | rfl | rfl | rfl | rfl <;> rfl
    case c3=>unfold maxLen;omega
    case c4=>omega
    case c5=>have:=rR.out.size;simp at *;omega
    intro v' kC hown' hgrow _
    have hszz:=rR.out.size
    have hB' : Hid (Below W0.heap.size W0 kC):=ah6 ((rR.out.alloc hszz _).grown hgrow (by simp at *;omega) (λj e=>(xu.out.lt j e).1))
    have HO : Hid (kC.ownsRow W0.heap.size 52 6 v' (k + 1) (jJ P (k + 1))):=ah6 (by rw [HL.out,vO.out];exact hown')
    clear hown' hgrow
    go_wp2
    go_roundw
    case rel=>exact ⟨k + 1,by omega,by go_num,HO.out,hB'.out⟩
    case measure=>simp [intOf];omega
   ·have vO : Hid (pk = ⟨eF,px,py,pz,aI,0⟩):=ah6 (by rw [AX.out];unfold vN;rw [if_neg hm];rfl)
    have ql : Hid (Below W0.heap.size W0 (w6.alloc (.cells #[.int .i64 nI,.int .i64 qx,.int .i64 qy,.int .i64 qz,.int .i64 ux,.int .i64 uy,.int .i64 uz,.int .u16 iB,.int .u8 iC] 33))):=ah6 (mQ.out.alloc mQ.out.size _)
    have vP:=ah6 (yS.out.alloc (.cells #[.int .i64 nI,.int .i64 qx,.int .i64 qy,.int .i64 qz,.int .i64 ux,.int .i64 uy,.int .i64 uz,.int .u16 iB,.int .u8 iC] 33))
    cases fb
    ·clear hm
     go_wp2_with (at_builtin;refine wpList_append_own _ rfl (.tmp 87) (.tmp 89) 47 rfl W0.heap.size 52 i0 (.agg #[.int .i64 0,.int .i64 0,.int .i64 0,.int .i64 0,.int .u16 0,.int .i64 0]) 6 48 Tryz.underlying47 hi hz0 hz1 hz2 rfl (by decide) _ _ _ rfl (vP.out.alloc _) ⟨w6.heap.size + 1,0,none⟩ 1 1 [.int .i64 eF,.int .i64 px,.int .i64 py,.int .i64 pz,.int .u16 aI,.int .i64 0] rfl rfl ?c1 ?c2 ?c3 ?c4 ?c5 ?_)
     case c1=>exact lD (by simp)
     case c2=>intro u hu;simp at hu;rcases hu with rfl | rfl | rfl | rfl | rfl | rfl <;> rfl
     case c3=>unfold maxLen;omega
     case c4=>omega
     case c5=>have:=ql.out.size;simp at *;omega
     intro v' kC hown' hgrow _
     have hszz:=ql.out.size
     have hB' : Hid (Below W0.heap.size W0 kC):=ah6 ((ql.out.alloc hszz _).grown hgrow (by simp at *;omega) (λj e=>(vP.out.lt j e).1))
     have HO : Hid (kC.ownsRow W0.heap.size 52 6 v' (k + 1) (jJ P (k + 1))):=ah6 (by rw [HL.out,vO.out];exact hown')
     clear hown' hgrow
     go_wp2
     go_roundw
     case rel=>exact ⟨k + 1,by omega,by go_num,HO.out,hB'.out⟩
     case measure=>simp [intOf];omega
    ·have hg : (iC == gen) = false:=by simpa using hm
     clear hm
     go_wp2_with (at_builtin;refine wpList_append_own _ rfl (.tmp 87) (.tmp 89) 47 rfl W0.heap.size 52 i0 (.agg #[.int .i64 0,.int .i64 0,.int .i64 0,.int .i64 0,.int .u16 0,.int .i64 0]) 6 48 Tryz.underlying47 hi hz0 hz1 hz2 rfl (by decide) _ _ _ rfl (vP.out.alloc _) ⟨w6.heap.size + 1,0,none⟩ 1 1 [.int .i64 eF,.int .i64 px,.int .i64 py,.int .i64 pz,.int .u16 aI,.int .i64 0] rfl rfl ?c1 ?c2 ?c3 ?c4 ?c5 ?_)
     case c1=>exact lD (by simp)
     case c2=>intro u hu;simp at hu;rcases hu with rfl | rfl | rfl | rfl | rfl | rfl <;> rfl
     case c3=>unfold maxLen;omega
     case c4=>omega
     case c5=>have:=ql.out.size;simp at *;omega
     intro v' kC hown' hgrow _
     have hszz:=ql.out.size
     have hB' : Hid (Below W0.heap.size W0 kC):=ah6 ((ql.out.alloc hszz _).grown hgrow (by simp at *;omega) (λj e=>(vP.out.lt j e).1))
     have HO : Hid (kC.ownsRow W0.heap.size 52 6 v' (k + 1) (jJ P (k + 1))):=ah6 (by rw [HL.out,vO.out];exact hown')
     clear hown' hgrow
     go_wp2
     go_roundw
     case rel=>exact ⟨k + 1,by omega,by go_num,HO.out,hB'.out⟩
     case measure=>simp [intOf];omega
  ·obtain rfl : k = la:=by omega
   obtain ⟨s,cp,rfl,hS⟩:=oD hown
   have HS:=ah6 hS;have sI:=ah6 (HW0.out.trans (hB.mono HW0.out.size));clear hS hown hB
   go_wp2
   exact bodyPost_ret (v:=.tuple #[.slice s k cp,.int .i64 0]) (by simp [results,Tryz.results48,go_sem]) rfl ⟨s,cp,rfl,HS.out,sI.out⟩
set_option maxRecDepth 100000
def lQ (c : aN) (ka ta : Int) (aa : Option Addr) (la ca : Nat) (A : Nat -> aA) : Int:=gD c (λ_=>ka) (λ_=>ta) (λ_=>(aa,la,ca)) (λ_=>A) 1
theorem Cv {c : aN} {ka ta : Int} {aa : Option Addr} {la ca : Nat} {A : Nat -> aA} (h : lQ c ka ta aa la ca A = 0) : la <= 64 /\ 0 <= c.extra /\ dw ka ta la A = 0 /\ dF c = 0:=by
 unfold lQ gD at h
 split at h
 ·rename_i hc
  have h2 : dw ka ta la A = 0:=by
   by_cases e : dw ka ta la A = 0
   ·exact e
   ·have : nR (λ_=>ka) (λ_=>ta) (λ_=>(aa,la,ca)) (λ_=>A) 1 0 = dw ka ta la A:=by
     show (if dw ka ta la A = 0 then _ else dw ka ta la A) = _
     rw [if_neg e]
    rw [this] at h;exact h
  refine ⟨Dh h2,?_,h2,hc⟩
  unfold dF at hc
  split at hc
  ·split at hc
   ·contradiction
   ·split at hc
    ·rename_i h3
     simp only [Bool.and_eq_true] at h3
     have:=h3.2
     unfold pW at this
     simp at this
     exact this.1
    ·exact absurd hc (by decide)
  ·exact absurd hc (by decide)
 ·contradiction
def JB (m d : Int) (x : aA) : Po:=⟨x.id,bJ x.px (aQ x.vx d),bJ x.py (aQ x.vy d),bJ x.pz (aQ x.vz d),x.aI,m⟩
def AY (m d : Int) (A : Nat -> aA) (i : Nat) : Po:=JB m d (A i)
def xw (c : aN) (d : Int) : Int:=if d = 0 then 0 else if c.extra < d then 4 else 3
def xA (c : aN) (d : Int) : Int:=if c.extra < d then c.extra else d
theorem TI {x : aA} (h : x.Ok) : JB 0 0 x = lC x:=by
 unfold JB lC
 rw [Aq,Aq,Aq,Ap h.px,Ap h.py,Ap h.pz]
theorem JC {a t : Int} (h : kX a t = 0) : a <= t /\ zG a t = aM t a /\ -2305843009213693952 <= a /\ a <= 2305843009213693952:=by
 have hn : zG a t = aM t a:=by unfold zG;rw [if_pos h]
 have hc : eu (λ_=>a) 1 = 0:=by
  unfold kX at h
  split at h
  ·assumption
  ·assumption
 have h1 : ¬ (t < a):=by
  unfold kX at h
  rw [if_pos hc] at h
  intro hh;rw [if_pos hh] at h;exact absurd h (by decide)
 have b0:=rO hc (show 0 < 1 by omega)
 exact ⟨by omega,hn,b0⟩
set_option maxHeartbeats 1000000 in
theorem TJ (c : aN) (ka ta : Int) (aa : Option Addr) (la ca : Nat) (A : Nat -> aA) (au : Int) (w : World) (xB : ay ta) (hat : ay au) (ha : dx w aa la A) (hla : (la : Int) <= 4611686018427387904) (h0 : lQ c ka ta aa la ca A ≠ 0) :
 Calls Tryz.prog 47 #[aY c,bP ka ta aa la ca,.int .i64 au] w λe w'=>e = .returned (.tuple #[.slice none 0 0,.int .i64 (lQ c ka ta aa la ca A)]) /\ Below w.heap.size w w':=by
 have hB3 : Below w.heap.size w ((w.alloc (.cells #[.int .i64 c.ring,.int .i64 c.window,.int .i64 c.base,.int .i64 c.gain,.int .i64 c.least,.int .i64 c.most,.int .i64 c.aC,.int .i64 c.num,.int .i64 c.den,.int .i64 c.extra,.bool c.aB] 29)).alloc (.cells #[.int .i64 ka,.int .i64 ta,.slice aa la ca] 36)):=(ah7).alloc (by simp) _
 have bc:=((ak.new w #[.int .i64 c.ring,.int .i64 c.window,.int .i64 c.base,.int .i64 c.gain,.int .i64 c.least,.int .i64 c.most,.int .i64 c.aC,.int .i64 c.num,.int .i64 c.den,.int .i64 c.extra,.bool c.aB] 29).alloc (.cells #[.int .i64 ka,.int .i64 ta,.slice aa la ca] 36));have ba:=ak.new (w.alloc (.cells #[.int .i64 c.ring,.int .i64 c.window,.int .i64 c.base,.int .i64 c.gain,.int .i64 c.least,.int .i64 c.most,.int .i64 c.aC,.int .i64 c.num,.int .i64 c.den,.int .i64 c.extra,.bool c.aB] 29)) #[.int .i64 ka,.int .i64 ta,.slice aa la ca] 36
 have CK:=jy c (some ⟨((w.alloc (.cells #[.int .i64 c.ring,.int .i64 c.window,.int .i64 c.base,.int .i64 c.gain,.int .i64 c.least,.int .i64 c.most,.int .i64 c.aC,.int .i64 c.num,.int .i64 c.den,.int .i64 c.extra,.bool c.aB] 29)).alloc (.cells #[.int .i64 ka,.int .i64 ta,.slice aa la ca] 36)).heap.size,0,none⟩) 1 1 _ _ _ _ _ (Jr ((w.alloc (.cells #[.int .i64 c.ring,.int .i64 c.window,.int .i64 c.base,.int .i64 c.gain,.int .i64 c.least,.int .i64 c.most,.int .i64 c.aC,.int .i64 c.num,.int .i64 c.den,.int .i64 c.extra,.bool c.aB] 29)).alloc (.cells #[.int .i64 ka,.int .i64 ta,.slice aa la ca] 36)) ka ta aa la ca A (ha.below hB3) hla) (by decide)
 have hs3 : ((w.alloc (.cells #[.int .i64 c.ring,.int .i64 c.window,.int .i64 c.base,.int .i64 c.gain,.int .i64 c.least,.int .i64 c.most,.int .i64 c.aC,.int .i64 c.num,.int .i64 c.den,.int .i64 c.extra,.bool c.aB] 29)).alloc (.cells #[.int .i64 ka,.int .i64 ta,.slice aa la ca] 36)).heap.size = w.heap.size + 1 + 1:=by simp
 change Calls _ _ _ _ (λe w'=>e = .returned (.int .i64 (lQ c ka ta aa la ca A)) /\ _) at CK
 simp only [World.size_alloc] at ba
 unfold aY at CK ⊢
 unfold bP
 generalize lQ c ka ta aa la ca A = z at *
 have hz : (z != 0) = true:=by simpa using h0
 go_enter Tryz.func47,Tryz.ntmps47
 go_wp2_with fail
 generalize ((w.alloc (.cells #[.int .i64 c.ring,.int .i64 c.window,.int .i64 c.base,.int .i64 c.gain,.int .i64 c.least,.int .i64 c.most,.int .i64 c.aC,.int .i64 c.num,.int .i64 c.den,.int .i64 c.extra,.bool c.aB] 29)).alloc (.cells #[.int .i64 ka,.int .i64 ta,.slice aa la ca] 36)) = W at *
 rw [hs3] at CK
 refine CK.mono ?_;rintro e w1 ⟨rfl,hb1⟩
 have hB1 : Below W.heap.size W w1:=(ah7).trans (hb1.mono (by simp))
 have HB1 : Hid (Below w.heap.size w w1):=ah6 (hB3.trans (hB1.mono hB3.size))
 have SC:=ah6 (bc.below hB1 bc.lt);have SA:=ah6 (ba.below hB1 ba.lt);clear hB3 hb1 hB1 CK bc ba hs3
 go_wp2
 exact bodyPost_ret (v:=.tuple #[.slice none 0 0,.int .i64 z]) (by simp [results,Tryz.results47,go_sem]) rfl ⟨rfl,HB1.out⟩
set_option maxHeartbeats 1000000 in
theorem Qr (c : aN) (ka ta : Int) (aa : Option Addr) (la ca : Nat) (A : Nat -> aA) (au : Int) (w : World) (xB : ay ta) (hat : ay au) (ha : dx w aa la A) (hla : (la : Int) <= 4611686018427387904) (h0 : lQ c ka ta aa la ca A = 0) (h1 : kX ta au ≠ 0) :
 Calls Tryz.prog 47 #[aY c,bP ka ta aa la ca,.int .i64 au] w λe w'=>e = .returned (.tuple #[.slice none 0 0,.int .i64 (kX ta au)]) /\ Below w.heap.size w w':=by
 have PT:=IE ka ta au aa la ca xB hat
 have hB3 : Below w.heap.size w ((w.alloc (.cells #[.int .i64 c.ring,.int .i64 c.window,.int .i64 c.base,.int .i64 c.gain,.int .i64 c.least,.int .i64 c.most,.int .i64 c.aC,.int .i64 c.num,.int .i64 c.den,.int .i64 c.extra,.bool c.aB] 29)).alloc (.cells #[.int .i64 ka,.int .i64 ta,.slice aa la ca] 36)):=(ah7).alloc (by simp) _
 have bc:=((ak.new w #[.int .i64 c.ring,.int .i64 c.window,.int .i64 c.base,.int .i64 c.gain,.int .i64 c.least,.int .i64 c.most,.int .i64 c.aC,.int .i64 c.num,.int .i64 c.den,.int .i64 c.extra,.bool c.aB] 29).alloc (.cells #[.int .i64 ka,.int .i64 ta,.slice aa la ca] 36));have ba:=ak.new (w.alloc (.cells #[.int .i64 c.ring,.int .i64 c.window,.int .i64 c.base,.int .i64 c.gain,.int .i64 c.least,.int .i64 c.most,.int .i64 c.aC,.int .i64 c.num,.int .i64 c.den,.int .i64 c.extra,.bool c.aB] 29)) #[.int .i64 ka,.int .i64 ta,.slice aa la ca] 36
 have CK:=jy c (some ⟨((w.alloc (.cells #[.int .i64 c.ring,.int .i64 c.window,.int .i64 c.base,.int .i64 c.gain,.int .i64 c.least,.int .i64 c.most,.int .i64 c.aC,.int .i64 c.num,.int .i64 c.den,.int .i64 c.extra,.bool c.aB] 29)).alloc (.cells #[.int .i64 ka,.int .i64 ta,.slice aa la ca] 36)).heap.size,0,none⟩) 1 1 _ _ _ _ _ (Jr ((w.alloc (.cells #[.int .i64 c.ring,.int .i64 c.window,.int .i64 c.base,.int .i64 c.gain,.int .i64 c.least,.int .i64 c.most,.int .i64 c.aC,.int .i64 c.num,.int .i64 c.den,.int .i64 c.extra,.bool c.aB] 29)).alloc (.cells #[.int .i64 ka,.int .i64 ta,.slice aa la ca] 36)) ka ta aa la ca A (ha.below hB3) hla) (by decide)
 have hs3 : ((w.alloc (.cells #[.int .i64 c.ring,.int .i64 c.window,.int .i64 c.base,.int .i64 c.gain,.int .i64 c.least,.int .i64 c.most,.int .i64 c.aC,.int .i64 c.num,.int .i64 c.den,.int .i64 c.extra,.bool c.aB] 29)).alloc (.cells #[.int .i64 ka,.int .i64 ta,.slice aa la ca] 36)).heap.size = w.heap.size + 1 + 1:=by simp
 change Calls _ _ _ _ (λe w'=>e = .returned (.int .i64 (lQ c ka ta aa la ca A)) /\ _) at CK
 simp only [World.size_alloc] at ba
 unfold aY at CK ⊢
 unfold bP
 rw [h0] at CK
 clear h0
 generalize kX ta au = z at *
 generalize zG ta au = num at *
 have hz : (z != 0) = true:=by simpa using h1
 go_enter Tryz.func47,Tryz.ntmps47
 go_wp2_with fail
 generalize ((w.alloc (.cells #[.int .i64 c.ring,.int .i64 c.window,.int .i64 c.base,.int .i64 c.gain,.int .i64 c.least,.int .i64 c.most,.int .i64 c.aC,.int .i64 c.num,.int .i64 c.den,.int .i64 c.extra,.bool c.aB] 29)).alloc (.cells #[.int .i64 ka,.int .i64 ta,.slice aa la ca] 36)) = W at *
 rw [hs3] at CK
 refine CK.mono ?_;rintro e w1 ⟨rfl,hb1⟩
 have hB1 : Below W.heap.size W w1:=(ah7).trans (hb1.mono (by simp))
 have HB1 : Hid (Below w.heap.size w w1):=ah6 (hB3.trans (hB1.mono hB3.size))
 have SC:=ah6 (bc.below hB1 bc.lt);have SA:=ah6 (ba.below hB1 ba.lt);clear hB3 hb1 hB1 CK bc ba hs3
 obtain ⟨a0,a1,a2⟩:=fM SA.out
 go_wp2_with fail
 refine (PT _).mono ?_;rintro e w2 ⟨rfl,hb2⟩
 have HB2 : Hid (Below w.heap.size w w2):=ah6 (HB1.out.trans (hb2.mono HB1.out.size))
 clear hb2 a0 a1 a2 PT
 go_wp2
 exact bodyPost_ret (v:=.tuple #[.slice none 0 0,.int .i64 z]) (by simp [results,Tryz.results47,go_sem]) rfl ⟨rfl,HB2.out⟩
set_option maxHeartbeats 4000000 in
theorem YE (c : aN) (ok : c.Ok) (ka ta : Int) (aa : Option Addr) (la ca : Nat) (A : Nat -> aA) (au : Int) (w : World) (xB : ay ta) (hat : ay au) (ha : dx w aa la A) (hla : (la : Int) <= 4611686018427387904) (h0 : lQ c ka ta aa la ca A = 0) (h1 : kX ta au = 0) (hd : aM au ta = 0) :
 Calls Tryz.prog 47 #[aY c,bP ka ta aa la ca,.int .i64 au] w λe w'=>∃ s cp,e = .returned (.tuple #[.slice s la cp,.int .i64 0]) /\ dY w' s la (AY 0 0 A) /\ Below w.heap.size w w':=by
 obtain ⟨i0,hi,hz0,hz1,hz2⟩:=info_parts vM
 have PT:=IE ka ta au aa la ca xB hat
 obtain ⟨FW,hex,_,_⟩:=Cv h0
 obtain ⟨hle,hN,_,_⟩:=JC h1
 rw [hN,h1] at PT
 have FX:=jw au ta
 have hd0 : 0 <= aM au ta:=by unfold aM sat;omega
 generalize aM au ta = d at *
 clear hN h1 hle
 subst hd
 have hg : decide (c.extra < 0) = false:=decide_eq_false (by omega)
 have hdd : ay 0:=by unfold ay;omega
 obtain ⟨P,hP⟩ : ∃ P,AY 0 0 A = P:=⟨_,rfl⟩
 have HP : Hid (∀ i,P i = JB 0 0 (A i)):=ah6 (λi=>by rw [← hP];rfl)
 rw [hP]
 have Qs:=ah6 hdd;clear hP FX hd0 hex hdd 
 have hB3 : Below w.heap.size w ((w.alloc (.cells #[.int .i64 c.ring,.int .i64 c.window,.int .i64 c.base,.int .i64 c.gain,.int .i64 c.least,.int .i64 c.most,.int .i64 c.aC,.int .i64 c.num,.int .i64 c.den,.int .i64 c.extra,.bool c.aB] 29)).alloc (.cells #[.int .i64 ka,.int .i64 ta,.slice aa la ca] 36)):=(ah7).alloc (by simp) _
 have bc:=((ak.new w #[.int .i64 c.ring,.int .i64 c.window,.int .i64 c.base,.int .i64 c.gain,.int .i64 c.least,.int .i64 c.most,.int .i64 c.aC,.int .i64 c.num,.int .i64 c.den,.int .i64 c.extra,.bool c.aB] 29).alloc (.cells #[.int .i64 ka,.int .i64 ta,.slice aa la ca] 36));have ba:=ak.new (w.alloc (.cells #[.int .i64 c.ring,.int .i64 c.window,.int .i64 c.base,.int .i64 c.gain,.int .i64 c.least,.int .i64 c.most,.int .i64 c.aC,.int .i64 c.num,.int .i64 c.den,.int .i64 c.extra,.bool c.aB] 29)) #[.int .i64 ka,.int .i64 ta,.slice aa la ca] 36
 have CK:=jy c (some ⟨((w.alloc (.cells #[.int .i64 c.ring,.int .i64 c.window,.int .i64 c.base,.int .i64 c.gain,.int .i64 c.least,.int .i64 c.most,.int .i64 c.aC,.int .i64 c.num,.int .i64 c.den,.int .i64 c.extra,.bool c.aB] 29)).alloc (.cells #[.int .i64 ka,.int .i64 ta,.slice aa la ca] 36)).heap.size,0,none⟩) 1 1 _ _ _ _ _ (Jr ((w.alloc (.cells #[.int .i64 c.ring,.int .i64 c.window,.int .i64 c.base,.int .i64 c.gain,.int .i64 c.least,.int .i64 c.most,.int .i64 c.aC,.int .i64 c.num,.int .i64 c.den,.int .i64 c.extra,.bool c.aB] 29)).alloc (.cells #[.int .i64 ka,.int .i64 ta,.slice aa la ca] 36)) ka ta aa la ca A (ha.below hB3) hla) (by decide)
 have hs3 : ((w.alloc (.cells #[.int .i64 c.ring,.int .i64 c.window,.int .i64 c.base,.int .i64 c.gain,.int .i64 c.least,.int .i64 c.most,.int .i64 c.aC,.int .i64 c.num,.int .i64 c.den,.int .i64 c.extra,.bool c.aB] 29)).alloc (.cells #[.int .i64 ka,.int .i64 ta,.slice aa la ca] 36)).heap.size = w.heap.size + 1 + 1:=by simp
 change Calls _ _ _ _ (λe w'=>e = .returned (.int .i64 (lQ c ka ta aa la ca A)) /\ _) at CK
 simp only [World.size_alloc] at ba
 unfold aY at CK ⊢
 unfold bP
 go_enter Tryz.func47,Tryz.ntmps47
 go_wp2_with fail
 generalize ((w.alloc (.cells #[.int .i64 c.ring,.int .i64 c.window,.int .i64 c.base,.int .i64 c.gain,.int .i64 c.least,.int .i64 c.most,.int .i64 c.aC,.int .i64 c.num,.int .i64 c.den,.int .i64 c.extra,.bool c.aB] 29)).alloc (.cells #[.int .i64 ka,.int .i64 ta,.slice aa la ca] 36)) = W at *
 rw [hs3] at CK
 refine CK.mono ?_;rintro e w1 ⟨rfl,hb1⟩
 have hB1 : Below W.heap.size W w1:=(ah7).trans (hb1.mono (by simp))
 have HB1 : Hid (Below w.heap.size w w1):=ah6 (hB3.trans (hB1.mono hB3.size))
 have SC:=ah6 (bc.below hB1 bc.lt);have SA:=ah6 (ba.below hB1 ba.lt);clear hB3 hb1 hB1 CK bc ba hs3
 rw [h0]
 clear h0;have zI:=ha.1
 have yR : Hid (∀ k,k < la -> ∃ b off,aa = some ⟨b,off,none⟩ /\ b < w.heap.size /\ dG w b (off + k * 9) (A k)):=ah6 (λk hk=>by
  rcases ha.2 with h0 | ⟨b,off,e,hb,hc⟩
  ·omega
  ·exact ⟨b,off,e,hb,hc k hk⟩)
 obtain ⟨a0,a1,a2⟩:=fM SA.out
 go_wp2_with fail
 refine (PT _).mono ?_;rintro e W0 ⟨rfl,hb2⟩
 have pX:=ah6 (SC.out.below hb2 SC.out.lt);clear SC;have SC:=pX;clear pX;have oF:=ah6 (SA.out.below hb2 SA.out.lt);clear SA;have SA:=oF;clear oF
 have HW0 : Hid (Below w.heap.size w W0):=ah6 (HB1.out.trans (hb2.mono HB1.out.size))
 clear hb2 a0 a1 a2 PT HB1
 obtain ⟨a0,a1,a2⟩:=fM SA.out
 obtain ⟨q0,q1,q2,q3,q4,q5,q6,q7,q8,q9,ku⟩:=eH SC.out
 go_wp2_with fail
 clear a0 a1 a2 q0 q1 q2 q3 q4 q5 q6 q7 q8 q9 ku
 go_loopw [12,45] (λv i wr=>∃ k : Nat,k <= la /\ i = .int .i64 k /\ wr.ownsRow W0.heap.size 52 6 v k (jJ P k) /\ Below W0.heap.size W0 wr) (λ_ i _=>la - (intOf i).toNat)
 case atStart=>exact ⟨0,Nat.zero_le _,rfl,World.ownsRow_nil _ _ _ _,Below.refl _ _⟩
 case round =>
  rename_i wr
  obtain ⟨k,hk,rfl,hown,hB⟩:=hrel
  have hsz:=hB.size
  by_cases hlt : k < la
  ·obtain ⟨b,off,EB,hbw,hc⟩:=yR.out k hlt
   subst EB
   have hcw:=hc.below (HW0.out.trans (hB.mono HW0.out.size)) hbw;have hx:=zI k hlt;have AX:=ah6 (HP.out k)
   have HL : Hid (jJ P (k + 1) = jJ P k ++ [.int .i64 (P k).id,.int .i64 (P k).px,.int .i64 (P k).py,.int .i64 (P k).pz,.int .u16 (P k).aI,.int .i64 (P k).mode]):=ah6 rfl
   have EX:=yQ (A k)
   unfold bN Jq lC at EX
   have hkl : (k : Int) < la:=by omega
   have HOWN:=ah6 hown
   have dz:=ah6 (λj e=>(hown.lt j e).2)
   have HB:=ah6 hB;have HCW:=ah6 hcw;clear hc hown hB
   generalize P k = pk at *
   generalize A k = x at *
   obtain ⟨eF,px,py,pz,vx,vy,vz,aI,gen⟩:=x
   obtain ⟨c0,c1,c2,c3,c4,c5,c6,c7,c8⟩:=hcw
   dsimp only at c0 c1 c2 c3 c4 c5 c6 c7 c8 EX
   have VG:=ah6 (Nq px py pz vx vy vz 0 hx.px hx.py hx.pz hx.vx hx.vy hx.vz Qs.out)
   go_wp2_with fail
   refine (EX _).mono ?_;rintro e w4 ⟨rfl,hb4⟩
   have X4:=ah6 ((ak.new wr #[.int .i64 eF,.int .i64 px,.int .i64 py,.int .i64 pz,.int .i64 vx,.int .i64 vy,.int .i64 vz,.int .u16 aI,.int .u8 gen] 33).below hb4 (by simp))
   have gT : Hid (Below W0.heap.size W0 w4):=ah6 ((HB.out.alloc hsz _).trans (hb4.mono (by simp;omega)))
   have xq:=ah6 (own_below (HOWN.out.alloc _) hb4);have l4:=X4.out.lt;clear hb4 EX c0 c1 c2 c3 c4 c5 c6 c7 c8 HB HOWN
   obtain ⟨c0,c1,c2,c3,c4,c5,c6,c7,c8⟩:=gq X4.out
   have vO : Hid (pk = ⟨eF,bJ px (aQ vx 0),bJ py (aQ vy 0),bJ pz (aQ vz 0),aI,0⟩):=ah6 AX.out
   generalize bJ px (aQ vx 0) = z1 at *
   generalize bJ py (aQ vy 0) = z2 at *
   generalize bJ pz (aQ vz 0) = z3 at *
   go_wp2_with fail
   refine (VG.out _).mono ?_;rintro e w6 ⟨rfl,hb6⟩
   have P6:=ah6 ((ak.new w4 #[.int .i64 eF,.int .i64 px,.int .i64 py,.int .i64 pz,.int .u16 aI,.int .i64 0] 52).below hb6 (by simp))
   have mQ : Hid (Below W0.heap.size W0 w6):=ah6 ((gT.out.alloc gT.out.size _).trans (hb6.mono (by have:=gT.out.size;simp;omega)))
   have yS:=ah6 (own_below (xq.out.alloc _) hb6);have l6:=P6.out.lt;clear hb6 c0 c1 c2 c3 c4 c5 c6 c7 c8 gT xq X4 VG
   obtain ⟨p0,p1,p2,p3,p4,p5⟩:=nk P6.out
   obtain ⟨f0,f1,f2,f3,f4,f5⟩:=pJ P6.out
   have Z9:=EA P6.out 5 (.int .i64 0) 1 (.int .i64 z1) 2 (.int .i64 z2) 3 (.int .i64 z3)
   have xu:=ah6 (qN yS.out Z9.2 (λj e h=>by have:=dz.out j e;have h2 : j = w4.heap.size:=h;omega))
   have rR:=ah6 (mQ.out.trans (Z9.2.below mQ.out.size (by rintro i rfl;omega)))
   clear Z9
   go_wp2_with (at_builtin;refine wpList_append_own _ rfl (.tmp 60) (.tmp 62) 47 rfl W0.heap.size 52 i0 (.agg #[.int .i64 0,.int .i64 0,.int .i64 0,.int .i64 0,.int .u16 0,.int .i64 0]) 6 48 Tryz.underlying47 hi hz0 hz1 hz2 rfl (by decide) _ _ _ rfl (xu.out.alloc _) ⟨w6.heap.size,0,none⟩ 1 1 [.int .i64 eF,.int .i64 z1,.int .i64 z2,.int .i64 z3,.int .u16 aI,.int .i64 0] rfl rfl ?c1 ?c2 ?c3 ?c4 ?c5 ?_)
   case c1=>exact lD (by simp)
   case c2=>intro u hu;simp at hu;rcases hu with rfl | rfl | rfl | rfl | rfl | rfl <;> rfl
   case c3=>unfold maxLen;omega
   case c4=>omega
   case c5=>have:=rR.out.size;simp at *;omega
   intro v' kC hown' hgrow _
   have hszz:=rR.out.size
   have hB' : Hid (Below W0.heap.size W0 kC):=ah6 ((rR.out.alloc hszz _).grown hgrow (by simp at *;omega) (λj e=>(xu.out.lt j e).1))
   have HO : Hid (kC.ownsRow W0.heap.size 52 6 v' (k + 1) (jJ P (k + 1))):=ah6 (by rw [HL.out,vO.out];exact hown')
   clear hown' hgrow
   go_wp2
   go_roundw
   case rel=>exact ⟨k + 1,by omega,by go_num,HO.out,hB'.out⟩
   case measure=>simp [intOf];omega
  ·obtain rfl : k = la:=by omega
   obtain ⟨s,cp,rfl,hS⟩:=oD hown
   have HS:=ah6 hS;have sI:=ah6 (HW0.out.trans (hB.mono HW0.out.size));clear hS hown hB
   go_wp2
   exact bodyPost_ret (v:=.tuple #[.slice s k cp,.int .i64 0]) (by simp [results,Tryz.results47,go_sem]) rfl ⟨s,cp,rfl,HS.out,sI.out⟩
set_option maxHeartbeats 4000000 in
theorem YF (c : aN) (ok : c.Ok) (ka ta : Int) (aa : Option Addr) (la ca : Nat) (A : Nat -> aA) (au : Int) (w : World) (xB : ay ta) (hat : ay au) (ha : dx w aa la A) (hla : (la : Int) <= 4611686018427387904) (h0 : lQ c ka ta aa la ca A = 0) (h1 : kX ta au = 0) (hd : aM au ta ≠ 0) (hf : c.extra < aM au ta) :
 Calls Tryz.prog 47 #[aY c,bP ka ta aa la ca,.int .i64 au] w λe w'=>∃ s cp,e = .returned (.tuple #[.slice s la cp,.int .i64 0]) /\ dY w' s la (AY 4 c.extra A) /\ Below w.heap.size w w':=by
 obtain ⟨i0,hi,hz0,hz1,hz2⟩:=info_parts vM
 have PT:=IE ka ta au aa la ca xB hat
 obtain ⟨FW,hex,_,_⟩:=Cv h0
 obtain ⟨hle,hN,_,_⟩:=JC h1
 rw [hN,h1] at PT
 have FX:=jw au ta
 have hd0 : 0 <= aM au ta:=by unfold aM sat;omega
 generalize aM au ta = d at *
 clear hN h1 hle
 have hg0 : (d == 0) = false:=by simpa using hd
 have hg1 : decide (c.extra < d) = true:=decide_eq_true hf
 have hdd : ay c.extra:=ok.extra
 obtain ⟨P,hP⟩ : ∃ P,AY 4 c.extra A = P:=⟨_,rfl⟩
 have HP : Hid (∀ i,P i = JB 4 c.extra (A i)):=ah6 (λi=>by rw [← hP];rfl)
 rw [hP]
 have Qs:=ah6 hdd;clear hP FX hd0 hex hdd hd hf
 have hB3 : Below w.heap.size w ((w.alloc (.cells #[.int .i64 c.ring,.int .i64 c.window,.int .i64 c.base,.int .i64 c.gain,.int .i64 c.least,.int .i64 c.most,.int .i64 c.aC,.int .i64 c.num,.int .i64 c.den,.int .i64 c.extra,.bool c.aB] 29)).alloc (.cells #[.int .i64 ka,.int .i64 ta,.slice aa la ca] 36)):=(ah7).alloc (by simp) _
 have bc:=((ak.new w #[.int .i64 c.ring,.int .i64 c.window,.int .i64 c.base,.int .i64 c.gain,.int .i64 c.least,.int .i64 c.most,.int .i64 c.aC,.int .i64 c.num,.int .i64 c.den,.int .i64 c.extra,.bool c.aB] 29).alloc (.cells #[.int .i64 ka,.int .i64 ta,.slice aa la ca] 36));have ba:=ak.new (w.alloc (.cells #[.int .i64 c.ring,.int .i64 c.window,.int .i64 c.base,.int .i64 c.gain,.int .i64 c.least,.int .i64 c.most,.int .i64 c.aC,.int .i64 c.num,.int .i64 c.den,.int .i64 c.extra,.bool c.aB] 29)) #[.int .i64 ka,.int .i64 ta,.slice aa la ca] 36
 have CK:=jy c (some ⟨((w.alloc (.cells #[.int .i64 c.ring,.int .i64 c.window,.int .i64 c.base,.int .i64 c.gain,.int .i64 c.least,.int .i64 c.most,.int .i64 c.aC,.int .i64 c.num,.int .i64 c.den,.int .i64 c.extra,.bool c.aB] 29)).alloc (.cells #[.int .i64 ka,.int .i64 ta,.slice aa la ca] 36)).heap.size,0,none⟩) 1 1 _ _ _ _ _ (Jr ((w.alloc (.cells #[.int .i64 c.ring,.int .i64 c.window,.int .i64 c.base,.int .i64 c.gain,.int .i64 c.least,.int .i64 c.most,.int .i64 c.aC,.int .i64 c.num,.int .i64 c.den,.int .i64 c.extra,.bool c.aB] 29)).alloc (.cells #[.int .i64 ka,.int .i64 ta,.slice aa la ca] 36)) ka ta aa la ca A (ha.below hB3) hla) (by decide)
 have hs3 : ((w.alloc (.cells #[.int .i64 c.ring,.int .i64 c.window,.int .i64 c.base,.int .i64 c.gain,.int .i64 c.least,.int .i64 c.most,.int .i64 c.aC,.int .i64 c.num,.int .i64 c.den,.int .i64 c.extra,.bool c.aB] 29)).alloc (.cells #[.int .i64 ka,.int .i64 ta,.slice aa la ca] 36)).heap.size = w.heap.size + 1 + 1:=by simp
 change Calls _ _ _ _ (λe w'=>e = .returned (.int .i64 (lQ c ka ta aa la ca A)) /\ _) at CK
 simp only [World.size_alloc] at ba
 unfold aY at CK ⊢
 unfold bP
 go_enter Tryz.func47,Tryz.ntmps47
 go_wp2_with fail
 generalize ((w.alloc (.cells #[.int .i64 c.ring,.int .i64 c.window,.int .i64 c.base,.int .i64 c.gain,.int .i64 c.least,.int .i64 c.most,.int .i64 c.aC,.int .i64 c.num,.int .i64 c.den,.int .i64 c.extra,.bool c.aB] 29)).alloc (.cells #[.int .i64 ka,.int .i64 ta,.slice aa la ca] 36)) = W at *
 rw [hs3] at CK
 refine CK.mono ?_;rintro e w1 ⟨rfl,hb1⟩
 have hB1 : Below W.heap.size W w1:=(ah7).trans (hb1.mono (by simp))
 have HB1 : Hid (Below w.heap.size w w1):=ah6 (hB3.trans (hB1.mono hB3.size))
 have SC:=ah6 (bc.below hB1 bc.lt);have SA:=ah6 (ba.below hB1 ba.lt);clear hB3 hb1 hB1 CK bc ba hs3
 rw [h0]
 clear h0;have zI:=ha.1
 have yR : Hid (∀ k,k < la -> ∃ b off,aa = some ⟨b,off,none⟩ /\ b < w.heap.size /\ dG w b (off + k * 9) (A k)):=ah6 (λk hk=>by
  rcases ha.2 with h0 | ⟨b,off,e,hb,hc⟩
  ·omega
  ·exact ⟨b,off,e,hb,hc k hk⟩)
 obtain ⟨a0,a1,a2⟩:=fM SA.out
 go_wp2_with fail
 refine (PT _).mono ?_;rintro e w2 ⟨rfl,hb2⟩
 have pX:=ah6 (SC.out.below hb2 SC.out.lt);clear SC;have SC:=pX;clear pX;have oF:=ah6 (SA.out.below hb2 SA.out.lt);clear SA;have SA:=oF;clear oF
 have HW0 : Hid (Below w.heap.size w w2):=ah6 (HB1.out.trans (hb2.mono HB1.out.size))
 clear hb2 a0 a1 a2 PT HB1
 obtain ⟨a0,a1,a2⟩:=fM SA.out
 obtain ⟨q0,q1,q2,q3,q4,q5,q6,q7,q8,q9,ku⟩:=eH SC.out
 go_wp2_with fail
 refine aR 3 (by kernel_rfl) (by kernel_rfl) ?_
 simp only [List.take_succ_cons,List.take_zero,List.drop_succ_cons,List.drop_zero]
 repeat (apply aF;(next=>(intro W hW K hK;have y0:=hW.cell q9;go_simp;first | exact ⟨hW,hK⟩ | exact hK));(next=>exact aO.self _);(try go_simp))
 refine aV ?_
 intro WC aL
 generalize WC = W0 at *
 have hb3 : Below w2.heap.size w2 W0:=aL
 have oF:=ah6 (SA.out.below hb3 SA.out.lt);clear SA;have SA:=oF;clear oF;have pX:=ah6 (SC.out.below hb3 SC.out.lt);clear SC;have SC:=pX;clear pX
 have HW1 : Hid (Below w.heap.size w W0):=ah6 (HW0.out.trans (hb3.mono HW0.out.size))
 clear HW0 aL hb3 a0 a1 a2 q0 q1 q2 q3 q4 q5 q6 q7 q8 q9 ku;have HW0:=HW1;clear HW1
 obtain ⟨a0,a1,a2⟩:=fM SA.out
 go_wp2_with fail
 clear a0 a1 a2
 go_loopw [12,45] (λv i wr=>∃ k : Nat,k <= la /\ i = .int .i64 k /\ wr.ownsRow W0.heap.size 52 6 v k (jJ P k) /\ Below W0.heap.size W0 wr) (λ_ i _=>la - (intOf i).toNat)
 case atStart=>exact ⟨0,Nat.zero_le _,rfl,World.ownsRow_nil _ _ _ _,Below.refl _ _⟩
 case round =>
  rename_i wr
  obtain ⟨k,hk,rfl,hown,hB⟩:=hrel
  have hsz:=hB.size
  by_cases hlt : k < la
  ·obtain ⟨b,off,EB,hbw,hc⟩:=yR.out k hlt
   subst EB
   have hcw:=hc.below (HW0.out.trans (hB.mono HW0.out.size)) hbw;have hx:=zI k hlt;have AX:=ah6 (HP.out k)
   have HL : Hid (jJ P (k + 1) = jJ P k ++ [.int .i64 (P k).id,.int .i64 (P k).px,.int .i64 (P k).py,.int .i64 (P k).pz,.int .u16 (P k).aI,.int .i64 (P k).mode]):=ah6 rfl
   have EX:=yQ (A k)
   unfold bN Jq lC at EX
   have hkl : (k : Int) < la:=by omega
   have HOWN:=ah6 hown
   have dz:=ah6 (λj e=>(hown.lt j e).2)
   have HB:=ah6 hB;have HCW:=ah6 hcw;clear hc hown hB
   generalize P k = pk at *
   generalize A k = x at *
   obtain ⟨eF,px,py,pz,vx,vy,vz,aI,gen⟩:=x
   obtain ⟨c0,c1,c2,c3,c4,c5,c6,c7,c8⟩:=hcw
   dsimp only at c0 c1 c2 c3 c4 c5 c6 c7 c8 EX
   have VG:=ah6 (Nq px py pz vx vy vz c.extra hx.px hx.py hx.pz hx.vx hx.vy hx.vz Qs.out)
   go_wp2_with fail
   refine (EX _).mono ?_;rintro e w4 ⟨rfl,hb4⟩
   have X4:=ah6 ((ak.new wr #[.int .i64 eF,.int .i64 px,.int .i64 py,.int .i64 pz,.int .i64 vx,.int .i64 vy,.int .i64 vz,.int .u16 aI,.int .u8 gen] 33).below hb4 (by simp))
   have gT : Hid (Below W0.heap.size W0 w4):=ah6 ((HB.out.alloc hsz _).trans (hb4.mono (by simp;omega)))
   have xq:=ah6 (own_below (HOWN.out.alloc _) hb4);have l4:=X4.out.lt;clear hb4 EX c0 c1 c2 c3 c4 c5 c6 c7 c8 HB HOWN
   obtain ⟨c0,c1,c2,c3,c4,c5,c6,c7,c8⟩:=gq X4.out
   have vO : Hid (pk = ⟨eF,bJ px (aQ vx c.extra),bJ py (aQ vy c.extra),bJ pz (aQ vz c.extra),aI,4⟩):=ah6 AX.out
   generalize bJ px (aQ vx c.extra) = z1 at *
   generalize bJ py (aQ vy c.extra) = z2 at *
   generalize bJ pz (aQ vz c.extra) = z3 at *
   go_wp2_with fail
   refine (VG.out _).mono ?_;rintro e w6 ⟨rfl,hb6⟩
   have P6:=ah6 ((ak.new w4 #[.int .i64 eF,.int .i64 px,.int .i64 py,.int .i64 pz,.int .u16 aI,.int .i64 0] 52).below hb6 (by simp))
   have mQ : Hid (Below W0.heap.size W0 w6):=ah6 ((gT.out.alloc gT.out.size _).trans (hb6.mono (by have:=gT.out.size;simp;omega)))
   have yS:=ah6 (own_below (xq.out.alloc _) hb6);have l6:=P6.out.lt;clear hb6 c0 c1 c2 c3 c4 c5 c6 c7 c8 gT xq X4 VG
   obtain ⟨p0,p1,p2,p3,p4,p5⟩:=nk P6.out
   obtain ⟨f0,f1,f2,f3,f4,f5⟩:=pJ P6.out
   have Z9:=EA P6.out 5 (.int .i64 4) 1 (.int .i64 z1) 2 (.int .i64 z2) 3 (.int .i64 z3)
   have xu:=ah6 (qN yS.out Z9.2 (λj e h=>by have:=dz.out j e;have h2 : j = w4.heap.size:=h;omega))
   have rR:=ah6 (mQ.out.trans (Z9.2.below mQ.out.size (by rintro i rfl;omega)))
   clear Z9
   go_wp2_with (at_builtin;refine wpList_append_own _ rfl (.tmp 60) (.tmp 62) 47 rfl W0.heap.size 52 i0 (.agg #[.int .i64 0,.int .i64 0,.int .i64 0,.int .i64 0,.int .u16 0,.int .i64 0]) 6 48 Tryz.underlying47 hi hz0 hz1 hz2 rfl (by decide) _ _ _ rfl (xu.out.alloc _) ⟨w6.heap.size,0,none⟩ 1 1 [.int .i64 eF,.int .i64 z1,.int .i64 z2,.int .i64 z3,.int .u16 aI,.int .i64 4] rfl rfl ?c1 ?c2 ?c3 ?c4 ?c5 ?_)
   case c1=>exact lD (by simp)
   case c2=>intro u hu;simp at hu;rcases hu with rfl | rfl | rfl | rfl | rfl | rfl <;> rfl
   case c3=>unfold maxLen;omega
   case c4=>omega
   case c5=>have:=rR.out.size;simp at *;omega
   intro v' kC hown' hgrow _
   have hszz:=rR.out.size
   have hB' : Hid (Below W0.heap.size W0 kC):=ah6 ((rR.out.alloc hszz _).grown hgrow (by simp at *;omega) (λj e=>(xu.out.lt j e).1))
   have HO : Hid (kC.ownsRow W0.heap.size 52 6 v' (k + 1) (jJ P (k + 1))):=ah6 (by rw [HL.out,vO.out];exact hown')
   clear hown' hgrow
   go_wp2
   go_roundw
   case rel=>exact ⟨k + 1,by omega,by go_num,HO.out,hB'.out⟩
   case measure=>simp [intOf];omega
  ·obtain rfl : k = la:=by omega
   obtain ⟨s,cp,rfl,hS⟩:=oD hown
   have HS:=ah6 hS;have sI:=ah6 (HW0.out.trans (hB.mono HW0.out.size));clear hS hown hB
   go_wp2
   exact bodyPost_ret (v:=.tuple #[.slice s k cp,.int .i64 0]) (by simp [results,Tryz.results47,go_sem]) rfl ⟨s,cp,rfl,HS.out,sI.out⟩
set_option maxHeartbeats 4000000 in
theorem YG (c : aN) (ok : c.Ok) (ka ta : Int) (aa : Option Addr) (la ca : Nat) (A : Nat -> aA) (au : Int) (w : World) (xB : ay ta) (hat : ay au) (ha : dx w aa la A) (hla : (la : Int) <= 4611686018427387904) (h0 : lQ c ka ta aa la ca A = 0) (h1 : kX ta au = 0) (hd : aM au ta ≠ 0) (hf : ¬ c.extra < aM au ta) :
 Calls Tryz.prog 47 #[aY c,bP ka ta aa la ca,.int .i64 au] w λe w'=>∃ s cp,e = .returned (.tuple #[.slice s la cp,.int .i64 0]) /\ dY w' s la (AY 3 (aM au ta) A) /\ Below w.heap.size w w':=by
 obtain ⟨i0,hi,hz0,hz1,hz2⟩:=info_parts vM
 have PT:=IE ka ta au aa la ca xB hat
 obtain ⟨FW,hex,_,_⟩:=Cv h0
 obtain ⟨hle,hN,_,_⟩:=JC h1
 rw [hN,h1] at PT
 have FX:=jw au ta
 have hd0 : 0 <= aM au ta:=by unfold aM sat;omega
 generalize aM au ta = d at *
 clear hN h1 hle
 have hg0 : (d == 0) = false:=by simpa using hd
 have hg1 : decide (c.extra < d) = false:=decide_eq_false hf
 have hg2 : decide (0 < d) = true:=decide_eq_true (by omega)
 have hdd : ay d:=FX
 obtain ⟨P,hP⟩ : ∃ P,AY 3 d A = P:=⟨_,rfl⟩
 have HP : Hid (∀ i,P i = JB 3 d (A i)):=ah6 (λi=>by rw [← hP];rfl)
 rw [hP]
 have Qs:=ah6 hdd;clear hP FX hd0 hex hdd hd hf
 have hB3 : Below w.heap.size w ((w.alloc (.cells #[.int .i64 c.ring,.int .i64 c.window,.int .i64 c.base,.int .i64 c.gain,.int .i64 c.least,.int .i64 c.most,.int .i64 c.aC,.int .i64 c.num,.int .i64 c.den,.int .i64 c.extra,.bool c.aB] 29)).alloc (.cells #[.int .i64 ka,.int .i64 ta,.slice aa la ca] 36)):=(ah7).alloc (by simp) _
 have bc:=((ak.new w #[.int .i64 c.ring,.int .i64 c.window,.int .i64 c.base,.int .i64 c.gain,.int .i64 c.least,.int .i64 c.most,.int .i64 c.aC,.int .i64 c.num,.int .i64 c.den,.int .i64 c.extra,.bool c.aB] 29).alloc (.cells #[.int .i64 ka,.int .i64 ta,.slice aa la ca] 36));have ba:=ak.new (w.alloc (.cells #[.int .i64 c.ring,.int .i64 c.window,.int .i64 c.base,.int .i64 c.gain,.int .i64 c.least,.int .i64 c.most,.int .i64 c.aC,.int .i64 c.num,.int .i64 c.den,.int .i64 c.extra,.bool c.aB] 29)) #[.int .i64 ka,.int .i64 ta,.slice aa la ca] 36
 have CK:=jy c (some ⟨((w.alloc (.cells #[.int .i64 c.ring,.int .i64 c.window,.int .i64 c.base,.int .i64 c.gain,.int .i64 c.least,.int .i64 c.most,.int .i64 c.aC,.int .i64 c.num,.int .i64 c.den,.int .i64 c.extra,.bool c.aB] 29)).alloc (.cells #[.int .i64 ka,.int .i64 ta,.slice aa la ca] 36)).heap.size,0,none⟩) 1 1 _ _ _ _ _ (Jr ((w.alloc (.cells #[.int .i64 c.ring,.int .i64 c.window,.int .i64 c.base,.int .i64 c.gain,.int .i64 c.least,.int .i64 c.most,.int .i64 c.aC,.int .i64 c.num,.int .i64 c.den,.int .i64 c.extra,.bool c.aB] 29)).alloc (.cells #[.int .i64 ka,.int .i64 ta,.slice aa la ca] 36)) ka ta aa la ca A (ha.below hB3) hla) (by decide)
 have hs3 : ((w.alloc (.cells #[.int .i64 c.ring,.int .i64 c.window,.int .i64 c.base,.int .i64 c.gain,.int .i64 c.least,.int .i64 c.most,.int .i64 c.aC,.int .i64 c.num,.int .i64 c.den,.int .i64 c.extra,.bool c.aB] 29)).alloc (.cells #[.int .i64 ka,.int .i64 ta,.slice aa la ca] 36)).heap.size = w.heap.size + 1 + 1:=by simp
 change Calls _ _ _ _ (λe w'=>e = .returned (.int .i64 (lQ c ka ta aa la ca A)) /\ _) at CK
 simp only [World.size_alloc] at ba
 unfold aY at CK ⊢
 unfold bP
 go_enter Tryz.func47,Tryz.ntmps47
 go_wp2_with fail
 generalize ((w.alloc (.cells #[.int .i64 c.ring,.int .i64 c.window,.int .i64 c.base,.int .i64 c.gain,.int .i64 c.least,.int .i64 c.most,.int .i64 c.aC,.int .i64 c.num,.int .i64 c.den,.int .i64 c.extra,.bool c.aB] 29)).alloc (.cells #[.int .i64 ka,.int .i64 ta,.slice aa la ca] 36)) = W at *
 rw [hs3] at CK
 refine CK.mono ?_;rintro e w1 ⟨rfl,hb1⟩
 have hB1 : Below W.heap.size W w1:=(ah7).trans (hb1.mono (by simp))
 have HB1 : Hid (Below w.heap.size w w1):=ah6 (hB3.trans (hB1.mono hB3.size))
 have SC:=ah6 (bc.below hB1 bc.lt);have SA:=ah6 (ba.below hB1 ba.lt);clear hB3 hb1 hB1 CK bc ba hs3
 rw [h0]
 clear h0;have zI:=ha.1
 have yR : Hid (∀ k,k < la -> ∃ b off,aa = some ⟨b,off,none⟩ /\ b < w.heap.size /\ dG w b (off + k * 9) (A k)):=ah6 (λk hk=>by
  rcases ha.2 with h0 | ⟨b,off,e,hb,hc⟩
  ·omega
  ·exact ⟨b,off,e,hb,hc k hk⟩)
 obtain ⟨a0,a1,a2⟩:=fM SA.out
 go_wp2_with fail
 refine (PT _).mono ?_;rintro e W0 ⟨rfl,hb2⟩
 have pX:=ah6 (SC.out.below hb2 SC.out.lt);clear SC;have SC:=pX;clear pX;have oF:=ah6 (SA.out.below hb2 SA.out.lt);clear SA;have SA:=oF;clear oF
 have HW0 : Hid (Below w.heap.size w W0):=ah6 (HB1.out.trans (hb2.mono HB1.out.size))
 clear hb2 a0 a1 a2 PT HB1
 obtain ⟨a0,a1,a2⟩:=fM SA.out
 obtain ⟨q0,q1,q2,q3,q4,q5,q6,q7,q8,q9,ku⟩:=eH SC.out
 go_wp2_with fail
 clear a0 a1 a2 q0 q1 q2 q3 q4 q5 q6 q7 q8 q9 ku
 go_loopw [12,45] (λv i wr=>∃ k : Nat,k <= la /\ i = .int .i64 k /\ wr.ownsRow W0.heap.size 52 6 v k (jJ P k) /\ Below W0.heap.size W0 wr) (λ_ i _=>la - (intOf i).toNat)
 case atStart=>exact ⟨0,Nat.zero_le _,rfl,World.ownsRow_nil _ _ _ _,Below.refl _ _⟩
 case round =>
  rename_i wr
  obtain ⟨k,hk,rfl,hown,hB⟩:=hrel
  have hsz:=hB.size
  by_cases hlt : k < la
  ·obtain ⟨b,off,EB,hbw,hc⟩:=yR.out k hlt
   subst EB
   have hcw:=hc.below (HW0.out.trans (hB.mono HW0.out.size)) hbw;have hx:=zI k hlt;have AX:=ah6 (HP.out k)
   have HL : Hid (jJ P (k + 1) = jJ P k ++ [.int .i64 (P k).id,.int .i64 (P k).px,.int .i64 (P k).py,.int .i64 (P k).pz,.int .u16 (P k).aI,.int .i64 (P k).mode]):=ah6 rfl
   have EX:=yQ (A k)
   unfold bN Jq lC at EX
   have hkl : (k : Int) < la:=by omega
   have HOWN:=ah6 hown
   have dz:=ah6 (λj e=>(hown.lt j e).2)
   have HB:=ah6 hB;have HCW:=ah6 hcw;clear hc hown hB
   generalize P k = pk at *
   generalize A k = x at *
   obtain ⟨eF,px,py,pz,vx,vy,vz,aI,gen⟩:=x
   obtain ⟨c0,c1,c2,c3,c4,c5,c6,c7,c8⟩:=hcw
   dsimp only at c0 c1 c2 c3 c4 c5 c6 c7 c8 EX
   have VG:=ah6 (Nq px py pz vx vy vz d hx.px hx.py hx.pz hx.vx hx.vy hx.vz Qs.out)
   go_wp2_with fail
   refine (EX _).mono ?_;rintro e w4 ⟨rfl,hb4⟩
   have X4:=ah6 ((ak.new wr #[.int .i64 eF,.int .i64 px,.int .i64 py,.int .i64 pz,.int .i64 vx,.int .i64 vy,.int .i64 vz,.int .u16 aI,.int .u8 gen] 33).below hb4 (by simp))
   have gT : Hid (Below W0.heap.size W0 w4):=ah6 ((HB.out.alloc hsz _).trans (hb4.mono (by simp;omega)))
   have xq:=ah6 (own_below (HOWN.out.alloc _) hb4);have l4:=X4.out.lt;clear hb4 EX c0 c1 c2 c3 c4 c5 c6 c7 c8 HB HOWN
   obtain ⟨c0,c1,c2,c3,c4,c5,c6,c7,c8⟩:=gq X4.out
   have vO : Hid (pk = ⟨eF,bJ px (aQ vx d),bJ py (aQ vy d),bJ pz (aQ vz d),aI,3⟩):=ah6 AX.out
   generalize bJ px (aQ vx d) = z1 at *
   generalize bJ py (aQ vy d) = z2 at *
   generalize bJ pz (aQ vz d) = z3 at *
   go_wp2_with fail
   refine (VG.out _).mono ?_;rintro e w6 ⟨rfl,hb6⟩
   have P6:=ah6 ((ak.new w4 #[.int .i64 eF,.int .i64 px,.int .i64 py,.int .i64 pz,.int .u16 aI,.int .i64 0] 52).below hb6 (by simp))
   have mQ : Hid (Below W0.heap.size W0 w6):=ah6 ((gT.out.alloc gT.out.size _).trans (hb6.mono (by have:=gT.out.size;simp;omega)))
   have yS:=ah6 (own_below (xq.out.alloc _) hb6);have l6:=P6.out.lt;clear hb6 c0 c1 c2 c3 c4 c5 c6 c7 c8 gT xq X4 VG
   obtain ⟨p0,p1,p2,p3,p4,p5⟩:=nk P6.out
   obtain ⟨f0,f1,f2,f3,f4,f5⟩:=pJ P6.out
   have Z9:=EA P6.out 5 (.int .i64 3) 1 (.int .i64 z1) 2 (.int .i64 z2) 3 (.int .i64 z3)
   have xu:=ah6 (qN yS.out Z9.2 (λj e h=>by have:=dz.out j e;have h2 : j = w4.heap.size:=h;omega))
   have rR:=ah6 (mQ.out.trans (Z9.2.below mQ.out.size (by rintro i rfl;omega)))
   clear Z9
   go_wp2_with (at_builtin;refine wpList_append_own _ rfl (.tmp 60) (.tmp 62) 47 rfl W0.heap.size 52 i0 (.agg #[.int .i64 0,.int .i64 0,.int .i64 0,.int .i64 0,.int .u16 0,.int .i64 0]) 6 48 Tryz.underlying47 hi hz0 hz1 hz2 rfl (by decide) _ _ _ rfl (xu.out.alloc _) ⟨w6.heap.size,0,none⟩ 1 1 [.int .i64 eF,.int .i64 z1,.int .i64 z2,.int .i64 z3,.int .u16 aI,.int .i64 3] rfl rfl ?c1 ?c2 ?c3 ?c4 ?c5 ?_)
   case c1=>exact lD (by simp)
   case c2=>intro u hu;simp at hu;rcases hu with rfl | rfl | rfl | rfl | rfl | rfl <;> rfl
   case c3=>unfold maxLen;omega
   case c4=>omega
   case c5=>have:=rR.out.size;simp at *;omega
   intro v' kC hown' hgrow _
   have hszz:=rR.out.size
   have hB' : Hid (Below W0.heap.size W0 kC):=ah6 ((rR.out.alloc hszz _).grown hgrow (by simp at *;omega) (λj e=>(xu.out.lt j e).1))
   have HO : Hid (kC.ownsRow W0.heap.size 52 6 v' (k + 1) (jJ P (k + 1))):=ah6 (by rw [HL.out,vO.out];exact hown')
   clear hown' hgrow
   go_wp2
   go_roundw
   case rel=>exact ⟨k + 1,by omega,by go_num,HO.out,hB'.out⟩
   case measure=>simp [intOf];omega
  ·obtain rfl : k = la:=by omega
   obtain ⟨s,cp,rfl,hS⟩:=oD hown
   have HS:=ah6 hS;have sI:=ah6 (HW0.out.trans (hB.mono HW0.out.size));clear hS hown hB
   go_wp2
   exact bodyPost_ret (v:=.tuple #[.slice s k cp,.int .i64 0]) (by simp [results,Tryz.results47,go_sem]) rfl ⟨s,cp,rfl,HS.out,sI.out⟩
end Go.Proofs.YtklkooeimkedgaaGreat
