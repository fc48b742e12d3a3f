/- Walk of TopBeyond. -/
import Derived.Test.YtklkooeimkedgaaGreatB16
import Derived.Test.YtklkooeimkedgaaGreatB28
import Derived.Test.YtklkooeimkedgaaGreatB30
set_option linter.unusedVariables false
set_option linter.unusedSimpArgs false
namespace Go.Proofs.YtklkooeimkedgaaGreat
open Go.RowKit
set_option maxRecDepth 8000
structure Po where
 id : Int
 px : Int
 py : Int
 pz : Int
 aJ : Int
 mode : Int
def Ju (p : Po) : Value:=.agg #[.int .i64 (p).id,.int .i64 (p).px,.int .i64 (p).py,.int .i64 (p).pz,.int .u16 (p).aJ,.int .i64 (p).mode]
def uE (e : aB) : Po:=⟨e.id,e.px,e.py,e.pz,e.aJ,0⟩
theorem yQ (e : aB) (w : World) : Calls Tryz.prog 94 #[bM e] w λe' w'=>e' = .returned (Ju (uE e)) /\ Below w.heap.size w w':=by
 obtain ⟨eH,px,py,pz,vx,vy,vz,aJ,gen⟩:=e
 unfold bM Ju uE
 dsimp only
 go_enter Tryz.func94,Tryz.ntmps94
 go_wp2
 exact bodyPost_ret (v:=.agg #[.int .i64 eH,.int .i64 px,.int .i64 py,.int .i64 pz,.int .u16 aJ,.int .i64 0]) (by simp [results,Tryz.results94,go_sem]) rfl ⟨rfl,by (repeat (first | exact Below.refl _ _ | assumption | (refine Below.drew ?_) | (refine below_drewN ?_ _) | (refine Below.alloc ?_ (by simp <;> omega) _) | (refine Below.setCell ?_ (by simp <;> omega) _)))⟩
theorem Ma (w : World) : Calls Tryz.prog 254 #[.agg #[]] w λe w'=>e = .returned (.int .i64 1) /\ Below w.heap.size w w':=by
 go_enter Tryz.func254,Tryz.ntmps254
 go_wp2
 go_ret
 exact ⟨rfl,by (repeat (first | exact Below.refl _ _ | assumption | (refine Below.drew ?_) | (refine below_drewN ?_ _) | (refine Below.alloc ?_ (by simp <;> omega) _) | (refine Below.setCell ?_ (by simp <;> omega) _)))⟩
theorem Mc (w : World) : Calls Tryz.prog 247 #[.agg #[]] w λe w'=>e = .returned (.int .i64 2) /\ Below w.heap.size w w':=by
 go_enter Tryz.func247,Tryz.ntmps247
 go_wp2
 go_ret
 exact ⟨rfl,by (repeat (first | exact Below.refl _ _ | assumption | (refine Below.drew ?_) | (refine below_drewN ?_ _) | (refine Below.alloc ?_ (by simp <;> omega) _) | (refine Below.setCell ?_ (by simp <;> omega) _)))⟩
theorem Uc (x y : aB) (num den : Int) (hx : x.Ok) (hy : y.Ok) (h : iJ num den = true) (w : World) :
 Calls Tryz.prog 255 #[.agg #[],bM x,bM y,.int .i64 num,.int .i64 den] w λe w'=>e = .returned (v3 (cO x.px y.px num den) (cO x.py y.py num den) (cO x.pz y.pz num den)) /\ Below w.heap.size w w':=by
 have c:=Xx x.px x.py x.pz y.px y.py y.pz num den hx.px hx.py hx.pz hy.px hy.py hy.pz h
 generalize cO x.px y.px num den = r0 at *
 generalize cO x.py y.py num den = r1 at *
 generalize cO x.pz y.pz num den = r2 at *
 obtain ⟨eH,px,py,pz,vx,vy,vz,aJ,gen⟩:=x
 obtain ⟨nI,qx,qy,qz,ux,uy,uz,iw,iy⟩:=y
 unfold bM
 dsimp only at c ⊢
 clear hx hy h
 go_enter Tryz.func255,Tryz.ntmps255
 go_wp2_with fail
 have hB0 : Below w.heap.size w ((((w.alloc (.cells #[] 233)).alloc (.cells #[.int .i64 eH,.int .i64 px,.int .i64 py,.int .i64 pz,.int .i64 vx,.int .i64 vy,.int .i64 vz,.int .u16 aJ,.int .u8 gen] 33)).alloc (.cells #[.int .i64 nI,.int .i64 qx,.int .i64 qy,.int .i64 qz,.int .i64 ux,.int .i64 uy,.int .i64 uz,.int .u16 iw,.int .u8 iy] 33)).alloc (.cells #[.int .i64 0,.int .i64 0,.int .i64 0] 22)):=by (repeat (first | exact Below.refl _ _ | assumption | (refine Below.drew ?_) | (refine below_drewN ?_ _) | (refine Below.alloc ?_ (by simp <;> omega) _) | (refine Below.setCell ?_ (by simp <;> omega) _)))
 have B4:=ak.new (((w.alloc (.cells #[] 233)).alloc (.cells #[.int .i64 eH,.int .i64 px,.int .i64 py,.int .i64 pz,.int .i64 vx,.int .i64 vy,.int .i64 vz,.int .u16 aJ,.int .u8 gen] 33)).alloc (.cells #[.int .i64 nI,.int .i64 qx,.int .i64 qy,.int .i64 qz,.int .i64 ux,.int .i64 uy,.int .i64 uz,.int .u16 iw,.int .u8 iy] 33)) #[.int .i64 0,.int .i64 0,.int .i64 0] 22
 refine (c _).mono ?_;rintro e w1 ⟨rfl,hb1⟩
 have HB1 : Hid (Below w.heap.size w w1):=aiS (hB0.trans (hb1.mono hB0.size))
 have rQ:=B4.below hb1 B4.lt
 simp only [World.size_alloc] at rQ
 have hs:=HB1.out.size;clear hB0 B4 hb1 c
 have r4:=rQ.cell 0;have r5:=rQ.cell 1;have r6:=rQ.cell 2
 have f4:=rQ.free 0;have f5:=rQ.free 1;have f6:=rQ.free 2
 have hl:=rQ.lt;simp at r4 r5 r6;clear rQ
 go_wp2
 have HB2:=HB1.out
 exact bodyPost_ret (v:=v3 r0 r1 r2) (by simp [results,Tryz.results255,go_sem, *]) rfl ⟨rfl,by (repeat (first | exact Below.refl _ _ | assumption | (refine Below.drew ?_) | (refine below_drewN ?_ _) | (refine Below.alloc ?_ (by simp <;> omega) _) | (refine Below.setCell ?_ (by simp <;> omega) _)))⟩
theorem Ud (x y : aB) (num den : Int) (hx : x.Ok) (hy : y.Ok) (h : iJ num den = true) (w : World) :
 Calls Tryz.prog 248 #[.agg #[],bM x,bM y,.int .i64 num,.int .i64 den] w λe w'=>e = .returned (v3 (dQ x.px x.vx y.px y.vx num den) (dQ x.py x.vy y.py y.vy num den) (dQ x.pz x.vz y.pz y.vz num den)) /\ Below w.heap.size w w':=by
 have c:=YZ x.px x.py x.pz x.vx x.vy x.vz y.px y.py y.pz y.vx y.vy y.vz num den hx.px hx.py hx.pz hx.vx hx.vy hx.vz hy.px hy.py hy.pz hy.vx hy.vy hy.vz h
 generalize dQ x.px x.vx y.px y.vx num den = r0 at *
 generalize dQ x.py x.vy y.py y.vy num den = r1 at *
 generalize dQ x.pz x.vz y.pz y.vz num den = r2 at *
 obtain ⟨eH,px,py,pz,vx,vy,vz,aJ,gen⟩:=x
 obtain ⟨nI,qx,qy,qz,ux,uy,uz,iw,iy⟩:=y
 unfold bM
 dsimp only at c ⊢
 clear hx hy h
 go_enter Tryz.func248,Tryz.ntmps248
 go_wp2_with fail
 have hB0 : Below w.heap.size w ((((w.alloc (.cells #[] 232)).alloc (.cells #[.int .i64 eH,.int .i64 px,.int .i64 py,.int .i64 pz,.int .i64 vx,.int .i64 vy,.int .i64 vz,.int .u16 aJ,.int .u8 gen] 33)).alloc (.cells #[.int .i64 nI,.int .i64 qx,.int .i64 qy,.int .i64 qz,.int .i64 ux,.int .i64 uy,.int .i64 uz,.int .u16 iw,.int .u8 iy] 33)).alloc (.cells #[.int .i64 0,.int .i64 0,.int .i64 0] 22)):=by (repeat (first | exact Below.refl _ _ | assumption | (refine Below.drew ?_) | (refine below_drewN ?_ _) | (refine Below.alloc ?_ (by simp <;> omega) _) | (refine Below.setCell ?_ (by simp <;> omega) _)))
 have B4:=ak.new (((w.alloc (.cells #[] 232)).alloc (.cells #[.int .i64 eH,.int .i64 px,.int .i64 py,.int .i64 pz,.int .i64 vx,.int .i64 vy,.int .i64 vz,.int .u16 aJ,.int .u8 gen] 33)).alloc (.cells #[.int .i64 nI,.int .i64 qx,.int .i64 qy,.int .i64 qz,.int .i64 ux,.int .i64 uy,.int .i64 uz,.int .u16 iw,.int .u8 iy] 33)) #[.int .i64 0,.int .i64 0,.int .i64 0] 22
 refine (c _).mono ?_;rintro e w1 ⟨rfl,hb1⟩
 have HB1 : Hid (Below w.heap.size w w1):=aiS (hB0.trans (hb1.mono hB0.size))
 have rQ:=B4.below hb1 B4.lt
 simp only [World.size_alloc] at rQ
 have hs:=HB1.out.size;clear hB0 B4 hb1 c
 have r4:=rQ.cell 0;have r5:=rQ.cell 1;have r6:=rQ.cell 2
 have f4:=rQ.free 0;have f5:=rQ.free 1;have f6:=rQ.free 2
 have hl:=rQ.lt;simp at r4 r5 r6;clear rQ
 go_wp2
 have HB2:=HB1.out
 exact bodyPost_ret (v:=v3 r0 r1 r2) (by simp [results,Tryz.results248,go_sem, *]) rfl ⟨rfl,by (repeat (first | exact Below.refl _ _ | assumption | (refine Below.drew ?_) | (refine below_drewN ?_ _) | (refine Below.alloc ?_ (by simp <;> omega) _) | (refine Below.setCell ?_ (by simp <;> omega) _)))⟩
def qI (w : World) (s : Option Addr) (len : Nat) (K T : Nat -> Int) (E : Nat -> Option Addr × Nat × Nat) (EE : Nat -> Nat -> aB) : Prop :=
 iC w s len K T E /\ ∀ i,i < len -> dw w (E i).1 (E i).2.1 (EE i) /\ ((E i).2.1 : Int) <= 4611686018427387904
theorem qI.below {w w' : World} {s : Option Addr} {len : Nat} {K T : Nat -> Int} {E : Nat -> Option Addr × Nat × Nat} {EE : Nat -> Nat -> aB} (h : qI w s len K T E EE) (hb : Below w.heap.size w w') : qI w' s len K T E EE :=
 ⟨h.1.below hb,λi hi=>⟨(h.2 i hi).1.below hb,(h.2 i hi).2⟩⟩
def nR (K T : Nat -> Int) (E : Nat -> Option Addr × Nat × Nat) (EE : Nat -> Nat -> aB) : Nat -> Nat -> Int
 | 0,_=>0
 | n + 1,i=>if dh (K i) (T i) (E i).2.1 (EE i) = 0 then nR K T E EE n (i + 1) else dh (K i) (T i) (E i).2.1 (EE i)
def gD (c : aO) (K T : Nat -> Int) (E : Nat -> Option Addr × Nat × Nat) (EE : Nat -> Nat -> aB) (len : Nat) : Int:=if dB c = 0 then nR K T E EE len 0 else dB c
set_option maxHeartbeats 1000000 in
theorem jr (c : aO) (s : Option Addr) (len cap : Nat) (K T : Nat -> Int) (E : Nat -> Option Addr × Nat × Nat) (EE : Nat -> Nat -> aB) (w : World) (h : qI w s len K T E EE) (hlen : (len : Int) <= 4611686018427387904) :
 Calls Tryz.prog 45 #[aZ c,.slice s len cap] w λe w'=>e = .returned (.int .i64 (gD c K T E EE len)) /\ Below w.heap.size w w':=by
 have CC:=DV c
 obtain ⟨hs,he⟩:=h
 have HE:=aiS he
 unfold aZ at CC ⊢
 clear he
 by_cases hc : dB c = 0
 ·have HP : Hid (gD c K T E EE len = nR K T E EE len 0):=aiS (by unfold gD;rw [if_pos hc])
  rw [hc] at CC
  generalize gD c K T E EE len = r at *
  clear hc
  rcases hs with hz | ⟨b,off,rfl,hb,hcs⟩
  all_goals
   go_enter Tryz.func45,Tryz.ntmps45
   go_wp2_with fail
   refine (CC _).mono ?_;rintro e w1 ⟨rfl,hb1⟩
   have HB1 : Hid (Below w.heap.size w w1):=aiS ((aiT).trans (hb1.mono (by simp)))
   clear hb1 CC
   go_wp2_with fail
   go_loopw [16] (λi wr=>∃ k : Nat,k <= len /\ i = .int .i64 k /\ nR K T E EE len 0 = nR K T E EE (len - k) k /\ Below w.heap.size w wr) (λi _=>len - (intOf i).toNat)
   case atStart=>exact ⟨0,Nat.zero_le _,rfl,rfl,HB1.out⟩
   case round =>
    rename_i wr
    obtain ⟨k,hk,rfl,hch,hB⟩:=hrel
    have hsz:=hB.size
    by_cases hlt : k < len
    ·first
     | (exfalso;omega)
     | (obtain ⟨n,hn⟩ : ∃ n,len - k = n + 1:=⟨len - k - 1,by omega⟩
        have hn2 : len - (k + 1) = n:=by omega
        rw [hn] at hch
        obtain ⟨d0,d1,d2⟩:=hcs k hlt
        have c0:=(hB.cell (p:=⟨b,off + k * 3,none⟩) hb).trans d0;have c1:=(hB.cell (p:=⟨b,off + k * 3 + 1,none⟩) hb).trans d1;have c2:=(hB.cell (p:=⟨b,off + k * 3 + 2,none⟩) hb).trans d2
        obtain ⟨he1,he2⟩:=HE.out k hlt
        have DC:=aiS (λw' (hw : Below w.heap.size w w')=>DN (K k) (T k) (E k).1 (E k).2.1 (E k).2.2 (EE k) w' (he1.below hw) he2)
        unfold bO at DC
        have iN : Hid (nR K T E EE len 0 = if dh (K k) (T k) (E k).2.1 (EE k) = 0 then nR K T E EE n (k + 1) else dh (K k) (T k) (E k).2.1 (EE k)):=aiS hch
        have HC:=aiS hcs;have HB:=aiS hB
        have hlt' : (k : Int) < len:=by omega
        clear hch hcs hn d0 d1 d2 he1 he2 hB
        generalize dh (K k) (T k) (E k).2.1 (EE k) = sc at *
        generalize K k = kk at *
        generalize T k = tt at *
        generalize (E k).1 = ea at *
        generalize (E k).2.1 = el at *
        generalize (E k).2.2 = ec at *
        have dc:=DC.out _ (HB.out.alloc hsz (.cells #[.int .i64 kk,.int .i64 tt,.slice ea el ec] 36))
        by_cases r0 : sc = 0
        ·have HF : Hid (nR K T E EE len 0 = nR K T E EE n (k + 1)):=aiS (by rw [iN.out,if_pos r0])
         subst r0
         clear iN
         go_wp2_with fail
         refine dc.mono ?_;rintro e w2 ⟨rfl,hb2⟩
         have HB2:=aiS ((HB.out.alloc hsz _).trans (hb2.mono (by simp;omega)))
         clear hb2 dc c0 c1 c2
         go_wp2
         go_roundw
         case rel=>exact ⟨k + 1,by omega,by go_num,by rw [hn2];exact HF.out,HB2.out⟩
         case measure=>simp [intOf];omega
        ·have HF : Hid (nR K T E EE len 0 = sc):=aiS (by rw [iN.out,if_neg r0])
         have r1 : (sc != 0) = true:=by simpa using r0
         clear iN r0
         go_wp2_with fail
         refine dc.mono ?_;rintro e w2 ⟨rfl,hb2⟩
         have HB2:=aiS ((HB.out.alloc hsz _).trans (hb2.mono (by simp;omega)))
         clear hb2 dc c0 c1 c2
         go_wp2
         go_ret
         exact ⟨aR (by rw [HP.out,HF.out]),HB2.out⟩)
    ·obtain rfl : k = len:=by omega
     have HF : Hid (nR K T E EE k 0 = 0):=aiS (by rw [hch,Nat.sub_self];rfl)
     clear hch
     go_wp2
     go_ret
     exact ⟨aR (by rw [HP.out,HF.out]),hB⟩
 ·have HP : Hid (gD c K T E EE len = dB c):=aiS (by unfold gD;rw [if_neg hc])
  generalize gD c K T E EE len = r at *
  generalize dB c = cc at *
  have hc1 : (cc != 0) = true:=by simpa using hc
  clear hc
  go_enter Tryz.func45,Tryz.ntmps45
  go_wp2_with fail
  refine (CC _).mono ?_;rintro e w1 ⟨rfl,hb1⟩
  have HB1 : Hid (Below w.heap.size w w1):=aiS ((aiT).trans (hb1.mono (by simp)))
  clear hb1 CC
  go_wp2
  go_ret
  exact ⟨aR HP.out.symm,HB1.out⟩
set_option maxRecDepth 8000
theorem XD (c : aO) (h : c.aC = false) (w : World) :
 Calls Tryz.prog 97 #[aZ c] w λe w'=>e = .returned (.iface 233 (.agg #[])) /\ Below w.heap.size w w':=by
 unfold aZ
 go_enter Tryz.func97,Tryz.ntmps97
 go_wp2
 go_ret
 exact ⟨rfl,by (repeat (first | exact Below.refl _ _ | assumption | (refine Below.drew ?_) | (refine below_drewN ?_ _) | (refine Below.alloc ?_ (by simp <;> omega) _) | (refine Below.setCell ?_ (by simp <;> omega) _)))⟩
theorem Qs (c : aO) (h : c.aC = true) (w : World) :
 Calls Tryz.prog 97 #[aZ c] w λe w'=>e = .returned (.iface 232 (.agg #[])) /\ Below w.heap.size w w':=by
 unfold aZ
 go_enter Tryz.func97,Tryz.ntmps97
 go_wp2
 go_ret
 exact ⟨rfl,by (repeat (first | exact Below.refl _ _ | assumption | (refine Below.drew ?_) | (refine below_drewN ?_ _) | (refine Below.alloc ?_ (by simp <;> omega) _) | (refine Below.setCell ?_ (by simp <;> omega) _)))⟩
def mF (w : World) (b o : Nat) (p : Po) : Prop:=w.cell? ⟨b,o,none⟩ = some (.int .i64 (p).id) /\ w.cell? ⟨b,o + 1,none⟩ = some (.int .i64 (p).px) /\ w.cell? ⟨b,o + 2,none⟩ = some (.int .i64 (p).py) /\ w.cell? ⟨b,o + 3,none⟩ = some (.int .i64 (p).pz) /\ w.cell? ⟨b,o + 4,none⟩ = some (.int .u16 (p).aJ) /\ w.cell? ⟨b,o + 5,none⟩ = some (.int .i64 (p).mode)
def dZ (w : World) (s : Option Addr) (n : Nat) (P : Nat -> Po) : Prop :=
 n = 0 \/ ∃ b off,s = some ⟨b,off,none⟩ /\ b < w.heap.size /\ ∀ i,i < n -> mF w b (off + i * 6) (P i)
theorem mF.below {w w' : World} {b o : Nat} {p : Po} (h : mF w b o p) (hb : Below w.heap.size w w') (hl : b < w.heap.size) : mF w' b o p:=by
 unfold mF at *
 refine ⟨?_,?_,?_,?_,?_,?_⟩ <;> (rw [hb.cell (by simpa using hl)];first | exact h.1 | exact h.2.1 | exact h.2.2.1 | exact h.2.2.2.1 | exact h.2.2.2.2.1 | exact h.2.2.2.2.2)
theorem dZ.below {w w' : World} {s : Option Addr} {n : Nat} {P : Nat -> Po} (h : dZ w s n P) (hb : Below w.heap.size w w') : dZ w' s n P:=by
 rcases h with h | ⟨b,off,e,hl,hc⟩
 ·exact .inl h
 ·exact .inr ⟨b,off,e,Nat.lt_of_lt_of_le hl hb.size,λi hi=>(hc i hi).below hb hl⟩
def jG (P : Nat -> Po) : Nat -> List Value
 | 0=>[]
 | k + 1=>jG P k ++ [.int .i64 (P k).id,.int .i64 (P k).px,.int .i64 (P k).py,.int .i64 (P k).pz,.int .u16 (P k).aJ,.int .i64 (P k).mode]
theorem EG (P : Nat -> Po) : ∀ k,(jG P k).length = k * 6
 | 0=>rfl
 | k + 1=>by rw [jG,List.length_append,EG P k];simp;omega
theorem Qt (P : Nat -> Po) : ∀ k i,i < k -> (jG P k)[i * 6]? = some (.int .i64 (P i).id) /\ (jG P k)[i * 6 + 1]? = some (.int .i64 (P i).px) /\ (jG P k)[i * 6 + 2]? = some (.int .i64 (P i).py) /\ (jG P k)[i * 6 + 3]? = some (.int .i64 (P i).pz) /\ (jG P k)[i * 6 + 4]? = some (.int .u16 (P i).aJ) /\ (jG P k)[i * 6 + 5]? = some (.int .i64 (P i).mode)
 | 0,i,h=>by omega
 | k + 1,i,h=>by
   have hl:=EG P k
   rw [jG]
   by_cases e : i = k
   ·subst e
    rw [List.getElem?_append_right (by omega),List.getElem?_append_right (by omega),List.getElem?_append_right (by omega),List.getElem?_append_right (by omega),List.getElem?_append_right (by omega),List.getElem?_append_right (by omega),hl,show i * 6 - i * 6 = 0 by omega,show i * 6 + 1 - i * 6 = 1 by omega,show i * 6 + 2 - i * 6 = 2 by omega,show i * 6 + 3 - i * 6 = 3 by omega,show i * 6 + 4 - i * 6 = 4 by omega,show i * 6 + 5 - i * 6 = 5 by omega]
    exact ⟨rfl,rfl,rfl,rfl,rfl,rfl⟩
   ·rw [List.getElem?_append_left (by omega),List.getElem?_append_left (by omega),List.getElem?_append_left (by omega),List.getElem?_append_left (by omega),List.getElem?_append_left (by omega),List.getElem?_append_left (by omega)]
    exact Qt P k i (by omega)
theorem oF {w : World} {base : Nat} {v : Value} {k : Nat} {P : Nat -> Po} (h : w.ownsRow base 52 6 v k (jG P k)) :
 ∃ s cp,v = .slice s k cp /\ dZ w s k P:=by
 have h':=h
 obtain ⟨_,⟨rfl,rfl⟩ | ⟨g,cap,cur,rfl,hb,hg,hk,hm,hs,ht⟩⟩:=h'
 ·exact ⟨none,0,rfl,.inl rfl⟩
 ·refine ⟨_,_,rfl,.inr ⟨g,0,rfl,?_,λi hi=>?_⟩⟩
  ·exact (Array.getElem?_eq_some_iff.1 hg).1
  ·obtain ⟨a0,a1,a2,a3,a4,a5⟩:=Qt P k i hi
   have c:=h.cells (g:=g) rfl
   have e : ∀ j,(⟨g,0,none⟩ : Addr).add j = ⟨g,0 + j,none⟩:=λj=>by unfold Addr.add;split <;> simp_all
   exact ⟨by rw [← e];exact c _ _ a0,by rw [Nat.add_assoc,← e];exact c _ _ a1,by rw [Nat.add_assoc,← e];exact c _ _ a2,by rw [Nat.add_assoc,← e];exact c _ _ a3,by rw [Nat.add_assoc,← e];exact c _ _ a4,by rw [Nat.add_assoc,← e];exact c _ _ a5⟩
theorem own_below {w w' : World} {base : Nat} {e : TypeId} {size : Nat} {v : Value} {n : Nat} {xs : List Value} (h : w.ownsRow base e size v n xs) (hb : Below w.heap.size w w') : w'.ownsRow base e size v n xs:=by
 obtain ⟨h1,h2⟩:=h
 refine ⟨h1,?_⟩
 rcases h2 with h2 | ⟨g,cap,cur,hv,hg,hh,r⟩
 ·exact Or.inl h2
 ·exact Or.inr ⟨g,cap,cur,hv,hg,by rw [hb.block g (Array.getElem?_eq_some_iff.1 hh).1];exact hh,r⟩
theorem gq {w : World} {b : Nat} {t : TypeId} {x0 x1 x2 x3 x4 x5 x6 x7 x8 : Value} (h : ak w b #[x0,x1,x2,x3,x4,x5,x6,x7,x8] t) :
 w.cell? ⟨b,0,none⟩ = some x0 /\ w.cell? ⟨b,1,none⟩ = some x1 /\ w.cell? ⟨b,2,none⟩ = some x2 /\ w.cell? ⟨b,3,none⟩ = some x3 /\ w.cell? ⟨b,4,none⟩ = some x4 /\ w.cell? ⟨b,5,none⟩ = some x5 /\ w.cell? ⟨b,6,none⟩ = some x6 /\ w.cell? ⟨b,7,none⟩ = some x7 /\ w.cell? ⟨b,8,none⟩ = some x8 :=
 ⟨by simpa using h.cell 0,by simpa using h.cell 1,by simpa using h.cell 2,by simpa using h.cell 3,by simpa using h.cell 4,by simpa using h.cell 5,by simpa using h.cell 6,by simpa using h.cell 7,by simpa using h.cell 8⟩
theorem nk {w : World} {b : Nat} {t : TypeId} {x0 x1 x2 x3 x4 x5 : Value} (h : ak w b #[x0,x1,x2,x3,x4,x5] t) :
 w.cell? ⟨b,0,none⟩ = some x0 /\ w.cell? ⟨b,1,none⟩ = some x1 /\ w.cell? ⟨b,2,none⟩ = some x2 /\ w.cell? ⟨b,3,none⟩ = some x3 /\ w.cell? ⟨b,4,none⟩ = some x4 /\ w.cell? ⟨b,5,none⟩ = some x5 :=
 ⟨by simpa using h.cell 0,by simpa using h.cell 1,by simpa using h.cell 2,by simpa using h.cell 3,by simpa using h.cell 4,by simpa using h.cell 5⟩
theorem pO {w : World} {b : Nat} {t : TypeId} {cs : Array Value} (h : ak w b cs t) :
 w.frozen? ⟨b,0,none⟩ = false /\ w.frozen? ⟨b,1,none⟩ = false /\ w.frozen? ⟨b,2,none⟩ = false /\ w.frozen? ⟨b,3,none⟩ = false /\ w.frozen? ⟨b,4,none⟩ = false /\ w.frozen? ⟨b,5,none⟩ = false :=
 ⟨h.free 0,h.free 1,h.free 2,h.free 3,h.free 4,h.free 5⟩
theorem fO {w : World} {b : Nat} {t : TypeId} {x0 x1 x2 : Value} (h : ak w b #[x0,x1,x2] t) :
 w.cell? ⟨b,0,none⟩ = some x0 /\ w.cell? ⟨b,1,none⟩ = some x1 /\ w.cell? ⟨b,2,none⟩ = some x2 :=
 ⟨by simpa using h.cell 0,by simpa using h.cell 1,by simpa using h.cell 2⟩
theorem vR : (Tryz.prog.info? 52).map (λi=>(i.zero,i.size,i.bytes)) = some (some (.agg #[.int .i64 0,.int .i64 0,.int .i64 0,.int .i64 0,.int .u16 0,.int .i64 0]),6,48):=by kernel_rfl
theorem XE : bK.Ok:=by
 constructor <;> (simp only [bK];first | exact ⟨by omega,by omega⟩ | (unfold ay;omega))
theorem Qu {w : World} {a : Option Addr} {len : Nat} {E : Nat -> aB} (h : dw w a len E) (id : Int) : (wY E id len).Ok:=by
 unfold wY
 split
 ·rename_i hj;exact h.1 _ hj
 ·exact XE
theorem NH (w : World) (k0 t0 k1 t1 : Int) (a b : Option Addr) (la ca lb cb : Nat) (A B : Nat -> aB) (ha : dw w a la A) (hb : dw w b lb B) (hla : (la : Int) <= 4611686018427387904) (hlb : (lb : Int) <= 4611686018427387904) :
 qI (w.alloc (.cells #[.int .i64 k0,.int .i64 t0,.slice a la ca,.int .i64 k1,.int .i64 t1,.slice b lb cb] 36)) (some ⟨w.heap.size,0,none⟩) 2 (two k0 k1) (two t0 t1) (two (a,la,ca) (b,lb,cb)) (two A B):=by
 refine ⟨Qf w k0 t0 k1 t1 a b la ca lb cb,λi hi=>?_⟩
 have hB : Below w.heap.size w (w.alloc (.cells #[.int .i64 k0,.int .i64 t0,.slice a la ca,.int .i64 k1,.int .i64 t1,.slice b lb cb] 36)):=aiT
 match i,hi with
 | 0,_=>exact ⟨ha.below hB,hla⟩
 | 1,_=>exact ⟨hb.below hB,hlb⟩
theorem Jv (w : World) (k0 t0 : Int) (a : Option Addr) (la ca : Nat) (A : Nat -> aB) (ha : dw w a la A) (hla : (la : Int) <= 4611686018427387904) :
 qI (w.alloc (.cells #[.int .i64 k0,.int .i64 t0,.slice a la ca] 36)) (some ⟨w.heap.size,0,none⟩) 1 (λ_=>k0) (λ_=>t0) (λ_=>(a,la,ca)) (λ_=>A) :=
 ⟨Qg w k0 t0 a la ca,λi hi=>⟨ha.below (aiT),hla⟩⟩
set_option maxRecDepth 100000
theorem GJ {a b t : Int} (h : jh a b t = 0) : iJ (tV a b t) (tX a b t) = true /\ a <= t /\ t <= b /\ a < b /\ (-2305843009213693952 <= a /\ a <= 2305843009213693952) /\ (-2305843009213693952 <= b /\ b <= 2305843009213693952) /\ tV a b t = t - a /\ tX a b t = b - a:=by
 have hn : tV a b t = t - a:=by unfold tV;rw [if_pos h]
 have hd : tX a b t = b - a:=by unfold tX;rw [if_pos h]
 have hc : eD (two a b) 2 = 0:=by
  unfold jh at h
  split at h
  ·assumption
  ·assumption
 have h1 : ¬ (t < a \/ b < t):=by
  unfold jh at h
  rw [if_pos hc] at h
  intro hh;rw [if_pos hh] at h;exact absurd h (by decide)
 have b0:=rO hc (show 0 < 2 by omega)
 have b1:=rO hc (show 1 < 2 by omega)
 have b2:=Jo hc (show 0 < 1 by omega) (show 1 < 2 by omega)
 simp only [two] at b0 b1 b2
 refine ⟨?_,by omega,by omega,b2,b0,b1,hn,hd⟩
 rw [hn,hd]
 exact qW.2 ⟨by omega,by omega,by omega,by omega⟩
theorem qR {w w' : World} {S : Nat -> Prop} {base : Nat} {e : TypeId} {size : Nat} {v : Value} {n : Nat} {xs : List Value} (h : w.ownsRow base e size v n xs) (ho : Only S w w') (hS : ∀ j,v.ownBlock = some j -> ¬ S j) : w'.ownsRow base e size v n xs:=by
 obtain ⟨h1,h2⟩:=h
 refine ⟨h1,?_⟩
 rcases h2 with h2 | ⟨g,cap,cur,hv,hg,hh,r⟩
 ·exact Or.inl h2
 ·exact Or.inr ⟨g,cap,cur,hv,hg,by rw [ho.block g (Array.getElem?_eq_some_iff.1 hh).1 (hS g (by rw [hv];rfl))];exact hh,r⟩
theorem Md (a b num den : Int) (ha : Dn a) (hb : Dn b) (h : iJ num den = true) (w : World) :
 Calls Tryz.prog 98 #[.int .u16 a,.int .u16 b,.int .i64 num,.int .i64 den] w λe w'=>e = .returned (.tuple #[.int .u16 (rP a b num den),.int .i64 0]) /\ Below w.heap.size w w' :=
 (XC a b num den ha hb h w).mono λe w' ⟨h1,n,h2⟩=>⟨h1,by rw [h2];exact below_drewN aiU n⟩
theorem lq {U : World} {n : Nat} {cs : Array Value} {t : TypeId} (hn : U.heap.size = n) : ∀ (j : Nat) (u : Value),cs.toList[j]? = some u -> (U.alloc (.cells cs t)).cell? ((⟨n,0,none⟩ : Addr).add j) = some u:=by
 intro j u h
 subst hn
 have e : (⟨U.heap.size,0,none⟩ : Addr).add j = ⟨U.heap.size,j,none⟩:=by unfold Addr.add;split <;> simp_all
 rw [e,(ak.new U cs t).cell j]
 simpa using h
theorem EH {w : World} {b : Nat} {cs : Array Value} {t : TypeId} (h : ak w b cs t) (i0 : Nat) (v0 : Value) (i1 : Nat) (v1 : Value) (i2 : Nat) (v2 : Value) (i3 : Nat) (v3 : Value) :
 ak ((((w.setCell ⟨b,i0,none⟩ v0).setCell ⟨b,i1,none⟩ v1).setCell ⟨b,i2,none⟩ v2).setCell ⟨b,i3,none⟩ v3) b ((((cs.setIfInBounds i0 v0).setIfInBounds i1 v1).setIfInBounds i2 v2).setIfInBounds i3 v3) t /\
  Only (· = b) w ((((w.setCell ⟨b,i0,none⟩ v0).setCell ⟨b,i1,none⟩ v1).setCell ⟨b,i2,none⟩ v2).setCell ⟨b,i3,none⟩ v3) :=
 ⟨(((h.set i0 v0).set i1 v1).set i2 v2).set i3 v3,((((Only.refl (· = b) w).setCell (.inl rfl) _).setCell (.inl rfl) _).setCell (.inl rfl) _).setCell (.inl rfl) _⟩
def AV (cur : Bool) (x y : aB) (ok : Bool) (num den : Int) : Po :=
 if ok = true /\ y.gen = x.gen then
  (if cur = true then ⟨x.id,dQ x.px x.vx y.px y.vx num den,dQ x.py x.vy y.py y.vy num den,dQ x.pz x.vz y.pz y.vz num den,rP x.aJ y.aJ num den,2⟩
   else ⟨x.id,cO x.px y.px num den,cO x.py y.py num den,cO x.pz y.pz num den,rP x.aJ y.aJ num den,1⟩)
 else uE x
def tq (cur : Bool) (A B : Nat -> aB) (lb : Nat) (num den : Int) (i : Nat) : Po:=AV cur (A i) (wY B (A i).id lb) (Dl B (A i).id lb) num den
def nu (c : aO) (ka ta : Int) (aa : Option Addr) (la ca : Nat) (A : Nat -> aB) (kb tb : Int) (ab : Option Addr) (lb cb : Nat) (B : Nat -> aB) : Int :=
 gD c (two ka kb) (two ta tb) (two (aa,la,ca) (ab,lb,cb)) (two A B) 2
theorem Dp {tick time : Int} {len : Nat} {E : Nat -> aB} (h : dh tick time len E = 0) : len <= 64:=by
 unfold dh at h
 split at h
 ·exact absurd h (by decide)
 ·split at h
  ·exact absurd h (by decide)
  ·omega
theorem Jw {c : aO} {ka ta : Int} {aa : Option Addr} {la ca : Nat} {A : Nat -> aB} {kb tb : Int} {ab : Option Addr} {lb cb : Nat} {B : Nat -> aB} (h : nu c ka ta aa la ca A kb tb ab lb cb B = 0) : la <= 64:=by
 unfold nu gD at h
 split at h
 ·have h2 : dh ka ta la A = 0:=by
   by_cases e : dh ka ta la A = 0
   ·exact e
   ·have : nR (two ka kb) (two ta tb) (two (aa,la,ca) (ab,lb,cb)) (two A B) 2 0 = dh ka ta la A:=by
     show (if dh ka ta la A = 0 then _ else dh ka ta la A) = _
     rw [if_neg e]
    rw [this] at h;exact h
  exact Dp h2
 ·contradiction
set_option maxHeartbeats 1000000 in
theorem Ue (c : aO) (ka ta : Int) (aa : Option Addr) (la ca : Nat) (A : Nat -> aB) (kb tb : Int) (ab : Option Addr) (lb cb : Nat) (B : Nat -> aB) (au : Int) (w : World) (ha : dw w aa la A) (hb : dw w ab lb B) (hla : (la : Int) <= 4611686018427387904) (hlb : (lb : Int) <= 4611686018427387904) (h0 : nu c ka ta aa la ca A kb tb ab lb cb B ≠ 0) :
 Calls Tryz.prog 48 #[aZ c,bO ka ta aa la ca,bO kb tb ab lb cb,.int .i64 au] w λe w'=>e = .returned (.tuple #[.slice none 0 0,.int .i64 (nu c ka ta aa la ca A kb tb ab lb cb B)]) /\ Below w.heap.size w w':=by
 have hB3 : Below w.heap.size w (((w.alloc (.cells #[.int .i64 c.ring,.int .i64 c.window,.int .i64 c.base,.int .i64 c.gain,.int .i64 c.least,.int .i64 c.most,.int .i64 c.aD,.int .i64 c.num,.int .i64 c.den,.int .i64 c.extra,.bool c.aC] 29)).alloc (.cells #[.int .i64 ka,.int .i64 ta,.slice aa la ca] 36)).alloc (.cells #[.int .i64 kb,.int .i64 tb,.slice ab lb cb] 36)):=((aiT).alloc (by simp) _).alloc (by simp;omega) _
 have bc:=(((ak.new w #[.int .i64 c.ring,.int .i64 c.window,.int .i64 c.base,.int .i64 c.gain,.int .i64 c.least,.int .i64 c.most,.int .i64 c.aD,.int .i64 c.num,.int .i64 c.den,.int .i64 c.extra,.bool c.aC] 29).alloc (.cells #[.int .i64 ka,.int .i64 ta,.slice aa la ca] 36)).alloc (.cells #[.int .i64 kb,.int .i64 tb,.slice ab lb cb] 36));have ba:=((ak.new (w.alloc (.cells #[.int .i64 c.ring,.int .i64 c.window,.int .i64 c.base,.int .i64 c.gain,.int .i64 c.least,.int .i64 c.most,.int .i64 c.aD,.int .i64 c.num,.int .i64 c.den,.int .i64 c.extra,.bool c.aC] 29)) #[.int .i64 ka,.int .i64 ta,.slice aa la ca] 36).alloc (.cells #[.int .i64 kb,.int .i64 tb,.slice ab lb cb] 36))
 have bb:=ak.new ((w.alloc (.cells #[.int .i64 c.ring,.int .i64 c.window,.int .i64 c.base,.int .i64 c.gain,.int .i64 c.least,.int .i64 c.most,.int .i64 c.aD,.int .i64 c.num,.int .i64 c.den,.int .i64 c.extra,.bool c.aC] 29)).alloc (.cells #[.int .i64 ka,.int .i64 ta,.slice aa la ca] 36)) #[.int .i64 kb,.int .i64 tb,.slice ab lb cb] 36
 have CK:=jr c (some ⟨(((w.alloc (.cells #[.int .i64 c.ring,.int .i64 c.window,.int .i64 c.base,.int .i64 c.gain,.int .i64 c.least,.int .i64 c.most,.int .i64 c.aD,.int .i64 c.num,.int .i64 c.den,.int .i64 c.extra,.bool c.aC] 29)).alloc (.cells #[.int .i64 ka,.int .i64 ta,.slice aa la ca] 36)).alloc (.cells #[.int .i64 kb,.int .i64 tb,.slice ab lb cb] 36)).heap.size,0,none⟩) 2 2 _ _ _ _ _ (NH (((w.alloc (.cells #[.int .i64 c.ring,.int .i64 c.window,.int .i64 c.base,.int .i64 c.gain,.int .i64 c.least,.int .i64 c.most,.int .i64 c.aD,.int .i64 c.num,.int .i64 c.den,.int .i64 c.extra,.bool c.aC] 29)).alloc (.cells #[.int .i64 ka,.int .i64 ta,.slice aa la ca] 36)).alloc (.cells #[.int .i64 kb,.int .i64 tb,.slice ab lb cb] 36)) ka ta kb tb aa ab la ca lb cb A B (ha.below hB3) (hb.below hB3) hla hlb) (by decide)
 have hs3 : (((w.alloc (.cells #[.int .i64 c.ring,.int .i64 c.window,.int .i64 c.base,.int .i64 c.gain,.int .i64 c.least,.int .i64 c.most,.int .i64 c.aD,.int .i64 c.num,.int .i64 c.den,.int .i64 c.extra,.bool c.aC] 29)).alloc (.cells #[.int .i64 ka,.int .i64 ta,.slice aa la ca] 36)).alloc (.cells #[.int .i64 kb,.int .i64 tb,.slice ab lb cb] 36)).heap.size = w.heap.size + 1 + 1 + 1:=by simp
 change Calls _ _ _ _ (λe w'=>e = .returned (.int .i64 (nu c ka ta aa la ca A kb tb ab lb cb B)) /\ _) at CK
 simp only [World.size_alloc] at ba bb
 unfold aZ at CK ⊢
 unfold bO
 generalize nu c ka ta aa la ca A kb tb ab lb cb B = z at *
 have hz : (z != 0) = true:=by simpa using h0
 go_enter Tryz.func48,Tryz.ntmps48
 go_wp2_with fail
 generalize (((w.alloc (.cells #[.int .i64 c.ring,.int .i64 c.window,.int .i64 c.base,.int .i64 c.gain,.int .i64 c.least,.int .i64 c.most,.int .i64 c.aD,.int .i64 c.num,.int .i64 c.den,.int .i64 c.extra,.bool c.aC] 29)).alloc (.cells #[.int .i64 ka,.int .i64 ta,.slice aa la ca] 36)).alloc (.cells #[.int .i64 kb,.int .i64 tb,.slice ab lb cb] 36)) = W at *
 rw [hs3] at CK
 refine CK.mono ?_;rintro e w1 ⟨rfl,hb1⟩
 have hB1 : Below W.heap.size W w1:=(aiT).trans (hb1.mono (by simp))
 have HB1 : Hid (Below w.heap.size w w1):=aiS (hB3.trans (hB1.mono hB3.size))
 have SC:=aiS (bc.below hB1 bc.lt);have SA:=aiS (ba.below hB1 ba.lt);have SB:=aiS (bb.below hB1 bb.lt);clear hB3 hb1 hB1 CK bc ba bb hs3
 go_wp2
 exact bodyPost_ret (v:=.tuple #[.slice none 0 0,.int .i64 z]) (by simp [results,Tryz.results48,go_sem]) rfl ⟨rfl,HB1.out⟩
set_option maxHeartbeats 1000000 in
theorem Qv (c : aO) (ka ta : Int) (aa : Option Addr) (la ca : Nat) (A : Nat -> aB) (kb tb : Int) (ab : Option Addr) (lb cb : Nat) (B : Nat -> aB) (au : Int) (w : World) (ha : dw w aa la A) (hb : dw w ab lb B) (hla : (la : Int) <= 4611686018427387904) (hlb : (lb : Int) <= 4611686018427387904) (h0 : nu c ka ta aa la ca A kb tb ab lb cb B = 0) (h1 : jh ta tb au ≠ 0) :
 Calls Tryz.prog 48 #[aZ c,bO ka ta aa la ca,bO kb tb ab lb cb,.int .i64 au] w λe w'=>e = .returned (.tuple #[.slice none 0 0,.int .i64 (jh ta tb au)]) /\ Below w.heap.size w w':=by
 have PT:=FW ka ta kb tb au aa ab la ca lb cb
 have hB3 : Below w.heap.size w (((w.alloc (.cells #[.int .i64 c.ring,.int .i64 c.window,.int .i64 c.base,.int .i64 c.gain,.int .i64 c.least,.int .i64 c.most,.int .i64 c.aD,.int .i64 c.num,.int .i64 c.den,.int .i64 c.extra,.bool c.aC] 29)).alloc (.cells #[.int .i64 ka,.int .i64 ta,.slice aa la ca] 36)).alloc (.cells #[.int .i64 kb,.int .i64 tb,.slice ab lb cb] 36)):=((aiT).alloc (by simp) _).alloc (by simp;omega) _
 have bc:=(((ak.new w #[.int .i64 c.ring,.int .i64 c.window,.int .i64 c.base,.int .i64 c.gain,.int .i64 c.least,.int .i64 c.most,.int .i64 c.aD,.int .i64 c.num,.int .i64 c.den,.int .i64 c.extra,.bool c.aC] 29).alloc (.cells #[.int .i64 ka,.int .i64 ta,.slice aa la ca] 36)).alloc (.cells #[.int .i64 kb,.int .i64 tb,.slice ab lb cb] 36));have ba:=((ak.new (w.alloc (.cells #[.int .i64 c.ring,.int .i64 c.window,.int .i64 c.base,.int .i64 c.gain,.int .i64 c.least,.int .i64 c.most,.int .i64 c.aD,.int .i64 c.num,.int .i64 c.den,.int .i64 c.extra,.bool c.aC] 29)) #[.int .i64 ka,.int .i64 ta,.slice aa la ca] 36).alloc (.cells #[.int .i64 kb,.int .i64 tb,.slice ab lb cb] 36))
 have bb:=ak.new ((w.alloc (.cells #[.int .i64 c.ring,.int .i64 c.window,.int .i64 c.base,.int .i64 c.gain,.int .i64 c.least,.int .i64 c.most,.int .i64 c.aD,.int .i64 c.num,.int .i64 c.den,.int .i64 c.extra,.bool c.aC] 29)).alloc (.cells #[.int .i64 ka,.int .i64 ta,.slice aa la ca] 36)) #[.int .i64 kb,.int .i64 tb,.slice ab lb cb] 36
 have CK:=jr c (some ⟨(((w.alloc (.cells #[.int .i64 c.ring,.int .i64 c.window,.int .i64 c.base,.int .i64 c.gain,.int .i64 c.least,.int .i64 c.most,.int .i64 c.aD,.int .i64 c.num,.int .i64 c.den,.int .i64 c.extra,.bool c.aC] 29)).alloc (.cells #[.int .i64 ka,.int .i64 ta,.slice aa la ca] 36)).alloc (.cells #[.int .i64 kb,.int .i64 tb,.slice ab lb cb] 36)).heap.size,0,none⟩) 2 2 _ _ _ _ _ (NH (((w.alloc (.cells #[.int .i64 c.ring,.int .i64 c.window,.int .i64 c.base,.int .i64 c.gain,.int .i64 c.least,.int .i64 c.most,.int .i64 c.aD,.int .i64 c.num,.int .i64 c.den,.int .i64 c.extra,.bool c.aC] 29)).alloc (.cells #[.int .i64 ka,.int .i64 ta,.slice aa la ca] 36)).alloc (.cells #[.int .i64 kb,.int .i64 tb,.slice ab lb cb] 36)) ka ta kb tb aa ab la ca lb cb A B (ha.below hB3) (hb.below hB3) hla hlb) (by decide)
 have hs3 : (((w.alloc (.cells #[.int .i64 c.ring,.int .i64 c.window,.int .i64 c.base,.int .i64 c.gain,.int .i64 c.least,.int .i64 c.most,.int .i64 c.aD,.int .i64 c.num,.int .i64 c.den,.int .i64 c.extra,.bool c.aC] 29)).alloc (.cells #[.int .i64 ka,.int .i64 ta,.slice aa la ca] 36)).alloc (.cells #[.int .i64 kb,.int .i64 tb,.slice ab lb cb] 36)).heap.size = w.heap.size + 1 + 1 + 1:=by simp
 change Calls _ _ _ _ (λe w'=>e = .returned (.int .i64 (nu c ka ta aa la ca A kb tb ab lb cb B)) /\ _) at CK
 simp only [World.size_alloc] at ba bb
 unfold aZ at CK ⊢
 unfold bO
 rw [h0] at CK
 clear h0
 generalize jh ta tb au = z at *
 generalize tV ta tb au = num at *
 generalize tX ta tb au = den at *
 have hz : (z != 0) = true:=by simpa using h1
 go_enter Tryz.func48,Tryz.ntmps48
 go_wp2_with fail
 generalize (((w.alloc (.cells #[.int .i64 c.ring,.int .i64 c.window,.int .i64 c.base,.int .i64 c.gain,.int .i64 c.least,.int .i64 c.most,.int .i64 c.aD,.int .i64 c.num,.int .i64 c.den,.int .i64 c.extra,.bool c.aC] 29)).alloc (.cells #[.int .i64 ka,.int .i64 ta,.slice aa la ca] 36)).alloc (.cells #[.int .i64 kb,.int .i64 tb,.slice ab lb cb] 36)) = W at *
 rw [hs3] at CK
 refine CK.mono ?_;rintro e w1 ⟨rfl,hb1⟩
 have hB1 : Below W.heap.size W w1:=(aiT).trans (hb1.mono (by simp))
 have HB1 : Hid (Below w.heap.size w w1):=aiS (hB3.trans (hB1.mono hB3.size))
 have SC:=aiS (bc.below hB1 bc.lt);have SA:=aiS (ba.below hB1 ba.lt);have SB:=aiS (bb.below hB1 bb.lt);clear hB3 hb1 hB1 CK bc ba bb hs3
 obtain ⟨a0,a1,a2⟩:=fO SA.out
 obtain ⟨b0,b1,b2⟩:=fO SB.out
 go_wp2_with fail
 refine (PT _).mono ?_;rintro e w2 ⟨rfl,hb2⟩
 have HB2 : Hid (Below w.heap.size w w2):=aiS (HB1.out.trans (hb2.mono HB1.out.size))
 clear hb2 a0 a1 a2 b0 b1 b2 PT
 go_wp2
 exact bodyPost_ret (v:=.tuple #[.slice none 0 0,.int .i64 z]) (by simp [results,Tryz.results48,go_sem]) rfl ⟨rfl,HB2.out⟩
set_option maxHeartbeats 4000000 in
theorem Qw (c : aO) (Qx : c.aC = false) (ka ta : Int) (aa : Option Addr) (la ca : Nat) (A : Nat -> aB) (kb tb : Int) (ab : Option Addr) (lb cb : Nat) (B : Nat -> aB) (au : Int) (w : World) (ha : dw w aa la A) (hb : dw w ab lb B) (hla : (la : Int) <= 4611686018427387904) (hlb : (lb : Int) <= 4611686018427387904) (h0 : nu c ka ta aa la ca A kb tb ab lb cb B = 0) (h1 : jh ta tb au = 0) :
 Calls Tryz.prog 48 #[aZ c,bO ka ta aa la ca,bO kb tb ab lb cb,.int .i64 au] w λe w'=>∃ s cp,e = .returned (.tuple #[.slice s la cp,.int .i64 0]) /\ dZ w' s la (tq false A B lb (au - ta) (tb - ta)) /\ Below w.heap.size w w':=by
 obtain ⟨i0,hi,hz0,hz1,hz2⟩:=info_parts vR
 have PT:=FW ka ta kb tb au aa ab la ca lb cb;have OF:=XD c Qx;have F4:=Jw h0
 obtain ⟨vB,_,_,_,_,_,hN,hD⟩:=GJ h1
 rw [hN,hD] at vB PT
 rw [h1] at PT
 obtain ⟨num,Jy⟩ : ∃ x,au - ta = x:=⟨_,rfl⟩
 obtain ⟨den,hden⟩ : ∃ x,tb - ta = x:=⟨_,rfl⟩
 rw [Jy,hden] at vB PT ⊢
 clear hN hD h1 Jy hden Qx
 obtain ⟨P,hP⟩ : ∃ P,tq false A B lb num den = P:=⟨_,rfl⟩
 have HP : Hid (∀ i,P i = AV false (A i) (wY B (A i).id lb) (Dl B (A i).id lb) num den):=aiS (λi=>by rw [← hP];rfl)
 rw [hP]
 clear hP;have Zb:=FY;have Zc:=yQ
 have hB3 : Below w.heap.size w (((w.alloc (.cells #[.int .i64 c.ring,.int .i64 c.window,.int .i64 c.base,.int .i64 c.gain,.int .i64 c.least,.int .i64 c.most,.int .i64 c.aD,.int .i64 c.num,.int .i64 c.den,.int .i64 c.extra,.bool c.aC] 29)).alloc (.cells #[.int .i64 ka,.int .i64 ta,.slice aa la ca] 36)).alloc (.cells #[.int .i64 kb,.int .i64 tb,.slice ab lb cb] 36)):=((aiT).alloc (by simp) _).alloc (by simp;omega) _
 have bc:=(((ak.new w #[.int .i64 c.ring,.int .i64 c.window,.int .i64 c.base,.int .i64 c.gain,.int .i64 c.least,.int .i64 c.most,.int .i64 c.aD,.int .i64 c.num,.int .i64 c.den,.int .i64 c.extra,.bool c.aC] 29).alloc (.cells #[.int .i64 ka,.int .i64 ta,.slice aa la ca] 36)).alloc (.cells #[.int .i64 kb,.int .i64 tb,.slice ab lb cb] 36));have ba:=((ak.new (w.alloc (.cells #[.int .i64 c.ring,.int .i64 c.window,.int .i64 c.base,.int .i64 c.gain,.int .i64 c.least,.int .i64 c.most,.int .i64 c.aD,.int .i64 c.num,.int .i64 c.den,.int .i64 c.extra,.bool c.aC] 29)) #[.int .i64 ka,.int .i64 ta,.slice aa la ca] 36).alloc (.cells #[.int .i64 kb,.int .i64 tb,.slice ab lb cb] 36))
 have bb:=ak.new ((w.alloc (.cells #[.int .i64 c.ring,.int .i64 c.window,.int .i64 c.base,.int .i64 c.gain,.int .i64 c.least,.int .i64 c.most,.int .i64 c.aD,.int .i64 c.num,.int .i64 c.den,.int .i64 c.extra,.bool c.aC] 29)).alloc (.cells #[.int .i64 ka,.int .i64 ta,.slice aa la ca] 36)) #[.int .i64 kb,.int .i64 tb,.slice ab lb cb] 36
 have CK:=jr c (some ⟨(((w.alloc (.cells #[.int .i64 c.ring,.int .i64 c.window,.int .i64 c.base,.int .i64 c.gain,.int .i64 c.least,.int .i64 c.most,.int .i64 c.aD,.int .i64 c.num,.int .i64 c.den,.int .i64 c.extra,.bool c.aC] 29)).alloc (.cells #[.int .i64 ka,.int .i64 ta,.slice aa la ca] 36)).alloc (.cells #[.int .i64 kb,.int .i64 tb,.slice ab lb cb] 36)).heap.size,0,none⟩) 2 2 _ _ _ _ _ (NH (((w.alloc (.cells #[.int .i64 c.ring,.int .i64 c.window,.int .i64 c.base,.int .i64 c.gain,.int .i64 c.least,.int .i64 c.most,.int .i64 c.aD,.int .i64 c.num,.int .i64 c.den,.int .i64 c.extra,.bool c.aC] 29)).alloc (.cells #[.int .i64 ka,.int .i64 ta,.slice aa la ca] 36)).alloc (.cells #[.int .i64 kb,.int .i64 tb,.slice ab lb cb] 36)) ka ta kb tb aa ab la ca lb cb A B (ha.below hB3) (hb.below hB3) hla hlb) (by decide)
 have hs3 : (((w.alloc (.cells #[.int .i64 c.ring,.int .i64 c.window,.int .i64 c.base,.int .i64 c.gain,.int .i64 c.least,.int .i64 c.most,.int .i64 c.aD,.int .i64 c.num,.int .i64 c.den,.int .i64 c.extra,.bool c.aC] 29)).alloc (.cells #[.int .i64 ka,.int .i64 ta,.slice aa la ca] 36)).alloc (.cells #[.int .i64 kb,.int .i64 tb,.slice ab lb cb] 36)).heap.size = w.heap.size + 1 + 1 + 1:=by simp
 change Calls _ _ _ _ (λe w'=>e = .returned (.int .i64 (nu c ka ta aa la ca A kb tb ab lb cb B)) /\ _) at CK
 simp only [World.size_alloc] at ba bb
 unfold aZ at CK ⊢
 unfold bO
 go_enter Tryz.func48,Tryz.ntmps48
 go_wp2_with fail
 generalize (((w.alloc (.cells #[.int .i64 c.ring,.int .i64 c.window,.int .i64 c.base,.int .i64 c.gain,.int .i64 c.least,.int .i64 c.most,.int .i64 c.aD,.int .i64 c.num,.int .i64 c.den,.int .i64 c.extra,.bool c.aC] 29)).alloc (.cells #[.int .i64 ka,.int .i64 ta,.slice aa la ca] 36)).alloc (.cells #[.int .i64 kb,.int .i64 tb,.slice ab lb cb] 36)) = W at *
 rw [hs3] at CK
 refine CK.mono ?_;rintro e w1 ⟨rfl,hb1⟩
 have hB1 : Below W.heap.size W w1:=(aiT).trans (hb1.mono (by simp))
 have HB1 : Hid (Below w.heap.size w w1):=aiS (hB3.trans (hB1.mono hB3.size))
 have SC:=aiS (bc.below hB1 bc.lt);have SA:=aiS (ba.below hB1 ba.lt);have SB:=aiS (bb.below hB1 bb.lt);clear hB3 hb1 hB1 CK bc ba bb hs3
 rw [h0]
 clear h0;have zI:=ha.1
 have yR : Hid (∀ k,k < la -> ∃ b off,aa = some ⟨b,off,none⟩ /\ b < w.heap.size /\ dF w b (off + k * 9) (A k)):=aiS (λk hk=>by
  rcases ha.2 with h0 | ⟨b,off,e,hb,hc⟩
  ·omega
  ·exact ⟨b,off,e,hb,hc k hk⟩)
 obtain ⟨a0,a1,a2⟩:=fO SA.out
 obtain ⟨b0,b1,b2⟩:=fO SB.out
 go_wp2_with fail
 refine (PT _).mono ?_;rintro e w2 ⟨rfl,hb2⟩
 have qc:=aiS (SC.out.below hb2 SC.out.lt);clear SC;have SC:=qc;clear qc;have oG:=aiS (SA.out.below hb2 SA.out.lt);clear SA;have SA:=oG;clear oG;have AX:=aiS (SB.out.below hb2 SB.out.lt);clear SB;have SB:=AX;clear AX
 have HB2 : Hid (Below w.heap.size w w2):=aiS (HB1.out.trans (hb2.mono HB1.out.size))
 clear hb2 a0 a1 a2 b0 b1 b2 PT HB1
 obtain ⟨q0,q1,q2,q3,q4,q5,q6,q7,q8,q9,kr⟩:=eu SC.out
 unfold aZ at OF
 go_wp2_with fail
 refine (OF _).mono ?_;rintro e W0 ⟨rfl,hb3⟩
 have oG:=aiS (SA.out.below hb3 SA.out.lt);clear SA;have SA:=oG;clear oG;have AX:=aiS (SB.out.below hb3 SB.out.lt);clear SB;have SB:=AX;clear AX
 have HW0 : Hid (Below w.heap.size w W0):=aiS (HB2.out.trans (hb3.mono HB2.out.size))
 clear hb3 q0 q1 q2 q3 q4 q5 q6 q7 q8 q9 kr OF HB2 SC
 obtain ⟨a0,a1,a2⟩:=fO SA.out
 have hs2:=SB.out.lt
 go_wp2_with fail
 clear a0 a1 a2
 go_loopw [15,45] (λv i wr=>∃ k : Nat,k <= la /\ i = .int .i64 k /\ wr.ownsRow W0.heap.size 52 6 v k (jG P k) /\ Below W0.heap.size W0 wr) (λ_ i _=>la - (intOf i).toNat)
 case atStart=>exact ⟨0,Nat.zero_le _,rfl,World.ownsRow_nil _ _ _ _,Below.refl _ _⟩
 case round =>
  rename_i wr
  obtain ⟨k,hk,rfl,hown,hB⟩:=hrel
  have hsz:=hB.size
  by_cases hlt : k < la
  ·obtain ⟨b,off,EI,hbw,hc⟩:=yR.out k hlt
   subst EI
   have hcw:=hc.below (HW0.out.trans (hB.mono HW0.out.size)) hbw;have hx:=zI k hlt
   have hy : (wY B (A k).id lb).Ok:=Qu hb (A k).id
   have AY:=aiS (HP.out k)
   have HL : Hid (jG P (k + 1) = jG P k ++ [.int .i64 (P k).id,.int .i64 (P k).px,.int .i64 (P k).py,.int .i64 (P k).pz,.int .u16 (P k).aJ,.int .i64 (P k).mode]):=aiS rfl
   have FD:=aiS (λw' (hw : Below w.heap.size w w')=>Zb kb tb ab lb cb B (A k).id w' (hb.below hw) hlb)
   have EX:=Zc (A k)
   unfold bM Ju uE at EX
   unfold bM bO at FD
   have hkl : (k : Int) < la:=by omega
   have HOWN:=aiS hown
   have dI:=aiS (λj e=>(hown.lt j e).2)
   have HB:=aiS hB;clear hc hown hB
   generalize P k = pk at *
   generalize Dl B (A k).id lb = fb at *
   generalize wY B (A k).id lb = y at *
   generalize A k = x at *
   obtain ⟨eH,px,py,pz,vx,vy,vz,aJ,gen⟩:=x
   obtain ⟨nI,qx,qy,qz,ux,uy,uz,iw,iy⟩:=y
   obtain ⟨c0,c1,c2,c3,c4,c5,c6,c7,c8⟩:=hcw
   dsimp only at c0 c1 c2 c3 c4 c5 c6 c7 c8 EX FD
   go_wp2_with fail
   refine (EX _).mono ?_;rintro e w4 ⟨rfl,hb4⟩
   have X4:=aiS ((ak.new wr #[.int .i64 eH,.int .i64 px,.int .i64 py,.int .i64 pz,.int .i64 vx,.int .i64 vy,.int .i64 vz,.int .u16 aJ,.int .u8 gen] 33).below hb4 (by simp))
   have gP : Hid (Below W0.heap.size W0 w4):=aiS ((HB.out.alloc hsz _).trans (hb4.mono (by simp;omega)))
   have xA:=aiS (own_below (HOWN.out.alloc _) hb4);have Jz:=aiS (SB.out.below gP.out SB.out.lt);have l4:=X4.out.lt;have l4b:=Jz.out.lt;clear hb4 EX c0 c1 c2 c3 c4 c5 c6 c7 c8 HB HOWN
   obtain ⟨c0,c1,c2,c3,c4,c5,c6,c7,c8⟩:=gq X4.out
   obtain ⟨b0,b1,b2⟩:=fO Jz.out
   have uU : Hid (Below W0.heap.size W0 (w4.alloc (.cells #[.int .i64 eH,.int .i64 px,.int .i64 py,.int .i64 pz,.int .u16 aJ,.int .i64 0] 52))):=aiS (gP.out.alloc gP.out.size _)
   have fd:=FD.out _ (HW0.out.trans (uU.out.mono HW0.out.size))
   go_wp2_with fail
   refine fd.mono ?_;rintro e w6 ⟨rfl,hb6⟩
   have X6:=aiS ((X4.out.alloc (.cells #[.int .i64 eH,.int .i64 px,.int .i64 py,.int .i64 pz,.int .u16 aJ,.int .i64 0] 52)).below hb6 (by simp;omega))
   have P6:=aiS ((ak.new w4 #[.int .i64 eH,.int .i64 px,.int .i64 py,.int .i64 pz,.int .u16 aJ,.int .i64 0] 52).below hb6 (by simp))
   have lu : Hid (Below W0.heap.size W0 w6):=aiS (uU.out.trans (hb6.mono uU.out.size))
   have yS:=aiS (own_below (xA.out.alloc _) hb6);have l6:=X6.out.lt;have l6b:=P6.out.lt;clear hb6 fd FD c0 c1 c2 c3 c4 c5 c6 c7 c8 b0 b1 b2 gP uU xA X4 Jz
   obtain ⟨c0,c1,c2,c3,c4,c5,c6,c7,c8⟩:=gq X6.out
   obtain ⟨p0,p1,p2,p3,p4,p5⟩:=nk P6.out
   obtain ⟨f0,f1,f2,f3,f4,f5⟩:=pO P6.out
   by_cases hm : fb = true /\ iy = gen
   ·obtain ⟨rfl,rfl⟩:=hm
    have vS : Hid (pk = ⟨eH,cO px qx num den,cO py qy num den,cO pz qz num den,rP aJ iw num den,1⟩):=aiS (by rw [AY.out];unfold AV;rw [if_pos ⟨rfl,rfl⟩];rfl)
    have PL:=aiS (Uc ⟨eH,px,py,pz,vx,vy,vz,aJ,iy⟩ ⟨nI,qx,qy,qz,ux,uy,uz,iw,iy⟩ num den hx hy vB);have AL:=aiS (Md aJ iw num den hx.aJ hy.aJ vB)
    unfold bM at PL
    dsimp only at PL
    generalize cO px qx num den = z1 at *
    generalize cO py qy num den = z2 at *
    generalize cO pz qz num den = z3 at *
    generalize rP aJ iw num den = z4 at *
    go_wp2_with fail
    have X7:=aiS (X6.out.alloc (.cells #[.int .i64 nI,.int .i64 qx,.int .i64 qy,.int .i64 qz,.int .i64 ux,.int .i64 uy,.int .i64 uz,.int .u16 iw,.int .u8 iy] 33));have P7:=aiS (P6.out.alloc (.cells #[.int .i64 nI,.int .i64 qx,.int .i64 qy,.int .i64 qz,.int .i64 ux,.int .i64 uy,.int .i64 uz,.int .u16 iw,.int .u8 iy] 33));have Y7:=aiS (ak.new w6 #[.int .i64 nI,.int .i64 qx,.int .i64 qy,.int .i64 qz,.int .i64 ux,.int .i64 uy,.int .i64 uz,.int .u16 iw,.int .u8 iy] 33)
    have qp : Hid (Below W0.heap.size W0 (w6.alloc (.cells #[.int .i64 nI,.int .i64 qx,.int .i64 qy,.int .i64 qz,.int .i64 ux,.int .i64 uy,.int .i64 uz,.int .u16 iw,.int .u8 iy] 33))):=aiS (lu.out.alloc lu.out.size _)
    have vT:=aiS (yS.out.alloc (.cells #[.int .i64 nI,.int .i64 qx,.int .i64 qy,.int .i64 qz,.int .i64 ux,.int .i64 uy,.int .i64 uz,.int .u16 iw,.int .u8 iy] 33));clear c0 c1 c2 c3 c4 c5 c6 c7 c8 p0 p1 p2 p3 p4 p5 f0 f1 f2 f3 f4 f5 X6 P6 lu yS
    generalize w6.alloc (.cells #[.int .i64 nI,.int .i64 qx,.int .i64 qy,.int .i64 qz,.int .i64 ux,.int .i64 uy,.int .i64 uz,.int .u16 iw,.int .u8 iy] 33) = w7 at *
    obtain ⟨c0,c1,c2,c3,c4,c5,c6,c7,c8⟩:=gq X7.out
    obtain ⟨d0,d1,d2,d3,d4,d5,d6,d7,d8⟩:=gq Y7.out
    refine aQ 9 (by kernel_rfl) (by kernel_rfl) ?_
    simp only [List.take_succ_cons,List.take_zero,List.drop_succ_cons,List.drop_zero]
    repeat (apply aA;(next=>(intro W hW K hK;have y0:=hW.cell c0;have y1:=hW.cell c1;have y2:=hW.cell c2;have y3:=hW.cell c3;have y4:=hW.cell c4;have y5:=hW.cell c5;have y6:=hW.cell c6;have y7:=hW.cell c7;have y8:=hW.cell c8;have y9:=hW.cell d0;have JA:=hW.cell d1;have Qy:=hW.cell d2;have Qz:=hW.cell d3;have y13:=hW.cell d4;have QA:=hW.cell d5;have QB:=hW.cell d6;have QC:=hW.cell d7;have QD:=hW.cell d8;go_simp;first | exact ⟨hW,hK⟩ | exact hK));(next=>exact aH.self _);(try go_simp))
    (apply aA;(next=>(intro W hW K hK;go_simp;first | exact ⟨_,hW.call (Ma W),hK⟩ | exact ⟨hW,_,hW.call (Ma W),hK⟩));(next=>exact aH.self _);(try go_simp))
    repeat (apply aA;(next=>(intro W hW K hK;have y0:=hW.cell c0;have y1:=hW.cell c1;have y2:=hW.cell c2;have y3:=hW.cell c3;have y4:=hW.cell c4;have y5:=hW.cell c5;have y6:=hW.cell c6;have y7:=hW.cell c7;have y8:=hW.cell c8;have y9:=hW.cell d0;have JA:=hW.cell d1;have Qy:=hW.cell d2;have Qz:=hW.cell d3;have y13:=hW.cell d4;have QA:=hW.cell d5;have QB:=hW.cell d6;have QC:=hW.cell d7;have QD:=hW.cell d8;go_simp;first | exact ⟨hW,hK⟩ | exact hK));(next=>exact aH.self _);(try go_simp))
    (apply aA;(next=>(intro W hW K hK;go_simp;first | exact ⟨_,hW.call (PL.out W),hK⟩ | exact ⟨hW,_,hW.call (PL.out W),hK⟩));(next=>exact aH.self _);(try go_simp))
    repeat (apply aA;(next=>(intro W hW K hK;have y0:=hW.cell c0;have y1:=hW.cell c1;have y2:=hW.cell c2;have y3:=hW.cell c3;have y4:=hW.cell c4;have y5:=hW.cell c5;have y6:=hW.cell c6;have y7:=hW.cell c7;have y8:=hW.cell c8;have y9:=hW.cell d0;have JA:=hW.cell d1;have Qy:=hW.cell d2;have Qz:=hW.cell d3;have y13:=hW.cell d4;have QA:=hW.cell d5;have QB:=hW.cell d6;have QC:=hW.cell d7;have QD:=hW.cell d8;go_simp;first | exact ⟨hW,hK⟩ | exact hK));(next=>exact aH.self _);(try go_simp))
    refine aT ?_
    intro WC aP
    have tu : Below w7.heap.size w7 WC:=aP
    have X8:=aiS (X7.out.below tu X7.out.lt);have Y8:=aiS (Y7.out.below tu Y7.out.lt);have P8:=aiS (P7.out.below tu P7.out.lt)
    have AZ : Hid (Below W0.heap.size W0 WC):=aiS (qp.out.trans (tu.mono qp.out.size))
    have QE:=aiS (own_below vT.out tu);clear aP tu c0 c1 c2 c3 c4 c5 c6 c7 c8 d0 d1 d2 d3 d4 d5 d6 d7 d8 X7 Y7 P7 qp vT PL
    obtain ⟨c0,c1,c2,c3,c4,c5,c6,c7,c8⟩:=gq X8.out
    obtain ⟨d0,d1,d2,d3,d4,d5,d6,d7,d8⟩:=gq Y8.out
    obtain ⟨p0,p1,p2,p3,p4,p5⟩:=nk P8.out
    obtain ⟨f0,f1,f2,f3,f4,f5⟩:=pO P8.out
    go_wp2_with fail
    have Z9:=EH P8.out 5 (.int .i64 1) 1 (.int .i64 z1) 2 (.int .i64 z2) 3 (.int .i64 z3);clear c0 c1 c2 c3 c4 c5 c6 c7 c8 d0 d1 d2 d3 d4 d5 d6 d7 d8 p0 p1 p2 p3 p4 p5 f0 f1 f2 f3 f4 f5
    obtain ⟨w9,QF⟩ : ∃ w9,w9 = ((((WC.setCell ⟨w4.heap.size,5,none⟩ (.int .i64 1)).setCell ⟨w4.heap.size,1,none⟩ (.int .i64 z1)).setCell ⟨w4.heap.size,2,none⟩ (.int .i64 z2)).setCell ⟨w4.heap.size,3,none⟩ (.int .i64 z3)):=⟨_,rfl⟩
    rw [← QF] at Z9 ⊢
    clear QF
    obtain ⟨Z9,O9⟩:=Z9
    simp at Z9
    have X9:=aiS (O9.blk X8.out (by omega))
    have Y9:=aiS (O9.blk Y8.out (by omega))
    have P9:=aiS Z9
    have JB : Hid (Below W0.heap.size W0 w9):=aiS (AZ.out.trans (O9.below AZ.out.size (by rintro i rfl;omega)))
    have QG:=aiS (qR QE.out O9 (λj e h=>by have:=dI.out j e;have h2 : j = w4.heap.size:=h;omega))
    clear Z9 O9 X8 Y8 P8 AZ QE
    refine (AL.out _).mono ?_;rintro e wd ⟨rfl,hbd⟩
    have EJ:=P9.out.below hbd P9.out.lt;have l9:=EJ.lt;have JC:=JB.out.trans (hbd.mono JB.out.size);have JD:=own_below QG.out hbd
    obtain ⟨p0,p1,p2,p3,p4,p5⟩:=nk EJ
    obtain ⟨f0,f1,f2,f3,f4,f5⟩:=pO EJ
    have xB:=aiS (qR JD ((Only.refl (· = w4.heap.size) wd).setCell (p:=⟨w4.heap.size,4,none⟩) (.inl rfl) (.int .u16 z4)) (λj e h=>by have:=dI.out j e;have h2 : j = w4.heap.size:=h;omega))
    have rR : Hid (Below W0.heap.size W0 (wd.setCell ⟨w4.heap.size,4,none⟩ (.int .u16 z4))):=aiS (JC.setCell (by simp;omega) _)
    clear hbd EJ JC JD X9 Y9 P9 JB QG
    go_wp2_with (at_builtin;refine wpList_append_own _ rfl (.tmp 87) (.tmp 89) 47 rfl W0.heap.size 52 i0 (.agg #[.int .i64 0,.int .i64 0,.int .i64 0,.int .i64 0,.int .u16 0,.int .i64 0]) 6 48 Tryz.underlying47 hi hz0 hz1 hz2 rfl (by decide) _ _ _ rfl (xB.out.alloc _) ⟨wd.heap.size,0,none⟩ 1 1 [.int .i64 eH,.int .i64 z1,.int .i64 z2,.int .i64 z3,.int .u16 z4,.int .i64 1] rfl rfl ?c1 ?c2 ?c3 ?c4 ?c5 ?_)
    case c1=>exact lq (by simp)
    case c2=>intro u hu;simp at hu;rcases hu with rfl | rfl | rfl | rfl | rfl | rfl <;> rfl
    case c3=>unfold maxLen;omega
    case c4=>omega
    case c5=>have:=rR.out.size;simp at *;omega
    intro v' ku hown' hgrow _
    have hszz:=rR.out.size
    have hB' : Hid (Below W0.heap.size W0 ku):=aiS ((rR.out.alloc hszz _).grown hgrow (by simp at *;omega) (λj e=>(xB.out.lt j e).1))
    have HO : Hid (ku.ownsRow W0.heap.size 52 6 v' (k + 1) (jG P (k + 1))):=aiS (by rw [HL.out,vS.out];exact hown')
    clear hown' hgrow
    go_wp2
    go_roundw
    case rel=>exact ⟨k + 1,by omega,by go_num,HO.out,hB'.out⟩
    case measure=>simp [intOf];omega
   ·have vS : Hid (pk = ⟨eH,px,py,pz,aJ,0⟩):=aiS (by rw [AY.out];unfold AV;rw [if_neg hm];rfl)
    have qp : Hid (Below W0.heap.size W0 (w6.alloc (.cells #[.int .i64 nI,.int .i64 qx,.int .i64 qy,.int .i64 qz,.int .i64 ux,.int .i64 uy,.int .i64 uz,.int .u16 iw,.int .u8 iy] 33))):=aiS (lu.out.alloc lu.out.size _)
    have vT:=aiS (yS.out.alloc (.cells #[.int .i64 nI,.int .i64 qx,.int .i64 qy,.int .i64 qz,.int .i64 ux,.int .i64 uy,.int .i64 uz,.int .u16 iw,.int .u8 iy] 33))
    cases fb
    ·clear hm
     go_wp2_with (at_builtin;refine wpList_append_own _ rfl (.tmp 87) (.tmp 89) 47 rfl W0.heap.size 52 i0 (.agg #[.int .i64 0,.int .i64 0,.int .i64 0,.int .i64 0,.int .u16 0,.int .i64 0]) 6 48 Tryz.underlying47 hi hz0 hz1 hz2 rfl (by decide) _ _ _ rfl (vT.out.alloc _) ⟨w6.heap.size + 1,0,none⟩ 1 1 [.int .i64 eH,.int .i64 px,.int .i64 py,.int .i64 pz,.int .u16 aJ,.int .i64 0] rfl rfl ?c1 ?c2 ?c3 ?c4 ?c5 ?_)
     case c1=>exact lq (by simp)
     case c2=>intro u hu;simp at hu;rcases hu with rfl | rfl | rfl | rfl | rfl | rfl <;> rfl
     case c3=>unfold maxLen;omega
     case c4=>omega
     case c5=>have:=qp.out.size;simp at *;omega
     intro v' ku hown' hgrow _
     have hszz:=qp.out.size
     have hB' : Hid (Below W0.heap.size W0 ku):=aiS ((qp.out.alloc hszz _).grown hgrow (by simp at *;omega) (λj e=>(vT.out.lt j e).1))
     have HO : Hid (ku.ownsRow W0.heap.size 52 6 v' (k + 1) (jG P (k + 1))):=aiS (by rw [HL.out,vS.out];exact hown')
     clear hown' hgrow
     go_wp2
     go_roundw
     case rel=>exact ⟨k + 1,by omega,by go_num,HO.out,hB'.out⟩
     case measure=>simp [intOf];omega
    ·have hg : (iy == gen) = false:=by simpa using hm
     clear hm
     go_wp2_with (at_builtin;refine wpList_append_own _ rfl (.tmp 87) (.tmp 89) 47 rfl W0.heap.size 52 i0 (.agg #[.int .i64 0,.int .i64 0,.int .i64 0,.int .i64 0,.int .u16 0,.int .i64 0]) 6 48 Tryz.underlying47 hi hz0 hz1 hz2 rfl (by decide) _ _ _ rfl (vT.out.alloc _) ⟨w6.heap.size + 1,0,none⟩ 1 1 [.int .i64 eH,.int .i64 px,.int .i64 py,.int .i64 pz,.int .u16 aJ,.int .i64 0] rfl rfl ?c1 ?c2 ?c3 ?c4 ?c5 ?_)
     case c1=>exact lq (by simp)
     case c2=>intro u hu;simp at hu;rcases hu with rfl | rfl | rfl | rfl | rfl | rfl <;> rfl
     case c3=>unfold maxLen;omega
     case c4=>omega
     case c5=>have:=qp.out.size;simp at *;omega
     intro v' ku hown' hgrow _
     have hszz:=qp.out.size
     have hB' : Hid (Below W0.heap.size W0 ku):=aiS ((qp.out.alloc hszz _).grown hgrow (by simp at *;omega) (λj e=>(vT.out.lt j e).1))
     have HO : Hid (ku.ownsRow W0.heap.size 52 6 v' (k + 1) (jG P (k + 1))):=aiS (by rw [HL.out,vS.out];exact hown')
     clear hown' hgrow
     go_wp2
     go_roundw
     case rel=>exact ⟨k + 1,by omega,by go_num,HO.out,hB'.out⟩
     case measure=>simp [intOf];omega
  ·obtain rfl : k = la:=by omega
   obtain ⟨s,cp,rfl,hS⟩:=oF hown
   have HS:=aiS hS;have sI:=aiS (HW0.out.trans (hB.mono HW0.out.size));clear hS hown hB
   go_wp2
   exact bodyPost_ret (v:=.tuple #[.slice s k cp,.int .i64 0]) (by simp [results,Tryz.results48,go_sem]) rfl ⟨s,cp,rfl,HS.out,sI.out⟩
set_option maxHeartbeats 4000000 in
theorem Lf (c : aO) (Qx : c.aC = true) (ka ta : Int) (aa : Option Addr) (la ca : Nat) (A : Nat -> aB) (kb tb : Int) (ab : Option Addr) (lb cb : Nat) (B : Nat -> aB) (au : Int) (w : World) (ha : dw w aa la A) (hb : dw w ab lb B) (hla : (la : Int) <= 4611686018427387904) (hlb : (lb : Int) <= 4611686018427387904) (h0 : nu c ka ta aa la ca A kb tb ab lb cb B = 0) (h1 : jh ta tb au = 0) :
 Calls Tryz.prog 48 #[aZ c,bO ka ta aa la ca,bO kb tb ab lb cb,.int .i64 au] w λe w'=>∃ s cp,e = .returned (.tuple #[.slice s la cp,.int .i64 0]) /\ dZ w' s la (tq true A B lb (au - ta) (tb - ta)) /\ Below w.heap.size w w':=by
 obtain ⟨i0,hi,hz0,hz1,hz2⟩:=info_parts vR
 have PT:=FW ka ta kb tb au aa ab la ca lb cb;have OF:=Qs c Qx;have F4:=Jw h0
 obtain ⟨vB,_,_,_,_,_,hN,hD⟩:=GJ h1
 rw [hN,hD] at vB PT
 rw [h1] at PT
 obtain ⟨num,Jy⟩ : ∃ x,au - ta = x:=⟨_,rfl⟩
 obtain ⟨den,hden⟩ : ∃ x,tb - ta = x:=⟨_,rfl⟩
 rw [Jy,hden] at vB PT ⊢
 clear hN hD h1 Jy hden Qx
 obtain ⟨P,hP⟩ : ∃ P,tq true A B lb num den = P:=⟨_,rfl⟩
 have HP : Hid (∀ i,P i = AV true (A i) (wY B (A i).id lb) (Dl B (A i).id lb) num den):=aiS (λi=>by rw [← hP];rfl)
 rw [hP]
 clear hP;have Zb:=FY;have Zc:=yQ
 have hB3 : Below w.heap.size w (((w.alloc (.cells #[.int .i64 c.ring,.int .i64 c.window,.int .i64 c.base,.int .i64 c.gain,.int .i64 c.least,.int .i64 c.most,.int .i64 c.aD,.int .i64 c.num,.int .i64 c.den,.int .i64 c.extra,.bool c.aC] 29)).alloc (.cells #[.int .i64 ka,.int .i64 ta,.slice aa la ca] 36)).alloc (.cells #[.int .i64 kb,.int .i64 tb,.slice ab lb cb] 36)):=((aiT).alloc (by simp) _).alloc (by simp;omega) _
 have bc:=(((ak.new w #[.int .i64 c.ring,.int .i64 c.window,.int .i64 c.base,.int .i64 c.gain,.int .i64 c.least,.int .i64 c.most,.int .i64 c.aD,.int .i64 c.num,.int .i64 c.den,.int .i64 c.extra,.bool c.aC] 29).alloc (.cells #[.int .i64 ka,.int .i64 ta,.slice aa la ca] 36)).alloc (.cells #[.int .i64 kb,.int .i64 tb,.slice ab lb cb] 36));have ba:=((ak.new (w.alloc (.cells #[.int .i64 c.ring,.int .i64 c.window,.int .i64 c.base,.int .i64 c.gain,.int .i64 c.least,.int .i64 c.most,.int .i64 c.aD,.int .i64 c.num,.int .i64 c.den,.int .i64 c.extra,.bool c.aC] 29)) #[.int .i64 ka,.int .i64 ta,.slice aa la ca] 36).alloc (.cells #[.int .i64 kb,.int .i64 tb,.slice ab lb cb] 36))
 have bb:=ak.new ((w.alloc (.cells #[.int .i64 c.ring,.int .i64 c.window,.int .i64 c.base,.int .i64 c.gain,.int .i64 c.least,.int .i64 c.most,.int .i64 c.aD,.int .i64 c.num,.int .i64 c.den,.int .i64 c.extra,.bool c.aC] 29)).alloc (.cells #[.int .i64 ka,.int .i64 ta,.slice aa la ca] 36)) #[.int .i64 kb,.int .i64 tb,.slice ab lb cb] 36
 have CK:=jr c (some ⟨(((w.alloc (.cells #[.int .i64 c.ring,.int .i64 c.window,.int .i64 c.base,.int .i64 c.gain,.int .i64 c.least,.int .i64 c.most,.int .i64 c.aD,.int .i64 c.num,.int .i64 c.den,.int .i64 c.extra,.bool c.aC] 29)).alloc (.cells #[.int .i64 ka,.int .i64 ta,.slice aa la ca] 36)).alloc (.cells #[.int .i64 kb,.int .i64 tb,.slice ab lb cb] 36)).heap.size,0,none⟩) 2 2 _ _ _ _ _ (NH (((w.alloc (.cells #[.int .i64 c.ring,.int .i64 c.window,.int .i64 c.base,.int .i64 c.gain,.int .i64 c.least,.int .i64 c.most,.int .i64 c.aD,.int .i64 c.num,.int .i64 c.den,.int .i64 c.extra,.bool c.aC] 29)).alloc (.cells #[.int .i64 ka,.int .i64 ta,.slice aa la ca] 36)).alloc (.cells #[.int .i64 kb,.int .i64 tb,.slice ab lb cb] 36)) ka ta kb tb aa ab la ca lb cb A B (ha.below hB3) (hb.below hB3) hla hlb) (by decide)
 have hs3 : (((w.alloc (.cells #[.int .i64 c.ring,.int .i64 c.window,.int .i64 c.base,.int .i64 c.gain,.int .i64 c.least,.int .i64 c.most,.int .i64 c.aD,.int .i64 c.num,.int .i64 c.den,.int .i64 c.extra,.bool c.aC] 29)).alloc (.cells #[.int .i64 ka,.int .i64 ta,.slice aa la ca] 36)).alloc (.cells #[.int .i64 kb,.int .i64 tb,.slice ab lb cb] 36)).heap.size = w.heap.size + 1 + 1 + 1:=by simp
 change Calls _ _ _ _ (λe w'=>e = .returned (.int .i64 (nu c ka ta aa la ca A kb tb ab lb cb B)) /\ _) at CK
 simp only [World.size_alloc] at ba bb
 unfold aZ at CK ⊢
 unfold bO
 go_enter Tryz.func48,Tryz.ntmps48
 go_wp2_with fail
 generalize (((w.alloc (.cells #[.int .i64 c.ring,.int .i64 c.window,.int .i64 c.base,.int .i64 c.gain,.int .i64 c.least,.int .i64 c.most,.int .i64 c.aD,.int .i64 c.num,.int .i64 c.den,.int .i64 c.extra,.bool c.aC] 29)).alloc (.cells #[.int .i64 ka,.int .i64 ta,.slice aa la ca] 36)).alloc (.cells #[.int .i64 kb,.int .i64 tb,.slice ab lb cb] 36)) = W at *
 rw [hs3] at CK
 refine CK.mono ?_;rintro e w1 ⟨rfl,hb1⟩
 have hB1 : Below W.heap.size W w1:=(aiT).trans (hb1.mono (by simp))
 have HB1 : Hid (Below w.heap.size w w1):=aiS (hB3.trans (hB1.mono hB3.size))
 have SC:=aiS (bc.below hB1 bc.lt);have SA:=aiS (ba.below hB1 ba.lt);have SB:=aiS (bb.below hB1 bb.lt);clear hB3 hb1 hB1 CK bc ba bb hs3
 rw [h0]
 clear h0;have zI:=ha.1
 have yR : Hid (∀ k,k < la -> ∃ b off,aa = some ⟨b,off,none⟩ /\ b < w.heap.size /\ dF w b (off + k * 9) (A k)):=aiS (λk hk=>by
  rcases ha.2 with h0 | ⟨b,off,e,hb,hc⟩
  ·omega
  ·exact ⟨b,off,e,hb,hc k hk⟩)
 obtain ⟨a0,a1,a2⟩:=fO SA.out
 obtain ⟨b0,b1,b2⟩:=fO SB.out
 go_wp2_with fail
 refine (PT _).mono ?_;rintro e w2 ⟨rfl,hb2⟩
 have qc:=aiS (SC.out.below hb2 SC.out.lt);clear SC;have SC:=qc;clear qc;have oG:=aiS (SA.out.below hb2 SA.out.lt);clear SA;have SA:=oG;clear oG;have AX:=aiS (SB.out.below hb2 SB.out.lt);clear SB;have SB:=AX;clear AX
 have HB2 : Hid (Below w.heap.size w w2):=aiS (HB1.out.trans (hb2.mono HB1.out.size))
 clear hb2 a0 a1 a2 b0 b1 b2 PT HB1
 obtain ⟨q0,q1,q2,q3,q4,q5,q6,q7,q8,q9,kr⟩:=eu SC.out
 unfold aZ at OF
 go_wp2_with fail
 refine (OF _).mono ?_;rintro e W0 ⟨rfl,hb3⟩
 have oG:=aiS (SA.out.below hb3 SA.out.lt);clear SA;have SA:=oG;clear oG;have AX:=aiS (SB.out.below hb3 SB.out.lt);clear SB;have SB:=AX;clear AX
 have HW0 : Hid (Below w.heap.size w W0):=aiS (HB2.out.trans (hb3.mono HB2.out.size))
 clear hb3 q0 q1 q2 q3 q4 q5 q6 q7 q8 q9 kr OF HB2 SC
 obtain ⟨a0,a1,a2⟩:=fO SA.out
 have hs2:=SB.out.lt
 go_wp2_with fail
 clear a0 a1 a2
 go_loopw [15,45] (λv i wr=>∃ k : Nat,k <= la /\ i = .int .i64 k /\ wr.ownsRow W0.heap.size 52 6 v k (jG P k) /\ Below W0.heap.size W0 wr) (λ_ i _=>la - (intOf i).toNat)
 case atStart=>exact ⟨0,Nat.zero_le _,rfl,World.ownsRow_nil _ _ _ _,Below.refl _ _⟩
 case round =>
  rename_i wr
  obtain ⟨k,hk,rfl,hown,hB⟩:=hrel
  have hsz:=hB.size
  by_cases hlt : k < la
  ·obtain ⟨b,off,EI,hbw,hc⟩:=yR.out k hlt
   subst EI
   have hcw:=hc.below (HW0.out.trans (hB.mono HW0.out.size)) hbw;have hx:=zI k hlt
   have hy : (wY B (A k).id lb).Ok:=Qu hb (A k).id
   have AY:=aiS (HP.out k)
   have HL : Hid (jG P (k + 1) = jG P k ++ [.int .i64 (P k).id,.int .i64 (P k).px,.int .i64 (P k).py,.int .i64 (P k).pz,.int .u16 (P k).aJ,.int .i64 (P k).mode]):=aiS rfl
   have FD:=aiS (λw' (hw : Below w.heap.size w w')=>Zb kb tb ab lb cb B (A k).id w' (hb.below hw) hlb)
   have EX:=Zc (A k)
   unfold bM Ju uE at EX
   unfold bM bO at FD
   have hkl : (k : Int) < la:=by omega
   have HOWN:=aiS hown
   have dI:=aiS (λj e=>(hown.lt j e).2)
   have HB:=aiS hB;clear hc hown hB
   generalize P k = pk at *
   generalize Dl B (A k).id lb = fb at *
   generalize wY B (A k).id lb = y at *
   generalize A k = x at *
   obtain ⟨eH,px,py,pz,vx,vy,vz,aJ,gen⟩:=x
   obtain ⟨nI,qx,qy,qz,ux,uy,uz,iw,iy⟩:=y
   obtain ⟨c0,c1,c2,c3,c4,c5,c6,c7,c8⟩:=hcw
   dsimp only at c0 c1 c2 c3 c4 c5 c6 c7 c8 EX FD
   go_wp2_with fail
   refine (EX _).mono ?_;rintro e w4 ⟨rfl,hb4⟩
   have X4:=aiS ((ak.new wr #[.int .i64 eH,.int .i64 px,.int .i64 py,.int .i64 pz,.int .i64 vx,.int .i64 vy,.int .i64 vz,.int .u16 aJ,.int .u8 gen] 33).below hb4 (by simp))
   have gP : Hid (Below W0.heap.size W0 w4):=aiS ((HB.out.alloc hsz _).trans (hb4.mono (by simp;omega)))
   have xA:=aiS (own_below (HOWN.out.alloc _) hb4);have Jz:=aiS (SB.out.below gP.out SB.out.lt);have l4:=X4.out.lt;have l4b:=Jz.out.lt;clear hb4 EX c0 c1 c2 c3 c4 c5 c6 c7 c8 HB HOWN
   obtain ⟨c0,c1,c2,c3,c4,c5,c6,c7,c8⟩:=gq X4.out
   obtain ⟨b0,b1,b2⟩:=fO Jz.out
   have uU : Hid (Below W0.heap.size W0 (w4.alloc (.cells #[.int .i64 eH,.int .i64 px,.int .i64 py,.int .i64 pz,.int .u16 aJ,.int .i64 0] 52))):=aiS (gP.out.alloc gP.out.size _)
   have fd:=FD.out _ (HW0.out.trans (uU.out.mono HW0.out.size))
   go_wp2_with fail
   refine fd.mono ?_;rintro e w6 ⟨rfl,hb6⟩
   have X6:=aiS ((X4.out.alloc (.cells #[.int .i64 eH,.int .i64 px,.int .i64 py,.int .i64 pz,.int .u16 aJ,.int .i64 0] 52)).below hb6 (by simp;omega))
   have P6:=aiS ((ak.new w4 #[.int .i64 eH,.int .i64 px,.int .i64 py,.int .i64 pz,.int .u16 aJ,.int .i64 0] 52).below hb6 (by simp))
   have lu : Hid (Below W0.heap.size W0 w6):=aiS (uU.out.trans (hb6.mono uU.out.size))
   have yS:=aiS (own_below (xA.out.alloc _) hb6);have l6:=X6.out.lt;have l6b:=P6.out.lt;clear hb6 fd FD c0 c1 c2 c3 c4 c5 c6 c7 c8 b0 b1 b2 gP uU xA X4 Jz
   obtain ⟨c0,c1,c2,c3,c4,c5,c6,c7,c8⟩:=gq X6.out
   obtain ⟨p0,p1,p2,p3,p4,p5⟩:=nk P6.out
   obtain ⟨f0,f1,f2,f3,f4,f5⟩:=pO P6.out
   by_cases hm : fb = true /\ iy = gen
   ·obtain ⟨rfl,rfl⟩:=hm
    have vS : Hid (pk = ⟨eH,dQ px vx qx ux num den,dQ py vy qy uy num den,dQ pz vz qz uz num den,rP aJ iw num den,2⟩):=aiS (by rw [AY.out];unfold AV;rw [if_pos ⟨rfl,rfl⟩];rfl)
    have PL:=aiS (Ud ⟨eH,px,py,pz,vx,vy,vz,aJ,iy⟩ ⟨nI,qx,qy,qz,ux,uy,uz,iw,iy⟩ num den hx hy vB);have AL:=aiS (Md aJ iw num den hx.aJ hy.aJ vB)
    unfold bM at PL
    dsimp only at PL
    generalize dQ px vx qx ux num den = z1 at *
    generalize dQ py vy qy uy num den = z2 at *
    generalize dQ pz vz qz uz num den = z3 at *
    generalize rP aJ iw num den = z4 at *
    go_wp2_with fail
    have X7:=aiS (X6.out.alloc (.cells #[.int .i64 nI,.int .i64 qx,.int .i64 qy,.int .i64 qz,.int .i64 ux,.int .i64 uy,.int .i64 uz,.int .u16 iw,.int .u8 iy] 33));have P7:=aiS (P6.out.alloc (.cells #[.int .i64 nI,.int .i64 qx,.int .i64 qy,.int .i64 qz,.int .i64 ux,.int .i64 uy,.int .i64 uz,.int .u16 iw,.int .u8 iy] 33));have Y7:=aiS (ak.new w6 #[.int .i64 nI,.int .i64 qx,.int .i64 qy,.int .i64 qz,.int .i64 ux,.int .i64 uy,.int .i64 uz,.int .u16 iw,.int .u8 iy] 33)
    have qp : Hid (Below W0.heap.size W0 (w6.alloc (.cells #[.int .i64 nI,.int .i64 qx,.int .i64 qy,.int .i64 qz,.int .i64 ux,.int .i64 uy,.int .i64 uz,.int .u16 iw,.int .u8 iy] 33))):=aiS (lu.out.alloc lu.out.size _)
    have vT:=aiS (yS.out.alloc (.cells #[.int .i64 nI,.int .i64 qx,.int .i64 qy,.int .i64 qz,.int .i64 ux,.int .i64 uy,.int .i64 uz,.int .u16 iw,.int .u8 iy] 33));clear c0 c1 c2 c3 c4 c5 c6 c7 c8 p0 p1 p2 p3 p4 p5 f0 f1 f2 f3 f4 f5 X6 P6 lu yS
    generalize w6.alloc (.cells #[.int .i64 nI,.int .i64 qx,.int .i64 qy,.int .i64 qz,.int .i64 ux,.int .i64 uy,.int .i64 uz,.int .u16 iw,.int .u8 iy] 33) = w7 at *
    obtain ⟨c0,c1,c2,c3,c4,c5,c6,c7,c8⟩:=gq X7.out
    obtain ⟨d0,d1,d2,d3,d4,d5,d6,d7,d8⟩:=gq Y7.out
    refine aQ 9 (by kernel_rfl) (by kernel_rfl) ?_
    simp only [List.take_succ_cons,List.take_zero,List.drop_succ_cons,List.drop_zero]
    repeat (apply aA;(next=>(intro W hW K hK;have y0:=hW.cell c0;have y1:=hW.cell c1;have y2:=hW.cell c2;have y3:=hW.cell c3;have y4:=hW.cell c4;have y5:=hW.cell c5;have y6:=hW.cell c6;have y7:=hW.cell c7;have y8:=hW.cell c8;have y9:=hW.cell d0;have JA:=hW.cell d1;have Qy:=hW.cell d2;have Qz:=hW.cell d3;have y13:=hW.cell d4;have QA:=hW.cell d5;have QB:=hW.cell d6;have QC:=hW.cell d7;have QD:=hW.cell d8;go_simp;first | exact ⟨hW,hK⟩ | exact hK));(next=>exact aH.self _);(try go_simp))
    (apply aA;(next=>(intro W hW K hK;go_simp;first | exact ⟨_,hW.call (Mc W),hK⟩ | exact ⟨hW,_,hW.call (Mc W),hK⟩));(next=>exact aH.self _);(try go_simp))
    repeat (apply aA;(next=>(intro W hW K hK;have y0:=hW.cell c0;have y1:=hW.cell c1;have y2:=hW.cell c2;have y3:=hW.cell c3;have y4:=hW.cell c4;have y5:=hW.cell c5;have y6:=hW.cell c6;have y7:=hW.cell c7;have y8:=hW.cell c8;have y9:=hW.cell d0;have JA:=hW.cell d1;have Qy:=hW.cell d2;have Qz:=hW.cell d3;have y13:=hW.cell d4;have QA:=hW.cell d5;have QB:=hW.cell d6;have QC:=hW.cell d7;have QD:=hW.cell d8;go_simp;first | exact ⟨hW,hK⟩ | exact hK));(next=>exact aH.self _);(try go_simp))
    (apply aA;(next=>(intro W hW K hK;go_simp;first | exact ⟨_,hW.call (PL.out W),hK⟩ | exact ⟨hW,_,hW.call (PL.out W),hK⟩));(next=>exact aH.self _);(try go_simp))
    repeat (apply aA;(next=>(intro W hW K hK;have y0:=hW.cell c0;have y1:=hW.cell c1;have y2:=hW.cell c2;have y3:=hW.cell c3;have y4:=hW.cell c4;have y5:=hW.cell c5;have y6:=hW.cell c6;have y7:=hW.cell c7;have y8:=hW.cell c8;have y9:=hW.cell d0;have JA:=hW.cell d1;have Qy:=hW.cell d2;have Qz:=hW.cell d3;have y13:=hW.cell d4;have QA:=hW.cell d5;have QB:=hW.cell d6;have QC:=hW.cell d7;have QD:=hW.cell d8;go_simp;first | exact ⟨hW,hK⟩ | exact hK));(next=>exact aH.self _);(try go_simp))
    refine aT ?_
    intro WC aP
    have tu : Below w7.heap.size w7 WC:=aP
    have X8:=aiS (X7.out.below tu X7.out.lt);have Y8:=aiS (Y7.out.below tu Y7.out.lt);have P8:=aiS (P7.out.below tu P7.out.lt)
    have AZ : Hid (Below W0.heap.size W0 WC):=aiS (qp.out.trans (tu.mono qp.out.size))
    have QE:=aiS (own_below vT.out tu);clear aP tu c0 c1 c2 c3 c4 c5 c6 c7 c8 d0 d1 d2 d3 d4 d5 d6 d7 d8 X7 Y7 P7 qp vT PL
    obtain ⟨c0,c1,c2,c3,c4,c5,c6,c7,c8⟩:=gq X8.out
    obtain ⟨d0,d1,d2,d3,d4,d5,d6,d7,d8⟩:=gq Y8.out
    obtain ⟨p0,p1,p2,p3,p4,p5⟩:=nk P8.out
    obtain ⟨f0,f1,f2,f3,f4,f5⟩:=pO P8.out
    go_wp2_with fail
    have Z9:=EH P8.out 5 (.int .i64 2) 1 (.int .i64 z1) 2 (.int .i64 z2) 3 (.int .i64 z3);clear c0 c1 c2 c3 c4 c5 c6 c7 c8 d0 d1 d2 d3 d4 d5 d6 d7 d8 p0 p1 p2 p3 p4 p5 f0 f1 f2 f3 f4 f5
    obtain ⟨w9,QF⟩ : ∃ w9,w9 = ((((WC.setCell ⟨w4.heap.size,5,none⟩ (.int .i64 2)).setCell ⟨w4.heap.size,1,none⟩ (.int .i64 z1)).setCell ⟨w4.heap.size,2,none⟩ (.int .i64 z2)).setCell ⟨w4.heap.size,3,none⟩ (.int .i64 z3)):=⟨_,rfl⟩
    rw [← QF] at Z9 ⊢
    clear QF
    obtain ⟨Z9,O9⟩:=Z9
    simp at Z9
    have X9:=aiS (O9.blk X8.out (by omega))
    have Y9:=aiS (O9.blk Y8.out (by omega))
    have P9:=aiS Z9
    have JB : Hid (Below W0.heap.size W0 w9):=aiS (AZ.out.trans (O9.below AZ.out.size (by rintro i rfl;omega)))
    have QG:=aiS (qR QE.out O9 (λj e h=>by have:=dI.out j e;have h2 : j = w4.heap.size:=h;omega))
    clear Z9 O9 X8 Y8 P8 AZ QE
    refine (AL.out _).mono ?_;rintro e wd ⟨rfl,hbd⟩
    have EJ:=P9.out.below hbd P9.out.lt;have l9:=EJ.lt;have JC:=JB.out.trans (hbd.mono JB.out.size);have JD:=own_below QG.out hbd
    obtain ⟨p0,p1,p2,p3,p4,p5⟩:=nk EJ
    obtain ⟨f0,f1,f2,f3,f4,f5⟩:=pO EJ
    have xB:=aiS (qR JD ((Only.refl (· = w4.heap.size) wd).setCell (p:=⟨w4.heap.size,4,none⟩) (.inl rfl) (.int .u16 z4)) (λj e h=>by have:=dI.out j e;have h2 : j = w4.heap.size:=h;omega))
    have rR : Hid (Below W0.heap.size W0 (wd.setCell ⟨w4.heap.size,4,none⟩ (.int .u16 z4))):=aiS (JC.setCell (by simp;omega) _)
    clear hbd EJ JC JD X9 Y9 P9 JB QG
    go_wp2_with (at_builtin;refine wpList_append_own _ rfl (.tmp 87) (.tmp 89) 47 rfl W0.heap.size 52 i0 (.agg #[.int .i64 0,.int .i64 0,.int .i64 0,.int .i64 0,.int .u16 0,.int .i64 0]) 6 48 Tryz.underlying47 hi hz0 hz1 hz2 rfl (by decide) _ _ _ rfl (xB.out.alloc _) ⟨wd.heap.size,0,none⟩ 1 1 [.int .i64 eH,.int .i64 z1,.int .i64 z2,.int .i64 z3,.int .u16 z4,.int .i64 2] rfl rfl ?c1 ?c2 ?c3 ?c4 ?c5 ?_)
    case c1=>exact lq (by simp)
    case c2=>intro u hu;simp at hu;rcases hu with rfl | rfl | rfl | rfl | rfl | rfl <;> rfl
    case c3=>unfold maxLen;omega
    case c4=>omega
    case c5=>have:=rR.out.size;simp at *;omega
    intro v' ku hown' hgrow _
    have hszz:=rR.out.size
    have hB' : Hid (Below W0.heap.size W0 ku):=aiS ((rR.out.alloc hszz _).grown hgrow (by simp at *;omega) (λj e=>(xB.out.lt j e).1))
    have HO : Hid (ku.ownsRow W0.heap.size 52 6 v' (k + 1) (jG P (k + 1))):=aiS (by rw [HL.out,vS.out];exact hown')
    clear hown' hgrow
    go_wp2
    go_roundw
    case rel=>exact ⟨k + 1,by omega,by go_num,HO.out,hB'.out⟩
    case measure=>simp [intOf];omega
   ·have vS : Hid (pk = ⟨eH,px,py,pz,aJ,0⟩):=aiS (by rw [AY.out];unfold AV;rw [if_neg hm];rfl)
    have qp : Hid (Below W0.heap.size W0 (w6.alloc (.cells #[.int .i64 nI,.int .i64 qx,.int .i64 qy,.int .i64 qz,.int .i64 ux,.int .i64 uy,.int .i64 uz,.int .u16 iw,.int .u8 iy] 33))):=aiS (lu.out.alloc lu.out.size _)
    have vT:=aiS (yS.out.alloc (.cells #[.int .i64 nI,.int .i64 qx,.int .i64 qy,.int .i64 qz,.int .i64 ux,.int .i64 uy,.int .i64 uz,.int .u16 iw,.int .u8 iy] 33))
    cases fb
    ·clear hm
     go_wp2_with (at_builtin;refine wpList_append_own _ rfl (.tmp 87) (.tmp 89) 47 rfl W0.heap.size 52 i0 (.agg #[.int .i64 0,.int .i64 0,.int .i64 0,.int .i64 0,.int .u16 0,.int .i64 0]) 6 48 Tryz.underlying47 hi hz0 hz1 hz2 rfl (by decide) _ _ _ rfl (vT.out.alloc _) ⟨w6.heap.size + 1,0,none⟩ 1 1 [.int .i64 eH,.int .i64 px,.int .i64 py,.int .i64 pz,.int .u16 aJ,.int .i64 0] rfl rfl ?c1 ?c2 ?c3 ?c4 ?c5 ?_)
     case c1=>exact lq (by simp)
     case c2=>intro u hu;simp at hu;rcases hu with rfl | rfl | rfl | rfl | rfl | rfl <;> rfl
     case c3=>unfold maxLen;omega
     case c4=>omega
     case c5=>have:=qp.out.size;simp at *;omega
     intro v' ku hown' hgrow _
     have hszz:=qp.out.size
     have hB' : Hid (Below W0.heap.size W0 ku):=aiS ((qp.out.alloc hszz _).grown hgrow (by simp at *;omega) (λj e=>(vT.out.lt j e).1))
     have HO : Hid (ku.ownsRow W0.heap.size 52 6 v' (k + 1) (jG P (k + 1))):=aiS (by rw [HL.out,vS.out];exact hown')
     clear hown' hgrow
     go_wp2
     go_roundw
     case rel=>exact ⟨k + 1,by omega,by go_num,HO.out,hB'.out⟩
     case measure=>simp [intOf];omega
    ·have hg : (iy == gen) = false:=by simpa using hm
     clear hm
     go_wp2_with (at_builtin;refine wpList_append_own _ rfl (.tmp 87) (.tmp 89) 47 rfl W0.heap.size 52 i0 (.agg #[.int .i64 0,.int .i64 0,.int .i64 0,.int .i64 0,.int .u16 0,.int .i64 0]) 6 48 Tryz.underlying47 hi hz0 hz1 hz2 rfl (by decide) _ _ _ rfl (vT.out.alloc _) ⟨w6.heap.size + 1,0,none⟩ 1 1 [.int .i64 eH,.int .i64 px,.int .i64 py,.int .i64 pz,.int .u16 aJ,.int .i64 0] rfl rfl ?c1 ?c2 ?c3 ?c4 ?c5 ?_)
     case c1=>exact lq (by simp)
     case c2=>intro u hu;simp at hu;rcases hu with rfl | rfl | rfl | rfl | rfl | rfl <;> rfl
     case c3=>unfold maxLen;omega
     case c4=>omega
     case c5=>have:=qp.out.size;simp at *;omega
     intro v' ku hown' hgrow _
     have hszz:=qp.out.size
     have hB' : Hid (Below W0.heap.size W0 ku):=aiS ((qp.out.alloc hszz _).grown hgrow (by simp at *;omega) (λj e=>(vT.out.lt j e).1))
     have HO : Hid (ku.ownsRow W0.heap.size 52 6 v' (k + 1) (jG P (k + 1))):=aiS (by rw [HL.out,vS.out];exact hown')
     clear hown' hgrow
     go_wp2
     go_roundw
     case rel=>exact ⟨k + 1,by omega,by go_num,HO.out,hB'.out⟩
     case measure=>simp [intOf];omega
  ·obtain rfl : k = la:=by omega
   obtain ⟨s,cp,rfl,hS⟩:=oF hown
   have HS:=aiS hS;have sI:=aiS (HW0.out.trans (hB.mono HW0.out.size));clear hS hown hB
   go_wp2
   exact bodyPost_ret (v:=.tuple #[.slice s k cp,.int .i64 0]) (by simp [results,Tryz.results48,go_sem]) rfl ⟨s,cp,rfl,HS.out,sI.out⟩
set_option maxRecDepth 100000
def lS (c : aO) (ka ta : Int) (aa : Option Addr) (la ca : Nat) (A : Nat -> aB) : Int:=gD c (λ_=>ka) (λ_=>ta) (λ_=>(aa,la,ca)) (λ_=>A) 1
theorem CF {c : aO} {ka ta : Int} {aa : Option Addr} {la ca : Nat} {A : Nat -> aB} (h : lS c ka ta aa la ca A = 0) : la <= 64 /\ 0 <= c.extra /\ dh ka ta la A = 0 /\ dB c = 0:=by
 unfold lS gD at h
 split at h
 ·rename_i hc
  have h2 : dh ka ta la A = 0:=by
   by_cases e : dh ka ta la A = 0
   ·exact e
   ·have : nR (λ_=>ka) (λ_=>ta) (λ_=>(aa,la,ca)) (λ_=>A) 1 0 = dh ka ta la A:=by
     show (if dh ka ta la A = 0 then _ else dh ka ta la A) = _
     rw [if_neg e]
    rw [this] at h;exact h
  refine ⟨Dp h2,?_,h2,hc⟩
  unfold dB at hc
  split at hc
  ·split at hc
   ·contradiction
   ·split at hc
    ·rename_i h3
     simp only [Bool.and_eq_true] at h3
     have:=h3.2
     unfold pY at this
     simp at this
     exact this.1
    ·exact absurd hc (by decide)
  ·exact absurd hc (by decide)
 ·contradiction
def JE (m d : Int) (x : aB) : Po:=⟨x.id,aU x.px (aN x.vx d),aU x.py (aN x.vy d),aU x.pz (aN x.vz d),x.aJ,m⟩
def yT (m d : Int) (A : Nat -> aB) (i : Nat) : Po:=JE m d (A i)
def xC (c : aO) (d : Int) : Int:=if d = 0 then 0 else if c.extra < d then 4 else 3
def yU (c : aO) (d : Int) : Int:=if c.extra < d then c.extra else d
theorem JF {a t : Int} (h : kV a t = 0) : a <= t /\ zH a t = aK t a /\ -2305843009213693952 <= a /\ a <= 2305843009213693952:=by
 have hn : zH a t = aK t a:=by unfold zH;rw [if_pos h]
 have hc : eD (λ_=>a) 1 = 0:=by
  unfold kV at h
  split at h
  ·assumption
  ·assumption
 have h1 : ¬ (t < a):=by
  unfold kV at h
  rw [if_pos hc] at h
  intro hh;rw [if_pos hh] at h;exact absurd h (by decide)
 have b0:=rO hc (show 0 < 1 by omega)
 exact ⟨by omega,hn,b0⟩
set_option maxHeartbeats 1000000 in
theorem Uf (c : aO) (ka ta : Int) (aa : Option Addr) (la ca : Nat) (A : Nat -> aB) (au : Int) (w : World) (xD : ay ta) (hat : ay au) (ha : dw w aa la A) (hla : (la : Int) <= 4611686018427387904) (h0 : lS c ka ta aa la ca A ≠ 0) :
 Calls Tryz.prog 47 #[aZ c,bO ka ta aa la ca,.int .i64 au] w λe w'=>e = .returned (.tuple #[.slice none 0 0,.int .i64 (lS c ka ta aa la ca A)]) /\ Below w.heap.size w w':=by
 have hB3 : Below w.heap.size w ((w.alloc (.cells #[.int .i64 c.ring,.int .i64 c.window,.int .i64 c.base,.int .i64 c.gain,.int .i64 c.least,.int .i64 c.most,.int .i64 c.aD,.int .i64 c.num,.int .i64 c.den,.int .i64 c.extra,.bool c.aC] 29)).alloc (.cells #[.int .i64 ka,.int .i64 ta,.slice aa la ca] 36)):=(aiT).alloc (by simp) _
 have bc:=((ak.new w #[.int .i64 c.ring,.int .i64 c.window,.int .i64 c.base,.int .i64 c.gain,.int .i64 c.least,.int .i64 c.most,.int .i64 c.aD,.int .i64 c.num,.int .i64 c.den,.int .i64 c.extra,.bool c.aC] 29).alloc (.cells #[.int .i64 ka,.int .i64 ta,.slice aa la ca] 36));have ba:=ak.new (w.alloc (.cells #[.int .i64 c.ring,.int .i64 c.window,.int .i64 c.base,.int .i64 c.gain,.int .i64 c.least,.int .i64 c.most,.int .i64 c.aD,.int .i64 c.num,.int .i64 c.den,.int .i64 c.extra,.bool c.aC] 29)) #[.int .i64 ka,.int .i64 ta,.slice aa la ca] 36
 have CK:=jr c (some ⟨((w.alloc (.cells #[.int .i64 c.ring,.int .i64 c.window,.int .i64 c.base,.int .i64 c.gain,.int .i64 c.least,.int .i64 c.most,.int .i64 c.aD,.int .i64 c.num,.int .i64 c.den,.int .i64 c.extra,.bool c.aC] 29)).alloc (.cells #[.int .i64 ka,.int .i64 ta,.slice aa la ca] 36)).heap.size,0,none⟩) 1 1 _ _ _ _ _ (Jv ((w.alloc (.cells #[.int .i64 c.ring,.int .i64 c.window,.int .i64 c.base,.int .i64 c.gain,.int .i64 c.least,.int .i64 c.most,.int .i64 c.aD,.int .i64 c.num,.int .i64 c.den,.int .i64 c.extra,.bool c.aC] 29)).alloc (.cells #[.int .i64 ka,.int .i64 ta,.slice aa la ca] 36)) ka ta aa la ca A (ha.below hB3) hla) (by decide)
 have hs3 : ((w.alloc (.cells #[.int .i64 c.ring,.int .i64 c.window,.int .i64 c.base,.int .i64 c.gain,.int .i64 c.least,.int .i64 c.most,.int .i64 c.aD,.int .i64 c.num,.int .i64 c.den,.int .i64 c.extra,.bool c.aC] 29)).alloc (.cells #[.int .i64 ka,.int .i64 ta,.slice aa la ca] 36)).heap.size = w.heap.size + 1 + 1:=by simp
 change Calls _ _ _ _ (λe w'=>e = .returned (.int .i64 (lS c ka ta aa la ca A)) /\ _) at CK
 simp only [World.size_alloc] at ba
 unfold aZ at CK ⊢
 unfold bO
 generalize lS c ka ta aa la ca A = z at *
 have hz : (z != 0) = true:=by simpa using h0
 go_enter Tryz.func47,Tryz.ntmps47
 go_wp2_with fail
 generalize ((w.alloc (.cells #[.int .i64 c.ring,.int .i64 c.window,.int .i64 c.base,.int .i64 c.gain,.int .i64 c.least,.int .i64 c.most,.int .i64 c.aD,.int .i64 c.num,.int .i64 c.den,.int .i64 c.extra,.bool c.aC] 29)).alloc (.cells #[.int .i64 ka,.int .i64 ta,.slice aa la ca] 36)) = W at *
 rw [hs3] at CK
 refine CK.mono ?_;rintro e w1 ⟨rfl,hb1⟩
 have hB1 : Below W.heap.size W w1:=(aiT).trans (hb1.mono (by simp))
 have HB1 : Hid (Below w.heap.size w w1):=aiS (hB3.trans (hB1.mono hB3.size))
 have SC:=aiS (bc.below hB1 bc.lt);have SA:=aiS (ba.below hB1 ba.lt);clear hB3 hb1 hB1 CK bc ba hs3
 go_wp2
 exact bodyPost_ret (v:=.tuple #[.slice none 0 0,.int .i64 z]) (by simp [results,Tryz.results47,go_sem]) rfl ⟨rfl,HB1.out⟩
set_option maxHeartbeats 1000000 in
theorem QI (c : aO) (ka ta : Int) (aa : Option Addr) (la ca : Nat) (A : Nat -> aB) (au : Int) (w : World) (xD : ay ta) (hat : ay au) (ha : dw w aa la A) (hla : (la : Int) <= 4611686018427387904) (h0 : lS c ka ta aa la ca A = 0) (h1 : kV ta au ≠ 0) :
 Calls Tryz.prog 47 #[aZ c,bO ka ta aa la ca,.int .i64 au] w λe w'=>e = .returned (.tuple #[.slice none 0 0,.int .i64 (kV ta au)]) /\ Below w.heap.size w w':=by
 have PT:=IL ka ta au aa la ca xD hat
 have hB3 : Below w.heap.size w ((w.alloc (.cells #[.int .i64 c.ring,.int .i64 c.window,.int .i64 c.base,.int .i64 c.gain,.int .i64 c.least,.int .i64 c.most,.int .i64 c.aD,.int .i64 c.num,.int .i64 c.den,.int .i64 c.extra,.bool c.aC] 29)).alloc (.cells #[.int .i64 ka,.int .i64 ta,.slice aa la ca] 36)):=(aiT).alloc (by simp) _
 have bc:=((ak.new w #[.int .i64 c.ring,.int .i64 c.window,.int .i64 c.base,.int .i64 c.gain,.int .i64 c.least,.int .i64 c.most,.int .i64 c.aD,.int .i64 c.num,.int .i64 c.den,.int .i64 c.extra,.bool c.aC] 29).alloc (.cells #[.int .i64 ka,.int .i64 ta,.slice aa la ca] 36));have ba:=ak.new (w.alloc (.cells #[.int .i64 c.ring,.int .i64 c.window,.int .i64 c.base,.int .i64 c.gain,.int .i64 c.least,.int .i64 c.most,.int .i64 c.aD,.int .i64 c.num,.int .i64 c.den,.int .i64 c.extra,.bool c.aC] 29)) #[.int .i64 ka,.int .i64 ta,.slice aa la ca] 36
 have CK:=jr c (some ⟨((w.alloc (.cells #[.int .i64 c.ring,.int .i64 c.window,.int .i64 c.base,.int .i64 c.gain,.int .i64 c.least,.int .i64 c.most,.int .i64 c.aD,.int .i64 c.num,.int .i64 c.den,.int .i64 c.extra,.bool c.aC] 29)).alloc (.cells #[.int .i64 ka,.int .i64 ta,.slice aa la ca] 36)).heap.size,0,none⟩) 1 1 _ _ _ _ _ (Jv ((w.alloc (.cells #[.int .i64 c.ring,.int .i64 c.window,.int .i64 c.base,.int .i64 c.gain,.int .i64 c.least,.int .i64 c.most,.int .i64 c.aD,.int .i64 c.num,.int .i64 c.den,.int .i64 c.extra,.bool c.aC] 29)).alloc (.cells #[.int .i64 ka,.int .i64 ta,.slice aa la ca] 36)) ka ta aa la ca A (ha.below hB3) hla) (by decide)
 have hs3 : ((w.alloc (.cells #[.int .i64 c.ring,.int .i64 c.window,.int .i64 c.base,.int .i64 c.gain,.int .i64 c.least,.int .i64 c.most,.int .i64 c.aD,.int .i64 c.num,.int .i64 c.den,.int .i64 c.extra,.bool c.aC] 29)).alloc (.cells #[.int .i64 ka,.int .i64 ta,.slice aa la ca] 36)).heap.size = w.heap.size + 1 + 1:=by simp
 change Calls _ _ _ _ (λe w'=>e = .returned (.int .i64 (lS c ka ta aa la ca A)) /\ _) at CK
 simp only [World.size_alloc] at ba
 unfold aZ at CK ⊢
 unfold bO
 rw [h0] at CK
 clear h0
 generalize kV ta au = z at *
 generalize zH ta au = num at *
 have hz : (z != 0) = true:=by simpa using h1
 go_enter Tryz.func47,Tryz.ntmps47
 go_wp2_with fail
 generalize ((w.alloc (.cells #[.int .i64 c.ring,.int .i64 c.window,.int .i64 c.base,.int .i64 c.gain,.int .i64 c.least,.int .i64 c.most,.int .i64 c.aD,.int .i64 c.num,.int .i64 c.den,.int .i64 c.extra,.bool c.aC] 29)).alloc (.cells #[.int .i64 ka,.int .i64 ta,.slice aa la ca] 36)) = W at *
 rw [hs3] at CK
 refine CK.mono ?_;rintro e w1 ⟨rfl,hb1⟩
 have hB1 : Below W.heap.size W w1:=(aiT).trans (hb1.mono (by simp))
 have HB1 : Hid (Below w.heap.size w w1):=aiS (hB3.trans (hB1.mono hB3.size))
 have SC:=aiS (bc.below hB1 bc.lt);have SA:=aiS (ba.below hB1 ba.lt);clear hB3 hb1 hB1 CK bc ba hs3
 obtain ⟨a0,a1,a2⟩:=fO SA.out
 go_wp2_with fail
 refine (PT _).mono ?_;rintro e w2 ⟨rfl,hb2⟩
 have HB2 : Hid (Below w.heap.size w w2):=aiS (HB1.out.trans (hb2.mono HB1.out.size))
 clear hb2 a0 a1 a2 PT
 go_wp2
 exact bodyPost_ret (v:=.tuple #[.slice none 0 0,.int .i64 z]) (by simp [results,Tryz.results47,go_sem]) rfl ⟨rfl,HB2.out⟩
set_option maxHeartbeats 4000000 in
theorem Zd (c : aO) (ok : c.Ok) (ka ta : Int) (aa : Option Addr) (la ca : Nat) (A : Nat -> aB) (au : Int) (w : World) (xD : ay ta) (hat : ay au) (ha : dw w aa la A) (hla : (la : Int) <= 4611686018427387904) (h0 : lS c ka ta aa la ca A = 0) (h1 : kV ta au = 0) (hd : aK au ta = 0) :
 Calls Tryz.prog 47 #[aZ c,bO ka ta aa la ca,.int .i64 au] w λe w'=>∃ s cp,e = .returned (.tuple #[.slice s la cp,.int .i64 0]) /\ dZ w' s la (yT 0 0 A) /\ Below w.heap.size w w':=by
 obtain ⟨i0,hi,hz0,hz1,hz2⟩:=info_parts vR
 have PT:=IL ka ta au aa la ca xD hat
 obtain ⟨F4,hex,_,_⟩:=CF h0
 obtain ⟨hle,hN,_,_⟩:=JF h1
 rw [hN,h1] at PT
 have F5:=jq au ta
 have hd0 : 0 <= aK au ta:=by unfold aK sat;omega
 generalize aK au ta = d at *
 clear hN h1 hle
 subst hd
 have hg : decide (c.extra < 0) = false:=decide_eq_false (by omega)
 have hdd : ay 0:=by unfold ay;omega
 obtain ⟨P,hP⟩ : ∃ P,yT 0 0 A = P:=⟨_,rfl⟩
 have HP : Hid (∀ i,P i = JE 0 0 (A i)):=aiS (λi=>by rw [← hP];rfl)
 rw [hP]
 have QJ:=aiS hdd;clear hP F5 hd0 hex hdd 
 have hB3 : Below w.heap.size w ((w.alloc (.cells #[.int .i64 c.ring,.int .i64 c.window,.int .i64 c.base,.int .i64 c.gain,.int .i64 c.least,.int .i64 c.most,.int .i64 c.aD,.int .i64 c.num,.int .i64 c.den,.int .i64 c.extra,.bool c.aC] 29)).alloc (.cells #[.int .i64 ka,.int .i64 ta,.slice aa la ca] 36)):=(aiT).alloc (by simp) _
 have bc:=((ak.new w #[.int .i64 c.ring,.int .i64 c.window,.int .i64 c.base,.int .i64 c.gain,.int .i64 c.least,.int .i64 c.most,.int .i64 c.aD,.int .i64 c.num,.int .i64 c.den,.int .i64 c.extra,.bool c.aC] 29).alloc (.cells #[.int .i64 ka,.int .i64 ta,.slice aa la ca] 36));have ba:=ak.new (w.alloc (.cells #[.int .i64 c.ring,.int .i64 c.window,.int .i64 c.base,.int .i64 c.gain,.int .i64 c.least,.int .i64 c.most,.int .i64 c.aD,.int .i64 c.num,.int .i64 c.den,.int .i64 c.extra,.bool c.aC] 29)) #[.int .i64 ka,.int .i64 ta,.slice aa la ca] 36
 have CK:=jr c (some ⟨((w.alloc (.cells #[.int .i64 c.ring,.int .i64 c.window,.int .i64 c.base,.int .i64 c.gain,.int .i64 c.least,.int .i64 c.most,.int .i64 c.aD,.int .i64 c.num,.int .i64 c.den,.int .i64 c.extra,.bool c.aC] 29)).alloc (.cells #[.int .i64 ka,.int .i64 ta,.slice aa la ca] 36)).heap.size,0,none⟩) 1 1 _ _ _ _ _ (Jv ((w.alloc (.cells #[.int .i64 c.ring,.int .i64 c.window,.int .i64 c.base,.int .i64 c.gain,.int .i64 c.least,.int .i64 c.most,.int .i64 c.aD,.int .i64 c.num,.int .i64 c.den,.int .i64 c.extra,.bool c.aC] 29)).alloc (.cells #[.int .i64 ka,.int .i64 ta,.slice aa la ca] 36)) ka ta aa la ca A (ha.below hB3) hla) (by decide)
 have hs3 : ((w.alloc (.cells #[.int .i64 c.ring,.int .i64 c.window,.int .i64 c.base,.int .i64 c.gain,.int .i64 c.least,.int .i64 c.most,.int .i64 c.aD,.int .i64 c.num,.int .i64 c.den,.int .i64 c.extra,.bool c.aC] 29)).alloc (.cells #[.int .i64 ka,.int .i64 ta,.slice aa la ca] 36)).heap.size = w.heap.size + 1 + 1:=by simp
 change Calls _ _ _ _ (λe w'=>e = .returned (.int .i64 (lS c ka ta aa la ca A)) /\ _) at CK
 simp only [World.size_alloc] at ba
 unfold aZ at CK ⊢
 unfold bO
 go_enter Tryz.func47,Tryz.ntmps47
 go_wp2_with fail
 generalize ((w.alloc (.cells #[.int .i64 c.ring,.int .i64 c.window,.int .i64 c.base,.int .i64 c.gain,.int .i64 c.least,.int .i64 c.most,.int .i64 c.aD,.int .i64 c.num,.int .i64 c.den,.int .i64 c.extra,.bool c.aC] 29)).alloc (.cells #[.int .i64 ka,.int .i64 ta,.slice aa la ca] 36)) = W at *
 rw [hs3] at CK
 refine CK.mono ?_;rintro e w1 ⟨rfl,hb1⟩
 have hB1 : Below W.heap.size W w1:=(aiT).trans (hb1.mono (by simp))
 have HB1 : Hid (Below w.heap.size w w1):=aiS (hB3.trans (hB1.mono hB3.size))
 have SC:=aiS (bc.below hB1 bc.lt);have SA:=aiS (ba.below hB1 ba.lt);clear hB3 hb1 hB1 CK bc ba hs3
 rw [h0]
 clear h0;have zI:=ha.1
 have yR : Hid (∀ k,k < la -> ∃ b off,aa = some ⟨b,off,none⟩ /\ b < w.heap.size /\ dF w b (off + k * 9) (A k)):=aiS (λk hk=>by
  rcases ha.2 with h0 | ⟨b,off,e,hb,hc⟩
  ·omega
  ·exact ⟨b,off,e,hb,hc k hk⟩)
 obtain ⟨a0,a1,a2⟩:=fO SA.out
 go_wp2_with fail
 refine (PT _).mono ?_;rintro e W0 ⟨rfl,hb2⟩
 have qc:=aiS (SC.out.below hb2 SC.out.lt);clear SC;have SC:=qc;clear qc;have oG:=aiS (SA.out.below hb2 SA.out.lt);clear SA;have SA:=oG;clear oG
 have HW0 : Hid (Below w.heap.size w W0):=aiS (HB1.out.trans (hb2.mono HB1.out.size))
 clear hb2 a0 a1 a2 PT HB1
 obtain ⟨a0,a1,a2⟩:=fO SA.out
 obtain ⟨q0,q1,q2,q3,q4,q5,q6,q7,q8,q9,kr⟩:=eu SC.out
 go_wp2_with fail
 clear a0 a1 a2 q0 q1 q2 q3 q4 q5 q6 q7 q8 q9 kr
 go_loopw [12,45] (λv i wr=>∃ k : Nat,k <= la /\ i = .int .i64 k /\ wr.ownsRow W0.heap.size 52 6 v k (jG P k) /\ Below W0.heap.size W0 wr) (λ_ i _=>la - (intOf i).toNat)
 case atStart=>exact ⟨0,Nat.zero_le _,rfl,World.ownsRow_nil _ _ _ _,Below.refl _ _⟩
 case round =>
  rename_i wr
  obtain ⟨k,hk,rfl,hown,hB⟩:=hrel
  have hsz:=hB.size
  by_cases hlt : k < la
  ·obtain ⟨b,off,EI,hbw,hc⟩:=yR.out k hlt
   subst EI
   have hcw:=hc.below (HW0.out.trans (hB.mono HW0.out.size)) hbw;have hx:=zI k hlt;have AY:=aiS (HP.out k)
   have HL : Hid (jG P (k + 1) = jG P k ++ [.int .i64 (P k).id,.int .i64 (P k).px,.int .i64 (P k).py,.int .i64 (P k).pz,.int .u16 (P k).aJ,.int .i64 (P k).mode]):=aiS rfl
   have EX:=yQ (A k)
   unfold bM Ju uE at EX
   have hkl : (k : Int) < la:=by omega
   have HOWN:=aiS hown
   have dI:=aiS (λj e=>(hown.lt j e).2)
   have HB:=aiS hB;have HCW:=aiS hcw;clear hc hown hB
   generalize P k = pk at *
   generalize A k = x at *
   obtain ⟨eH,px,py,pz,vx,vy,vz,aJ,gen⟩:=x
   obtain ⟨c0,c1,c2,c3,c4,c5,c6,c7,c8⟩:=hcw
   dsimp only at c0 c1 c2 c3 c4 c5 c6 c7 c8 EX
   have VG:=aiS (NC px py pz vx vy vz 0 hx.px hx.py hx.pz hx.vx hx.vy hx.vz QJ.out)
   go_wp2_with fail
   refine (EX _).mono ?_;rintro e w4 ⟨rfl,hb4⟩
   have X4:=aiS ((ak.new wr #[.int .i64 eH,.int .i64 px,.int .i64 py,.int .i64 pz,.int .i64 vx,.int .i64 vy,.int .i64 vz,.int .u16 aJ,.int .u8 gen] 33).below hb4 (by simp))
   have gP : Hid (Below W0.heap.size W0 w4):=aiS ((HB.out.alloc hsz _).trans (hb4.mono (by simp;omega)))
   have xA:=aiS (own_below (HOWN.out.alloc _) hb4);have l4:=X4.out.lt;clear hb4 EX c0 c1 c2 c3 c4 c5 c6 c7 c8 HB HOWN
   obtain ⟨c0,c1,c2,c3,c4,c5,c6,c7,c8⟩:=gq X4.out
   have vS : Hid (pk = ⟨eH,aU px (aN vx 0),aU py (aN vy 0),aU pz (aN vz 0),aJ,0⟩):=aiS AY.out
   generalize aU px (aN vx 0) = z1 at *
   generalize aU py (aN vy 0) = z2 at *
   generalize aU pz (aN vz 0) = z3 at *
   go_wp2_with fail
   refine (VG.out _).mono ?_;rintro e w6 ⟨rfl,hb6⟩
   have P6:=aiS ((ak.new w4 #[.int .i64 eH,.int .i64 px,.int .i64 py,.int .i64 pz,.int .u16 aJ,.int .i64 0] 52).below hb6 (by simp))
   have lu : Hid (Below W0.heap.size W0 w6):=aiS ((gP.out.alloc gP.out.size _).trans (hb6.mono (by have:=gP.out.size;simp;omega)))
   have yS:=aiS (own_below (xA.out.alloc _) hb6);have l6:=P6.out.lt;clear hb6 c0 c1 c2 c3 c4 c5 c6 c7 c8 gP xA X4 VG
   obtain ⟨p0,p1,p2,p3,p4,p5⟩:=nk P6.out
   obtain ⟨f0,f1,f2,f3,f4,f5⟩:=pO P6.out
   have Z9:=EH P6.out 5 (.int .i64 0) 1 (.int .i64 z1) 2 (.int .i64 z2) 3 (.int .i64 z3)
   have xB:=aiS (qR yS.out Z9.2 (λj e h=>by have:=dI.out j e;have h2 : j = w4.heap.size:=h;omega))
   have rR:=aiS (lu.out.trans (Z9.2.below lu.out.size (by rintro i rfl;omega)))
   clear Z9
   go_wp2_with (at_builtin;refine wpList_append_own _ rfl (.tmp 60) (.tmp 62) 47 rfl W0.heap.size 52 i0 (.agg #[.int .i64 0,.int .i64 0,.int .i64 0,.int .i64 0,.int .u16 0,.int .i64 0]) 6 48 Tryz.underlying47 hi hz0 hz1 hz2 rfl (by decide) _ _ _ rfl (xB.out.alloc _) ⟨w6.heap.size,0,none⟩ 1 1 [.int .i64 eH,.int .i64 z1,.int .i64 z2,.int .i64 z3,.int .u16 aJ,.int .i64 0] rfl rfl ?c1 ?c2 ?c3 ?c4 ?c5 ?_)
   case c1=>exact lq (by simp)
   case c2=>intro u hu;simp at hu;rcases hu with rfl | rfl | rfl | rfl | rfl | rfl <;> rfl
   case c3=>unfold maxLen;omega
   case c4=>omega
   case c5=>have:=rR.out.size;simp at *;omega
   intro v' ku hown' hgrow _
   have hszz:=rR.out.size
   have hB' : Hid (Below W0.heap.size W0 ku):=aiS ((rR.out.alloc hszz _).grown hgrow (by simp at *;omega) (λj e=>(xB.out.lt j e).1))
   have HO : Hid (ku.ownsRow W0.heap.size 52 6 v' (k + 1) (jG P (k + 1))):=aiS (by rw [HL.out,vS.out];exact hown')
   clear hown' hgrow
   go_wp2
   go_roundw
   case rel=>exact ⟨k + 1,by omega,by go_num,HO.out,hB'.out⟩
   case measure=>simp [intOf];omega
  ·obtain rfl : k = la:=by omega
   obtain ⟨s,cp,rfl,hS⟩:=oF hown
   have HS:=aiS hS;have sI:=aiS (HW0.out.trans (hB.mono HW0.out.size));clear hS hown hB
   go_wp2
   exact bodyPost_ret (v:=.tuple #[.slice s k cp,.int .i64 0]) (by simp [results,Tryz.results47,go_sem]) rfl ⟨s,cp,rfl,HS.out,sI.out⟩
set_option maxHeartbeats 4000000 in
theorem Ze (c : aO) (ok : c.Ok) (ka ta : Int) (aa : Option Addr) (la ca : Nat) (A : Nat -> aB) (au : Int) (w : World) (xD : ay ta) (hat : ay au) (ha : dw w aa la A) (hla : (la : Int) <= 4611686018427387904) (h0 : lS c ka ta aa la ca A = 0) (h1 : kV ta au = 0) (hd : aK au ta ≠ 0) (hf : c.extra < aK au ta) :
 Calls Tryz.prog 47 #[aZ c,bO ka ta aa la ca,.int .i64 au] w λe w'=>∃ s cp,e = .returned (.tuple #[.slice s la cp,.int .i64 0]) /\ dZ w' s la (yT 4 c.extra A) /\ Below w.heap.size w w':=by
 obtain ⟨i0,hi,hz0,hz1,hz2⟩:=info_parts vR
 have PT:=IL ka ta au aa la ca xD hat
 obtain ⟨F4,hex,_,_⟩:=CF h0
 obtain ⟨hle,hN,_,_⟩:=JF h1
 rw [hN,h1] at PT
 have F5:=jq au ta
 have hd0 : 0 <= aK au ta:=by unfold aK sat;omega
 generalize aK au ta = d at *
 clear hN h1 hle
 have hg0 : (d == 0) = false:=by simpa using hd
 have hg1 : decide (c.extra < d) = true:=decide_eq_true hf
 have hdd : ay c.extra:=ok.extra
 obtain ⟨P,hP⟩ : ∃ P,yT 4 c.extra A = P:=⟨_,rfl⟩
 have HP : Hid (∀ i,P i = JE 4 c.extra (A i)):=aiS (λi=>by rw [← hP];rfl)
 rw [hP]
 have QJ:=aiS hdd;clear hP F5 hd0 hex hdd hd hf
 have hB3 : Below w.heap.size w ((w.alloc (.cells #[.int .i64 c.ring,.int .i64 c.window,.int .i64 c.base,.int .i64 c.gain,.int .i64 c.least,.int .i64 c.most,.int .i64 c.aD,.int .i64 c.num,.int .i64 c.den,.int .i64 c.extra,.bool c.aC] 29)).alloc (.cells #[.int .i64 ka,.int .i64 ta,.slice aa la ca] 36)):=(aiT).alloc (by simp) _
 have bc:=((ak.new w #[.int .i64 c.ring,.int .i64 c.window,.int .i64 c.base,.int .i64 c.gain,.int .i64 c.least,.int .i64 c.most,.int .i64 c.aD,.int .i64 c.num,.int .i64 c.den,.int .i64 c.extra,.bool c.aC] 29).alloc (.cells #[.int .i64 ka,.int .i64 ta,.slice aa la ca] 36));have ba:=ak.new (w.alloc (.cells #[.int .i64 c.ring,.int .i64 c.window,.int .i64 c.base,.int .i64 c.gain,.int .i64 c.least,.int .i64 c.most,.int .i64 c.aD,.int .i64 c.num,.int .i64 c.den,.int .i64 c.extra,.bool c.aC] 29)) #[.int .i64 ka,.int .i64 ta,.slice aa la ca] 36
 have CK:=jr c (some ⟨((w.alloc (.cells #[.int .i64 c.ring,.int .i64 c.window,.int .i64 c.base,.int .i64 c.gain,.int .i64 c.least,.int .i64 c.most,.int .i64 c.aD,.int .i64 c.num,.int .i64 c.den,.int .i64 c.extra,.bool c.aC] 29)).alloc (.cells #[.int .i64 ka,.int .i64 ta,.slice aa la ca] 36)).heap.size,0,none⟩) 1 1 _ _ _ _ _ (Jv ((w.alloc (.cells #[.int .i64 c.ring,.int .i64 c.window,.int .i64 c.base,.int .i64 c.gain,.int .i64 c.least,.int .i64 c.most,.int .i64 c.aD,.int .i64 c.num,.int .i64 c.den,.int .i64 c.extra,.bool c.aC] 29)).alloc (.cells #[.int .i64 ka,.int .i64 ta,.slice aa la ca] 36)) ka ta aa la ca A (ha.below hB3) hla) (by decide)
 have hs3 : ((w.alloc (.cells #[.int .i64 c.ring,.int .i64 c.window,.int .i64 c.base,.int .i64 c.gain,.int .i64 c.least,.int .i64 c.most,.int .i64 c.aD,.int .i64 c.num,.int .i64 c.den,.int .i64 c.extra,.bool c.aC] 29)).alloc (.cells #[.int .i64 ka,.int .i64 ta,.slice aa la ca] 36)).heap.size = w.heap.size + 1 + 1:=by simp
 change Calls _ _ _ _ (λe w'=>e = .returned (.int .i64 (lS c ka ta aa la ca A)) /\ _) at CK
 simp only [World.size_alloc] at ba
 unfold aZ at CK ⊢
 unfold bO
 go_enter Tryz.func47,Tryz.ntmps47
 go_wp2_with fail
 generalize ((w.alloc (.cells #[.int .i64 c.ring,.int .i64 c.window,.int .i64 c.base,.int .i64 c.gain,.int .i64 c.least,.int .i64 c.most,.int .i64 c.aD,.int .i64 c.num,.int .i64 c.den,.int .i64 c.extra,.bool c.aC] 29)).alloc (.cells #[.int .i64 ka,.int .i64 ta,.slice aa la ca] 36)) = W at *
 rw [hs3] at CK
 refine CK.mono ?_;rintro e w1 ⟨rfl,hb1⟩
 have hB1 : Below W.heap.size W w1:=(aiT).trans (hb1.mono (by simp))
 have HB1 : Hid (Below w.heap.size w w1):=aiS (hB3.trans (hB1.mono hB3.size))
 have SC:=aiS (bc.below hB1 bc.lt);have SA:=aiS (ba.below hB1 ba.lt);clear hB3 hb1 hB1 CK bc ba hs3
 rw [h0]
 clear h0;have zI:=ha.1
 have yR : Hid (∀ k,k < la -> ∃ b off,aa = some ⟨b,off,none⟩ /\ b < w.heap.size /\ dF w b (off + k * 9) (A k)):=aiS (λk hk=>by
  rcases ha.2 with h0 | ⟨b,off,e,hb,hc⟩
  ·omega
  ·exact ⟨b,off,e,hb,hc k hk⟩)
 obtain ⟨a0,a1,a2⟩:=fO SA.out
 go_wp2_with fail
 refine (PT _).mono ?_;rintro e w2 ⟨rfl,hb2⟩
 have qc:=aiS (SC.out.below hb2 SC.out.lt);clear SC;have SC:=qc;clear qc;have oG:=aiS (SA.out.below hb2 SA.out.lt);clear SA;have SA:=oG;clear oG
 have HW0 : Hid (Below w.heap.size w w2):=aiS (HB1.out.trans (hb2.mono HB1.out.size))
 clear hb2 a0 a1 a2 PT HB1
 obtain ⟨a0,a1,a2⟩:=fO SA.out
 obtain ⟨q0,q1,q2,q3,q4,q5,q6,q7,q8,q9,kr⟩:=eu SC.out
 go_wp2_with fail
 refine aQ 3 (by kernel_rfl) (by kernel_rfl) ?_
 simp only [List.take_succ_cons,List.take_zero,List.drop_succ_cons,List.drop_zero]
 repeat (apply aA;(next=>(intro W hW K hK;have y0:=hW.cell q9;go_simp;first | exact ⟨hW,hK⟩ | exact hK));(next=>exact aH.self _);(try go_simp))
 refine aT ?_
 intro WC aP
 generalize WC = W0 at *
 have hb3 : Below w2.heap.size w2 W0:=aP
 have oG:=aiS (SA.out.below hb3 SA.out.lt);clear SA;have SA:=oG;clear oG;have qc:=aiS (SC.out.below hb3 SC.out.lt);clear SC;have SC:=qc;clear qc
 have HW1 : Hid (Below w.heap.size w W0):=aiS (HW0.out.trans (hb3.mono HW0.out.size))
 clear HW0 aP hb3 a0 a1 a2 q0 q1 q2 q3 q4 q5 q6 q7 q8 q9 kr;have HW0:=HW1;clear HW1
 obtain ⟨a0,a1,a2⟩:=fO SA.out
 go_wp2_with fail
 clear a0 a1 a2
 go_loopw [12,45] (λv i wr=>∃ k : Nat,k <= la /\ i = .int .i64 k /\ wr.ownsRow W0.heap.size 52 6 v k (jG P k) /\ Below W0.heap.size W0 wr) (λ_ i _=>la - (intOf i).toNat)
 case atStart=>exact ⟨0,Nat.zero_le _,rfl,World.ownsRow_nil _ _ _ _,Below.refl _ _⟩
 case round =>
  rename_i wr
  obtain ⟨k,hk,rfl,hown,hB⟩:=hrel
  have hsz:=hB.size
  by_cases hlt : k < la
  ·obtain ⟨b,off,EI,hbw,hc⟩:=yR.out k hlt
   subst EI
   have hcw:=hc.below (HW0.out.trans (hB.mono HW0.out.size)) hbw;have hx:=zI k hlt;have AY:=aiS (HP.out k)
   have HL : Hid (jG P (k + 1) = jG P k ++ [.int .i64 (P k).id,.int .i64 (P k).px,.int .i64 (P k).py,.int .i64 (P k).pz,.int .u16 (P k).aJ,.int .i64 (P k).mode]):=aiS rfl
   have EX:=yQ (A k)
   unfold bM Ju uE at EX
   have hkl : (k : Int) < la:=by omega
   have HOWN:=aiS hown
   have dI:=aiS (λj e=>(hown.lt j e).2)
   have HB:=aiS hB;have HCW:=aiS hcw;clear hc hown hB
   generalize P k = pk at *
   generalize A k = x at *
   obtain ⟨eH,px,py,pz,vx,vy,vz,aJ,gen⟩:=x
   obtain ⟨c0,c1,c2,c3,c4,c5,c6,c7,c8⟩:=hcw
   dsimp only at c0 c1 c2 c3 c4 c5 c6 c7 c8 EX
   have VG:=aiS (NC px py pz vx vy vz c.extra hx.px hx.py hx.pz hx.vx hx.vy hx.vz QJ.out)
   go_wp2_with fail
   refine (EX _).mono ?_;rintro e w4 ⟨rfl,hb4⟩
   have X4:=aiS ((ak.new wr #[.int .i64 eH,.int .i64 px,.int .i64 py,.int .i64 pz,.int .i64 vx,.int .i64 vy,.int .i64 vz,.int .u16 aJ,.int .u8 gen] 33).below hb4 (by simp))
   have gP : Hid (Below W0.heap.size W0 w4):=aiS ((HB.out.alloc hsz _).trans (hb4.mono (by simp;omega)))
   have xA:=aiS (own_below (HOWN.out.alloc _) hb4);have l4:=X4.out.lt;clear hb4 EX c0 c1 c2 c3 c4 c5 c6 c7 c8 HB HOWN
   obtain ⟨c0,c1,c2,c3,c4,c5,c6,c7,c8⟩:=gq X4.out
   have vS : Hid (pk = ⟨eH,aU px (aN vx c.extra),aU py (aN vy c.extra),aU pz (aN vz c.extra),aJ,4⟩):=aiS AY.out
   generalize aU px (aN vx c.extra) = z1 at *
   generalize aU py (aN vy c.extra) = z2 at *
   generalize aU pz (aN vz c.extra) = z3 at *
   go_wp2_with fail
   refine (VG.out _).mono ?_;rintro e w6 ⟨rfl,hb6⟩
   have P6:=aiS ((ak.new w4 #[.int .i64 eH,.int .i64 px,.int .i64 py,.int .i64 pz,.int .u16 aJ,.int .i64 0] 52).below hb6 (by simp))
   have lu : Hid (Below W0.heap.size W0 w6):=aiS ((gP.out.alloc gP.out.size _).trans (hb6.mono (by have:=gP.out.size;simp;omega)))
   have yS:=aiS (own_below (xA.out.alloc _) hb6);have l6:=P6.out.lt;clear hb6 c0 c1 c2 c3 c4 c5 c6 c7 c8 gP xA X4 VG
   obtain ⟨p0,p1,p2,p3,p4,p5⟩:=nk P6.out
   obtain ⟨f0,f1,f2,f3,f4,f5⟩:=pO P6.out
   have Z9:=EH P6.out 5 (.int .i64 4) 1 (.int .i64 z1) 2 (.int .i64 z2) 3 (.int .i64 z3)
   have xB:=aiS (qR yS.out Z9.2 (λj e h=>by have:=dI.out j e;have h2 : j = w4.heap.size:=h;omega))
   have rR:=aiS (lu.out.trans (Z9.2.below lu.out.size (by rintro i rfl;omega)))
   clear Z9
   go_wp2_with (at_builtin;refine wpList_append_own _ rfl (.tmp 60) (.tmp 62) 47 rfl W0.heap.size 52 i0 (.agg #[.int .i64 0,.int .i64 0,.int .i64 0,.int .i64 0,.int .u16 0,.int .i64 0]) 6 48 Tryz.underlying47 hi hz0 hz1 hz2 rfl (by decide) _ _ _ rfl (xB.out.alloc _) ⟨w6.heap.size,0,none⟩ 1 1 [.int .i64 eH,.int .i64 z1,.int .i64 z2,.int .i64 z3,.int .u16 aJ,.int .i64 4] rfl rfl ?c1 ?c2 ?c3 ?c4 ?c5 ?_)
   case c1=>exact lq (by simp)
   case c2=>intro u hu;simp at hu;rcases hu with rfl | rfl | rfl | rfl | rfl | rfl <;> rfl
   case c3=>unfold maxLen;omega
   case c4=>omega
   case c5=>have:=rR.out.size;simp at *;omega
   intro v' ku hown' hgrow _
   have hszz:=rR.out.size
   have hB' : Hid (Below W0.heap.size W0 ku):=aiS ((rR.out.alloc hszz _).grown hgrow (by simp at *;omega) (λj e=>(xB.out.lt j e).1))
   have HO : Hid (ku.ownsRow W0.heap.size 52 6 v' (k + 1) (jG P (k + 1))):=aiS (by rw [HL.out,vS.out];exact hown')
   clear hown' hgrow
   go_wp2
   go_roundw
   case rel=>exact ⟨k + 1,by omega,by go_num,HO.out,hB'.out⟩
   case measure=>simp [intOf];omega
  ·obtain rfl : k = la:=by omega
   obtain ⟨s,cp,rfl,hS⟩:=oF hown
   have HS:=aiS hS;have sI:=aiS (HW0.out.trans (hB.mono HW0.out.size));clear hS hown hB
   go_wp2
   exact bodyPost_ret (v:=.tuple #[.slice s k cp,.int .i64 0]) (by simp [results,Tryz.results47,go_sem]) rfl ⟨s,cp,rfl,HS.out,sI.out⟩
set_option maxHeartbeats 4000000 in
theorem Zf (c : aO) (ok : c.Ok) (ka ta : Int) (aa : Option Addr) (la ca : Nat) (A : Nat -> aB) (au : Int) (w : World) (xD : ay ta) (hat : ay au) (ha : dw w aa la A) (hla : (la : Int) <= 4611686018427387904) (h0 : lS c ka ta aa la ca A = 0) (h1 : kV ta au = 0) (hd : aK au ta ≠ 0) (hf : ¬ c.extra < aK au ta) :
 Calls Tryz.prog 47 #[aZ c,bO ka ta aa la ca,.int .i64 au] w λe w'=>∃ s cp,e = .returned (.tuple #[.slice s la cp,.int .i64 0]) /\ dZ w' s la (yT 3 (aK au ta) A) /\ Below w.heap.size w w':=by
 obtain ⟨i0,hi,hz0,hz1,hz2⟩:=info_parts vR
 have PT:=IL ka ta au aa la ca xD hat
 obtain ⟨F4,hex,_,_⟩:=CF h0
 obtain ⟨hle,hN,_,_⟩:=JF h1
 rw [hN,h1] at PT
 have F5:=jq au ta
 have hd0 : 0 <= aK au ta:=by unfold aK sat;omega
 generalize aK au ta = d at *
 clear hN h1 hle
 have hg0 : (d == 0) = false:=by simpa using hd
 have hg1 : decide (c.extra < d) = false:=decide_eq_false hf
 have hg2 : decide (0 < d) = true:=decide_eq_true (by omega)
 have hdd : ay d:=F5
 obtain ⟨P,hP⟩ : ∃ P,yT 3 d A = P:=⟨_,rfl⟩
 have HP : Hid (∀ i,P i = JE 3 d (A i)):=aiS (λi=>by rw [← hP];rfl)
 rw [hP]
 have QJ:=aiS hdd;clear hP F5 hd0 hex hdd hd hf
 have hB3 : Below w.heap.size w ((w.alloc (.cells #[.int .i64 c.ring,.int .i64 c.window,.int .i64 c.base,.int .i64 c.gain,.int .i64 c.least,.int .i64 c.most,.int .i64 c.aD,.int .i64 c.num,.int .i64 c.den,.int .i64 c.extra,.bool c.aC] 29)).alloc (.cells #[.int .i64 ka,.int .i64 ta,.slice aa la ca] 36)):=(aiT).alloc (by simp) _
 have bc:=((ak.new w #[.int .i64 c.ring,.int .i64 c.window,.int .i64 c.base,.int .i64 c.gain,.int .i64 c.least,.int .i64 c.most,.int .i64 c.aD,.int .i64 c.num,.int .i64 c.den,.int .i64 c.extra,.bool c.aC] 29).alloc (.cells #[.int .i64 ka,.int .i64 ta,.slice aa la ca] 36));have ba:=ak.new (w.alloc (.cells #[.int .i64 c.ring,.int .i64 c.window,.int .i64 c.base,.int .i64 c.gain,.int .i64 c.least,.int .i64 c.most,.int .i64 c.aD,.int .i64 c.num,.int .i64 c.den,.int .i64 c.extra,.bool c.aC] 29)) #[.int .i64 ka,.int .i64 ta,.slice aa la ca] 36
 have CK:=jr c (some ⟨((w.alloc (.cells #[.int .i64 c.ring,.int .i64 c.window,.int .i64 c.base,.int .i64 c.gain,.int .i64 c.least,.int .i64 c.most,.int .i64 c.aD,.int .i64 c.num,.int .i64 c.den,.int .i64 c.extra,.bool c.aC] 29)).alloc (.cells #[.int .i64 ka,.int .i64 ta,.slice aa la ca] 36)).heap.size,0,none⟩) 1 1 _ _ _ _ _ (Jv ((w.alloc (.cells #[.int .i64 c.ring,.int .i64 c.window,.int .i64 c.base,.int .i64 c.gain,.int .i64 c.least,.int .i64 c.most,.int .i64 c.aD,.int .i64 c.num,.int .i64 c.den,.int .i64 c.extra,.bool c.aC] 29)).alloc (.cells #[.int .i64 ka,.int .i64 ta,.slice aa la ca] 36)) ka ta aa la ca A (ha.below hB3) hla) (by decide)
 have hs3 : ((w.alloc (.cells #[.int .i64 c.ring,.int .i64 c.window,.int .i64 c.base,.int .i64 c.gain,.int .i64 c.least,.int .i64 c.most,.int .i64 c.aD,.int .i64 c.num,.int .i64 c.den,.int .i64 c.extra,.bool c.aC] 29)).alloc (.cells #[.int .i64 ka,.int .i64 ta,.slice aa la ca] 36)).heap.size = w.heap.size + 1 + 1:=by simp
 change Calls _ _ _ _ (λe w'=>e = .returned (.int .i64 (lS c ka ta aa la ca A)) /\ _) at CK
 simp only [World.size_alloc] at ba
 unfold aZ at CK ⊢
 unfold bO
 go_enter Tryz.func47,Tryz.ntmps47
 go_wp2_with fail
 generalize ((w.alloc (.cells #[.int .i64 c.ring,.int .i64 c.window,.int .i64 c.base,.int .i64 c.gain,.int .i64 c.least,.int .i64 c.most,.int .i64 c.aD,.int .i64 c.num,.int .i64 c.den,.int .i64 c.extra,.bool c.aC] 29)).alloc (.cells #[.int .i64 ka,.int .i64 ta,.slice aa la ca] 36)) = W at *
 rw [hs3] at CK
 refine CK.mono ?_;rintro e w1 ⟨rfl,hb1⟩
 have hB1 : Below W.heap.size W w1:=(aiT).trans (hb1.mono (by simp))
 have HB1 : Hid (Below w.heap.size w w1):=aiS (hB3.trans (hB1.mono hB3.size))
 have SC:=aiS (bc.below hB1 bc.lt);have SA:=aiS (ba.below hB1 ba.lt);clear hB3 hb1 hB1 CK bc ba hs3
 rw [h0]
 clear h0;have zI:=ha.1
 have yR : Hid (∀ k,k < la -> ∃ b off,aa = some ⟨b,off,none⟩ /\ b < w.heap.size /\ dF w b (off + k * 9) (A k)):=aiS (λk hk=>by
  rcases ha.2 with h0 | ⟨b,off,e,hb,hc⟩
  ·omega
  ·exact ⟨b,off,e,hb,hc k hk⟩)
 obtain ⟨a0,a1,a2⟩:=fO SA.out
 go_wp2_with fail
 refine (PT _).mono ?_;rintro e W0 ⟨rfl,hb2⟩
 have qc:=aiS (SC.out.below hb2 SC.out.lt);clear SC;have SC:=qc;clear qc;have oG:=aiS (SA.out.below hb2 SA.out.lt);clear SA;have SA:=oG;clear oG
 have HW0 : Hid (Below w.heap.size w W0):=aiS (HB1.out.trans (hb2.mono HB1.out.size))
 clear hb2 a0 a1 a2 PT HB1
 obtain ⟨a0,a1,a2⟩:=fO SA.out
 obtain ⟨q0,q1,q2,q3,q4,q5,q6,q7,q8,q9,kr⟩:=eu SC.out
 go_wp2_with fail
 clear a0 a1 a2 q0 q1 q2 q3 q4 q5 q6 q7 q8 q9 kr
 go_loopw [12,45] (λv i wr=>∃ k : Nat,k <= la /\ i = .int .i64 k /\ wr.ownsRow W0.heap.size 52 6 v k (jG P k) /\ Below W0.heap.size W0 wr) (λ_ i _=>la - (intOf i).toNat)
 case atStart=>exact ⟨0,Nat.zero_le _,rfl,World.ownsRow_nil _ _ _ _,Below.refl _ _⟩
 case round =>
  rename_i wr
  obtain ⟨k,hk,rfl,hown,hB⟩:=hrel
  have hsz:=hB.size
  by_cases hlt : k < la
  ·obtain ⟨b,off,EI,hbw,hc⟩:=yR.out k hlt
   subst EI
   have hcw:=hc.below (HW0.out.trans (hB.mono HW0.out.size)) hbw;have hx:=zI k hlt;have AY:=aiS (HP.out k)
   have HL : Hid (jG P (k + 1) = jG P k ++ [.int .i64 (P k).id,.int .i64 (P k).px,.int .i64 (P k).py,.int .i64 (P k).pz,.int .u16 (P k).aJ,.int .i64 (P k).mode]):=aiS rfl
   have EX:=yQ (A k)
   unfold bM Ju uE at EX
   have hkl : (k : Int) < la:=by omega
   have HOWN:=aiS hown
   have dI:=aiS (λj e=>(hown.lt j e).2)
   have HB:=aiS hB;have HCW:=aiS hcw;clear hc hown hB
   generalize P k = pk at *
   generalize A k = x at *
   obtain ⟨eH,px,py,pz,vx,vy,vz,aJ,gen⟩:=x
   obtain ⟨c0,c1,c2,c3,c4,c5,c6,c7,c8⟩:=hcw
   dsimp only at c0 c1 c2 c3 c4 c5 c6 c7 c8 EX
   have VG:=aiS (NC px py pz vx vy vz d hx.px hx.py hx.pz hx.vx hx.vy hx.vz QJ.out)
   go_wp2_with fail
   refine (EX _).mono ?_;rintro e w4 ⟨rfl,hb4⟩
   have X4:=aiS ((ak.new wr #[.int .i64 eH,.int .i64 px,.int .i64 py,.int .i64 pz,.int .i64 vx,.int .i64 vy,.int .i64 vz,.int .u16 aJ,.int .u8 gen] 33).below hb4 (by simp))
   have gP : Hid (Below W0.heap.size W0 w4):=aiS ((HB.out.alloc hsz _).trans (hb4.mono (by simp;omega)))
   have xA:=aiS (own_below (HOWN.out.alloc _) hb4);have l4:=X4.out.lt;clear hb4 EX c0 c1 c2 c3 c4 c5 c6 c7 c8 HB HOWN
   obtain ⟨c0,c1,c2,c3,c4,c5,c6,c7,c8⟩:=gq X4.out
   have vS : Hid (pk = ⟨eH,aU px (aN vx d),aU py (aN vy d),aU pz (aN vz d),aJ,3⟩):=aiS AY.out
   generalize aU px (aN vx d) = z1 at *
   generalize aU py (aN vy d) = z2 at *
   generalize aU pz (aN vz d) = z3 at *
   go_wp2_with fail
   refine (VG.out _).mono ?_;rintro e w6 ⟨rfl,hb6⟩
   have P6:=aiS ((ak.new w4 #[.int .i64 eH,.int .i64 px,.int .i64 py,.int .i64 pz,.int .u16 aJ,.int .i64 0] 52).below hb6 (by simp))
   have lu : Hid (Below W0.heap.size W0 w6):=aiS ((gP.out.alloc gP.out.size _).trans (hb6.mono (by have:=gP.out.size;simp;omega)))
   have yS:=aiS (own_below (xA.out.alloc _) hb6);have l6:=P6.out.lt;clear hb6 c0 c1 c2 c3 c4 c5 c6 c7 c8 gP xA X4 VG
   obtain ⟨p0,p1,p2,p3,p4,p5⟩:=nk P6.out
   obtain ⟨f0,f1,f2,f3,f4,f5⟩:=pO P6.out
   have Z9:=EH P6.out 5 (.int .i64 3) 1 (.int .i64 z1) 2 (.int .i64 z2) 3 (.int .i64 z3)
   have xB:=aiS (qR yS.out Z9.2 (λj e h=>by have:=dI.out j e;have h2 : j = w4.heap.size:=h;omega))
   have rR:=aiS (lu.out.trans (Z9.2.below lu.out.size (by rintro i rfl;omega)))
   clear Z9
   go_wp2_with (at_builtin;refine wpList_append_own _ rfl (.tmp 60) (.tmp 62) 47 rfl W0.heap.size 52 i0 (.agg #[.int .i64 0,.int .i64 0,.int .i64 0,.int .i64 0,.int .u16 0,.int .i64 0]) 6 48 Tryz.underlying47 hi hz0 hz1 hz2 rfl (by decide) _ _ _ rfl (xB.out.alloc _) ⟨w6.heap.size,0,none⟩ 1 1 [.int .i64 eH,.int .i64 z1,.int .i64 z2,.int .i64 z3,.int .u16 aJ,.int .i64 3] rfl rfl ?c1 ?c2 ?c3 ?c4 ?c5 ?_)
   case c1=>exact lq (by simp)
   case c2=>intro u hu;simp at hu;rcases hu with rfl | rfl | rfl | rfl | rfl | rfl <;> rfl
   case c3=>unfold maxLen;omega
   case c4=>omega
   case c5=>have:=rR.out.size;simp at *;omega
   intro v' ku hown' hgrow _
   have hszz:=rR.out.size
   have hB' : Hid (Below W0.heap.size W0 ku):=aiS ((rR.out.alloc hszz _).grown hgrow (by simp at *;omega) (λj e=>(xB.out.lt j e).1))
   have HO : Hid (ku.ownsRow W0.heap.size 52 6 v' (k + 1) (jG P (k + 1))):=aiS (by rw [HL.out,vS.out];exact hown')
   clear hown' hgrow
   go_wp2
   go_roundw
   case rel=>exact ⟨k + 1,by omega,by go_num,HO.out,hB'.out⟩
   case measure=>simp [intOf];omega
  ·obtain rfl : k = la:=by omega
   obtain ⟨s,cp,rfl,hS⟩:=oF hown
   have HS:=aiS hS;have sI:=aiS (HW0.out.trans (hB.mono HW0.out.size));clear hS hown hB
   go_wp2
   exact bodyPost_ret (v:=.tuple #[.slice s k cp,.int .i64 0]) (by simp [results,Tryz.results47,go_sem]) rfl ⟨s,cp,rfl,HS.out,sI.out⟩
end Go.Proofs.YtklkooeimkedgaaGreat
