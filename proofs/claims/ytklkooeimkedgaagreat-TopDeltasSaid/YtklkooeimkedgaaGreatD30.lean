/- Walk of TopDeltas. -/
import Derived.Test.YtklkooeimkedgaaGreatD15
import Derived.Test.YtklkooeimkedgaaGreatD24
import Derived.Test.YtklkooeimkedgaaGreatD29
set_option linter.unusedVariables false
set_option linter.unusedSimpArgs false
namespace Go.Proofs.YtklkooeimkedgaaGreat
open Go.RowKit
set_option maxRecDepth 8000
structure Po where
 id : Int
 px : Int
 py : Int
 pz : Int
 aG : Int
 mode : Int
def Kr (p : Po) : Value:=.agg #[.int .i64 (p).id,.int .i64 (p).px,.int .i64 (p).py,.int .i64 (p).pz,.int .u16 (p).aG,.int .i64 (p).mode]
def uY (e : ay) : Po:=⟨e.id,e.px,e.py,e.pz,e.aG,0⟩
theorem zy (e : ay) (w : World) : Calls Tryz.prog 94 #[bO e] w λe' w'=>e' = .returned (Kr (uY e)) /\ Below w.heap.size w w':=by
 obtain ⟨fq,px,py,pz,vx,vy,vz,aG,gen⟩:=e
 unfold bO Kr uY
 dsimp only
 go_enter Tryz.func94,Tryz.ntmps94
 go_wp2
 exact bodyPost_ret (v:=.agg #[.int .i64 fq,.int .i64 px,.int .i64 py,.int .i64 pz,.int .u16 aG,.int .i64 0]) (by simp [results,Tryz.results94,go_sem]) rfl ⟨rfl,by (repeat (first | exact Below.refl _ _ | assumption | (refine Below.drew ?_) | (refine below_drewN ?_ _) | (refine Below.alloc ?_ (by simp <;> omega) _) | (refine Below.setCell ?_ (by simp <;> omega) _)))⟩
theorem Nv (w : World) : Calls Tryz.prog 254 #[.agg #[]] w λe w'=>e = .returned (.int .i64 1) /\ Below w.heap.size w w':=by
 go_enter Tryz.func254,Tryz.ntmps254
 go_wp2
 go_ret
 exact ⟨rfl,by (repeat (first | exact Below.refl _ _ | assumption | (refine Below.drew ?_) | (refine below_drewN ?_ _) | (refine Below.alloc ?_ (by simp <;> omega) _) | (refine Below.setCell ?_ (by simp <;> omega) _)))⟩
theorem Nw (w : World) : Calls Tryz.prog 247 #[.agg #[]] w λe w'=>e = .returned (.int .i64 2) /\ Below w.heap.size w w':=by
 go_enter Tryz.func247,Tryz.ntmps247
 go_wp2
 go_ret
 exact ⟨rfl,by (repeat (first | exact Below.refl _ _ | assumption | (refine Below.drew ?_) | (refine below_drewN ?_ _) | (refine Below.alloc ?_ (by simp <;> omega) _) | (refine Below.setCell ?_ (by simp <;> omega) _)))⟩
theorem Vr (x y : ay) (num den : Int) (hx : x.Ok) (hy : y.Ok) (h : jg num den = true) (w : World) :
 Calls Tryz.prog 255 #[.agg #[],bO x,bO y,.int .i64 num,.int .i64 den] w λe w'=>e = .returned (v3 (dx x.px y.px num den) (dx x.py y.py num den) (dx x.pz y.pz num den)) /\ Below w.heap.size w w':=by
 have c:=YD x.px x.py x.pz y.px y.py y.pz num den hx.px hx.py hx.pz hy.px hy.py hy.pz h
 generalize dx x.px y.px num den = r0 at *
 generalize dx x.py y.py num den = r1 at *
 generalize dx x.pz y.pz num den = r2 at *
 obtain ⟨fq,px,py,pz,vx,vy,vz,aG,gen⟩:=x
 obtain ⟨nV,qx,qy,qz,ux,uy,uz,iV,iW⟩:=y
 unfold bO
 dsimp only at c ⊢
 clear hx hy h
 go_enter Tryz.func255,Tryz.ntmps255
 go_wp2_with fail
 have hB0 : Below w.heap.size w ((((w.alloc (.cells #[] 233)).alloc (.cells #[.int .i64 fq,.int .i64 px,.int .i64 py,.int .i64 pz,.int .i64 vx,.int .i64 vy,.int .i64 vz,.int .u16 aG,.int .u8 gen] 33)).alloc (.cells #[.int .i64 nV,.int .i64 qx,.int .i64 qy,.int .i64 qz,.int .i64 ux,.int .i64 uy,.int .i64 uz,.int .u16 iV,.int .u8 iW] 33)).alloc (.cells #[.int .i64 0,.int .i64 0,.int .i64 0] 22)):=by (repeat (first | exact Below.refl _ _ | assumption | (refine Below.drew ?_) | (refine below_drewN ?_ _) | (refine Below.alloc ?_ (by simp <;> omega) _) | (refine Below.setCell ?_ (by simp <;> omega) _)))
 have B4:=ak.new (((w.alloc (.cells #[] 233)).alloc (.cells #[.int .i64 fq,.int .i64 px,.int .i64 py,.int .i64 pz,.int .i64 vx,.int .i64 vy,.int .i64 vz,.int .u16 aG,.int .u8 gen] 33)).alloc (.cells #[.int .i64 nV,.int .i64 qx,.int .i64 qy,.int .i64 qz,.int .i64 ux,.int .i64 uy,.int .i64 uz,.int .u16 iV,.int .u8 iW] 33)) #[.int .i64 0,.int .i64 0,.int .i64 0] 22
 refine (c _).mono ?_;rintro e w1 ⟨rfl,hb1⟩
 have HB1 : Hid (Below w.heap.size w w1):=ajK (hB0.trans (hb1.mono hB0.size))
 have sI:=B4.below hb1 B4.lt
 simp only [World.size_alloc] at sI
 have hs:=HB1.out.size;clear hB0 B4 hb1 c
 have r4:=sI.cell 0;have r5:=sI.cell 1;have r6:=sI.cell 2
 have f4:=sI.free 0;have f5:=sI.free 1;have f6:=sI.free 2
 have hl:=sI.lt;simp at r4 r5 r6;clear sI
 go_wp2
 have HB2:=HB1.out
 exact bodyPost_ret (v:=v3 r0 r1 r2) (by simp [results,Tryz.results255,go_sem, *]) rfl ⟨rfl,by (repeat (first | exact Below.refl _ _ | assumption | (refine Below.drew ?_) | (refine below_drewN ?_ _) | (refine Below.alloc ?_ (by simp <;> omega) _) | (refine Below.setCell ?_ (by simp <;> omega) _)))⟩
theorem Vs (x y : ay) (num den : Int) (hx : x.Ok) (hy : y.Ok) (h : jg num den = true) (w : World) :
 Calls Tryz.prog 248 #[.agg #[],bO x,bO y,.int .i64 num,.int .i64 den] w λe w'=>e = .returned (v3 (dS x.px x.vx y.px y.vx num den) (dS x.py x.vy y.py y.vy num den) (dS x.pz x.vz y.pz y.vz num den)) /\ Below w.heap.size w w':=by
 have c:=ZT x.px x.py x.pz x.vx x.vy x.vz y.px y.py y.pz y.vx y.vy y.vz num den hx.px hx.py hx.pz hx.vx hx.vy hx.vz hy.px hy.py hy.pz hy.vx hy.vy hy.vz h
 generalize dS x.px x.vx y.px y.vx num den = r0 at *
 generalize dS x.py x.vy y.py y.vy num den = r1 at *
 generalize dS x.pz x.vz y.pz y.vz num den = r2 at *
 obtain ⟨fq,px,py,pz,vx,vy,vz,aG,gen⟩:=x
 obtain ⟨nV,qx,qy,qz,ux,uy,uz,iV,iW⟩:=y
 unfold bO
 dsimp only at c ⊢
 clear hx hy h
 go_enter Tryz.func248,Tryz.ntmps248
 go_wp2_with fail
 have hB0 : Below w.heap.size w ((((w.alloc (.cells #[] 232)).alloc (.cells #[.int .i64 fq,.int .i64 px,.int .i64 py,.int .i64 pz,.int .i64 vx,.int .i64 vy,.int .i64 vz,.int .u16 aG,.int .u8 gen] 33)).alloc (.cells #[.int .i64 nV,.int .i64 qx,.int .i64 qy,.int .i64 qz,.int .i64 ux,.int .i64 uy,.int .i64 uz,.int .u16 iV,.int .u8 iW] 33)).alloc (.cells #[.int .i64 0,.int .i64 0,.int .i64 0] 22)):=by (repeat (first | exact Below.refl _ _ | assumption | (refine Below.drew ?_) | (refine below_drewN ?_ _) | (refine Below.alloc ?_ (by simp <;> omega) _) | (refine Below.setCell ?_ (by simp <;> omega) _)))
 have B4:=ak.new (((w.alloc (.cells #[] 232)).alloc (.cells #[.int .i64 fq,.int .i64 px,.int .i64 py,.int .i64 pz,.int .i64 vx,.int .i64 vy,.int .i64 vz,.int .u16 aG,.int .u8 gen] 33)).alloc (.cells #[.int .i64 nV,.int .i64 qx,.int .i64 qy,.int .i64 qz,.int .i64 ux,.int .i64 uy,.int .i64 uz,.int .u16 iV,.int .u8 iW] 33)) #[.int .i64 0,.int .i64 0,.int .i64 0] 22
 refine (c _).mono ?_;rintro e w1 ⟨rfl,hb1⟩
 have HB1 : Hid (Below w.heap.size w w1):=ajK (hB0.trans (hb1.mono hB0.size))
 have sI:=B4.below hb1 B4.lt
 simp only [World.size_alloc] at sI
 have hs:=HB1.out.size;clear hB0 B4 hb1 c
 have r4:=sI.cell 0;have r5:=sI.cell 1;have r6:=sI.cell 2
 have f4:=sI.free 0;have f5:=sI.free 1;have f6:=sI.free 2
 have hl:=sI.lt;simp at r4 r5 r6;clear sI
 go_wp2
 have HB2:=HB1.out
 exact bodyPost_ret (v:=v3 r0 r1 r2) (by simp [results,Tryz.results248,go_sem, *]) rfl ⟨rfl,by (repeat (first | exact Below.refl _ _ | assumption | (refine Below.drew ?_) | (refine below_drewN ?_ _) | (refine Below.alloc ?_ (by simp <;> omega) _) | (refine Below.setCell ?_ (by simp <;> omega) _)))⟩
def rz (w : World) (s : Option Addr) (len : Nat) (K T : Nat -> Int) (E : Nat -> Option Addr × Nat × Nat) (EE : Nat -> Nat -> ay) : Prop :=
 jI w s len K T E /\ ∀ i,i < len -> bV w (E i).1 (E i).2.1 (EE i) /\ ((E i).2.1 : Int) <= 4611686018427387904
theorem rz.below {w w' : World} {s : Option Addr} {len : Nat} {K T : Nat -> Int} {E : Nat -> Option Addr × Nat × Nat} {EE : Nat -> Nat -> ay} (h : rz w s len K T E EE) (hb : Below w.heap.size w w') : rz w' s len K T E EE :=
 ⟨h.1.below hb,λi hi=>⟨(h.2 i hi).1.below hb,(h.2 i hi).2⟩⟩
def qL (K T : Nat -> Int) (E : Nat -> Option Addr × Nat × Nat) (EE : Nat -> Nat -> ay) : Nat -> Nat -> Int
 | 0,_=>0
 | n + 1,i=>if dD (K i) (T i) (E i).2.1 (EE i) = 0 then qL K T E EE n (i + 1) else dD (K i) (T i) (E i).2.1 (EE i)
def jU (c : aP) (K T : Nat -> Int) (E : Nat -> Option Addr × Nat × Nat) (EE : Nat -> Nat -> ay) (len : Nat) : Int:=if fE c = 0 then qL K T E EE len 0 else fE c
set_option maxHeartbeats 1000000 in
theorem jJ (c : aP) (s : Option Addr) (len cap : Nat) (K T : Nat -> Int) (E : Nat -> Option Addr × Nat × Nat) (EE : Nat -> Nat -> ay) (w : World) (h : rz w s len K T E EE) (hlen : (len : Int) <= 4611686018427387904) :
 Calls Tryz.prog 45 #[aT c,.slice s len cap] w λe w'=>e = .returned (.int .i64 (jU c K T E EE len)) /\ Below w.heap.size w w':=by
 have CC:=Kj c
 obtain ⟨hs,he⟩:=h
 have HE:=ajK he
 unfold aT at CC ⊢
 clear he
 by_cases hc : fE c = 0
 ·have HP : Hid (jU c K T E EE len = qL K T E EE len 0):=ajK (by unfold jU;rw [if_pos hc])
  rw [hc] at CC
  generalize jU c K T E EE len = r at *
  clear hc
  rcases hs with hz | ⟨b,off,rfl,hb,hcs⟩
  all_goals
   go_enter Tryz.func45,Tryz.ntmps45
   go_wp2_with fail
   refine (CC _).mono ?_;rintro e w1 ⟨rfl,hb1⟩
   have HB1 : Hid (Below w.heap.size w w1):=ajK ((ajL).trans (hb1.mono (by simp)))
   clear hb1 CC
   go_wp2_with fail
   go_loopw [16] (λi wr=>∃ k : Nat,k <= len /\ i = .int .i64 k /\ qL K T E EE len 0 = qL K T E EE (len - k) k /\ Below w.heap.size w wr) (λi _=>len - (intOf i).toNat)
   case atStart=>exact ⟨0,Nat.zero_le _,rfl,rfl,HB1.out⟩
   case round =>
    rename_i wr
    obtain ⟨k,hk,rfl,hch,hB⟩:=hrel
    have hsz:=hB.size
    by_cases hlt : k < len
    ·first
     | (exfalso;omega)
     | (obtain ⟨n,hn⟩ : ∃ n,len - k = n + 1:=⟨len - k - 1,by omega⟩
        have hn2 : len - (k + 1) = n:=by omega
        rw [hn] at hch
        obtain ⟨d0,d1,d2⟩:=hcs k hlt
        have c0:=(hB.cell (p:=⟨b,off + k * 3,none⟩) hb).trans d0;have c1:=(hB.cell (p:=⟨b,off + k * 3 + 1,none⟩) hb).trans d1;have c2:=(hB.cell (p:=⟨b,off + k * 3 + 2,none⟩) hb).trans d2
        obtain ⟨he1,he2⟩:=HE.out k hlt
        have DC:=ajK (λw' (hw : Below w.heap.size w w')=>Em (K k) (T k) (E k).1 (E k).2.1 (E k).2.2 (EE k) w' (he1.below hw) he2)
        unfold bC at DC
        have jl : Hid (qL K T E EE len 0 = if dD (K k) (T k) (E k).2.1 (EE k) = 0 then qL K T E EE n (k + 1) else dD (K k) (T k) (E k).2.1 (EE k)):=ajK hch
        have HC:=ajK hcs;have HB:=ajK hB
        have hlt' : (k : Int) < len:=by omega
        clear hch hcs hn d0 d1 d2 he1 he2 hB
        generalize dD (K k) (T k) (E k).2.1 (EE k) = sc at *
        generalize K k = kk at *
        generalize T k = tt at *
        generalize (E k).1 = ea at *
        generalize (E k).2.1 = el at *
        generalize (E k).2.2 = ec at *
        have dc:=DC.out _ (HB.out.alloc hsz (.cells #[.int .i64 kk,.int .i64 tt,.slice ea el ec] 36))
        by_cases r0 : sc = 0
        ·have HF : Hid (qL K T E EE len 0 = qL K T E EE n (k + 1)):=ajK (by rw [jl.out,if_pos r0])
         subst r0
         clear jl
         go_wp2_with fail
         refine dc.mono ?_;rintro e w2 ⟨rfl,hb2⟩
         have HB2:=ajK ((HB.out.alloc hsz _).trans (hb2.mono (by simp;omega)))
         clear hb2 dc c0 c1 c2
         go_wp2
         go_roundw
         case rel=>exact ⟨k + 1,by omega,by go_num,by rw [hn2];exact HF.out,HB2.out⟩
         case measure=>simp [intOf];omega
        ·have HF : Hid (qL K T E EE len 0 = sc):=ajK (by rw [jl.out,if_neg r0])
         have r1 : (sc != 0) = true:=by simpa using r0
         clear jl r0
         go_wp2_with fail
         refine dc.mono ?_;rintro e w2 ⟨rfl,hb2⟩
         have HB2:=ajK ((HB.out.alloc hsz _).trans (hb2.mono (by simp;omega)))
         clear hb2 dc c0 c1 c2
         go_wp2
         go_ret
         exact ⟨aL (by rw [HP.out,HF.out]),HB2.out⟩)
    ·obtain rfl : k = len:=by omega
     have HF : Hid (qL K T E EE k 0 = 0):=ajK (by rw [hch,Nat.sub_self];rfl)
     clear hch
     go_wp2
     go_ret
     exact ⟨aL (by rw [HP.out,HF.out]),hB⟩
 ·have HP : Hid (jU c K T E EE len = fE c):=ajK (by unfold jU;rw [if_neg hc])
  generalize jU c K T E EE len = r at *
  generalize fE c = cc at *
  have hc1 : (cc != 0) = true:=by simpa using hc
  clear hc
  go_enter Tryz.func45,Tryz.ntmps45
  go_wp2_with fail
  refine (CC _).mono ?_;rintro e w1 ⟨rfl,hb1⟩
  have HB1 : Hid (Below w.heap.size w w1):=ajK ((ajL).trans (hb1.mono (by simp)))
  clear hb1 CC
  go_wp2
  go_ret
  exact ⟨aL HP.out.symm,HB1.out⟩
set_option maxRecDepth 8000
theorem YH (c : aP) (h : c.aC = false) (w : World) :
 Calls Tryz.prog 97 #[aT c] w λe w'=>e = .returned (.iface 233 (.agg #[])) /\ Below w.heap.size w w':=by
 unfold aT
 go_enter Tryz.func97,Tryz.ntmps97
 go_wp2
 go_ret
 exact ⟨rfl,by (repeat (first | exact Below.refl _ _ | assumption | (refine Below.drew ?_) | (refine below_drewN ?_ _) | (refine Below.alloc ?_ (by simp <;> omega) _) | (refine Below.setCell ?_ (by simp <;> omega) _)))⟩
theorem Ry (c : aP) (h : c.aC = true) (w : World) :
 Calls Tryz.prog 97 #[aT c] w λe w'=>e = .returned (.iface 232 (.agg #[])) /\ Below w.heap.size w w':=by
 unfold aT
 go_enter Tryz.func97,Tryz.ntmps97
 go_wp2
 go_ret
 exact ⟨rfl,by (repeat (first | exact Below.refl _ _ | assumption | (refine Below.drew ?_) | (refine below_drewN ?_ _) | (refine Below.alloc ?_ (by simp <;> omega) _) | (refine Below.setCell ?_ (by simp <;> omega) _)))⟩
def kY (w : World) (b o : Nat) (p : Po) : Prop:=w.cell? ⟨b,o,none⟩ = some (.int .i64 (p).id) /\ w.cell? ⟨b,o + 1,none⟩ = some (.int .i64 (p).px) /\ w.cell? ⟨b,o + 2,none⟩ = some (.int .i64 (p).py) /\ w.cell? ⟨b,o + 3,none⟩ = some (.int .i64 (p).pz) /\ w.cell? ⟨b,o + 4,none⟩ = some (.int .u16 (p).aG) /\ w.cell? ⟨b,o + 5,none⟩ = some (.int .i64 (p).mode)
def dP (w : World) (s : Option Addr) (n : Nat) (P : Nat -> Po) : Prop :=
 n = 0 \/ ∃ b off,s = some ⟨b,off,none⟩ /\ b < w.heap.size /\ ∀ i,i < n -> kY w b (off + i * 6) (P i)
theorem kY.below {w w' : World} {b o : Nat} {p : Po} (h : kY w b o p) (hb : Below w.heap.size w w') (hl : b < w.heap.size) : kY w' b o p:=by
 unfold kY at *
 refine ⟨?_,?_,?_,?_,?_,?_⟩ <;> (rw [hb.cell (by simpa using hl)];first | exact h.1 | exact h.2.1 | exact h.2.2.1 | exact h.2.2.2.1 | exact h.2.2.2.2.1 | exact h.2.2.2.2.2)
theorem dP.below {w w' : World} {s : Option Addr} {n : Nat} {P : Nat -> Po} (h : dP w s n P) (hb : Below w.heap.size w w') : dP w' s n P:=by
 rcases h with h | ⟨b,off,e,hl,hc⟩
 ·exact .inl h
 ·exact .inr ⟨b,off,e,Nat.lt_of_lt_of_le hl hb.size,λi hi=>(hc i hi).below hb hl⟩
def jV (P : Nat -> Po) : Nat -> List Value
 | 0=>[]
 | k + 1=>jV P k ++ [.int .i64 (P k).id,.int .i64 (P k).px,.int .i64 (P k).py,.int .i64 (P k).pz,.int .u16 (P k).aG,.int .i64 (P k).mode]
theorem Fy (P : Nat -> Po) : ∀ k,(jV P k).length = k * 6
 | 0=>rfl
 | k + 1=>by rw [jV,List.length_append,Fy P k];simp;omega
theorem Rz (P : Nat -> Po) : ∀ k i,i < k -> (jV P k)[i * 6]? = some (.int .i64 (P i).id) /\ (jV P k)[i * 6 + 1]? = some (.int .i64 (P i).px) /\ (jV P k)[i * 6 + 2]? = some (.int .i64 (P i).py) /\ (jV P k)[i * 6 + 3]? = some (.int .i64 (P i).pz) /\ (jV P k)[i * 6 + 4]? = some (.int .u16 (P i).aG) /\ (jV P k)[i * 6 + 5]? = some (.int .i64 (P i).mode)
 | 0,i,h=>by omega
 | k + 1,i,h=>by
   have hl:=Fy P k
   rw [jV]
   by_cases e : i = k
   ·subst e
    rw [List.getElem?_append_right (by omega),List.getElem?_append_right (by omega),List.getElem?_append_right (by omega),List.getElem?_append_right (by omega),List.getElem?_append_right (by omega),List.getElem?_append_right (by omega),hl,show i * 6 - i * 6 = 0 by omega,show i * 6 + 1 - i * 6 = 1 by omega,show i * 6 + 2 - i * 6 = 2 by omega,show i * 6 + 3 - i * 6 = 3 by omega,show i * 6 + 4 - i * 6 = 4 by omega,show i * 6 + 5 - i * 6 = 5 by omega]
    exact ⟨rfl,rfl,rfl,rfl,rfl,rfl⟩
   ·rw [List.getElem?_append_left (by omega),List.getElem?_append_left (by omega),List.getElem?_append_left (by omega),List.getElem?_append_left (by omega),List.getElem?_append_left (by omega),List.getElem?_append_left (by omega)]
    exact Rz P k i (by omega)
theorem oN {w : World} {base : Nat} {v : Value} {k : Nat} {P : Nat -> Po} (h : w.ownsRow base 52 6 v k (jV P k)) :
 ∃ s cp,v = .slice s k cp /\ dP w s k P:=by
 have h':=h
 obtain ⟨_,⟨rfl,rfl⟩ | ⟨g,cap,cur,rfl,hb,hg,hk,hm,hs,ht⟩⟩:=h'
 ·exact ⟨none,0,rfl,.inl rfl⟩
 ·refine ⟨_,_,rfl,.inr ⟨g,0,rfl,?_,λi hi=>?_⟩⟩
  ·exact (Array.getElem?_eq_some_iff.1 hg).1
  ·obtain ⟨a0,a1,a2,a3,a4,a5⟩:=Rz P k i hi
   have c:=h.cells (g:=g) rfl
   have e : ∀ j,(⟨g,0,none⟩ : Addr).add j = ⟨g,0 + j,none⟩:=λj=>by unfold Addr.add;split <;> simp_all
   exact ⟨by rw [← e];exact c _ _ a0,by rw [Nat.add_assoc,← e];exact c _ _ a1,by rw [Nat.add_assoc,← e];exact c _ _ a2,by rw [Nat.add_assoc,← e];exact c _ _ a3,by rw [Nat.add_assoc,← e];exact c _ _ a4,by rw [Nat.add_assoc,← e];exact c _ _ a5⟩
theorem own_below {w w' : World} {base : Nat} {e : TypeId} {size : Nat} {v : Value} {n : Nat} {xs : List Value} (h : w.ownsRow base e size v n xs) (hb : Below w.heap.size w w') : w'.ownsRow base e size v n xs:=by
 obtain ⟨h1,h2⟩:=h
 refine ⟨h1,?_⟩
 rcases h2 with h2 | ⟨g,cap,cur,hv,hg,hh,r⟩
 ·exact Or.inl h2
 ·exact Or.inr ⟨g,cap,cur,hv,hg,by rw [hb.block g (Array.getElem?_eq_some_iff.1 hh).1];exact hh,r⟩
theorem gU {w : World} {b : Nat} {t : TypeId} {x0 x1 x2 x3 x4 x5 x6 x7 x8 : Value} (h : ak w b #[x0,x1,x2,x3,x4,x5,x6,x7,x8] t) :
 w.cell? ⟨b,0,none⟩ = some x0 /\ w.cell? ⟨b,1,none⟩ = some x1 /\ w.cell? ⟨b,2,none⟩ = some x2 /\ w.cell? ⟨b,3,none⟩ = some x3 /\ w.cell? ⟨b,4,none⟩ = some x4 /\ w.cell? ⟨b,5,none⟩ = some x5 /\ w.cell? ⟨b,6,none⟩ = some x6 /\ w.cell? ⟨b,7,none⟩ = some x7 /\ w.cell? ⟨b,8,none⟩ = some x8 :=
 ⟨by simpa using h.cell 0,by simpa using h.cell 1,by simpa using h.cell 2,by simpa using h.cell 3,by simpa using h.cell 4,by simpa using h.cell 5,by simpa using h.cell 6,by simpa using h.cell 7,by simpa using h.cell 8⟩
theorem nK {w : World} {b : Nat} {t : TypeId} {x0 x1 x2 x3 x4 x5 : Value} (h : ak w b #[x0,x1,x2,x3,x4,x5] t) :
 w.cell? ⟨b,0,none⟩ = some x0 /\ w.cell? ⟨b,1,none⟩ = some x1 /\ w.cell? ⟨b,2,none⟩ = some x2 /\ w.cell? ⟨b,3,none⟩ = some x3 /\ w.cell? ⟨b,4,none⟩ = some x4 /\ w.cell? ⟨b,5,none⟩ = some x5 :=
 ⟨by simpa using h.cell 0,by simpa using h.cell 1,by simpa using h.cell 2,by simpa using h.cell 3,by simpa using h.cell 4,by simpa using h.cell 5⟩
theorem qp {w : World} {b : Nat} {t : TypeId} {cs : Array Value} (h : ak w b cs t) :
 w.frozen? ⟨b,0,none⟩ = false /\ w.frozen? ⟨b,1,none⟩ = false /\ w.frozen? ⟨b,2,none⟩ = false /\ w.frozen? ⟨b,3,none⟩ = false /\ w.frozen? ⟨b,4,none⟩ = false /\ w.frozen? ⟨b,5,none⟩ = false :=
 ⟨h.free 0,h.free 1,h.free 2,h.free 3,h.free 4,h.free 5⟩
theorem gK {w : World} {b : Nat} {t : TypeId} {x0 x1 x2 : Value} (h : ak w b #[x0,x1,x2] t) :
 w.cell? ⟨b,0,none⟩ = some x0 /\ w.cell? ⟨b,1,none⟩ = some x1 /\ w.cell? ⟨b,2,none⟩ = some x2 :=
 ⟨by simpa using h.cell 0,by simpa using h.cell 1,by simpa using h.cell 2⟩
theorem wJ : (Tryz.prog.info? 52).map (λi=>(i.zero,i.size,i.bytes)) = some (some (.agg #[.int .i64 0,.int .i64 0,.int .i64 0,.int .i64 0,.int .u16 0,.int .i64 0]),6,48):=by kernel_rfl
theorem YI : bP.Ok:=by
 constructor <;> (simp only [bP];first | exact ⟨by omega,by omega⟩ | (unfold aA;omega))
theorem RB {w : World} {a : Option Addr} {len : Nat} {E : Nat -> ay} (h : bV w a len E) (id : Int) : (Az E id len).Ok:=by
 unfold Az
 split
 ·rename_i hj;exact h.1 _ hj
 ·exact YI
theorem Pf (w : World) (k0 t0 k1 t1 : Int) (a b : Option Addr) (la ca lb cb : Nat) (A B : Nat -> ay) (ha : bV w a la A) (hb : bV w b lb B) (hla : (la : Int) <= 4611686018427387904) (hlb : (lb : Int) <= 4611686018427387904) :
 rz (w.alloc (.cells #[.int .i64 k0,.int .i64 t0,.slice a la ca,.int .i64 k1,.int .i64 t1,.slice b lb cb] 36)) (some ⟨w.heap.size,0,none⟩) 2 (two k0 k1) (two t0 t1) (two (a,la,ca) (b,lb,cb)) (two A B):=by
 refine ⟨Ro w k0 t0 k1 t1 a b la ca lb cb,λi hi=>?_⟩
 have hB : Below w.heap.size w (w.alloc (.cells #[.int .i64 k0,.int .i64 t0,.slice a la ca,.int .i64 k1,.int .i64 t1,.slice b lb cb] 36)):=ajL
 match i,hi with
 | 0,_=>exact ⟨ha.below hB,hla⟩
 | 1,_=>exact ⟨hb.below hB,hlb⟩
theorem Kt (w : World) (k0 t0 : Int) (a : Option Addr) (la ca : Nat) (A : Nat -> ay) (ha : bV w a la A) (hla : (la : Int) <= 4611686018427387904) :
 rz (w.alloc (.cells #[.int .i64 k0,.int .i64 t0,.slice a la ca] 36)) (some ⟨w.heap.size,0,none⟩) 1 (λ_=>k0) (λ_=>t0) (λ_=>(a,la,ca)) (λ_=>A) :=
 ⟨Rp w k0 t0 a la ca,λi hi=>⟨ha.below (ajL),hla⟩⟩
set_option maxRecDepth 100000
theorem Iw {a b t : Int} (h : jP a b t = 0) : jg (uH a b t) (uI a b t) = true /\ a <= t /\ t <= b /\ a < b /\ (-2305843009213693952 <= a /\ a <= 2305843009213693952) /\ (-2305843009213693952 <= b /\ b <= 2305843009213693952) /\ uH a b t = t - a /\ uI a b t = b - a:=by
 have hn : uH a b t = t - a:=by unfold uH;rw [if_pos h]
 have hd : uI a b t = b - a:=by unfold uI;rw [if_pos h]
 have hc : gY (two a b) 2 = 0:=by
  unfold jP at h
  split at h
  ·assumption
  ·assumption
 have h1 : ¬ (t < a \/ b < t):=by
  unfold jP at h
  rw [if_pos hc] at h
  intro hh;rw [if_pos hh] at h;exact absurd h (by decide)
 have b0:=sG hc (show 0 < 2 by omega)
 have b1:=sG hc (show 1 < 2 by omega)
 have b2:=Kk hc (show 0 < 1 by omega) (show 1 < 2 by omega)
 simp only [two] at b0 b1 b2
 refine ⟨?_,by omega,by omega,b2,b0,b1,hn,hd⟩
 rw [hn,hd]
 exact rV.2 ⟨by omega,by omega,by omega,by omega⟩
theorem rP {w w' : World} {S : Nat -> Prop} {base : Nat} {e : TypeId} {size : Nat} {v : Value} {n : Nat} {xs : List Value} (h : w.ownsRow base e size v n xs) (ho : Only S w w') (hS : ∀ j,v.ownBlock = some j -> ¬ S j) : w'.ownsRow base e size v n xs:=by
 obtain ⟨h1,h2⟩:=h
 refine ⟨h1,?_⟩
 rcases h2 with h2 | ⟨g,cap,cur,hv,hg,hh,r⟩
 ·exact Or.inl h2
 ·exact Or.inr ⟨g,cap,cur,hv,hg,by rw [ho.block g (Array.getElem?_eq_some_iff.1 hh).1 (hS g (by rw [hv];rfl))];exact hh,r⟩
theorem Ny (a b num den : Int) (ha : DW a) (hb : DW b) (h : jg num den = true) (w : World) :
 Calls Tryz.prog 98 #[.int .u16 a,.int .u16 b,.int .i64 num,.int .i64 den] w λe w'=>e = .returned (.tuple #[.int .u16 (sH a b num den),.int .i64 0]) /\ Below w.heap.size w w' :=
 (YG a b num den ha hb h w).mono λe w' ⟨h1,n,h2⟩=>⟨h1,by rw [h2];exact below_drewN ajM n⟩
theorem lQ {U : World} {n : Nat} {cs : Array Value} {t : TypeId} (hn : U.heap.size = n) : ∀ (j : Nat) (u : Value),cs.toList[j]? = some u -> (U.alloc (.cells cs t)).cell? ((⟨n,0,none⟩ : Addr).add j) = some u:=by
 intro j u h
 subst hn
 have e : (⟨U.heap.size,0,none⟩ : Addr).add j = ⟨U.heap.size,j,none⟩:=by unfold Addr.add;split <;> simp_all
 rw [e,(ak.new U cs t).cell j]
 simpa using h
theorem Fz {w : World} {b : Nat} {cs : Array Value} {t : TypeId} (h : ak w b cs t) (i0 : Nat) (v0 : Value) (i1 : Nat) (v1 : Value) (i2 : Nat) (v2 : Value) (i3 : Nat) (v3 : Value) :
 ak ((((w.setCell ⟨b,i0,none⟩ v0).setCell ⟨b,i1,none⟩ v1).setCell ⟨b,i2,none⟩ v2).setCell ⟨b,i3,none⟩ v3) b ((((cs.setIfInBounds i0 v0).setIfInBounds i1 v1).setIfInBounds i2 v2).setIfInBounds i3 v3) t /\
  Only (· = b) w ((((w.setCell ⟨b,i0,none⟩ v0).setCell ⟨b,i1,none⟩ v1).setCell ⟨b,i2,none⟩ v2).setCell ⟨b,i3,none⟩ v3) :=
 ⟨(((h.set i0 v0).set i1 v1).set i2 v2).set i3 v3,((((Only.refl (· = b) w).setCell (.inl rfl) _).setCell (.inl rfl) _).setCell (.inl rfl) _).setCell (.inl rfl) _⟩
def Es (cur : Bool) (x y : ay) (ok : Bool) (num den : Int) : Po :=
 if ok = true /\ y.gen = x.gen then
  (if cur = true then ⟨x.id,dS x.px x.vx y.px y.vx num den,dS x.py x.vy y.py y.vy num den,dS x.pz x.vz y.pz y.vz num den,sH x.aG y.aG num den,2⟩
   else ⟨x.id,dx x.px y.px num den,dx x.py y.py num den,dx x.pz y.pz num den,sH x.aG y.aG num den,1⟩)
 else uY x
def Bu (cur : Bool) (A B : Nat -> ay) (lb : Nat) (num den : Int) (i : Nat) : Po:=Es cur (A i) (Az B (A i).id lb) (Ip B (A i).id lb) num den
def oO (c : aP) (ka ta : Int) (aa : Option Addr) (la ca : Nat) (A : Nat -> ay) (kb tb : Int) (ab : Option Addr) (lb cb : Nat) (B : Nat -> ay) : Int :=
 jU c (two ka kb) (two ta tb) (two (aa,la,ca) (ab,lb,cb)) (two A B) 2
theorem DX {tick time : Int} {len : Nat} {E : Nat -> ay} (h : dD tick time len E = 0) : len <= 64:=by
 unfold dD at h
 split at h
 ·exact absurd h (by decide)
 ·split at h
  ·exact absurd h (by decide)
  ·omega
theorem Ku {c : aP} {ka ta : Int} {aa : Option Addr} {la ca : Nat} {A : Nat -> ay} {kb tb : Int} {ab : Option Addr} {lb cb : Nat} {B : Nat -> ay} (h : oO c ka ta aa la ca A kb tb ab lb cb B = 0) : la <= 64:=by
 unfold oO jU at h
 split at h
 ·have h2 : dD ka ta la A = 0:=by
   by_cases e : dD ka ta la A = 0
   ·exact e
   ·have : qL (two ka kb) (two ta tb) (two (aa,la,ca) (ab,lb,cb)) (two A B) 2 0 = dD ka ta la A:=by
     show (if dD ka ta la A = 0 then _ else dD ka ta la A) = _
     rw [if_neg e]
    rw [this] at h;exact h
  exact DX h2
 ·contradiction
set_option maxHeartbeats 1000000 in
theorem Vt (c : aP) (ka ta : Int) (aa : Option Addr) (la ca : Nat) (A : Nat -> ay) (kb tb : Int) (ab : Option Addr) (lb cb : Nat) (B : Nat -> ay) (au : Int) (w : World) (ha : bV w aa la A) (hb : bV w ab lb B) (hla : (la : Int) <= 4611686018427387904) (hlb : (lb : Int) <= 4611686018427387904) (h0 : oO c ka ta aa la ca A kb tb ab lb cb B ≠ 0) :
 Calls Tryz.prog 48 #[aT c,bC ka ta aa la ca,bC kb tb ab lb cb,.int .i64 au] w λe w'=>e = .returned (.tuple #[.slice none 0 0,.int .i64 (oO c ka ta aa la ca A kb tb ab lb cb B)]) /\ Below w.heap.size w w':=by
 have hB3 : Below w.heap.size w (((w.alloc (.cells #[.int .i64 c.ring,.int .i64 c.window,.int .i64 c.base,.int .i64 c.gain,.int .i64 c.least,.int .i64 c.most,.int .i64 c.aD,.int .i64 c.num,.int .i64 c.den,.int .i64 c.extra,.bool c.aC] 29)).alloc (.cells #[.int .i64 ka,.int .i64 ta,.slice aa la ca] 36)).alloc (.cells #[.int .i64 kb,.int .i64 tb,.slice ab lb cb] 36)):=((ajL).alloc (by simp) _).alloc (by simp;omega) _
 have bc:=(((ak.new w #[.int .i64 c.ring,.int .i64 c.window,.int .i64 c.base,.int .i64 c.gain,.int .i64 c.least,.int .i64 c.most,.int .i64 c.aD,.int .i64 c.num,.int .i64 c.den,.int .i64 c.extra,.bool c.aC] 29).alloc (.cells #[.int .i64 ka,.int .i64 ta,.slice aa la ca] 36)).alloc (.cells #[.int .i64 kb,.int .i64 tb,.slice ab lb cb] 36));have ba:=((ak.new (w.alloc (.cells #[.int .i64 c.ring,.int .i64 c.window,.int .i64 c.base,.int .i64 c.gain,.int .i64 c.least,.int .i64 c.most,.int .i64 c.aD,.int .i64 c.num,.int .i64 c.den,.int .i64 c.extra,.bool c.aC] 29)) #[.int .i64 ka,.int .i64 ta,.slice aa la ca] 36).alloc (.cells #[.int .i64 kb,.int .i64 tb,.slice ab lb cb] 36))
 have bb:=ak.new ((w.alloc (.cells #[.int .i64 c.ring,.int .i64 c.window,.int .i64 c.base,.int .i64 c.gain,.int .i64 c.least,.int .i64 c.most,.int .i64 c.aD,.int .i64 c.num,.int .i64 c.den,.int .i64 c.extra,.bool c.aC] 29)).alloc (.cells #[.int .i64 ka,.int .i64 ta,.slice aa la ca] 36)) #[.int .i64 kb,.int .i64 tb,.slice ab lb cb] 36
 have CK:=jJ c (some ⟨(((w.alloc (.cells #[.int .i64 c.ring,.int .i64 c.window,.int .i64 c.base,.int .i64 c.gain,.int .i64 c.least,.int .i64 c.most,.int .i64 c.aD,.int .i64 c.num,.int .i64 c.den,.int .i64 c.extra,.bool c.aC] 29)).alloc (.cells #[.int .i64 ka,.int .i64 ta,.slice aa la ca] 36)).alloc (.cells #[.int .i64 kb,.int .i64 tb,.slice ab lb cb] 36)).heap.size,0,none⟩) 2 2 _ _ _ _ _ (Pf (((w.alloc (.cells #[.int .i64 c.ring,.int .i64 c.window,.int .i64 c.base,.int .i64 c.gain,.int .i64 c.least,.int .i64 c.most,.int .i64 c.aD,.int .i64 c.num,.int .i64 c.den,.int .i64 c.extra,.bool c.aC] 29)).alloc (.cells #[.int .i64 ka,.int .i64 ta,.slice aa la ca] 36)).alloc (.cells #[.int .i64 kb,.int .i64 tb,.slice ab lb cb] 36)) ka ta kb tb aa ab la ca lb cb A B (ha.below hB3) (hb.below hB3) hla hlb) (by decide)
 have hs3 : (((w.alloc (.cells #[.int .i64 c.ring,.int .i64 c.window,.int .i64 c.base,.int .i64 c.gain,.int .i64 c.least,.int .i64 c.most,.int .i64 c.aD,.int .i64 c.num,.int .i64 c.den,.int .i64 c.extra,.bool c.aC] 29)).alloc (.cells #[.int .i64 ka,.int .i64 ta,.slice aa la ca] 36)).alloc (.cells #[.int .i64 kb,.int .i64 tb,.slice ab lb cb] 36)).heap.size = w.heap.size + 1 + 1 + 1:=by simp
 change Calls _ _ _ _ (λe w'=>e = .returned (.int .i64 (oO c ka ta aa la ca A kb tb ab lb cb B)) /\ _) at CK
 simp only [World.size_alloc] at ba bb
 unfold aT at CK ⊢
 unfold bC
 generalize oO c ka ta aa la ca A kb tb ab lb cb B = z at *
 have hz : (z != 0) = true:=by simpa using h0
 go_enter Tryz.func48,Tryz.ntmps48
 go_wp2_with fail
 generalize (((w.alloc (.cells #[.int .i64 c.ring,.int .i64 c.window,.int .i64 c.base,.int .i64 c.gain,.int .i64 c.least,.int .i64 c.most,.int .i64 c.aD,.int .i64 c.num,.int .i64 c.den,.int .i64 c.extra,.bool c.aC] 29)).alloc (.cells #[.int .i64 ka,.int .i64 ta,.slice aa la ca] 36)).alloc (.cells #[.int .i64 kb,.int .i64 tb,.slice ab lb cb] 36)) = W at *
 rw [hs3] at CK
 refine CK.mono ?_;rintro e w1 ⟨rfl,hb1⟩
 have hB1 : Below W.heap.size W w1:=(ajL).trans (hb1.mono (by simp))
 have HB1 : Hid (Below w.heap.size w w1):=ajK (hB3.trans (hB1.mono hB3.size))
 have SC:=ajK (bc.below hB1 bc.lt);have SA:=ajK (ba.below hB1 ba.lt);have SB:=ajK (bb.below hB1 bb.lt);clear hB3 hb1 hB1 CK bc ba bb hs3
 go_wp2
 exact bodyPost_ret (v:=.tuple #[.slice none 0 0,.int .i64 z]) (by simp [results,Tryz.results48,go_sem]) rfl ⟨rfl,HB1.out⟩
set_option maxHeartbeats 1000000 in
theorem RD (c : aP) (ka ta : Int) (aa : Option Addr) (la ca : Nat) (A : Nat -> ay) (kb tb : Int) (ab : Option Addr) (lb cb : Nat) (B : Nat -> ay) (au : Int) (w : World) (ha : bV w aa la A) (hb : bV w ab lb B) (hla : (la : Int) <= 4611686018427387904) (hlb : (lb : Int) <= 4611686018427387904) (h0 : oO c ka ta aa la ca A kb tb ab lb cb B = 0) (h1 : jP ta tb au ≠ 0) :
 Calls Tryz.prog 48 #[aT c,bC ka ta aa la ca,bC kb tb ab lb cb,.int .i64 au] w λe w'=>e = .returned (.tuple #[.slice none 0 0,.int .i64 (jP ta tb au)]) /\ Below w.heap.size w w':=by
 have PT:=GK ka ta kb tb au aa ab la ca lb cb
 have hB3 : Below w.heap.size w (((w.alloc (.cells #[.int .i64 c.ring,.int .i64 c.window,.int .i64 c.base,.int .i64 c.gain,.int .i64 c.least,.int .i64 c.most,.int .i64 c.aD,.int .i64 c.num,.int .i64 c.den,.int .i64 c.extra,.bool c.aC] 29)).alloc (.cells #[.int .i64 ka,.int .i64 ta,.slice aa la ca] 36)).alloc (.cells #[.int .i64 kb,.int .i64 tb,.slice ab lb cb] 36)):=((ajL).alloc (by simp) _).alloc (by simp;omega) _
 have bc:=(((ak.new w #[.int .i64 c.ring,.int .i64 c.window,.int .i64 c.base,.int .i64 c.gain,.int .i64 c.least,.int .i64 c.most,.int .i64 c.aD,.int .i64 c.num,.int .i64 c.den,.int .i64 c.extra,.bool c.aC] 29).alloc (.cells #[.int .i64 ka,.int .i64 ta,.slice aa la ca] 36)).alloc (.cells #[.int .i64 kb,.int .i64 tb,.slice ab lb cb] 36));have ba:=((ak.new (w.alloc (.cells #[.int .i64 c.ring,.int .i64 c.window,.int .i64 c.base,.int .i64 c.gain,.int .i64 c.least,.int .i64 c.most,.int .i64 c.aD,.int .i64 c.num,.int .i64 c.den,.int .i64 c.extra,.bool c.aC] 29)) #[.int .i64 ka,.int .i64 ta,.slice aa la ca] 36).alloc (.cells #[.int .i64 kb,.int .i64 tb,.slice ab lb cb] 36))
 have bb:=ak.new ((w.alloc (.cells #[.int .i64 c.ring,.int .i64 c.window,.int .i64 c.base,.int .i64 c.gain,.int .i64 c.least,.int .i64 c.most,.int .i64 c.aD,.int .i64 c.num,.int .i64 c.den,.int .i64 c.extra,.bool c.aC] 29)).alloc (.cells #[.int .i64 ka,.int .i64 ta,.slice aa la ca] 36)) #[.int .i64 kb,.int .i64 tb,.slice ab lb cb] 36
 have CK:=jJ c (some ⟨(((w.alloc (.cells #[.int .i64 c.ring,.int .i64 c.window,.int .i64 c.base,.int .i64 c.gain,.int .i64 c.least,.int .i64 c.most,.int .i64 c.aD,.int .i64 c.num,.int .i64 c.den,.int .i64 c.extra,.bool c.aC] 29)).alloc (.cells #[.int .i64 ka,.int .i64 ta,.slice aa la ca] 36)).alloc (.cells #[.int .i64 kb,.int .i64 tb,.slice ab lb cb] 36)).heap.size,0,none⟩) 2 2 _ _ _ _ _ (Pf (((w.alloc (.cells #[.int .i64 c.ring,.int .i64 c.window,.int .i64 c.base,.int .i64 c.gain,.int .i64 c.least,.int .i64 c.most,.int .i64 c.aD,.int .i64 c.num,.int .i64 c.den,.int .i64 c.extra,.bool c.aC] 29)).alloc (.cells #[.int .i64 ka,.int .i64 ta,.slice aa la ca] 36)).alloc (.cells #[.int .i64 kb,.int .i64 tb,.slice ab lb cb] 36)) ka ta kb tb aa ab la ca lb cb A B (ha.below hB3) (hb.below hB3) hla hlb) (by decide)
 have hs3 : (((w.alloc (.cells #[.int .i64 c.ring,.int .i64 c.window,.int .i64 c.base,.int .i64 c.gain,.int .i64 c.least,.int .i64 c.most,.int .i64 c.aD,.int .i64 c.num,.int .i64 c.den,.int .i64 c.extra,.bool c.aC] 29)).alloc (.cells #[.int .i64 ka,.int .i64 ta,.slice aa la ca] 36)).alloc (.cells #[.int .i64 kb,.int .i64 tb,.slice ab lb cb] 36)).heap.size = w.heap.size + 1 + 1 + 1:=by simp
 change Calls _ _ _ _ (λe w'=>e = .returned (.int .i64 (oO c ka ta aa la ca A kb tb ab lb cb B)) /\ _) at CK
 simp only [World.size_alloc] at ba bb
 unfold aT at CK ⊢
 unfold bC
 rw [h0] at CK
 clear h0
 generalize jP ta tb au = z at *
 generalize uH ta tb au = num at *
 generalize uI ta tb au = den at *
 have hz : (z != 0) = true:=by simpa using h1
 go_enter Tryz.func48,Tryz.ntmps48
 go_wp2_with fail
 generalize (((w.alloc (.cells #[.int .i64 c.ring,.int .i64 c.window,.int .i64 c.base,.int .i64 c.gain,.int .i64 c.least,.int .i64 c.most,.int .i64 c.aD,.int .i64 c.num,.int .i64 c.den,.int .i64 c.extra,.bool c.aC] 29)).alloc (.cells #[.int .i64 ka,.int .i64 ta,.slice aa la ca] 36)).alloc (.cells #[.int .i64 kb,.int .i64 tb,.slice ab lb cb] 36)) = W at *
 rw [hs3] at CK
 refine CK.mono ?_;rintro e w1 ⟨rfl,hb1⟩
 have hB1 : Below W.heap.size W w1:=(ajL).trans (hb1.mono (by simp))
 have HB1 : Hid (Below w.heap.size w w1):=ajK (hB3.trans (hB1.mono hB3.size))
 have SC:=ajK (bc.below hB1 bc.lt);have SA:=ajK (ba.below hB1 ba.lt);have SB:=ajK (bb.below hB1 bb.lt);clear hB3 hb1 hB1 CK bc ba bb hs3
 obtain ⟨a0,a1,a2⟩:=gK SA.out
 obtain ⟨b0,b1,b2⟩:=gK SB.out
 go_wp2_with fail
 refine (PT _).mono ?_;rintro e w2 ⟨rfl,hb2⟩
 have HB2 : Hid (Below w.heap.size w w2):=ajK (HB1.out.trans (hb2.mono HB1.out.size))
 clear hb2 a0 a1 a2 b0 b1 b2 PT
 go_wp2
 exact bodyPost_ret (v:=.tuple #[.slice none 0 0,.int .i64 z]) (by simp [results,Tryz.results48,go_sem]) rfl ⟨rfl,HB2.out⟩
set_option maxHeartbeats 4000000 in
theorem RF (c : aP) (RG : c.aC = false) (ka ta : Int) (aa : Option Addr) (la ca : Nat) (A : Nat -> ay) (kb tb : Int) (ab : Option Addr) (lb cb : Nat) (B : Nat -> ay) (au : Int) (w : World) (ha : bV w aa la A) (hb : bV w ab lb B) (hla : (la : Int) <= 4611686018427387904) (hlb : (lb : Int) <= 4611686018427387904) (h0 : oO c ka ta aa la ca A kb tb ab lb cb B = 0) (h1 : jP ta tb au = 0) :
 Calls Tryz.prog 48 #[aT c,bC ka ta aa la ca,bC kb tb ab lb cb,.int .i64 au] w λe w'=>∃ s cp,e = .returned (.tuple #[.slice s la cp,.int .i64 0]) /\ dP w' s la (Bu false A B lb (au - ta) (tb - ta)) /\ Below w.heap.size w w':=by
 obtain ⟨i0,hi,hz0,hz1,hz2⟩:=info_parts wJ
 have PT:=GK ka ta kb tb au aa ab la ca lb cb;have OF:=YH c RG;have GN:=Ku h0
 obtain ⟨vY,_,_,_,_,_,hN,hD⟩:=Iw h1
 rw [hN,hD] at vY PT
 rw [h1] at PT
 obtain ⟨num,Kv⟩ : ∃ x,au - ta = x:=⟨_,rfl⟩
 obtain ⟨den,hden⟩ : ∃ x,tb - ta = x:=⟨_,rfl⟩
 rw [Kv,hden] at vY PT ⊢
 clear hN hD h1 Kv hden RG
 obtain ⟨P,hP⟩ : ∃ P,Bu false A B lb num den = P:=⟨_,rfl⟩
 have HP : Hid (∀ i,P i = Es false (A i) (Az B (A i).id lb) (Ip B (A i).id lb) num den):=ajK (λi=>by rw [← hP];rfl)
 rw [hP]
 clear hP;have Z6:=Nu;have Z7:=zy
 have hB3 : Below w.heap.size w (((w.alloc (.cells #[.int .i64 c.ring,.int .i64 c.window,.int .i64 c.base,.int .i64 c.gain,.int .i64 c.least,.int .i64 c.most,.int .i64 c.aD,.int .i64 c.num,.int .i64 c.den,.int .i64 c.extra,.bool c.aC] 29)).alloc (.cells #[.int .i64 ka,.int .i64 ta,.slice aa la ca] 36)).alloc (.cells #[.int .i64 kb,.int .i64 tb,.slice ab lb cb] 36)):=((ajL).alloc (by simp) _).alloc (by simp;omega) _
 have bc:=(((ak.new w #[.int .i64 c.ring,.int .i64 c.window,.int .i64 c.base,.int .i64 c.gain,.int .i64 c.least,.int .i64 c.most,.int .i64 c.aD,.int .i64 c.num,.int .i64 c.den,.int .i64 c.extra,.bool c.aC] 29).alloc (.cells #[.int .i64 ka,.int .i64 ta,.slice aa la ca] 36)).alloc (.cells #[.int .i64 kb,.int .i64 tb,.slice ab lb cb] 36));have ba:=((ak.new (w.alloc (.cells #[.int .i64 c.ring,.int .i64 c.window,.int .i64 c.base,.int .i64 c.gain,.int .i64 c.least,.int .i64 c.most,.int .i64 c.aD,.int .i64 c.num,.int .i64 c.den,.int .i64 c.extra,.bool c.aC] 29)) #[.int .i64 ka,.int .i64 ta,.slice aa la ca] 36).alloc (.cells #[.int .i64 kb,.int .i64 tb,.slice ab lb cb] 36))
 have bb:=ak.new ((w.alloc (.cells #[.int .i64 c.ring,.int .i64 c.window,.int .i64 c.base,.int .i64 c.gain,.int .i64 c.least,.int .i64 c.most,.int .i64 c.aD,.int .i64 c.num,.int .i64 c.den,.int .i64 c.extra,.bool c.aC] 29)).alloc (.cells #[.int .i64 ka,.int .i64 ta,.slice aa la ca] 36)) #[.int .i64 kb,.int .i64 tb,.slice ab lb cb] 36
 have CK:=jJ c (some ⟨(((w.alloc (.cells #[.int .i64 c.ring,.int .i64 c.window,.int .i64 c.base,.int .i64 c.gain,.int .i64 c.least,.int .i64 c.most,.int .i64 c.aD,.int .i64 c.num,.int .i64 c.den,.int .i64 c.extra,.bool c.aC] 29)).alloc (.cells #[.int .i64 ka,.int .i64 ta,.slice aa la ca] 36)).alloc (.cells #[.int .i64 kb,.int .i64 tb,.slice ab lb cb] 36)).heap.size,0,none⟩) 2 2 _ _ _ _ _ (Pf (((w.alloc (.cells #[.int .i64 c.ring,.int .i64 c.window,.int .i64 c.base,.int .i64 c.gain,.int .i64 c.least,.int .i64 c.most,.int .i64 c.aD,.int .i64 c.num,.int .i64 c.den,.int .i64 c.extra,.bool c.aC] 29)).alloc (.cells #[.int .i64 ka,.int .i64 ta,.slice aa la ca] 36)).alloc (.cells #[.int .i64 kb,.int .i64 tb,.slice ab lb cb] 36)) ka ta kb tb aa ab la ca lb cb A B (ha.below hB3) (hb.below hB3) hla hlb) (by decide)
 have hs3 : (((w.alloc (.cells #[.int .i64 c.ring,.int .i64 c.window,.int .i64 c.base,.int .i64 c.gain,.int .i64 c.least,.int .i64 c.most,.int .i64 c.aD,.int .i64 c.num,.int .i64 c.den,.int .i64 c.extra,.bool c.aC] 29)).alloc (.cells #[.int .i64 ka,.int .i64 ta,.slice aa la ca] 36)).alloc (.cells #[.int .i64 kb,.int .i64 tb,.slice ab lb cb] 36)).heap.size = w.heap.size + 1 + 1 + 1:=by simp
 change Calls _ _ _ _ (λe w'=>e = .returned (.int .i64 (oO c ka ta aa la ca A kb tb ab lb cb B)) /\ _) at CK
 simp only [World.size_alloc] at ba bb
 unfold aT at CK ⊢
 unfold bC
 go_enter Tryz.func48,Tryz.ntmps48
 go_wp2_with fail
 generalize (((w.alloc (.cells #[.int .i64 c.ring,.int .i64 c.window,.int .i64 c.base,.int .i64 c.gain,.int .i64 c.least,.int .i64 c.most,.int .i64 c.aD,.int .i64 c.num,.int .i64 c.den,.int .i64 c.extra,.bool c.aC] 29)).alloc (.cells #[.int .i64 ka,.int .i64 ta,.slice aa la ca] 36)).alloc (.cells #[.int .i64 kb,.int .i64 tb,.slice ab lb cb] 36)) = W at *
 rw [hs3] at CK
 refine CK.mono ?_;rintro e w1 ⟨rfl,hb1⟩
 have hB1 : Below W.heap.size W w1:=(ajL).trans (hb1.mono (by simp))
 have HB1 : Hid (Below w.heap.size w w1):=ajK (hB3.trans (hB1.mono hB3.size))
 have SC:=ajK (bc.below hB1 bc.lt);have SA:=ajK (ba.below hB1 ba.lt);have SB:=ajK (bb.below hB1 bb.lt);clear hB3 hb1 hB1 CK bc ba bb hs3
 rw [h0]
 clear h0;have Ac:=ha.1
 have zA : Hid (∀ k,k < la -> ∃ b off,aa = some ⟨b,off,none⟩ /\ b < w.heap.size /\ dF w b (off + k * 9) (A k)):=ajK (λk hk=>by
  rcases ha.2 with h0 | ⟨b,off,e,hb,hc⟩
  ·omega
  ·exact ⟨b,off,e,hb,hc k hk⟩)
 obtain ⟨a0,a1,a2⟩:=gK SA.out
 obtain ⟨b0,b1,b2⟩:=gK SB.out
 go_wp2_with fail
 refine (PT _).mono ?_;rintro e w2 ⟨rfl,hb2⟩
 have qG:=ajK (SC.out.below hb2 SC.out.lt);clear SC;have SC:=qG;clear qG;have oP:=ajK (SA.out.below hb2 SA.out.lt);clear SA;have SA:=oP;clear oP;have Bw:=ajK (SB.out.below hb2 SB.out.lt);clear SB;have SB:=Bw;clear Bw
 have HB2 : Hid (Below w.heap.size w w2):=ajK (HB1.out.trans (hb2.mono HB1.out.size))
 clear hb2 a0 a1 a2 b0 b1 b2 PT HB1
 obtain ⟨q0,q1,q2,q3,q4,q5,q6,q7,q8,q9,jG⟩:=dJ SC.out
 unfold aT at OF
 go_wp2_with fail
 refine (OF _).mono ?_;rintro e W0 ⟨rfl,hb3⟩
 have oP:=ajK (SA.out.below hb3 SA.out.lt);clear SA;have SA:=oP;clear oP;have Bw:=ajK (SB.out.below hb3 SB.out.lt);clear SB;have SB:=Bw;clear Bw
 have HW0 : Hid (Below w.heap.size w W0):=ajK (HB2.out.trans (hb3.mono HB2.out.size))
 clear hb3 q0 q1 q2 q3 q4 q5 q6 q7 q8 q9 jG OF HB2 SC
 obtain ⟨a0,a1,a2⟩:=gK SA.out
 have hs2:=SB.out.lt
 go_wp2_with fail
 clear a0 a1 a2
 go_loopw [15,45] (λv i wr=>∃ k : Nat,k <= la /\ i = .int .i64 k /\ wr.ownsRow W0.heap.size 52 6 v k (jV P k) /\ Below W0.heap.size W0 wr) (λ_ i _=>la - (intOf i).toNat)
 case atStart=>exact ⟨0,Nat.zero_le _,rfl,World.ownsRow_nil _ _ _ _,Below.refl _ _⟩
 case round =>
  rename_i wr
  obtain ⟨k,hk,rfl,hown,hB⟩:=hrel
  have hsz:=hB.size
  by_cases hlt : k < la
  ·obtain ⟨b,off,FB,hbw,hc⟩:=zA.out k hlt
   subst FB
   have hcw:=hc.below (HW0.out.trans (hB.mono HW0.out.size)) hbw;have hx:=Ac k hlt
   have hy : (Az B (A k).id lb).Ok:=RB hb (A k).id
   have BD:=ajK (HP.out k)
   have HL : Hid (jV P (k + 1) = jV P k ++ [.int .i64 (P k).id,.int .i64 (P k).px,.int .i64 (P k).py,.int .i64 (P k).pz,.int .u16 (P k).aG,.int .i64 (P k).mode]):=ajK rfl
   have FD:=ajK (λw' (hw : Below w.heap.size w w')=>Z6 kb tb ab lb cb B (A k).id w' (hb.below hw) hlb)
   have EX:=Z7 (A k)
   unfold bO Kr uY at EX
   unfold bO bC at FD
   have hkl : (k : Int) < la:=by omega
   have HOWN:=ajK hown
   have fD:=ajK (λj e=>(hown.lt j e).2)
   have HB:=ajK hB;clear hc hown hB
   generalize P k = pk at *
   generalize Ip B (A k).id lb = fb at *
   generalize Az B (A k).id lb = y at *
   generalize A k = x at *
   obtain ⟨fq,px,py,pz,vx,vy,vz,aG,gen⟩:=x
   obtain ⟨nV,qx,qy,qz,ux,uy,uz,iV,iW⟩:=y
   obtain ⟨c0,c1,c2,c3,c4,c5,c6,c7,c8⟩:=hcw
   dsimp only at c0 c1 c2 c3 c4 c5 c6 c7 c8 EX FD
   go_wp2_with fail
   refine (EX _).mono ?_;rintro e w4 ⟨rfl,hb4⟩
   have X4:=ajK ((ak.new wr #[.int .i64 fq,.int .i64 px,.int .i64 py,.int .i64 pz,.int .i64 vx,.int .i64 vy,.int .i64 vz,.int .u16 aG,.int .u8 gen] 33).below hb4 (by simp))
   have iK : Hid (Below W0.heap.size W0 w4):=ajK ((HB.out.alloc hsz _).trans (hb4.mono (by simp;omega)))
   have x9:=ajK (own_below (HOWN.out.alloc _) hb4);have Kw:=ajK (SB.out.below iK.out SB.out.lt);have l4:=X4.out.lt;have l4b:=Kw.out.lt;clear hb4 EX c0 c1 c2 c3 c4 c5 c6 c7 c8 HB HOWN
   obtain ⟨c0,c1,c2,c3,c4,c5,c6,c7,c8⟩:=gU X4.out
   obtain ⟨b0,b1,b2⟩:=gK Kw.out
   have vN : Hid (Below W0.heap.size W0 (w4.alloc (.cells #[.int .i64 fq,.int .i64 px,.int .i64 py,.int .i64 pz,.int .u16 aG,.int .i64 0] 52))):=ajK (iK.out.alloc iK.out.size _)
   have fd:=FD.out _ (HW0.out.trans (vN.out.mono HW0.out.size))
   go_wp2_with fail
   refine fd.mono ?_;rintro e w6 ⟨rfl,hb6⟩
   have X6:=ajK ((X4.out.alloc (.cells #[.int .i64 fq,.int .i64 px,.int .i64 py,.int .i64 pz,.int .u16 aG,.int .i64 0] 52)).below hb6 (by simp;omega))
   have P6:=ajK ((ak.new w4 #[.int .i64 fq,.int .i64 px,.int .i64 py,.int .i64 pz,.int .u16 aG,.int .i64 0] 52).below hb6 (by simp))
   have ni : Hid (Below W0.heap.size W0 w6):=ajK (vN.out.trans (hb6.mono vN.out.size))
   have zB:=ajK (own_below (x9.out.alloc _) hb6);have l6:=X6.out.lt;have l6b:=P6.out.lt;clear hb6 fd FD c0 c1 c2 c3 c4 c5 c6 c7 c8 b0 b1 b2 iK vN x9 X4 Kw
   obtain ⟨c0,c1,c2,c3,c4,c5,c6,c7,c8⟩:=gU X6.out
   obtain ⟨p0,p1,p2,p3,p4,p5⟩:=nK P6.out
   obtain ⟨f0,f1,f2,f3,f4,f5⟩:=qp P6.out
   by_cases hm : fb = true /\ iW = gen
   ·obtain ⟨rfl,rfl⟩:=hm
    have wK : Hid (pk = ⟨fq,dx px qx num den,dx py qy num den,dx pz qz num den,sH aG iV num den,1⟩):=ajK (by rw [BD.out];unfold Es;rw [if_pos ⟨rfl,rfl⟩];rfl)
    have PL:=ajK (Vr ⟨fq,px,py,pz,vx,vy,vz,aG,iW⟩ ⟨nV,qx,qy,qz,ux,uy,uz,iV,iW⟩ num den hx hy vY);have AL:=ajK (Ny aG iV num den hx.aG hy.aG vY)
    unfold bO at PL
    dsimp only at PL
    generalize dx px qx num den = z1 at *
    generalize dx py qy num den = z2 at *
    generalize dx pz qz num den = z3 at *
    generalize sH aG iV num den = z4 at *
    go_wp2_with fail
    have X7:=ajK (X6.out.alloc (.cells #[.int .i64 nV,.int .i64 qx,.int .i64 qy,.int .i64 qz,.int .i64 ux,.int .i64 uy,.int .i64 uz,.int .u16 iV,.int .u8 iW] 33));have P7:=ajK (P6.out.alloc (.cells #[.int .i64 nV,.int .i64 qx,.int .i64 qy,.int .i64 qz,.int .i64 ux,.int .i64 uy,.int .i64 uz,.int .u16 iV,.int .u8 iW] 33));have Y7:=ajK (ak.new w6 #[.int .i64 nV,.int .i64 qx,.int .i64 qy,.int .i64 qz,.int .i64 ux,.int .i64 uy,.int .i64 uz,.int .u16 iV,.int .u8 iW] 33)
    have mF : Hid (Below W0.heap.size W0 (w6.alloc (.cells #[.int .i64 nV,.int .i64 qx,.int .i64 qy,.int .i64 qz,.int .i64 ux,.int .i64 uy,.int .i64 uz,.int .u16 iV,.int .u8 iW] 33))):=ajK (ni.out.alloc ni.out.size _)
    have wL:=ajK (zB.out.alloc (.cells #[.int .i64 nV,.int .i64 qx,.int .i64 qy,.int .i64 qz,.int .i64 ux,.int .i64 uy,.int .i64 uz,.int .u16 iV,.int .u8 iW] 33));clear c0 c1 c2 c3 c4 c5 c6 c7 c8 p0 p1 p2 p3 p4 p5 f0 f1 f2 f3 f4 f5 X6 P6 ni zB
    generalize w6.alloc (.cells #[.int .i64 nV,.int .i64 qx,.int .i64 qy,.int .i64 qz,.int .i64 ux,.int .i64 uy,.int .i64 uz,.int .u16 iV,.int .u8 iW] 33) = w7 at *
    obtain ⟨c0,c1,c2,c3,c4,c5,c6,c7,c8⟩:=gU X7.out
    obtain ⟨d0,d1,d2,d3,d4,d5,d6,d7,d8⟩:=gU Y7.out
    refine aS 9 (by kernel_rfl) (by kernel_rfl) ?_
    simp only [List.take_succ_cons,List.take_zero,List.drop_succ_cons,List.drop_zero]
    repeat (apply aF;(next=>(intro W hW K hK;have y0:=hW.cell c0;have y1:=hW.cell c1;have y2:=hW.cell c2;have y3:=hW.cell c3;have y4:=hW.cell c4;have y5:=hW.cell c5;have y6:=hW.cell c6;have y7:=hW.cell c7;have y8:=hW.cell c8;have y9:=hW.cell d0;have Iy:=hW.cell d1;have Nz:=hW.cell d2;have RH:=hW.cell d3;have y13:=hW.cell d4;have RI:=hW.cell d5;have RJ:=hW.cell d6;have RL:=hW.cell d7;have RO:=hW.cell d8;go_simp;first | exact ⟨hW,hK⟩ | exact hK));(next=>exact aN.self _);(try go_simp))
    (apply aF;(next=>(intro W hW K hK;go_simp;first | exact ⟨_,hW.call (Nv W),hK⟩ | exact ⟨hW,_,hW.call (Nv W),hK⟩));(next=>exact aN.self _);(try go_simp))
    repeat (apply aF;(next=>(intro W hW K hK;have y0:=hW.cell c0;have y1:=hW.cell c1;have y2:=hW.cell c2;have y3:=hW.cell c3;have y4:=hW.cell c4;have y5:=hW.cell c5;have y6:=hW.cell c6;have y7:=hW.cell c7;have y8:=hW.cell c8;have y9:=hW.cell d0;have Iy:=hW.cell d1;have Nz:=hW.cell d2;have RH:=hW.cell d3;have y13:=hW.cell d4;have RI:=hW.cell d5;have RJ:=hW.cell d6;have RL:=hW.cell d7;have RO:=hW.cell d8;go_simp;first | exact ⟨hW,hK⟩ | exact hK));(next=>exact aN.self _);(try go_simp))
    (apply aF;(next=>(intro W hW K hK;go_simp;first | exact ⟨_,hW.call (PL.out W),hK⟩ | exact ⟨hW,_,hW.call (PL.out W),hK⟩));(next=>exact aN.self _);(try go_simp))
    repeat (apply aF;(next=>(intro W hW K hK;have y0:=hW.cell c0;have y1:=hW.cell c1;have y2:=hW.cell c2;have y3:=hW.cell c3;have y4:=hW.cell c4;have y5:=hW.cell c5;have y6:=hW.cell c6;have y7:=hW.cell c7;have y8:=hW.cell c8;have y9:=hW.cell d0;have Iy:=hW.cell d1;have Nz:=hW.cell d2;have RH:=hW.cell d3;have y13:=hW.cell d4;have RI:=hW.cell d5;have RJ:=hW.cell d6;have RL:=hW.cell d7;have RO:=hW.cell d8;go_simp;first | exact ⟨hW,hK⟩ | exact hK));(next=>exact aN.self _);(try go_simp))
    refine aX ?_
    intro WC aO
    have ug : Below w7.heap.size w7 WC:=aO
    have X8:=ajK (X7.out.below ug X7.out.lt);have Y8:=ajK (Y7.out.below ug Y7.out.lt);have P8:=ajK (P7.out.below ug P7.out.lt)
    have Ky : Hid (Below W0.heap.size W0 WC):=ajK (mF.out.trans (ug.mono mF.out.size))
    have RP:=ajK (own_below wL.out ug);clear aO ug c0 c1 c2 c3 c4 c5 c6 c7 c8 d0 d1 d2 d3 d4 d5 d6 d7 d8 X7 Y7 P7 mF wL PL
    obtain ⟨c0,c1,c2,c3,c4,c5,c6,c7,c8⟩:=gU X8.out
    obtain ⟨d0,d1,d2,d3,d4,d5,d6,d7,d8⟩:=gU Y8.out
    obtain ⟨p0,p1,p2,p3,p4,p5⟩:=nK P8.out
    obtain ⟨f0,f1,f2,f3,f4,f5⟩:=qp P8.out
    go_wp2_with fail
    have Z9:=Fz P8.out 5 (.int .i64 1) 1 (.int .i64 z1) 2 (.int .i64 z2) 3 (.int .i64 z3);clear c0 c1 c2 c3 c4 c5 c6 c7 c8 d0 d1 d2 d3 d4 d5 d6 d7 d8 p0 p1 p2 p3 p4 p5 f0 f1 f2 f3 f4 f5
    obtain ⟨w9,RQ⟩ : ∃ w9,w9 = ((((WC.setCell ⟨w4.heap.size,5,none⟩ (.int .i64 1)).setCell ⟨w4.heap.size,1,none⟩ (.int .i64 z1)).setCell ⟨w4.heap.size,2,none⟩ (.int .i64 z2)).setCell ⟨w4.heap.size,3,none⟩ (.int .i64 z3)):=⟨_,rfl⟩
    rw [← RQ] at Z9 ⊢
    clear RQ
    obtain ⟨Z9,O9⟩:=Z9
    simp at Z9
    have X9:=ajK (O9.blk X8.out (by omega))
    have Y9:=ajK (O9.blk Y8.out (by omega))
    have P9:=ajK Z9
    have Kz : Hid (Below W0.heap.size W0 w9):=ajK (Ky.out.trans (O9.below Ky.out.size (by rintro i rfl;omega)))
    have RU:=ajK (rP RP.out O9 (λj e h=>by have:=fD.out j e;have h2 : j = w4.heap.size:=h;omega))
    clear Z9 O9 X8 Y8 P8 Ky RP
    refine (AL.out _).mono ?_;rintro e wd ⟨rfl,hbd⟩
    have FC:=P9.out.below hbd P9.out.lt;have l9:=FC.lt;have KA:=Kz.out.trans (hbd.mono Kz.out.size);have KC:=own_below RU.out hbd
    obtain ⟨p0,p1,p2,p3,p4,p5⟩:=nK FC
    obtain ⟨f0,f1,f2,f3,f4,f5⟩:=qp FC
    have yg:=ajK (rP KC ((Only.refl (· = w4.heap.size) wd).setCell (p:=⟨w4.heap.size,4,none⟩) (.inl rfl) (.int .u16 z4)) (λj e h=>by have:=fD.out j e;have h2 : j = w4.heap.size:=h;omega))
    have sJ : Hid (Below W0.heap.size W0 (wd.setCell ⟨w4.heap.size,4,none⟩ (.int .u16 z4))):=ajK (KA.setCell (by simp;omega) _)
    clear hbd FC KA KC X9 Y9 P9 Kz RU
    go_wp2_with (at_builtin;refine wpList_append_own _ rfl (.tmp 87) (.tmp 89) 47 rfl W0.heap.size 52 i0 (.agg #[.int .i64 0,.int .i64 0,.int .i64 0,.int .i64 0,.int .u16 0,.int .i64 0]) 6 48 Tryz.underlying47 hi hz0 hz1 hz2 rfl (by decide) _ _ _ rfl (yg.out.alloc _) ⟨wd.heap.size,0,none⟩ 1 1 [.int .i64 fq,.int .i64 z1,.int .i64 z2,.int .i64 z3,.int .u16 z4,.int .i64 1] rfl rfl ?c1 ?c2 ?c3 ?c4 ?c5 ?_)
    case c1=>exact lQ (by simp)
    case c2=>intro u hu;simp at hu;rcases hu with rfl | rfl | rfl | rfl | rfl | rfl <;> rfl
    case c3=>unfold maxLen;omega
    case c4=>omega
    case c5=>have:=sJ.out.size;simp at *;omega
    intro v' kT hown' hgrow _
    have hszz:=sJ.out.size
    have hB' : Hid (Below W0.heap.size W0 kT):=ajK ((sJ.out.alloc hszz _).grown hgrow (by simp at *;omega) (λj e=>(yg.out.lt j e).1))
    have HO : Hid (kT.ownsRow W0.heap.size 52 6 v' (k + 1) (jV P (k + 1))):=ajK (by rw [HL.out,wK.out];exact hown')
    clear hown' hgrow
    go_wp2
    go_roundw
    case rel=>exact ⟨k + 1,by omega,by go_num,HO.out,hB'.out⟩
    case measure=>simp [intOf];omega
   ·have wK : Hid (pk = ⟨fq,px,py,pz,aG,0⟩):=ajK (by rw [BD.out];unfold Es;rw [if_neg hm];rfl)
    have mF : Hid (Below W0.heap.size W0 (w6.alloc (.cells #[.int .i64 nV,.int .i64 qx,.int .i64 qy,.int .i64 qz,.int .i64 ux,.int .i64 uy,.int .i64 uz,.int .u16 iV,.int .u8 iW] 33))):=ajK (ni.out.alloc ni.out.size _)
    have wL:=ajK (zB.out.alloc (.cells #[.int .i64 nV,.int .i64 qx,.int .i64 qy,.int .i64 qz,.int .i64 ux,.int .i64 uy,.int .i64 uz,.int .u16 iV,.int .u8 iW] 33))
    cases fb
    ·clear hm
     go_wp2_with (at_builtin;refine wpList_append_own _ rfl (.tmp 87) (.tmp 89) 47 rfl W0.heap.size 52 i0 (.agg #[.int .i64 0,.int .i64 0,.int .i64 0,.int .i64 0,.int .u16 0,.int .i64 0]) 6 48 Tryz.underlying47 hi hz0 hz1 hz2 rfl (by decide) _ _ _ rfl (wL.out.alloc _) ⟨w6.heap.size + 1,0,none⟩ 1 1 [.int .i64 fq,.int .i64 px,.int .i64 py,.int .i64 pz,.int .u16 aG,.int .i64 0] rfl rfl ?c1 ?c2 ?c3 ?c4 ?c5 ?_)
     case c1=>exact lQ (by simp)
     case c2=>intro u hu;simp at hu;rcases hu with rfl | rfl | rfl | rfl | rfl | rfl <;> rfl
     case c3=>unfold maxLen;omega
     case c4=>omega
     case c5=>have:=mF.out.size;simp at *;omega
     intro v' kT hown' hgrow _
     have hszz:=mF.out.size
     have hB' : Hid (Below W0.heap.size W0 kT):=ajK ((mF.out.alloc hszz _).grown hgrow (by simp at *;omega) (λj e=>(wL.out.lt j e).1))
     have HO : Hid (kT.ownsRow W0.heap.size 52 6 v' (k + 1) (jV P (k + 1))):=ajK (by rw [HL.out,wK.out];exact hown')
     clear hown' hgrow
     go_wp2
     go_roundw
     case rel=>exact ⟨k + 1,by omega,by go_num,HO.out,hB'.out⟩
     case measure=>simp [intOf];omega
    ·have hg : (iW == gen) = false:=by simpa using hm
     clear hm
     go_wp2_with (at_builtin;refine wpList_append_own _ rfl (.tmp 87) (.tmp 89) 47 rfl W0.heap.size 52 i0 (.agg #[.int .i64 0,.int .i64 0,.int .i64 0,.int .i64 0,.int .u16 0,.int .i64 0]) 6 48 Tryz.underlying47 hi hz0 hz1 hz2 rfl (by decide) _ _ _ rfl (wL.out.alloc _) ⟨w6.heap.size + 1,0,none⟩ 1 1 [.int .i64 fq,.int .i64 px,.int .i64 py,.int .i64 pz,.int .u16 aG,.int .i64 0] rfl rfl ?c1 ?c2 ?c3 ?c4 ?c5 ?_)
     case c1=>exact lQ (by simp)
     case c2=>intro u hu;simp at hu;rcases hu with rfl | rfl | rfl | rfl | rfl | rfl <;> rfl
     case c3=>unfold maxLen;omega
     case c4=>omega
     case c5=>have:=mF.out.size;simp at *;omega
     intro v' kT hown' hgrow _
     have hszz:=mF.out.size
     have hB' : Hid (Below W0.heap.size W0 kT):=ajK ((mF.out.alloc hszz _).grown hgrow (by simp at *;omega) (λj e=>(wL.out.lt j e).1))
     have HO : Hid (kT.ownsRow W0.heap.size 52 6 v' (k + 1) (jV P (k + 1))):=ajK (by rw [HL.out,wK.out];exact hown')
     clear hown' hgrow
     go_wp2
     go_roundw
     case rel=>exact ⟨k + 1,by omega,by go_num,HO.out,hB'.out⟩
     case measure=>simp [intOf];omega
  ·obtain rfl : k = la:=by omega
   obtain ⟨s,cp,rfl,hS⟩:=oN hown
   have HS:=ajK hS;have tH:=ajK (HW0.out.trans (hB.mono HW0.out.size));clear hS hown hB
   go_wp2
   exact bodyPost_ret (v:=.tuple #[.slice s k cp,.int .i64 0]) (by simp [results,Tryz.results48,go_sem]) rfl ⟨s,cp,rfl,HS.out,tH.out⟩
set_option maxHeartbeats 4000000 in
theorem MO (c : aP) (RG : c.aC = true) (ka ta : Int) (aa : Option Addr) (la ca : Nat) (A : Nat -> ay) (kb tb : Int) (ab : Option Addr) (lb cb : Nat) (B : Nat -> ay) (au : Int) (w : World) (ha : bV w aa la A) (hb : bV w ab lb B) (hla : (la : Int) <= 4611686018427387904) (hlb : (lb : Int) <= 4611686018427387904) (h0 : oO c ka ta aa la ca A kb tb ab lb cb B = 0) (h1 : jP ta tb au = 0) :
 Calls Tryz.prog 48 #[aT c,bC ka ta aa la ca,bC kb tb ab lb cb,.int .i64 au] w λe w'=>∃ s cp,e = .returned (.tuple #[.slice s la cp,.int .i64 0]) /\ dP w' s la (Bu true A B lb (au - ta) (tb - ta)) /\ Below w.heap.size w w':=by
 obtain ⟨i0,hi,hz0,hz1,hz2⟩:=info_parts wJ
 have PT:=GK ka ta kb tb au aa ab la ca lb cb;have OF:=Ry c RG;have GN:=Ku h0
 obtain ⟨vY,_,_,_,_,_,hN,hD⟩:=Iw h1
 rw [hN,hD] at vY PT
 rw [h1] at PT
 obtain ⟨num,Kv⟩ : ∃ x,au - ta = x:=⟨_,rfl⟩
 obtain ⟨den,hden⟩ : ∃ x,tb - ta = x:=⟨_,rfl⟩
 rw [Kv,hden] at vY PT ⊢
 clear hN hD h1 Kv hden RG
 obtain ⟨P,hP⟩ : ∃ P,Bu true A B lb num den = P:=⟨_,rfl⟩
 have HP : Hid (∀ i,P i = Es true (A i) (Az B (A i).id lb) (Ip B (A i).id lb) num den):=ajK (λi=>by rw [← hP];rfl)
 rw [hP]
 clear hP;have Z6:=Nu;have Z7:=zy
 have hB3 : Below w.heap.size w (((w.alloc (.cells #[.int .i64 c.ring,.int .i64 c.window,.int .i64 c.base,.int .i64 c.gain,.int .i64 c.least,.int .i64 c.most,.int .i64 c.aD,.int .i64 c.num,.int .i64 c.den,.int .i64 c.extra,.bool c.aC] 29)).alloc (.cells #[.int .i64 ka,.int .i64 ta,.slice aa la ca] 36)).alloc (.cells #[.int .i64 kb,.int .i64 tb,.slice ab lb cb] 36)):=((ajL).alloc (by simp) _).alloc (by simp;omega) _
 have bc:=(((ak.new w #[.int .i64 c.ring,.int .i64 c.window,.int .i64 c.base,.int .i64 c.gain,.int .i64 c.least,.int .i64 c.most,.int .i64 c.aD,.int .i64 c.num,.int .i64 c.den,.int .i64 c.extra,.bool c.aC] 29).alloc (.cells #[.int .i64 ka,.int .i64 ta,.slice aa la ca] 36)).alloc (.cells #[.int .i64 kb,.int .i64 tb,.slice ab lb cb] 36));have ba:=((ak.new (w.alloc (.cells #[.int .i64 c.ring,.int .i64 c.window,.int .i64 c.base,.int .i64 c.gain,.int .i64 c.least,.int .i64 c.most,.int .i64 c.aD,.int .i64 c.num,.int .i64 c.den,.int .i64 c.extra,.bool c.aC] 29)) #[.int .i64 ka,.int .i64 ta,.slice aa la ca] 36).alloc (.cells #[.int .i64 kb,.int .i64 tb,.slice ab lb cb] 36))
 have bb:=ak.new ((w.alloc (.cells #[.int .i64 c.ring,.int .i64 c.window,.int .i64 c.base,.int .i64 c.gain,.int .i64 c.least,.int .i64 c.most,.int .i64 c.aD,.int .i64 c.num,.int .i64 c.den,.int .i64 c.extra,.bool c.aC] 29)).alloc (.cells #[.int .i64 ka,.int .i64 ta,.slice aa la ca] 36)) #[.int .i64 kb,.int .i64 tb,.slice ab lb cb] 36
 have CK:=jJ c (some ⟨(((w.alloc (.cells #[.int .i64 c.ring,.int .i64 c.window,.int .i64 c.base,.int .i64 c.gain,.int .i64 c.least,.int .i64 c.most,.int .i64 c.aD,.int .i64 c.num,.int .i64 c.den,.int .i64 c.extra,.bool c.aC] 29)).alloc (.cells #[.int .i64 ka,.int .i64 ta,.slice aa la ca] 36)).alloc (.cells #[.int .i64 kb,.int .i64 tb,.slice ab lb cb] 36)).heap.size,0,none⟩) 2 2 _ _ _ _ _ (Pf (((w.alloc (.cells #[.int .i64 c.ring,.int .i64 c.window,.int .i64 c.base,.int .i64 c.gain,.int .i64 c.least,.int .i64 c.most,.int .i64 c.aD,.int .i64 c.num,.int .i64 c.den,.int .i64 c.extra,.bool c.aC] 29)).alloc (.cells #[.int .i64 ka,.int .i64 ta,.slice aa la ca] 36)).alloc (.cells #[.int .i64 kb,.int .i64 tb,.slice ab lb cb] 36)) ka ta kb tb aa ab la ca lb cb A B (ha.below hB3) (hb.below hB3) hla hlb) (by decide)
 have hs3 : (((w.alloc (.cells #[.int .i64 c.ring,.int .i64 c.window,.int .i64 c.base,.int .i64 c.gain,.int .i64 c.least,.int .i64 c.most,.int .i64 c.aD,.int .i64 c.num,.int .i64 c.den,.int .i64 c.extra,.bool c.aC] 29)).alloc (.cells #[.int .i64 ka,.int .i64 ta,.slice aa la ca] 36)).alloc (.cells #[.int .i64 kb,.int .i64 tb,.slice ab lb cb] 36)).heap.size = w.heap.size + 1 + 1 + 1:=by simp
 change Calls _ _ _ _ (λe w'=>e = .returned (.int .i64 (oO c ka ta aa la ca A kb tb ab lb cb B)) /\ _) at CK
 simp only [World.size_alloc] at ba bb
 unfold aT at CK ⊢
 unfold bC
 go_enter Tryz.func48,Tryz.ntmps48
 go_wp2_with fail
 generalize (((w.alloc (.cells #[.int .i64 c.ring,.int .i64 c.window,.int .i64 c.base,.int .i64 c.gain,.int .i64 c.least,.int .i64 c.most,.int .i64 c.aD,.int .i64 c.num,.int .i64 c.den,.int .i64 c.extra,.bool c.aC] 29)).alloc (.cells #[.int .i64 ka,.int .i64 ta,.slice aa la ca] 36)).alloc (.cells #[.int .i64 kb,.int .i64 tb,.slice ab lb cb] 36)) = W at *
 rw [hs3] at CK
 refine CK.mono ?_;rintro e w1 ⟨rfl,hb1⟩
 have hB1 : Below W.heap.size W w1:=(ajL).trans (hb1.mono (by simp))
 have HB1 : Hid (Below w.heap.size w w1):=ajK (hB3.trans (hB1.mono hB3.size))
 have SC:=ajK (bc.below hB1 bc.lt);have SA:=ajK (ba.below hB1 ba.lt);have SB:=ajK (bb.below hB1 bb.lt);clear hB3 hb1 hB1 CK bc ba bb hs3
 rw [h0]
 clear h0;have Ac:=ha.1
 have zA : Hid (∀ k,k < la -> ∃ b off,aa = some ⟨b,off,none⟩ /\ b < w.heap.size /\ dF w b (off + k * 9) (A k)):=ajK (λk hk=>by
  rcases ha.2 with h0 | ⟨b,off,e,hb,hc⟩
  ·omega
  ·exact ⟨b,off,e,hb,hc k hk⟩)
 obtain ⟨a0,a1,a2⟩:=gK SA.out
 obtain ⟨b0,b1,b2⟩:=gK SB.out
 go_wp2_with fail
 refine (PT _).mono ?_;rintro e w2 ⟨rfl,hb2⟩
 have qG:=ajK (SC.out.below hb2 SC.out.lt);clear SC;have SC:=qG;clear qG;have oP:=ajK (SA.out.below hb2 SA.out.lt);clear SA;have SA:=oP;clear oP;have Bw:=ajK (SB.out.below hb2 SB.out.lt);clear SB;have SB:=Bw;clear Bw
 have HB2 : Hid (Below w.heap.size w w2):=ajK (HB1.out.trans (hb2.mono HB1.out.size))
 clear hb2 a0 a1 a2 b0 b1 b2 PT HB1
 obtain ⟨q0,q1,q2,q3,q4,q5,q6,q7,q8,q9,jG⟩:=dJ SC.out
 unfold aT at OF
 go_wp2_with fail
 refine (OF _).mono ?_;rintro e W0 ⟨rfl,hb3⟩
 have oP:=ajK (SA.out.below hb3 SA.out.lt);clear SA;have SA:=oP;clear oP;have Bw:=ajK (SB.out.below hb3 SB.out.lt);clear SB;have SB:=Bw;clear Bw
 have HW0 : Hid (Below w.heap.size w W0):=ajK (HB2.out.trans (hb3.mono HB2.out.size))
 clear hb3 q0 q1 q2 q3 q4 q5 q6 q7 q8 q9 jG OF HB2 SC
 obtain ⟨a0,a1,a2⟩:=gK SA.out
 have hs2:=SB.out.lt
 go_wp2_with fail
 clear a0 a1 a2
 go_loopw [15,45] (λv i wr=>∃ k : Nat,k <= la /\ i = .int .i64 k /\ wr.ownsRow W0.heap.size 52 6 v k (jV P k) /\ Below W0.heap.size W0 wr) (λ_ i _=>la - (intOf i).toNat)
 case atStart=>exact ⟨0,Nat.zero_le _,rfl,World.ownsRow_nil _ _ _ _,Below.refl _ _⟩
 case round =>
  rename_i wr
  obtain ⟨k,hk,rfl,hown,hB⟩:=hrel
  have hsz:=hB.size
  by_cases hlt : k < la
  ·obtain ⟨b,off,FB,hbw,hc⟩:=zA.out k hlt
   subst FB
   have hcw:=hc.below (HW0.out.trans (hB.mono HW0.out.size)) hbw;have hx:=Ac k hlt
   have hy : (Az B (A k).id lb).Ok:=RB hb (A k).id
   have BD:=ajK (HP.out k)
   have HL : Hid (jV P (k + 1) = jV P k ++ [.int .i64 (P k).id,.int .i64 (P k).px,.int .i64 (P k).py,.int .i64 (P k).pz,.int .u16 (P k).aG,.int .i64 (P k).mode]):=ajK rfl
   have FD:=ajK (λw' (hw : Below w.heap.size w w')=>Z6 kb tb ab lb cb B (A k).id w' (hb.below hw) hlb)
   have EX:=Z7 (A k)
   unfold bO Kr uY at EX
   unfold bO bC at FD
   have hkl : (k : Int) < la:=by omega
   have HOWN:=ajK hown
   have fD:=ajK (λj e=>(hown.lt j e).2)
   have HB:=ajK hB;clear hc hown hB
   generalize P k = pk at *
   generalize Ip B (A k).id lb = fb at *
   generalize Az B (A k).id lb = y at *
   generalize A k = x at *
   obtain ⟨fq,px,py,pz,vx,vy,vz,aG,gen⟩:=x
   obtain ⟨nV,qx,qy,qz,ux,uy,uz,iV,iW⟩:=y
   obtain ⟨c0,c1,c2,c3,c4,c5,c6,c7,c8⟩:=hcw
   dsimp only at c0 c1 c2 c3 c4 c5 c6 c7 c8 EX FD
   go_wp2_with fail
   refine (EX _).mono ?_;rintro e w4 ⟨rfl,hb4⟩
   have X4:=ajK ((ak.new wr #[.int .i64 fq,.int .i64 px,.int .i64 py,.int .i64 pz,.int .i64 vx,.int .i64 vy,.int .i64 vz,.int .u16 aG,.int .u8 gen] 33).below hb4 (by simp))
   have iK : Hid (Below W0.heap.size W0 w4):=ajK ((HB.out.alloc hsz _).trans (hb4.mono (by simp;omega)))
   have x9:=ajK (own_below (HOWN.out.alloc _) hb4);have Kw:=ajK (SB.out.below iK.out SB.out.lt);have l4:=X4.out.lt;have l4b:=Kw.out.lt;clear hb4 EX c0 c1 c2 c3 c4 c5 c6 c7 c8 HB HOWN
   obtain ⟨c0,c1,c2,c3,c4,c5,c6,c7,c8⟩:=gU X4.out
   obtain ⟨b0,b1,b2⟩:=gK Kw.out
   have vN : Hid (Below W0.heap.size W0 (w4.alloc (.cells #[.int .i64 fq,.int .i64 px,.int .i64 py,.int .i64 pz,.int .u16 aG,.int .i64 0] 52))):=ajK (iK.out.alloc iK.out.size _)
   have fd:=FD.out _ (HW0.out.trans (vN.out.mono HW0.out.size))
   go_wp2_with fail
   refine fd.mono ?_;rintro e w6 ⟨rfl,hb6⟩
   have X6:=ajK ((X4.out.alloc (.cells #[.int .i64 fq,.int .i64 px,.int .i64 py,.int .i64 pz,.int .u16 aG,.int .i64 0] 52)).below hb6 (by simp;omega))
   have P6:=ajK ((ak.new w4 #[.int .i64 fq,.int .i64 px,.int .i64 py,.int .i64 pz,.int .u16 aG,.int .i64 0] 52).below hb6 (by simp))
   have ni : Hid (Below W0.heap.size W0 w6):=ajK (vN.out.trans (hb6.mono vN.out.size))
   have zB:=ajK (own_below (x9.out.alloc _) hb6);have l6:=X6.out.lt;have l6b:=P6.out.lt;clear hb6 fd FD c0 c1 c2 c3 c4 c5 c6 c7 c8 b0 b1 b2 iK vN x9 X4 Kw
   obtain ⟨c0,c1,c2,c3,c4,c5,c6,c7,c8⟩:=gU X6.out
   obtain ⟨p0,p1,p2,p3,p4,p5⟩:=nK P6.out
   obtain ⟨f0,f1,f2,f3,f4,f5⟩:=qp P6.out
   by_cases hm : fb = true /\ iW = gen
   ·obtain ⟨rfl,rfl⟩:=hm
    have wK : Hid (pk = ⟨fq,dS px vx qx ux num den,dS py vy qy uy num den,dS pz vz qz uz num den,sH aG iV num den,2⟩):=ajK (by rw [BD.out];unfold Es;rw [if_pos ⟨rfl,rfl⟩];rfl)
    have PL:=ajK (Vs ⟨fq,px,py,pz,vx,vy,vz,aG,iW⟩ ⟨nV,qx,qy,qz,ux,uy,uz,iV,iW⟩ num den hx hy vY);have AL:=ajK (Ny aG iV num den hx.aG hy.aG vY)
    unfold bO at PL
    dsimp only at PL
    generalize dS px vx qx ux num den = z1 at *
    generalize dS py vy qy uy num den = z2 at *
    generalize dS pz vz qz uz num den = z3 at *
    generalize sH aG iV num den = z4 at *
    go_wp2_with fail
    have X7:=ajK (X6.out.alloc (.cells #[.int .i64 nV,.int .i64 qx,.int .i64 qy,.int .i64 qz,.int .i64 ux,.int .i64 uy,.int .i64 uz,.int .u16 iV,.int .u8 iW] 33));have P7:=ajK (P6.out.alloc (.cells #[.int .i64 nV,.int .i64 qx,.int .i64 qy,.int .i64 qz,.int .i64 ux,.int .i64 uy,.int .i64 uz,.int .u16 iV,.int .u8 iW] 33));have Y7:=ajK (ak.new w6 #[.int .i64 nV,.int .i64 qx,.int .i64 qy,.int .i64 qz,.int .i64 ux,.int .i64 uy,.int .i64 uz,.int .u16 iV,.int .u8 iW] 33)
    have mF : Hid (Below W0.heap.size W0 (w6.alloc (.cells #[.int .i64 nV,.int .i64 qx,.int .i64 qy,.int .i64 qz,.int .i64 ux,.int .i64 uy,.int .i64 uz,.int .u16 iV,.int .u8 iW] 33))):=ajK (ni.out.alloc ni.out.size _)
    have wL:=ajK (zB.out.alloc (.cells #[.int .i64 nV,.int .i64 qx,.int .i64 qy,.int .i64 qz,.int .i64 ux,.int .i64 uy,.int .i64 uz,.int .u16 iV,.int .u8 iW] 33));clear c0 c1 c2 c3 c4 c5 c6 c7 c8 p0 p1 p2 p3 p4 p5 f0 f1 f2 f3 f4 f5 X6 P6 ni zB
    generalize w6.alloc (.cells #[.int .i64 nV,.int .i64 qx,.int .i64 qy,.int .i64 qz,.int .i64 ux,.int .i64 uy,.int .i64 uz,.int .u16 iV,.int .u8 iW] 33) = w7 at *
    obtain ⟨c0,c1,c2,c3,c4,c5,c6,c7,c8⟩:=gU X7.out
    obtain ⟨d0,d1,d2,d3,d4,d5,d6,d7,d8⟩:=gU Y7.out
    refine aS 9 (by kernel_rfl) (by kernel_rfl) ?_
    simp only [List.take_succ_cons,List.take_zero,List.drop_succ_cons,List.drop_zero]
    repeat (apply aF;(next=>(intro W hW K hK;have y0:=hW.cell c0;have y1:=hW.cell c1;have y2:=hW.cell c2;have y3:=hW.cell c3;have y4:=hW.cell c4;have y5:=hW.cell c5;have y6:=hW.cell c6;have y7:=hW.cell c7;have y8:=hW.cell c8;have y9:=hW.cell d0;have Iy:=hW.cell d1;have Nz:=hW.cell d2;have RH:=hW.cell d3;have y13:=hW.cell d4;have RI:=hW.cell d5;have RJ:=hW.cell d6;have RL:=hW.cell d7;have RO:=hW.cell d8;go_simp;first | exact ⟨hW,hK⟩ | exact hK));(next=>exact aN.self _);(try go_simp))
    (apply aF;(next=>(intro W hW K hK;go_simp;first | exact ⟨_,hW.call (Nw W),hK⟩ | exact ⟨hW,_,hW.call (Nw W),hK⟩));(next=>exact aN.self _);(try go_simp))
    repeat (apply aF;(next=>(intro W hW K hK;have y0:=hW.cell c0;have y1:=hW.cell c1;have y2:=hW.cell c2;have y3:=hW.cell c3;have y4:=hW.cell c4;have y5:=hW.cell c5;have y6:=hW.cell c6;have y7:=hW.cell c7;have y8:=hW.cell c8;have y9:=hW.cell d0;have Iy:=hW.cell d1;have Nz:=hW.cell d2;have RH:=hW.cell d3;have y13:=hW.cell d4;have RI:=hW.cell d5;have RJ:=hW.cell d6;have RL:=hW.cell d7;have RO:=hW.cell d8;go_simp;first | exact ⟨hW,hK⟩ | exact hK));(next=>exact aN.self _);(try go_simp))
    (apply aF;(next=>(intro W hW K hK;go_simp;first | exact ⟨_,hW.call (PL.out W),hK⟩ | exact ⟨hW,_,hW.call (PL.out W),hK⟩));(next=>exact aN.self _);(try go_simp))
    repeat (apply aF;(next=>(intro W hW K hK;have y0:=hW.cell c0;have y1:=hW.cell c1;have y2:=hW.cell c2;have y3:=hW.cell c3;have y4:=hW.cell c4;have y5:=hW.cell c5;have y6:=hW.cell c6;have y7:=hW.cell c7;have y8:=hW.cell c8;have y9:=hW.cell d0;have Iy:=hW.cell d1;have Nz:=hW.cell d2;have RH:=hW.cell d3;have y13:=hW.cell d4;have RI:=hW.cell d5;have RJ:=hW.cell d6;have RL:=hW.cell d7;have RO:=hW.cell d8;go_simp;first | exact ⟨hW,hK⟩ | exact hK));(next=>exact aN.self _);(try go_simp))
    refine aX ?_
    intro WC aO
    have ug : Below w7.heap.size w7 WC:=aO
    have X8:=ajK (X7.out.below ug X7.out.lt);have Y8:=ajK (Y7.out.below ug Y7.out.lt);have P8:=ajK (P7.out.below ug P7.out.lt)
    have Ky : Hid (Below W0.heap.size W0 WC):=ajK (mF.out.trans (ug.mono mF.out.size))
    have RP:=ajK (own_below wL.out ug);clear aO ug c0 c1 c2 c3 c4 c5 c6 c7 c8 d0 d1 d2 d3 d4 d5 d6 d7 d8 X7 Y7 P7 mF wL PL
    obtain ⟨c0,c1,c2,c3,c4,c5,c6,c7,c8⟩:=gU X8.out
    obtain ⟨d0,d1,d2,d3,d4,d5,d6,d7,d8⟩:=gU Y8.out
    obtain ⟨p0,p1,p2,p3,p4,p5⟩:=nK P8.out
    obtain ⟨f0,f1,f2,f3,f4,f5⟩:=qp P8.out
    go_wp2_with fail
    have Z9:=Fz P8.out 5 (.int .i64 2) 1 (.int .i64 z1) 2 (.int .i64 z2) 3 (.int .i64 z3);clear c0 c1 c2 c3 c4 c5 c6 c7 c8 d0 d1 d2 d3 d4 d5 d6 d7 d8 p0 p1 p2 p3 p4 p5 f0 f1 f2 f3 f4 f5
    obtain ⟨w9,RQ⟩ : ∃ w9,w9 = ((((WC.setCell ⟨w4.heap.size,5,none⟩ (.int .i64 2)).setCell ⟨w4.heap.size,1,none⟩ (.int .i64 z1)).setCell ⟨w4.heap.size,2,none⟩ (.int .i64 z2)).setCell ⟨w4.heap.size,3,none⟩ (.int .i64 z3)):=⟨_,rfl⟩
    rw [← RQ] at Z9 ⊢
    clear RQ
    obtain ⟨Z9,O9⟩:=Z9
    simp at Z9
    have X9:=ajK (O9.blk X8.out (by omega))
    have Y9:=ajK (O9.blk Y8.out (by omega))
    have P9:=ajK Z9
    have Kz : Hid (Below W0.heap.size W0 w9):=ajK (Ky.out.trans (O9.below Ky.out.size (by rintro i rfl;omega)))
    have RU:=ajK (rP RP.out O9 (λj e h=>by have:=fD.out j e;have h2 : j = w4.heap.size:=h;omega))
    clear Z9 O9 X8 Y8 P8 Ky RP
    refine (AL.out _).mono ?_;rintro e wd ⟨rfl,hbd⟩
    have FC:=P9.out.below hbd P9.out.lt;have l9:=FC.lt;have KA:=Kz.out.trans (hbd.mono Kz.out.size);have KC:=own_below RU.out hbd
    obtain ⟨p0,p1,p2,p3,p4,p5⟩:=nK FC
    obtain ⟨f0,f1,f2,f3,f4,f5⟩:=qp FC
    have yg:=ajK (rP KC ((Only.refl (· = w4.heap.size) wd).setCell (p:=⟨w4.heap.size,4,none⟩) (.inl rfl) (.int .u16 z4)) (λj e h=>by have:=fD.out j e;have h2 : j = w4.heap.size:=h;omega))
    have sJ : Hid (Below W0.heap.size W0 (wd.setCell ⟨w4.heap.size,4,none⟩ (.int .u16 z4))):=ajK (KA.setCell (by simp;omega) _)
    clear hbd FC KA KC X9 Y9 P9 Kz RU
    go_wp2_with (at_builtin;refine wpList_append_own _ rfl (.tmp 87) (.tmp 89) 47 rfl W0.heap.size 52 i0 (.agg #[.int .i64 0,.int .i64 0,.int .i64 0,.int .i64 0,.int .u16 0,.int .i64 0]) 6 48 Tryz.underlying47 hi hz0 hz1 hz2 rfl (by decide) _ _ _ rfl (yg.out.alloc _) ⟨wd.heap.size,0,none⟩ 1 1 [.int .i64 fq,.int .i64 z1,.int .i64 z2,.int .i64 z3,.int .u16 z4,.int .i64 2] rfl rfl ?c1 ?c2 ?c3 ?c4 ?c5 ?_)
    case c1=>exact lQ (by simp)
    case c2=>intro u hu;simp at hu;rcases hu with rfl | rfl | rfl | rfl | rfl | rfl <;> rfl
    case c3=>unfold maxLen;omega
    case c4=>omega
    case c5=>have:=sJ.out.size;simp at *;omega
    intro v' kT hown' hgrow _
    have hszz:=sJ.out.size
    have hB' : Hid (Below W0.heap.size W0 kT):=ajK ((sJ.out.alloc hszz _).grown hgrow (by simp at *;omega) (λj e=>(yg.out.lt j e).1))
    have HO : Hid (kT.ownsRow W0.heap.size 52 6 v' (k + 1) (jV P (k + 1))):=ajK (by rw [HL.out,wK.out];exact hown')
    clear hown' hgrow
    go_wp2
    go_roundw
    case rel=>exact ⟨k + 1,by omega,by go_num,HO.out,hB'.out⟩
    case measure=>simp [intOf];omega
   ·have wK : Hid (pk = ⟨fq,px,py,pz,aG,0⟩):=ajK (by rw [BD.out];unfold Es;rw [if_neg hm];rfl)
    have mF : Hid (Below W0.heap.size W0 (w6.alloc (.cells #[.int .i64 nV,.int .i64 qx,.int .i64 qy,.int .i64 qz,.int .i64 ux,.int .i64 uy,.int .i64 uz,.int .u16 iV,.int .u8 iW] 33))):=ajK (ni.out.alloc ni.out.size _)
    have wL:=ajK (zB.out.alloc (.cells #[.int .i64 nV,.int .i64 qx,.int .i64 qy,.int .i64 qz,.int .i64 ux,.int .i64 uy,.int .i64 uz,.int .u16 iV,.int .u8 iW] 33))
    cases fb
    ·clear hm
     go_wp2_with (at_builtin;refine wpList_append_own _ rfl (.tmp 87) (.tmp 89) 47 rfl W0.heap.size 52 i0 (.agg #[.int .i64 0,.int .i64 0,.int .i64 0,.int .i64 0,.int .u16 0,.int .i64 0]) 6 48 Tryz.underlying47 hi hz0 hz1 hz2 rfl (by decide) _ _ _ rfl (wL.out.alloc _) ⟨w6.heap.size + 1,0,none⟩ 1 1 [.int .i64 fq,.int .i64 px,.int .i64 py,.int .i64 pz,.int .u16 aG,.int .i64 0] rfl rfl ?c1 ?c2 ?c3 ?c4 ?c5 ?_)
     case c1=>exact lQ (by simp)
     case c2=>intro u hu;simp at hu;rcases hu with rfl | rfl | rfl | rfl | rfl | rfl <;> rfl
     case c3=>unfold maxLen;omega
     case c4=>omega
     case c5=>have:=mF.out.size;simp at *;omega
     intro v' kT hown' hgrow _
     have hszz:=mF.out.size
     have hB' : Hid (Below W0.heap.size W0 kT):=ajK ((mF.out.alloc hszz _).grown hgrow (by simp at *;omega) (λj e=>(wL.out.lt j e).1))
     have HO : Hid (kT.ownsRow W0.heap.size 52 6 v' (k + 1) (jV P (k + 1))):=ajK (by rw [HL.out,wK.out];exact hown')
     clear hown' hgrow
     go_wp2
     go_roundw
     case rel=>exact ⟨k + 1,by omega,by go_num,HO.out,hB'.out⟩
     case measure=>simp [intOf];omega
    ·have hg : (iW == gen) = false:=by simpa using hm
     clear hm
     go_wp2_with (at_builtin;refine wpList_append_own _ rfl (.tmp 87) (.tmp 89) 47 rfl W0.heap.size 52 i0 (.agg #[.int .i64 0,.int .i64 0,.int .i64 0,.int .i64 0,.int .u16 0,.int .i64 0]) 6 48 Tryz.underlying47 hi hz0 hz1 hz2 rfl (by decide) _ _ _ rfl (wL.out.alloc _) ⟨w6.heap.size + 1,0,none⟩ 1 1 [.int .i64 fq,.int .i64 px,.int .i64 py,.int .i64 pz,.int .u16 aG,.int .i64 0] rfl rfl ?c1 ?c2 ?c3 ?c4 ?c5 ?_)
     case c1=>exact lQ (by simp)
     case c2=>intro u hu;simp at hu;rcases hu with rfl | rfl | rfl | rfl | rfl | rfl <;> rfl
     case c3=>unfold maxLen;omega
     case c4=>omega
     case c5=>have:=mF.out.size;simp at *;omega
     intro v' kT hown' hgrow _
     have hszz:=mF.out.size
     have hB' : Hid (Below W0.heap.size W0 kT):=ajK ((mF.out.alloc hszz _).grown hgrow (by simp at *;omega) (λj e=>(wL.out.lt j e).1))
     have HO : Hid (kT.ownsRow W0.heap.size 52 6 v' (k + 1) (jV P (k + 1))):=ajK (by rw [HL.out,wK.out];exact hown')
     clear hown' hgrow
     go_wp2
     go_roundw
     case rel=>exact ⟨k + 1,by omega,by go_num,HO.out,hB'.out⟩
     case measure=>simp [intOf];omega
  ·obtain rfl : k = la:=by omega
   obtain ⟨s,cp,rfl,hS⟩:=oN hown
   have HS:=ajK hS;have tH:=ajK (HW0.out.trans (hB.mono HW0.out.size));clear hS hown hB
   go_wp2
   exact bodyPost_ret (v:=.tuple #[.slice s k cp,.int .i64 0]) (by simp [results,Tryz.results48,go_sem]) rfl ⟨s,cp,rfl,HS.out,tH.out⟩
set_option maxRecDepth 100000
def nL (c : aP) (ka ta : Int) (aa : Option Addr) (la ca : Nat) (A : Nat -> ay) : Int:=jU c (λ_=>ka) (λ_=>ta) (λ_=>(aa,la,ca)) (λ_=>A) 1
theorem Dj {c : aP} {ka ta : Int} {aa : Option Addr} {la ca : Nat} {A : Nat -> ay} (h : nL c ka ta aa la ca A = 0) : la <= 64 /\ 0 <= c.extra /\ dD ka ta la A = 0 /\ fE c = 0:=by
 unfold nL jU at h
 split at h
 ·rename_i hc
  have h2 : dD ka ta la A = 0:=by
   by_cases e : dD ka ta la A = 0
   ·exact e
   ·have : qL (λ_=>ka) (λ_=>ta) (λ_=>(aa,la,ca)) (λ_=>A) 1 0 = dD ka ta la A:=by
     show (if dD ka ta la A = 0 then _ else dD ka ta la A) = _
     rw [if_neg e]
    rw [this] at h;exact h
  refine ⟨DX h2,?_,h2,hc⟩
  unfold fE at hc
  split at hc
  ·split at hc
   ·contradiction
   ·split at hc
    ·rename_i h3
     simp only [Bool.and_eq_true] at h3
     have:=h3.2
     unfold jF at this
     simp at this
     exact this.1
    ·exact absurd hc (by decide)
  ·exact absurd hc (by decide)
 ·contradiction
def Xl (m d : Int) (x : ay) : Po:=⟨x.id,bJ x.px (aR x.vx d),bJ x.py (aR x.vy d),bJ x.pz (aR x.vz d),x.aG,m⟩
def DY (m d : Int) (A : Nat -> ay) (i : Nat) : Po:=Xl m d (A i)
def DZ (c : aP) (d : Int) : Int:=if d = 0 then 0 else if c.extra < d then 4 else 3
def D5 (c : aP) (d : Int) : Int:=if c.extra < d then c.extra else d
theorem KD {a t : Int} (h : mJ a t = 0) : a <= t /\ Ab a t = aQ t a /\ -2305843009213693952 <= a /\ a <= 2305843009213693952:=by
 have hn : Ab a t = aQ t a:=by unfold Ab;rw [if_pos h]
 have hc : gY (λ_=>a) 1 = 0:=by
  unfold mJ at h
  split at h
  ·assumption
  ·assumption
 have h1 : ¬ (t < a):=by
  unfold mJ at h
  rw [if_pos hc] at h
  intro hh;rw [if_pos hh] at h;exact absurd h (by decide)
 have b0:=sG hc (show 0 < 1 by omega)
 exact ⟨by omega,hn,b0⟩
set_option maxHeartbeats 1000000 in
theorem Vu (c : aP) (ka ta : Int) (aa : Option Addr) (la ca : Nat) (A : Nat -> ay) (au : Int) (w : World) (yh : aA ta) (hat : aA au) (ha : bV w aa la A) (hla : (la : Int) <= 4611686018427387904) (h0 : nL c ka ta aa la ca A ≠ 0) :
 Calls Tryz.prog 47 #[aT c,bC ka ta aa la ca,.int .i64 au] w λe w'=>e = .returned (.tuple #[.slice none 0 0,.int .i64 (nL c ka ta aa la ca A)]) /\ Below w.heap.size w w':=by
 have hB3 : Below w.heap.size w ((w.alloc (.cells #[.int .i64 c.ring,.int .i64 c.window,.int .i64 c.base,.int .i64 c.gain,.int .i64 c.least,.int .i64 c.most,.int .i64 c.aD,.int .i64 c.num,.int .i64 c.den,.int .i64 c.extra,.bool c.aC] 29)).alloc (.cells #[.int .i64 ka,.int .i64 ta,.slice aa la ca] 36)):=(ajL).alloc (by simp) _
 have bc:=((ak.new w #[.int .i64 c.ring,.int .i64 c.window,.int .i64 c.base,.int .i64 c.gain,.int .i64 c.least,.int .i64 c.most,.int .i64 c.aD,.int .i64 c.num,.int .i64 c.den,.int .i64 c.extra,.bool c.aC] 29).alloc (.cells #[.int .i64 ka,.int .i64 ta,.slice aa la ca] 36));have ba:=ak.new (w.alloc (.cells #[.int .i64 c.ring,.int .i64 c.window,.int .i64 c.base,.int .i64 c.gain,.int .i64 c.least,.int .i64 c.most,.int .i64 c.aD,.int .i64 c.num,.int .i64 c.den,.int .i64 c.extra,.bool c.aC] 29)) #[.int .i64 ka,.int .i64 ta,.slice aa la ca] 36
 have CK:=jJ c (some ⟨((w.alloc (.cells #[.int .i64 c.ring,.int .i64 c.window,.int .i64 c.base,.int .i64 c.gain,.int .i64 c.least,.int .i64 c.most,.int .i64 c.aD,.int .i64 c.num,.int .i64 c.den,.int .i64 c.extra,.bool c.aC] 29)).alloc (.cells #[.int .i64 ka,.int .i64 ta,.slice aa la ca] 36)).heap.size,0,none⟩) 1 1 _ _ _ _ _ (Kt ((w.alloc (.cells #[.int .i64 c.ring,.int .i64 c.window,.int .i64 c.base,.int .i64 c.gain,.int .i64 c.least,.int .i64 c.most,.int .i64 c.aD,.int .i64 c.num,.int .i64 c.den,.int .i64 c.extra,.bool c.aC] 29)).alloc (.cells #[.int .i64 ka,.int .i64 ta,.slice aa la ca] 36)) ka ta aa la ca A (ha.below hB3) hla) (by decide)
 have hs3 : ((w.alloc (.cells #[.int .i64 c.ring,.int .i64 c.window,.int .i64 c.base,.int .i64 c.gain,.int .i64 c.least,.int .i64 c.most,.int .i64 c.aD,.int .i64 c.num,.int .i64 c.den,.int .i64 c.extra,.bool c.aC] 29)).alloc (.cells #[.int .i64 ka,.int .i64 ta,.slice aa la ca] 36)).heap.size = w.heap.size + 1 + 1:=by simp
 change Calls _ _ _ _ (λe w'=>e = .returned (.int .i64 (nL c ka ta aa la ca A)) /\ _) at CK
 simp only [World.size_alloc] at ba
 unfold aT at CK ⊢
 unfold bC
 generalize nL c ka ta aa la ca A = z at *
 have hz : (z != 0) = true:=by simpa using h0
 go_enter Tryz.func47,Tryz.ntmps47
 go_wp2_with fail
 generalize ((w.alloc (.cells #[.int .i64 c.ring,.int .i64 c.window,.int .i64 c.base,.int .i64 c.gain,.int .i64 c.least,.int .i64 c.most,.int .i64 c.aD,.int .i64 c.num,.int .i64 c.den,.int .i64 c.extra,.bool c.aC] 29)).alloc (.cells #[.int .i64 ka,.int .i64 ta,.slice aa la ca] 36)) = W at *
 rw [hs3] at CK
 refine CK.mono ?_;rintro e w1 ⟨rfl,hb1⟩
 have hB1 : Below W.heap.size W w1:=(ajL).trans (hb1.mono (by simp))
 have HB1 : Hid (Below w.heap.size w w1):=ajK (hB3.trans (hB1.mono hB3.size))
 have SC:=ajK (bc.below hB1 bc.lt);have SA:=ajK (ba.below hB1 ba.lt);clear hB3 hb1 hB1 CK bc ba hs3
 go_wp2
 exact bodyPost_ret (v:=.tuple #[.slice none 0 0,.int .i64 z]) (by simp [results,Tryz.results47,go_sem]) rfl ⟨rfl,HB1.out⟩
set_option maxHeartbeats 1000000 in
theorem RV (c : aP) (ka ta : Int) (aa : Option Addr) (la ca : Nat) (A : Nat -> ay) (au : Int) (w : World) (yh : aA ta) (hat : aA au) (ha : bV w aa la A) (hla : (la : Int) <= 4611686018427387904) (h0 : nL c ka ta aa la ca A = 0) (h1 : mJ ta au ≠ 0) :
 Calls Tryz.prog 47 #[aT c,bC ka ta aa la ca,.int .i64 au] w λe w'=>e = .returned (.tuple #[.slice none 0 0,.int .i64 (mJ ta au)]) /\ Below w.heap.size w w':=by
 have PT:=JH ka ta au aa la ca yh hat
 have hB3 : Below w.heap.size w ((w.alloc (.cells #[.int .i64 c.ring,.int .i64 c.window,.int .i64 c.base,.int .i64 c.gain,.int .i64 c.least,.int .i64 c.most,.int .i64 c.aD,.int .i64 c.num,.int .i64 c.den,.int .i64 c.extra,.bool c.aC] 29)).alloc (.cells #[.int .i64 ka,.int .i64 ta,.slice aa la ca] 36)):=(ajL).alloc (by simp) _
 have bc:=((ak.new w #[.int .i64 c.ring,.int .i64 c.window,.int .i64 c.base,.int .i64 c.gain,.int .i64 c.least,.int .i64 c.most,.int .i64 c.aD,.int .i64 c.num,.int .i64 c.den,.int .i64 c.extra,.bool c.aC] 29).alloc (.cells #[.int .i64 ka,.int .i64 ta,.slice aa la ca] 36));have ba:=ak.new (w.alloc (.cells #[.int .i64 c.ring,.int .i64 c.window,.int .i64 c.base,.int .i64 c.gain,.int .i64 c.least,.int .i64 c.most,.int .i64 c.aD,.int .i64 c.num,.int .i64 c.den,.int .i64 c.extra,.bool c.aC] 29)) #[.int .i64 ka,.int .i64 ta,.slice aa la ca] 36
 have CK:=jJ c (some ⟨((w.alloc (.cells #[.int .i64 c.ring,.int .i64 c.window,.int .i64 c.base,.int .i64 c.gain,.int .i64 c.least,.int .i64 c.most,.int .i64 c.aD,.int .i64 c.num,.int .i64 c.den,.int .i64 c.extra,.bool c.aC] 29)).alloc (.cells #[.int .i64 ka,.int .i64 ta,.slice aa la ca] 36)).heap.size,0,none⟩) 1 1 _ _ _ _ _ (Kt ((w.alloc (.cells #[.int .i64 c.ring,.int .i64 c.window,.int .i64 c.base,.int .i64 c.gain,.int .i64 c.least,.int .i64 c.most,.int .i64 c.aD,.int .i64 c.num,.int .i64 c.den,.int .i64 c.extra,.bool c.aC] 29)).alloc (.cells #[.int .i64 ka,.int .i64 ta,.slice aa la ca] 36)) ka ta aa la ca A (ha.below hB3) hla) (by decide)
 have hs3 : ((w.alloc (.cells #[.int .i64 c.ring,.int .i64 c.window,.int .i64 c.base,.int .i64 c.gain,.int .i64 c.least,.int .i64 c.most,.int .i64 c.aD,.int .i64 c.num,.int .i64 c.den,.int .i64 c.extra,.bool c.aC] 29)).alloc (.cells #[.int .i64 ka,.int .i64 ta,.slice aa la ca] 36)).heap.size = w.heap.size + 1 + 1:=by simp
 change Calls _ _ _ _ (λe w'=>e = .returned (.int .i64 (nL c ka ta aa la ca A)) /\ _) at CK
 simp only [World.size_alloc] at ba
 unfold aT at CK ⊢
 unfold bC
 rw [h0] at CK
 clear h0
 generalize mJ ta au = z at *
 generalize Ab ta au = num at *
 have hz : (z != 0) = true:=by simpa using h1
 go_enter Tryz.func47,Tryz.ntmps47
 go_wp2_with fail
 generalize ((w.alloc (.cells #[.int .i64 c.ring,.int .i64 c.window,.int .i64 c.base,.int .i64 c.gain,.int .i64 c.least,.int .i64 c.most,.int .i64 c.aD,.int .i64 c.num,.int .i64 c.den,.int .i64 c.extra,.bool c.aC] 29)).alloc (.cells #[.int .i64 ka,.int .i64 ta,.slice aa la ca] 36)) = W at *
 rw [hs3] at CK
 refine CK.mono ?_;rintro e w1 ⟨rfl,hb1⟩
 have hB1 : Below W.heap.size W w1:=(ajL).trans (hb1.mono (by simp))
 have HB1 : Hid (Below w.heap.size w w1):=ajK (hB3.trans (hB1.mono hB3.size))
 have SC:=ajK (bc.below hB1 bc.lt);have SA:=ajK (ba.below hB1 ba.lt);clear hB3 hb1 hB1 CK bc ba hs3
 obtain ⟨a0,a1,a2⟩:=gK SA.out
 go_wp2_with fail
 refine (PT _).mono ?_;rintro e w2 ⟨rfl,hb2⟩
 have HB2 : Hid (Below w.heap.size w w2):=ajK (HB1.out.trans (hb2.mono HB1.out.size))
 clear hb2 a0 a1 a2 PT
 go_wp2
 exact bodyPost_ret (v:=.tuple #[.slice none 0 0,.int .i64 z]) (by simp [results,Tryz.results47,go_sem]) rfl ⟨rfl,HB2.out⟩
set_option maxHeartbeats 4000000 in
theorem Z8 (c : aP) (ok : c.Ok) (ka ta : Int) (aa : Option Addr) (la ca : Nat) (A : Nat -> ay) (au : Int) (w : World) (yh : aA ta) (hat : aA au) (ha : bV w aa la A) (hla : (la : Int) <= 4611686018427387904) (h0 : nL c ka ta aa la ca A = 0) (h1 : mJ ta au = 0) (hd : aQ au ta = 0) :
 Calls Tryz.prog 47 #[aT c,bC ka ta aa la ca,.int .i64 au] w λe w'=>∃ s cp,e = .returned (.tuple #[.slice s la cp,.int .i64 0]) /\ dP w' s la (DY 0 0 A) /\ Below w.heap.size w w':=by
 obtain ⟨i0,hi,hz0,hz1,hz2⟩:=info_parts wJ
 have PT:=JH ka ta au aa la ca yh hat
 obtain ⟨GN,hex,_,_⟩:=Dj h0
 obtain ⟨hle,hN,_,_⟩:=KD h1
 rw [hN,h1] at PT
 have GQ:=jH au ta
 have hd0 : 0 <= aQ au ta:=by unfold aQ sat;omega
 generalize aQ au ta = d at *
 clear hN h1 hle
 subst hd
 have hg : decide (c.extra < 0) = false:=decide_eq_false (by omega)
 have hdd : aA 0:=by unfold aA;omega
 obtain ⟨P,hP⟩ : ∃ P,DY 0 0 A = P:=⟨_,rfl⟩
 have HP : Hid (∀ i,P i = Xl 0 0 (A i)):=ajK (λi=>by rw [← hP];rfl)
 rw [hP]
 have RX:=ajK hdd;clear hP GQ hd0 hex hdd 
 have hB3 : Below w.heap.size w ((w.alloc (.cells #[.int .i64 c.ring,.int .i64 c.window,.int .i64 c.base,.int .i64 c.gain,.int .i64 c.least,.int .i64 c.most,.int .i64 c.aD,.int .i64 c.num,.int .i64 c.den,.int .i64 c.extra,.bool c.aC] 29)).alloc (.cells #[.int .i64 ka,.int .i64 ta,.slice aa la ca] 36)):=(ajL).alloc (by simp) _
 have bc:=((ak.new w #[.int .i64 c.ring,.int .i64 c.window,.int .i64 c.base,.int .i64 c.gain,.int .i64 c.least,.int .i64 c.most,.int .i64 c.aD,.int .i64 c.num,.int .i64 c.den,.int .i64 c.extra,.bool c.aC] 29).alloc (.cells #[.int .i64 ka,.int .i64 ta,.slice aa la ca] 36));have ba:=ak.new (w.alloc (.cells #[.int .i64 c.ring,.int .i64 c.window,.int .i64 c.base,.int .i64 c.gain,.int .i64 c.least,.int .i64 c.most,.int .i64 c.aD,.int .i64 c.num,.int .i64 c.den,.int .i64 c.extra,.bool c.aC] 29)) #[.int .i64 ka,.int .i64 ta,.slice aa la ca] 36
 have CK:=jJ c (some ⟨((w.alloc (.cells #[.int .i64 c.ring,.int .i64 c.window,.int .i64 c.base,.int .i64 c.gain,.int .i64 c.least,.int .i64 c.most,.int .i64 c.aD,.int .i64 c.num,.int .i64 c.den,.int .i64 c.extra,.bool c.aC] 29)).alloc (.cells #[.int .i64 ka,.int .i64 ta,.slice aa la ca] 36)).heap.size,0,none⟩) 1 1 _ _ _ _ _ (Kt ((w.alloc (.cells #[.int .i64 c.ring,.int .i64 c.window,.int .i64 c.base,.int .i64 c.gain,.int .i64 c.least,.int .i64 c.most,.int .i64 c.aD,.int .i64 c.num,.int .i64 c.den,.int .i64 c.extra,.bool c.aC] 29)).alloc (.cells #[.int .i64 ka,.int .i64 ta,.slice aa la ca] 36)) ka ta aa la ca A (ha.below hB3) hla) (by decide)
 have hs3 : ((w.alloc (.cells #[.int .i64 c.ring,.int .i64 c.window,.int .i64 c.base,.int .i64 c.gain,.int .i64 c.least,.int .i64 c.most,.int .i64 c.aD,.int .i64 c.num,.int .i64 c.den,.int .i64 c.extra,.bool c.aC] 29)).alloc (.cells #[.int .i64 ka,.int .i64 ta,.slice aa la ca] 36)).heap.size = w.heap.size + 1 + 1:=by simp
 change Calls _ _ _ _ (λe w'=>e = .returned (.int .i64 (nL c ka ta aa la ca A)) /\ _) at CK
 simp only [World.size_alloc] at ba
 unfold aT at CK ⊢
 unfold bC
 go_enter Tryz.func47,Tryz.ntmps47
 go_wp2_with fail
 generalize ((w.alloc (.cells #[.int .i64 c.ring,.int .i64 c.window,.int .i64 c.base,.int .i64 c.gain,.int .i64 c.least,.int .i64 c.most,.int .i64 c.aD,.int .i64 c.num,.int .i64 c.den,.int .i64 c.extra,.bool c.aC] 29)).alloc (.cells #[.int .i64 ka,.int .i64 ta,.slice aa la ca] 36)) = W at *
 rw [hs3] at CK
 refine CK.mono ?_;rintro e w1 ⟨rfl,hb1⟩
 have hB1 : Below W.heap.size W w1:=(ajL).trans (hb1.mono (by simp))
 have HB1 : Hid (Below w.heap.size w w1):=ajK (hB3.trans (hB1.mono hB3.size))
 have SC:=ajK (bc.below hB1 bc.lt);have SA:=ajK (ba.below hB1 ba.lt);clear hB3 hb1 hB1 CK bc ba hs3
 rw [h0]
 clear h0;have Ac:=ha.1
 have zA : Hid (∀ k,k < la -> ∃ b off,aa = some ⟨b,off,none⟩ /\ b < w.heap.size /\ dF w b (off + k * 9) (A k)):=ajK (λk hk=>by
  rcases ha.2 with h0 | ⟨b,off,e,hb,hc⟩
  ·omega
  ·exact ⟨b,off,e,hb,hc k hk⟩)
 obtain ⟨a0,a1,a2⟩:=gK SA.out
 go_wp2_with fail
 refine (PT _).mono ?_;rintro e W0 ⟨rfl,hb2⟩
 have qG:=ajK (SC.out.below hb2 SC.out.lt);clear SC;have SC:=qG;clear qG;have oP:=ajK (SA.out.below hb2 SA.out.lt);clear SA;have SA:=oP;clear oP
 have HW0 : Hid (Below w.heap.size w W0):=ajK (HB1.out.trans (hb2.mono HB1.out.size))
 clear hb2 a0 a1 a2 PT HB1
 obtain ⟨a0,a1,a2⟩:=gK SA.out
 obtain ⟨q0,q1,q2,q3,q4,q5,q6,q7,q8,q9,jG⟩:=dJ SC.out
 go_wp2_with fail
 clear a0 a1 a2 q0 q1 q2 q3 q4 q5 q6 q7 q8 q9 jG
 go_loopw [12,45] (λv i wr=>∃ k : Nat,k <= la /\ i = .int .i64 k /\ wr.ownsRow W0.heap.size 52 6 v k (jV P k) /\ Below W0.heap.size W0 wr) (λ_ i _=>la - (intOf i).toNat)
 case atStart=>exact ⟨0,Nat.zero_le _,rfl,World.ownsRow_nil _ _ _ _,Below.refl _ _⟩
 case round =>
  rename_i wr
  obtain ⟨k,hk,rfl,hown,hB⟩:=hrel
  have hsz:=hB.size
  by_cases hlt : k < la
  ·obtain ⟨b,off,FB,hbw,hc⟩:=zA.out k hlt
   subst FB
   have hcw:=hc.below (HW0.out.trans (hB.mono HW0.out.size)) hbw;have hx:=Ac k hlt;have BD:=ajK (HP.out k)
   have HL : Hid (jV P (k + 1) = jV P k ++ [.int .i64 (P k).id,.int .i64 (P k).px,.int .i64 (P k).py,.int .i64 (P k).pz,.int .u16 (P k).aG,.int .i64 (P k).mode]):=ajK rfl
   have EX:=zy (A k)
   unfold bO Kr uY at EX
   have hkl : (k : Int) < la:=by omega
   have HOWN:=ajK hown
   have fD:=ajK (λj e=>(hown.lt j e).2)
   have HB:=ajK hB;have HCW:=ajK hcw;clear hc hown hB
   generalize P k = pk at *
   generalize A k = x at *
   obtain ⟨fq,px,py,pz,vx,vy,vz,aG,gen⟩:=x
   obtain ⟨c0,c1,c2,c3,c4,c5,c6,c7,c8⟩:=hcw
   dsimp only at c0 c1 c2 c3 c4 c5 c6 c7 c8 EX
   have VG:=ajK (Pd px py pz vx vy vz 0 hx.px hx.py hx.pz hx.vx hx.vy hx.vz RX.out)
   go_wp2_with fail
   refine (EX _).mono ?_;rintro e w4 ⟨rfl,hb4⟩
   have X4:=ajK ((ak.new wr #[.int .i64 fq,.int .i64 px,.int .i64 py,.int .i64 pz,.int .i64 vx,.int .i64 vy,.int .i64 vz,.int .u16 aG,.int .u8 gen] 33).below hb4 (by simp))
   have iK : Hid (Below W0.heap.size W0 w4):=ajK ((HB.out.alloc hsz _).trans (hb4.mono (by simp;omega)))
   have x9:=ajK (own_below (HOWN.out.alloc _) hb4);have l4:=X4.out.lt;clear hb4 EX c0 c1 c2 c3 c4 c5 c6 c7 c8 HB HOWN
   obtain ⟨c0,c1,c2,c3,c4,c5,c6,c7,c8⟩:=gU X4.out
   have wK : Hid (pk = ⟨fq,bJ px (aR vx 0),bJ py (aR vy 0),bJ pz (aR vz 0),aG,0⟩):=ajK BD.out
   generalize bJ px (aR vx 0) = z1 at *
   generalize bJ py (aR vy 0) = z2 at *
   generalize bJ pz (aR vz 0) = z3 at *
   go_wp2_with fail
   refine (VG.out _).mono ?_;rintro e w6 ⟨rfl,hb6⟩
   have P6:=ajK ((ak.new w4 #[.int .i64 fq,.int .i64 px,.int .i64 py,.int .i64 pz,.int .u16 aG,.int .i64 0] 52).below hb6 (by simp))
   have ni : Hid (Below W0.heap.size W0 w6):=ajK ((iK.out.alloc iK.out.size _).trans (hb6.mono (by have:=iK.out.size;simp;omega)))
   have zB:=ajK (own_below (x9.out.alloc _) hb6);have l6:=P6.out.lt;clear hb6 c0 c1 c2 c3 c4 c5 c6 c7 c8 iK x9 X4 VG
   obtain ⟨p0,p1,p2,p3,p4,p5⟩:=nK P6.out
   obtain ⟨f0,f1,f2,f3,f4,f5⟩:=qp P6.out
   have Z9:=Fz P6.out 5 (.int .i64 0) 1 (.int .i64 z1) 2 (.int .i64 z2) 3 (.int .i64 z3)
   have yg:=ajK (rP zB.out Z9.2 (λj e h=>by have:=fD.out j e;have h2 : j = w4.heap.size:=h;omega))
   have sJ:=ajK (ni.out.trans (Z9.2.below ni.out.size (by rintro i rfl;omega)))
   clear Z9
   go_wp2_with (at_builtin;refine wpList_append_own _ rfl (.tmp 60) (.tmp 62) 47 rfl W0.heap.size 52 i0 (.agg #[.int .i64 0,.int .i64 0,.int .i64 0,.int .i64 0,.int .u16 0,.int .i64 0]) 6 48 Tryz.underlying47 hi hz0 hz1 hz2 rfl (by decide) _ _ _ rfl (yg.out.alloc _) ⟨w6.heap.size,0,none⟩ 1 1 [.int .i64 fq,.int .i64 z1,.int .i64 z2,.int .i64 z3,.int .u16 aG,.int .i64 0] rfl rfl ?c1 ?c2 ?c3 ?c4 ?c5 ?_)
   case c1=>exact lQ (by simp)
   case c2=>intro u hu;simp at hu;rcases hu with rfl | rfl | rfl | rfl | rfl | rfl <;> rfl
   case c3=>unfold maxLen;omega
   case c4=>omega
   case c5=>have:=sJ.out.size;simp at *;omega
   intro v' kT hown' hgrow _
   have hszz:=sJ.out.size
   have hB' : Hid (Below W0.heap.size W0 kT):=ajK ((sJ.out.alloc hszz _).grown hgrow (by simp at *;omega) (λj e=>(yg.out.lt j e).1))
   have HO : Hid (kT.ownsRow W0.heap.size 52 6 v' (k + 1) (jV P (k + 1))):=ajK (by rw [HL.out,wK.out];exact hown')
   clear hown' hgrow
   go_wp2
   go_roundw
   case rel=>exact ⟨k + 1,by omega,by go_num,HO.out,hB'.out⟩
   case measure=>simp [intOf];omega
  ·obtain rfl : k = la:=by omega
   obtain ⟨s,cp,rfl,hS⟩:=oN hown
   have HS:=ajK hS;have tH:=ajK (HW0.out.trans (hB.mono HW0.out.size));clear hS hown hB
   go_wp2
   exact bodyPost_ret (v:=.tuple #[.slice s k cp,.int .i64 0]) (by simp [results,Tryz.results47,go_sem]) rfl ⟨s,cp,rfl,HS.out,tH.out⟩
set_option maxHeartbeats 4000000 in
theorem aac (c : aP) (ok : c.Ok) (ka ta : Int) (aa : Option Addr) (la ca : Nat) (A : Nat -> ay) (au : Int) (w : World) (yh : aA ta) (hat : aA au) (ha : bV w aa la A) (hla : (la : Int) <= 4611686018427387904) (h0 : nL c ka ta aa la ca A = 0) (h1 : mJ ta au = 0) (hd : aQ au ta ≠ 0) (hf : c.extra < aQ au ta) :
 Calls Tryz.prog 47 #[aT c,bC ka ta aa la ca,.int .i64 au] w λe w'=>∃ s cp,e = .returned (.tuple #[.slice s la cp,.int .i64 0]) /\ dP w' s la (DY 4 c.extra A) /\ Below w.heap.size w w':=by
 obtain ⟨i0,hi,hz0,hz1,hz2⟩:=info_parts wJ
 have PT:=JH ka ta au aa la ca yh hat
 obtain ⟨GN,hex,_,_⟩:=Dj h0
 obtain ⟨hle,hN,_,_⟩:=KD h1
 rw [hN,h1] at PT
 have GQ:=jH au ta
 have hd0 : 0 <= aQ au ta:=by unfold aQ sat;omega
 generalize aQ au ta = d at *
 clear hN h1 hle
 have hg0 : (d == 0) = false:=by simpa using hd
 have hg1 : decide (c.extra < d) = true:=decide_eq_true hf
 have hdd : aA c.extra:=ok.extra
 obtain ⟨P,hP⟩ : ∃ P,DY 4 c.extra A = P:=⟨_,rfl⟩
 have HP : Hid (∀ i,P i = Xl 4 c.extra (A i)):=ajK (λi=>by rw [← hP];rfl)
 rw [hP]
 have RX:=ajK hdd;clear hP GQ hd0 hex hdd hd hf
 have hB3 : Below w.heap.size w ((w.alloc (.cells #[.int .i64 c.ring,.int .i64 c.window,.int .i64 c.base,.int .i64 c.gain,.int .i64 c.least,.int .i64 c.most,.int .i64 c.aD,.int .i64 c.num,.int .i64 c.den,.int .i64 c.extra,.bool c.aC] 29)).alloc (.cells #[.int .i64 ka,.int .i64 ta,.slice aa la ca] 36)):=(ajL).alloc (by simp) _
 have bc:=((ak.new w #[.int .i64 c.ring,.int .i64 c.window,.int .i64 c.base,.int .i64 c.gain,.int .i64 c.least,.int .i64 c.most,.int .i64 c.aD,.int .i64 c.num,.int .i64 c.den,.int .i64 c.extra,.bool c.aC] 29).alloc (.cells #[.int .i64 ka,.int .i64 ta,.slice aa la ca] 36));have ba:=ak.new (w.alloc (.cells #[.int .i64 c.ring,.int .i64 c.window,.int .i64 c.base,.int .i64 c.gain,.int .i64 c.least,.int .i64 c.most,.int .i64 c.aD,.int .i64 c.num,.int .i64 c.den,.int .i64 c.extra,.bool c.aC] 29)) #[.int .i64 ka,.int .i64 ta,.slice aa la ca] 36
 have CK:=jJ c (some ⟨((w.alloc (.cells #[.int .i64 c.ring,.int .i64 c.window,.int .i64 c.base,.int .i64 c.gain,.int .i64 c.least,.int .i64 c.most,.int .i64 c.aD,.int .i64 c.num,.int .i64 c.den,.int .i64 c.extra,.bool c.aC] 29)).alloc (.cells #[.int .i64 ka,.int .i64 ta,.slice aa la ca] 36)).heap.size,0,none⟩) 1 1 _ _ _ _ _ (Kt ((w.alloc (.cells #[.int .i64 c.ring,.int .i64 c.window,.int .i64 c.base,.int .i64 c.gain,.int .i64 c.least,.int .i64 c.most,.int .i64 c.aD,.int .i64 c.num,.int .i64 c.den,.int .i64 c.extra,.bool c.aC] 29)).alloc (.cells #[.int .i64 ka,.int .i64 ta,.slice aa la ca] 36)) ka ta aa la ca A (ha.below hB3) hla) (by decide)
 have hs3 : ((w.alloc (.cells #[.int .i64 c.ring,.int .i64 c.window,.int .i64 c.base,.int .i64 c.gain,.int .i64 c.least,.int .i64 c.most,.int .i64 c.aD,.int .i64 c.num,.int .i64 c.den,.int .i64 c.extra,.bool c.aC] 29)).alloc (.cells #[.int .i64 ka,.int .i64 ta,.slice aa la ca] 36)).heap.size = w.heap.size + 1 + 1:=by simp
 change Calls _ _ _ _ (λe w'=>e = .returned (.int .i64 (nL c ka ta aa la ca A)) /\ _) at CK
 simp only [World.size_alloc] at ba
 unfold aT at CK ⊢
 unfold bC
 go_enter Tryz.func47,Tryz.ntmps47
 go_wp2_with fail
 generalize ((w.alloc (.cells #[.int .i64 c.ring,.int .i64 c.window,.int .i64 c.base,.int .i64 c.gain,.int .i64 c.least,.int .i64 c.most,.int .i64 c.aD,.int .i64 c.num,.int .i64 c.den,.int .i64 c.extra,.bool c.aC] 29)).alloc (.cells #[.int .i64 ka,.int .i64 ta,.slice aa la ca] 36)) = W at *
 rw [hs3] at CK
 refine CK.mono ?_;rintro e w1 ⟨rfl,hb1⟩
 have hB1 : Below W.heap.size W w1:=(ajL).trans (hb1.mono (by simp))
 have HB1 : Hid (Below w.heap.size w w1):=ajK (hB3.trans (hB1.mono hB3.size))
 have SC:=ajK (bc.below hB1 bc.lt);have SA:=ajK (ba.below hB1 ba.lt);clear hB3 hb1 hB1 CK bc ba hs3
 rw [h0]
 clear h0;have Ac:=ha.1
 have zA : Hid (∀ k,k < la -> ∃ b off,aa = some ⟨b,off,none⟩ /\ b < w.heap.size /\ dF w b (off + k * 9) (A k)):=ajK (λk hk=>by
  rcases ha.2 with h0 | ⟨b,off,e,hb,hc⟩
  ·omega
  ·exact ⟨b,off,e,hb,hc k hk⟩)
 obtain ⟨a0,a1,a2⟩:=gK SA.out
 go_wp2_with fail
 refine (PT _).mono ?_;rintro e w2 ⟨rfl,hb2⟩
 have qG:=ajK (SC.out.below hb2 SC.out.lt);clear SC;have SC:=qG;clear qG;have oP:=ajK (SA.out.below hb2 SA.out.lt);clear SA;have SA:=oP;clear oP
 have HW0 : Hid (Below w.heap.size w w2):=ajK (HB1.out.trans (hb2.mono HB1.out.size))
 clear hb2 a0 a1 a2 PT HB1
 obtain ⟨a0,a1,a2⟩:=gK SA.out
 obtain ⟨q0,q1,q2,q3,q4,q5,q6,q7,q8,q9,jG⟩:=dJ SC.out
 go_wp2_with fail
 refine aS 3 (by kernel_rfl) (by kernel_rfl) ?_
 simp only [List.take_succ_cons,List.take_zero,List.drop_succ_cons,List.drop_zero]
 repeat (apply aF;(next=>(intro W hW K hK;have y0:=hW.cell q9;go_simp;first | exact ⟨hW,hK⟩ | exact hK));(next=>exact aN.self _);(try go_simp))
 refine aX ?_
 intro WC aO
 generalize WC = W0 at *
 have hb3 : Below w2.heap.size w2 W0:=aO
 have oP:=ajK (SA.out.below hb3 SA.out.lt);clear SA;have SA:=oP;clear oP;have qG:=ajK (SC.out.below hb3 SC.out.lt);clear SC;have SC:=qG;clear qG
 have HW1 : Hid (Below w.heap.size w W0):=ajK (HW0.out.trans (hb3.mono HW0.out.size))
 clear HW0 aO hb3 a0 a1 a2 q0 q1 q2 q3 q4 q5 q6 q7 q8 q9 jG;have HW0:=HW1;clear HW1
 obtain ⟨a0,a1,a2⟩:=gK SA.out
 go_wp2_with fail
 clear a0 a1 a2
 go_loopw [12,45] (λv i wr=>∃ k : Nat,k <= la /\ i = .int .i64 k /\ wr.ownsRow W0.heap.size 52 6 v k (jV P k) /\ Below W0.heap.size W0 wr) (λ_ i _=>la - (intOf i).toNat)
 case atStart=>exact ⟨0,Nat.zero_le _,rfl,World.ownsRow_nil _ _ _ _,Below.refl _ _⟩
 case round =>
  rename_i wr
  obtain ⟨k,hk,rfl,hown,hB⟩:=hrel
  have hsz:=hB.size
  by_cases hlt : k < la
  ·obtain ⟨b,off,FB,hbw,hc⟩:=zA.out k hlt
   subst FB
   have hcw:=hc.below (HW0.out.trans (hB.mono HW0.out.size)) hbw;have hx:=Ac k hlt;have BD:=ajK (HP.out k)
   have HL : Hid (jV P (k + 1) = jV P k ++ [.int .i64 (P k).id,.int .i64 (P k).px,.int .i64 (P k).py,.int .i64 (P k).pz,.int .u16 (P k).aG,.int .i64 (P k).mode]):=ajK rfl
   have EX:=zy (A k)
   unfold bO Kr uY at EX
   have hkl : (k : Int) < la:=by omega
   have HOWN:=ajK hown
   have fD:=ajK (λj e=>(hown.lt j e).2)
   have HB:=ajK hB;have HCW:=ajK hcw;clear hc hown hB
   generalize P k = pk at *
   generalize A k = x at *
   obtain ⟨fq,px,py,pz,vx,vy,vz,aG,gen⟩:=x
   obtain ⟨c0,c1,c2,c3,c4,c5,c6,c7,c8⟩:=hcw
   dsimp only at c0 c1 c2 c3 c4 c5 c6 c7 c8 EX
   have VG:=ajK (Pd px py pz vx vy vz c.extra hx.px hx.py hx.pz hx.vx hx.vy hx.vz RX.out)
   go_wp2_with fail
   refine (EX _).mono ?_;rintro e w4 ⟨rfl,hb4⟩
   have X4:=ajK ((ak.new wr #[.int .i64 fq,.int .i64 px,.int .i64 py,.int .i64 pz,.int .i64 vx,.int .i64 vy,.int .i64 vz,.int .u16 aG,.int .u8 gen] 33).below hb4 (by simp))
   have iK : Hid (Below W0.heap.size W0 w4):=ajK ((HB.out.alloc hsz _).trans (hb4.mono (by simp;omega)))
   have x9:=ajK (own_below (HOWN.out.alloc _) hb4);have l4:=X4.out.lt;clear hb4 EX c0 c1 c2 c3 c4 c5 c6 c7 c8 HB HOWN
   obtain ⟨c0,c1,c2,c3,c4,c5,c6,c7,c8⟩:=gU X4.out
   have wK : Hid (pk = ⟨fq,bJ px (aR vx c.extra),bJ py (aR vy c.extra),bJ pz (aR vz c.extra),aG,4⟩):=ajK BD.out
   generalize bJ px (aR vx c.extra) = z1 at *
   generalize bJ py (aR vy c.extra) = z2 at *
   generalize bJ pz (aR vz c.extra) = z3 at *
   go_wp2_with fail
   refine (VG.out _).mono ?_;rintro e w6 ⟨rfl,hb6⟩
   have P6:=ajK ((ak.new w4 #[.int .i64 fq,.int .i64 px,.int .i64 py,.int .i64 pz,.int .u16 aG,.int .i64 0] 52).below hb6 (by simp))
   have ni : Hid (Below W0.heap.size W0 w6):=ajK ((iK.out.alloc iK.out.size _).trans (hb6.mono (by have:=iK.out.size;simp;omega)))
   have zB:=ajK (own_below (x9.out.alloc _) hb6);have l6:=P6.out.lt;clear hb6 c0 c1 c2 c3 c4 c5 c6 c7 c8 iK x9 X4 VG
   obtain ⟨p0,p1,p2,p3,p4,p5⟩:=nK P6.out
   obtain ⟨f0,f1,f2,f3,f4,f5⟩:=qp P6.out
   have Z9:=Fz P6.out 5 (.int .i64 4) 1 (.int .i64 z1) 2 (.int .i64 z2) 3 (.int .i64 z3)
   have yg:=ajK (rP zB.out Z9.2 (λj e h=>by have:=fD.out j e;have h2 : j = w4.heap.size:=h;omega))
   have sJ:=ajK (ni.out.trans (Z9.2.below ni.out.size (by rintro i rfl;omega)))
   clear Z9
   go_wp2_with (at_builtin;refine wpList_append_own _ rfl (.tmp 60) (.tmp 62) 47 rfl W0.heap.size 52 i0 (.agg #[.int .i64 0,.int .i64 0,.int .i64 0,.int .i64 0,.int .u16 0,.int .i64 0]) 6 48 Tryz.underlying47 hi hz0 hz1 hz2 rfl (by decide) _ _ _ rfl (yg.out.alloc _) ⟨w6.heap.size,0,none⟩ 1 1 [.int .i64 fq,.int .i64 z1,.int .i64 z2,.int .i64 z3,.int .u16 aG,.int .i64 4] rfl rfl ?c1 ?c2 ?c3 ?c4 ?c5 ?_)
   case c1=>exact lQ (by simp)
   case c2=>intro u hu;simp at hu;rcases hu with rfl | rfl | rfl | rfl | rfl | rfl <;> rfl
   case c3=>unfold maxLen;omega
   case c4=>omega
   case c5=>have:=sJ.out.size;simp at *;omega
   intro v' kT hown' hgrow _
   have hszz:=sJ.out.size
   have hB' : Hid (Below W0.heap.size W0 kT):=ajK ((sJ.out.alloc hszz _).grown hgrow (by simp at *;omega) (λj e=>(yg.out.lt j e).1))
   have HO : Hid (kT.ownsRow W0.heap.size 52 6 v' (k + 1) (jV P (k + 1))):=ajK (by rw [HL.out,wK.out];exact hown')
   clear hown' hgrow
   go_wp2
   go_roundw
   case rel=>exact ⟨k + 1,by omega,by go_num,HO.out,hB'.out⟩
   case measure=>simp [intOf];omega
  ·obtain rfl : k = la:=by omega
   obtain ⟨s,cp,rfl,hS⟩:=oN hown
   have HS:=ajK hS;have tH:=ajK (HW0.out.trans (hB.mono HW0.out.size));clear hS hown hB
   go_wp2
   exact bodyPost_ret (v:=.tuple #[.slice s k cp,.int .i64 0]) (by simp [results,Tryz.results47,go_sem]) rfl ⟨s,cp,rfl,HS.out,tH.out⟩
set_option maxHeartbeats 4000000 in
theorem aad (c : aP) (ok : c.Ok) (ka ta : Int) (aa : Option Addr) (la ca : Nat) (A : Nat -> ay) (au : Int) (w : World) (yh : aA ta) (hat : aA au) (ha : bV w aa la A) (hla : (la : Int) <= 4611686018427387904) (h0 : nL c ka ta aa la ca A = 0) (h1 : mJ ta au = 0) (hd : aQ au ta ≠ 0) (hf : ¬ c.extra < aQ au ta) :
 Calls Tryz.prog 47 #[aT c,bC ka ta aa la ca,.int .i64 au] w λe w'=>∃ s cp,e = .returned (.tuple #[.slice s la cp,.int .i64 0]) /\ dP w' s la (DY 3 (aQ au ta) A) /\ Below w.heap.size w w':=by
 obtain ⟨i0,hi,hz0,hz1,hz2⟩:=info_parts wJ
 have PT:=JH ka ta au aa la ca yh hat
 obtain ⟨GN,hex,_,_⟩:=Dj h0
 obtain ⟨hle,hN,_,_⟩:=KD h1
 rw [hN,h1] at PT
 have GQ:=jH au ta
 have hd0 : 0 <= aQ au ta:=by unfold aQ sat;omega
 generalize aQ au ta = d at *
 clear hN h1 hle
 have hg0 : (d == 0) = false:=by simpa using hd
 have hg1 : decide (c.extra < d) = false:=decide_eq_false hf
 have hg2 : decide (0 < d) = true:=decide_eq_true (by omega)
 have hdd : aA d:=GQ
 obtain ⟨P,hP⟩ : ∃ P,DY 3 d A = P:=⟨_,rfl⟩
 have HP : Hid (∀ i,P i = Xl 3 d (A i)):=ajK (λi=>by rw [← hP];rfl)
 rw [hP]
 have RX:=ajK hdd;clear hP GQ hd0 hex hdd hd hf
 have hB3 : Below w.heap.size w ((w.alloc (.cells #[.int .i64 c.ring,.int .i64 c.window,.int .i64 c.base,.int .i64 c.gain,.int .i64 c.least,.int .i64 c.most,.int .i64 c.aD,.int .i64 c.num,.int .i64 c.den,.int .i64 c.extra,.bool c.aC] 29)).alloc (.cells #[.int .i64 ka,.int .i64 ta,.slice aa la ca] 36)):=(ajL).alloc (by simp) _
 have bc:=((ak.new w #[.int .i64 c.ring,.int .i64 c.window,.int .i64 c.base,.int .i64 c.gain,.int .i64 c.least,.int .i64 c.most,.int .i64 c.aD,.int .i64 c.num,.int .i64 c.den,.int .i64 c.extra,.bool c.aC] 29).alloc (.cells #[.int .i64 ka,.int .i64 ta,.slice aa la ca] 36));have ba:=ak.new (w.alloc (.cells #[.int .i64 c.ring,.int .i64 c.window,.int .i64 c.base,.int .i64 c.gain,.int .i64 c.least,.int .i64 c.most,.int .i64 c.aD,.int .i64 c.num,.int .i64 c.den,.int .i64 c.extra,.bool c.aC] 29)) #[.int .i64 ka,.int .i64 ta,.slice aa la ca] 36
 have CK:=jJ c (some ⟨((w.alloc (.cells #[.int .i64 c.ring,.int .i64 c.window,.int .i64 c.base,.int .i64 c.gain,.int .i64 c.least,.int .i64 c.most,.int .i64 c.aD,.int .i64 c.num,.int .i64 c.den,.int .i64 c.extra,.bool c.aC] 29)).alloc (.cells #[.int .i64 ka,.int .i64 ta,.slice aa la ca] 36)).heap.size,0,none⟩) 1 1 _ _ _ _ _ (Kt ((w.alloc (.cells #[.int .i64 c.ring,.int .i64 c.window,.int .i64 c.base,.int .i64 c.gain,.int .i64 c.least,.int .i64 c.most,.int .i64 c.aD,.int .i64 c.num,.int .i64 c.den,.int .i64 c.extra,.bool c.aC] 29)).alloc (.cells #[.int .i64 ka,.int .i64 ta,.slice aa la ca] 36)) ka ta aa la ca A (ha.below hB3) hla) (by decide)
 have hs3 : ((w.alloc (.cells #[.int .i64 c.ring,.int .i64 c.window,.int .i64 c.base,.int .i64 c.gain,.int .i64 c.least,.int .i64 c.most,.int .i64 c.aD,.int .i64 c.num,.int .i64 c.den,.int .i64 c.extra,.bool c.aC] 29)).alloc (.cells #[.int .i64 ka,.int .i64 ta,.slice aa la ca] 36)).heap.size = w.heap.size + 1 + 1:=by simp
 change Calls _ _ _ _ (λe w'=>e = .returned (.int .i64 (nL c ka ta aa la ca A)) /\ _) at CK
 simp only [World.size_alloc] at ba
 unfold aT at CK ⊢
 unfold bC
 go_enter Tryz.func47,Tryz.ntmps47
 go_wp2_with fail
 generalize ((w.alloc (.cells #[.int .i64 c.ring,.int .i64 c.window,.int .i64 c.base,.int .i64 c.gain,.int .i64 c.least,.int .i64 c.most,.int .i64 c.aD,.int .i64 c.num,.int .i64 c.den,.int .i64 c.extra,.bool c.aC] 29)).alloc (.cells #[.int .i64 ka,.int .i64 ta,.slice aa la ca] 36)) = W at *
 rw [hs3] at CK
 refine CK.mono ?_;rintro e w1 ⟨rfl,hb1⟩
 have hB1 : Below W.heap.size W w1:=(ajL).trans (hb1.mono (by simp))
 have HB1 : Hid (Below w.heap.size w w1):=ajK (hB3.trans (hB1.mono hB3.size))
 have SC:=ajK (bc.below hB1 bc.lt);have SA:=ajK (ba.below hB1 ba.lt);clear hB3 hb1 hB1 CK bc ba hs3
 rw [h0]
 clear h0;have Ac:=ha.1
 have zA : Hid (∀ k,k < la -> ∃ b off,aa = some ⟨b,off,none⟩ /\ b < w.heap.size /\ dF w b (off + k * 9) (A k)):=ajK (λk hk=>by
  rcases ha.2 with h0 | ⟨b,off,e,hb,hc⟩
  ·omega
  ·exact ⟨b,off,e,hb,hc k hk⟩)
 obtain ⟨a0,a1,a2⟩:=gK SA.out
 go_wp2_with fail
 refine (PT _).mono ?_;rintro e W0 ⟨rfl,hb2⟩
 have qG:=ajK (SC.out.below hb2 SC.out.lt);clear SC;have SC:=qG;clear qG;have oP:=ajK (SA.out.below hb2 SA.out.lt);clear SA;have SA:=oP;clear oP
 have HW0 : Hid (Below w.heap.size w W0):=ajK (HB1.out.trans (hb2.mono HB1.out.size))
 clear hb2 a0 a1 a2 PT HB1
 obtain ⟨a0,a1,a2⟩:=gK SA.out
 obtain ⟨q0,q1,q2,q3,q4,q5,q6,q7,q8,q9,jG⟩:=dJ SC.out
 go_wp2_with fail
 clear a0 a1 a2 q0 q1 q2 q3 q4 q5 q6 q7 q8 q9 jG
 go_loopw [12,45] (λv i wr=>∃ k : Nat,k <= la /\ i = .int .i64 k /\ wr.ownsRow W0.heap.size 52 6 v k (jV P k) /\ Below W0.heap.size W0 wr) (λ_ i _=>la - (intOf i).toNat)
 case atStart=>exact ⟨0,Nat.zero_le _,rfl,World.ownsRow_nil _ _ _ _,Below.refl _ _⟩
 case round =>
  rename_i wr
  obtain ⟨k,hk,rfl,hown,hB⟩:=hrel
  have hsz:=hB.size
  by_cases hlt : k < la
  ·obtain ⟨b,off,FB,hbw,hc⟩:=zA.out k hlt
   subst FB
   have hcw:=hc.below (HW0.out.trans (hB.mono HW0.out.size)) hbw;have hx:=Ac k hlt;have BD:=ajK (HP.out k)
   have HL : Hid (jV P (k + 1) = jV P k ++ [.int .i64 (P k).id,.int .i64 (P k).px,.int .i64 (P k).py,.int .i64 (P k).pz,.int .u16 (P k).aG,.int .i64 (P k).mode]):=ajK rfl
   have EX:=zy (A k)
   unfold bO Kr uY at EX
   have hkl : (k : Int) < la:=by omega
   have HOWN:=ajK hown
   have fD:=ajK (λj e=>(hown.lt j e).2)
   have HB:=ajK hB;have HCW:=ajK hcw;clear hc hown hB
   generalize P k = pk at *
   generalize A k = x at *
   obtain ⟨fq,px,py,pz,vx,vy,vz,aG,gen⟩:=x
   obtain ⟨c0,c1,c2,c3,c4,c5,c6,c7,c8⟩:=hcw
   dsimp only at c0 c1 c2 c3 c4 c5 c6 c7 c8 EX
   have VG:=ajK (Pd px py pz vx vy vz d hx.px hx.py hx.pz hx.vx hx.vy hx.vz RX.out)
   go_wp2_with fail
   refine (EX _).mono ?_;rintro e w4 ⟨rfl,hb4⟩
   have X4:=ajK ((ak.new wr #[.int .i64 fq,.int .i64 px,.int .i64 py,.int .i64 pz,.int .i64 vx,.int .i64 vy,.int .i64 vz,.int .u16 aG,.int .u8 gen] 33).below hb4 (by simp))
   have iK : Hid (Below W0.heap.size W0 w4):=ajK ((HB.out.alloc hsz _).trans (hb4.mono (by simp;omega)))
   have x9:=ajK (own_below (HOWN.out.alloc _) hb4);have l4:=X4.out.lt;clear hb4 EX c0 c1 c2 c3 c4 c5 c6 c7 c8 HB HOWN
   obtain ⟨c0,c1,c2,c3,c4,c5,c6,c7,c8⟩:=gU X4.out
   have wK : Hid (pk = ⟨fq,bJ px (aR vx d),bJ py (aR vy d),bJ pz (aR vz d),aG,3⟩):=ajK BD.out
   generalize bJ px (aR vx d) = z1 at *
   generalize bJ py (aR vy d) = z2 at *
   generalize bJ pz (aR vz d) = z3 at *
   go_wp2_with fail
   refine (VG.out _).mono ?_;rintro e w6 ⟨rfl,hb6⟩
   have P6:=ajK ((ak.new w4 #[.int .i64 fq,.int .i64 px,.int .i64 py,.int .i64 pz,.int .u16 aG,.int .i64 0] 52).below hb6 (by simp))
   have ni : Hid (Below W0.heap.size W0 w6):=ajK ((iK.out.alloc iK.out.size _).trans (hb6.mono (by have:=iK.out.size;simp;omega)))
   have zB:=ajK (own_below (x9.out.alloc _) hb6);have l6:=P6.out.lt;clear hb6 c0 c1 c2 c3 c4 c5 c6 c7 c8 iK x9 X4 VG
   obtain ⟨p0,p1,p2,p3,p4,p5⟩:=nK P6.out
   obtain ⟨f0,f1,f2,f3,f4,f5⟩:=qp P6.out
   have Z9:=Fz P6.out 5 (.int .i64 3) 1 (.int .i64 z1) 2 (.int .i64 z2) 3 (.int .i64 z3)
   have yg:=ajK (rP zB.out Z9.2 (λj e h=>by have:=fD.out j e;have h2 : j = w4.heap.size:=h;omega))
   have sJ:=ajK (ni.out.trans (Z9.2.below ni.out.size (by rintro i rfl;omega)))
   clear Z9
   go_wp2_with (at_builtin;refine wpList_append_own _ rfl (.tmp 60) (.tmp 62) 47 rfl W0.heap.size 52 i0 (.agg #[.int .i64 0,.int .i64 0,.int .i64 0,.int .i64 0,.int .u16 0,.int .i64 0]) 6 48 Tryz.underlying47 hi hz0 hz1 hz2 rfl (by decide) _ _ _ rfl (yg.out.alloc _) ⟨w6.heap.size,0,none⟩ 1 1 [.int .i64 fq,.int .i64 z1,.int .i64 z2,.int .i64 z3,.int .u16 aG,.int .i64 3] rfl rfl ?c1 ?c2 ?c3 ?c4 ?c5 ?_)
   case c1=>exact lQ (by simp)
   case c2=>intro u hu;simp at hu;rcases hu with rfl | rfl | rfl | rfl | rfl | rfl <;> rfl
   case c3=>unfold maxLen;omega
   case c4=>omega
   case c5=>have:=sJ.out.size;simp at *;omega
   intro v' kT hown' hgrow _
   have hszz:=sJ.out.size
   have hB' : Hid (Below W0.heap.size W0 kT):=ajK ((sJ.out.alloc hszz _).grown hgrow (by simp at *;omega) (λj e=>(yg.out.lt j e).1))
   have HO : Hid (kT.ownsRow W0.heap.size 52 6 v' (k + 1) (jV P (k + 1))):=ajK (by rw [HL.out,wK.out];exact hown')
   clear hown' hgrow
   go_wp2
   go_roundw
   case rel=>exact ⟨k + 1,by omega,by go_num,HO.out,hB'.out⟩
   case measure=>simp [intOf];omega
  ·obtain rfl : k = la:=by omega
   obtain ⟨s,cp,rfl,hS⟩:=oN hown
   have HS:=ajK hS;have tH:=ajK (HW0.out.trans (hB.mono HW0.out.size));clear hS hown hB
   go_wp2
   exact bodyPost_ret (v:=.tuple #[.slice s k cp,.int .i64 0]) (by simp [results,Tryz.results47,go_sem]) rfl ⟨s,cp,rfl,HS.out,tH.out⟩
end Go.Proofs.YtklkooeimkedgaaGreat
