/- Walk of TopBeyond. -/
import Derived.Test.YtklkooeimkedgaaGreatB39
set_option linter.unusedVariables false
set_option linter.unusedSimpArgs false
namespace Go.Proofs.YtklkooeimkedgaaGreat
open Go.RowKit
set_option maxRecDepth 100000
theorem aM.base {w : World} {base base' : Nat} {v : Value} {es : List aB} (h : aM w base v es) (hb : base' <= base) : aM w base' v es:=by
 obtain ⟨h1,h2⟩:=h
 refine ⟨h1,?_⟩
 rcases h2 with h2 | ⟨g,cap,cur,rfl,a,b,c⟩
 ·exact .inl h2
 ·exact .inr ⟨g,cap,cur,rfl,Nat.le_trans hb a,b,c⟩
theorem fB {w : World} {b : Nat} {t : TypeId} {o0 o1 o2 v0 v1 v2 : Value} (h : ak w b #[o0,o1,o2] t) : ak (((w.setCell ⟨b,0,none⟩ v0).setCell ⟨b,1,none⟩ v1).setCell ⟨b,2,none⟩ v2) b #[v0,v1,v2] t:=by
 simpa using (((h.set 0 v0).set 1 v1).set 2 v2)
theorem kS {S : Nat -> Prop} {w0 w : World} {b : Nat} {v0 v1 v2 : Value} (h : Only S w0 w) (hb : S b \/ w0.heap.size <= b) : Only S w0 (((w.setCell ⟨b,0,none⟩ v0).setCell ⟨b,1,none⟩ v1).setCell ⟨b,2,none⟩ v2) :=
 ((h.setCell (p:=⟨b,0,none⟩) hb v0).setCell (p:=⟨b,1,none⟩) hb v1).setCell (p:=⟨b,2,none⟩) hb v2
theorem dz {w0 w : World} {b : Nat} {v0 v1 v2 : Value} (h : Below w0.heap.size w0 w) (hb : w0.heap.size <= b) : Below w0.heap.size w0 (((w.setCell ⟨b,0,none⟩ v0).setCell ⟨b,1,none⟩ v1).setCell ⟨b,2,none⟩ v2) :=
 (kS (S:=λ_=>False) (Only.of_below h) (.inr hb)).below (Nat.le_refl _) (λ_ h=>h.elim)
theorem Og {g : Gr} (h : dx g = 0) : (g.recs.length : Int) <= 128:=by
 unfold dx at h
 have hh : gX g.tick g.time g.base g.recs.length = 0:=by
  split at h
  ·rename_i hh;exact absurd h hh
  ·rename_i hh;exact Decidable.of_not_not hh
 unfold gX at hh
 split at hh
 ·cases hh
 split at hh
 ·cases hh
 split at hh
 ·cases hh
 omega
def nA (w : World) (s g : Array Value) (wr : World) : Prop :=
 ak wr w.heap.size s 36 /\ ak wr (w.heap.size + 1) g 39 /\ ak wr (w.heap.size + 2) #[.int .i64 0,.int .i64 0,.slice none 0 0] 36 /\ Below w.heap.size w wr /\ w.heap.size + 3 <= wr.heap.size
theorem nA.below {w : World} {s g : Array Value} {wr w2 : World} (h : nA w s g wr) (hb : Below wr.heap.size wr w2) : nA w s g w2:=by
 obtain ⟨h1,h2,h3,h4,h5⟩:=h
 exact ⟨h1.below hb h1.lt,h2.below hb h2.lt,h3.below hb h3.lt,h4.trans (hb.mono h4.size),Nat.le_trans h5 hb.size⟩
theorem nA.only {w : World} {s g : Array Value} {wr w2 : World} {S : Nat -> Prop} (h : nA w s g wr) (ho : Only S wr w2) (hS : ∀ k,S k -> w.heap.size + 3 <= k) : nA w s g w2:=by
 obtain ⟨h1,h2,h3,h4,h5⟩:=h
 exact ⟨ho.blk h1 (λh=>by have:=hS _ h;omega),ho.blk h2 (λh=>by have:=hS _ h;omega),ho.blk h3 (λh=>by have:=hS _ h;omega),h4.trans (ho.below h4.size (λk hk=>by have:=hS k hk;omega)),Nat.le_trans h5 ho.size⟩
def BG (w : World) (s g : Array Value) (X Y : Nat) (r : Rec) (y : aB) (M : Nat) (l l' : List aB) : List Value -> World -> Prop
 | [],W=>(nA w s g W /\ ak W X (aX r) 147 /\ ak W Y (bN y) 33) /\ bW W M l
 | [_],W=>(nA w s g W /\ ak W X (aX r) 147 /\ ak W Y (bN y) 33) /\ bW W M l'
 | _,_=>False
section
variable {w : World} {s g : Array Value} {X Y : Nat} {r : Rec} {y : aB} {M : Nat} {l l' : List aB}
theorem BG.rec : ∀ {b : List Value} {W : World},BG w s g X Y r y M l l' b W -> ak W X (aX r) 147
 | [],_,h=>h.1.2.1
 | [_],_,h=>h.1.2.1
 | _ :: _ :: _,_,h=>h.elim
theorem BG.ent : ∀ {b : List Value} {W : World},BG w s g X Y r y M l l' b W -> ak W Y (bN y) 33
 | [],_,h=>h.1.2.2
 | [_],_,h=>h.1.2.2
 | _ :: _ :: _,_,h=>h.elim
theorem BG.below : ∀ {b : List Value} {W W' : World},BG w s g X Y r y M l l' b W -> Below W.heap.size W W' -> BG w s g X Y r y M l l' b W'
 | [],_,_,h,hb=>⟨⟨h.1.1.below hb,h.1.2.1.below hb h.1.2.1.lt,h.1.2.2.below hb h.1.2.2.lt⟩,h.2.below hb h.2.lt⟩
 | [_],_,_,h,hb=>⟨⟨h.1.1.below hb,h.1.2.1.below hb h.1.2.1.lt,h.1.2.2.below hb h.1.2.2.lt⟩,h.2.below hb h.2.lt⟩
 | _ :: _ :: _,_,_,h,_=>h.elim
end
def uf (w : World) (s g : Array Value) (now : List aB) (rs : List Rec) (M k : Nat) (wr : World) : Prop :=
 ∃ l,nA w s g wr /\ bW wr M l /\ w.heap.size + 3 <= M /\ kR now rs = kR l (rs.drop k) /\ ∀ e ∈ l,e.Ok
set_option maxHeartbeats 4000000 in
theorem UE (tick time : Int) (ae : Option Addr) (gB : Nat) (es : List aB) (g : Gr) (ga : Option Addr) (cap : Nat) (hgt : ay g.time) (w : World) (hE : fP w ae es) (hR : qD w ga g.recs) (hlE : (es.length : Int) <= 140737488355000) :
 Calls Tryz.prog 117 #[bO tick time ae es.length gB,xL g.tick g.time g.base ga g.recs.length cap] w λe w'=>∃ v,e = .returned (.tuple #[.agg #[.int .i64 (jo ⟨tick,time,es⟩ g).1.tick,.int .i64 (jo ⟨tick,time,es⟩ g).1.time,v],.int .i64 (jo ⟨tick,time,es⟩ g).2]) /\ aM w' w.heap.size v (jo ⟨tick,time,es⟩ g).1.ents /\ Below w.heap.size w w':=by
 have mI : ak (((w.alloc (.cells #[.int .i64 tick,.int .i64 time,.slice ae es.length gB] 36)).alloc (.cells #[.int .i64 g.tick,.int .i64 g.time,.int .i64 g.base,.slice ga g.recs.length cap] 39)).alloc (.cells #[.int .i64 0,.int .i64 0,.slice none 0 0] 36)) w.heap.size #[.int .i64 tick,.int .i64 time,.slice ae es.length gB] 36:=((ak.new w _ _).alloc _).alloc _
 have hG0 : ak (((w.alloc (.cells #[.int .i64 tick,.int .i64 time,.slice ae es.length gB] 36)).alloc (.cells #[.int .i64 g.tick,.int .i64 g.time,.int .i64 g.base,.slice ga g.recs.length cap] 39)).alloc (.cells #[.int .i64 0,.int .i64 0,.slice none 0 0] 36)) (w.heap.size + 1) #[.int .i64 g.tick,.int .i64 g.time,.int .i64 g.base,.slice ga g.recs.length cap] 39:=by
  have:=(ak.new (w.alloc (.cells #[.int .i64 tick,.int .i64 time,.slice ae es.length gB] 36)) #[.int .i64 g.tick,.int .i64 g.time,.int .i64 g.base,.slice ga g.recs.length cap] 39).alloc (.cells #[.int .i64 0,.int .i64 0,.slice none 0 0] 36)
  rw [show (w.alloc (.cells #[.int .i64 tick,.int .i64 time,.slice ae es.length gB] 36)).heap.size = w.heap.size + 1 by simp] at this
  exact this
 have mW : ak (((w.alloc (.cells #[.int .i64 tick,.int .i64 time,.slice ae es.length gB] 36)).alloc (.cells #[.int .i64 g.tick,.int .i64 g.time,.int .i64 g.base,.slice ga g.recs.length cap] 39)).alloc (.cells #[.int .i64 0,.int .i64 0,.slice none 0 0] 36)) (w.heap.size + 2) #[.int .i64 0,.int .i64 0,.slice none 0 0] 36:=by
  have:=ak.new ((w.alloc (.cells #[.int .i64 tick,.int .i64 time,.slice ae es.length gB] 36)).alloc (.cells #[.int .i64 g.tick,.int .i64 g.time,.int .i64 g.base,.slice ga g.recs.length cap] 39)) #[.int .i64 0,.int .i64 0,.slice none 0 0] 36
  rw [show ((w.alloc (.cells #[.int .i64 tick,.int .i64 time,.slice ae es.length gB] 36)).alloc (.cells #[.int .i64 g.tick,.int .i64 g.time,.int .i64 g.base,.slice ga g.recs.length cap] 39)).heap.size = w.heap.size + 2 by simp] at this
  exact this
 have hB0 : Below w.heap.size w (((w.alloc (.cells #[.int .i64 tick,.int .i64 time,.slice ae es.length gB] 36)).alloc (.cells #[.int .i64 g.tick,.int .i64 g.time,.int .i64 g.base,.slice ga g.recs.length cap] 39)).alloc (.cells #[.int .i64 0,.int .i64 0,.slice none 0 0] 36)):=((aiT).alloc (by simp) _).alloc (by simp;omega) _
 have HD0:=aiS (show nA w #[.int .i64 tick,.int .i64 time,.slice ae es.length gB] #[.int .i64 g.tick,.int .i64 g.time,.int .i64 g.base,.slice ga g.recs.length cap] (((w.alloc (.cells #[.int .i64 tick,.int .i64 time,.slice ae es.length gB] 36)).alloc (.cells #[.int .i64 g.tick,.int .i64 g.time,.int .i64 g.base,.slice ga g.recs.length cap] 39)).alloc (.cells #[.int .i64 0,.int .i64 0,.slice none 0 0] 36)) from ⟨mI,hG0,mW,hB0,by simp⟩)
 have ck:=Uv g.tick g.time g.base hgt ga cap g.recs _ ((hR.below hB0))
 rw [show (⟨g.tick,g.time,g.base,g.recs⟩ : Gr) = g from rfl] at ck
 have HZ : Hid (jo ⟨tick,time,es⟩ g = if dx g ≠ 0 then (dD,dx g) else if 0 <= g.base then (if fZ ⟨tick,time,es⟩ ≠ 0 then (dD,fZ ⟨tick,time,es⟩) else if tick ≠ g.base then (dD,14) else fD g (j4 es)) else fD g []):=aiS rfl
 have aeS : Hid (dx g = 0 -> (g.recs.length : Int) <= 128):=aiS Og
 have UF : Hid (dx g = 0 -> ∀ r ∈ g.recs,dH r = 0):=aiS Fa
 generalize jo ⟨tick,time,es⟩ g = z at *
 generalize dx g = ge at *
 have HE:=aiS hE;have HR:=aiS hR
 unfold bO xL at *
 clear hE hR mI hG0 mW hB0
 go_enter Tryz.func117,Tryz.ntmps117
 go_wp2_with fail
 refine ck.mono ?_;rintro e w1 ⟨rfl,hb1⟩
 have hD1:=HD0.out.below hb1;have HD1:=aiS hD1;clear ck hb1 HD0
 by_cases hge : ge = 0
 ·have hNr:=aeS.out hge
  have iN : Hid (∀ r ∈ g.recs,dH r = 0):=aiS (UF.out hge)
  have HZ2 : Hid (z = if 0 <= g.base then (if fZ ⟨tick,time,es⟩ ≠ 0 then (dD,fZ ⟨tick,time,es⟩) else if tick ≠ g.base then (dD,14) else fD g (j4 es)) else fD g []):=aiS (by rw [HZ.out,if_neg (by simpa using hge)])
  subst hge
  have hG:=hD1.2.1;have b2:=hG.alloc (.map #[] 0);have g2:=b2.cell 2;simp at g2
  have J6 : nA w #[.int .i64 tick,.int .i64 time,.slice ae es.length gB] #[.int .i64 g.tick,.int .i64 g.time,.int .i64 g.base,.slice ga g.recs.length cap] (w1.alloc (.map #[] 0)):=hD1.below (aiT)
  have Zu:=aiS J6
  have HMm:=aiS (show bW (w1.alloc (.map #[] 0)) w1.heap.size [] /\ w.heap.size + 3 <= w1.heap.size /\ ∀ e ∈ ([] : List aB),e.Ok from ⟨bW.new w1,hD1.2.2.2.2,by simp⟩)
  clear hD1 hG b2 HZ UF
  by_cases hbase : 0 <= g.base
  ·have ck2:=DN tick time ae es.length gB (λi=>es.getD i bK) (w1.alloc (.map #[] 0)) (dw.below HE.out J6.2.2.2.1) (by omega)
   unfold bO at ck2
   have HZ3 : Hid (z = if fZ ⟨tick,time,es⟩ ≠ 0 then (dD,fZ ⟨tick,time,es⟩) else if tick ≠ g.base then (dD,14) else fD g (j4 es)):=aiS (by rw [HZ2.out,if_pos hbase])
   have G9 : Hid (fZ ⟨tick,time,es⟩ = 0 -> (es.length : Int) <= 64):=aiS (λh=>by
    unfold fZ dh at h
    simp only at h
    split at h
    ·cases h
    split at h
    ·cases h
    omega)
   rw [show dh tick time es.length (λi=>es.getD i bK) = fZ ⟨tick,time,es⟩ from rfl] at ck2
   generalize fZ ⟨tick,time,es⟩ = sc at *
   have q0:=J6.1.cell 0;have q1:=J6.1.cell 1;have q2:=J6.1.cell 2;simp at q0 q1 q2;clear J6 HZ2 HMm
   go_wp2_with fail
   refine ck2.mono ?_;rintro e w2 ⟨rfl,hb2⟩
   have hD2:=Zu.out.below hb2;have HD2:=aiS hD2;have r0:=hD2.1.cell 0;have r2:=hD2.1.cell 2;have s2:=hD2.2.1.cell 2;have hZ:=hD2.2.2.1;have sM:=hZ.cell 0;have wG:=hZ.free 0;have sN:=hZ.cell 1;have wH:=hZ.free 1;have sO:=hZ.cell 2;have wI:=hZ.free 2;simp at sM sN sO;simp at r0 r2 s2;have HZ1:=aiS hZ;have HB1:=aiS hD2.2.2.2.1;clear ck2 hb2 Zu q0 q1 q2 hZ
   by_cases hsc : sc = 0
   ·subst hsc
    have hel:=G9.out rfl
    by_cases htb : tick = g.base
    ·have aeT : (tick != g.base) = false:=by simpa using htb
     have HF : Hid (z = fD g (j4 es)):=aiS (by rw [HZ3.out,if_neg (by simp),if_neg (by simpa using htb)])
     have bi:=Zt ae gB es w2 (fP.below HE.out hD2.2.2.2.1) (by omega)
     clear hD2 HZ3 G9 htb
     go_wp2_with fail
     refine bi.mono ?_;rintro e w4 ⟨M,rfl,V9,hM4,hb4⟩
     have HD:=aiS (HD2.out.below hb4)
     have HM:=aiS (show bW w4 M (j4 es) /\ w.heap.size + 3 <= M /\ ∀ e ∈ j4 es,e.Ok from ⟨hM4,Nat.le_trans HD2.out.2.2.2.2 V9,J5 (fP.ok HE.out)⟩)
     clear bi V9 hM4 hb4 HD2 HZ1 HB1 sM sN sO wG wH wI r0 r2 s2 g2
     have HS : Hid (uf w #[.int .i64 tick,.int .i64 time,.slice ae es.length gB] #[.int .i64 g.tick,.int .i64 g.time,.int .i64 g.base,.slice ga g.recs.length cap] (j4 es) g.recs M 0 w4):=aiS ⟨_,HD.out,HM.out.1,HM.out.2.1,by simp,HM.out.2.2⟩
     have hG:=HD.out.2.1;have g3:=hG.cell 3;simp at g3;clear hG
     go_wp2_with fail
     go_loopw [10,11,42] (λ_ _ i wr=>∃ k : Nat,k <= g.recs.length /\ i = .int .i64 k /\ uf w #[.int .i64 tick,.int .i64 time,.slice ae es.length gB] #[.int .i64 g.tick,.int .i64 g.time,.int .i64 g.base,.slice ga g.recs.length cap] (j4 es) g.recs M k wr) (λ_ _ i _=>g.recs.length - (intOf i).toNat)
     case atStart=>exact ⟨0,Nat.zero_le _,rfl,HS.out⟩
     case round =>
      rename_i wr
      obtain ⟨k,hk,rfl,l,hD,hM,hMs,kL,hok⟩:=hrel
      clear g3
      by_cases hlt : k < g.recs.length
      ·have hlt' : (k : Int) < g.recs.length:=by omega
       obtain ⟨r,hr⟩ : ∃ r,g.recs[k]? = some r:=⟨_,List.getElem?_eq_getElem hlt⟩
       have hdrop : g.recs.drop k = r :: g.recs.drop (k + 1):=by
        rw [List.drop_eq_getElem_cons hlt]
        rw [List.getElem?_eq_getElem hlt] at hr
        cases hr;rfl
       rw [hdrop,kR] at kL
       have hmem : r ∈ g.recs:=List.mem_of_getElem? hr
       have hrc:=iN.out r hmem;have uY:=HR.out.1 r hmem
       obtain ⟨b,off,UG,hbl,hcs⟩ : ∃ b off,ga = some ⟨b,off,none⟩ /\ b < w.heap.size /\ ∀ i r,g.recs[i]? = some r -> oN w b (off + i * 9) r:=by
        rcases HR.out.2 with h0 | h0
        ·rw [h0] at hlt;simp at hlt
        ·exact h0
       have hc:=(hcs k r hr).below hD.2.2.2.1 hbl
       have aeU : 0 <= r.kind /\ r.kind <= 3:=by unfold dH at hrc;split at hrc;cases hrc;omega
       have zN : Below wr.heap.size wr (wr.alloc (.cells (aX r) 147)):=aiT
       have hM1:=hM.below zN hM.lt;have hlk:=zK hM1 r.id;have hD1:=hD.below zN
       obtain ⟨x,hfx⟩ : ∃ x,(eZ l r.id).getD bK = x:=⟨_,rfl⟩
       have zO : Below (wr.alloc (.cells (aX r) 147)).heap.size (wr.alloc (.cells (aX r) 147)) ((wr.alloc (.cells (aX r) 147)).alloc (.cells (bN x) 33)):=aiT
       have hM2:=hM1.below zO hM1.lt;have hD2:=hD1.below zO
       have jD : Hid (iV l r = match eZ l r.id with | some x=>if r.kind = 0 then none else if r.kind = 2 then some (kK l r.id) else some (fG l (fH x r).1) | none=>if r.kind = 0 then some (fG l ⟨r.id,r.px,r.py,r.pz,r.vx,r.vy,r.vz,r.aJ,0⟩) else none):=aiS rfl
       have oP : Hid (∀ l',iV l r = some l' -> ∀ e ∈ l',e.Ok):=aiS (λl' h=>D5 h hok uY)
       have qY : Hid (eZ l r.id = some x -> x.id = r.id):=aiS (λh=>(xO h).2)
       have pV : Hid (r.kind ≠ 0 -> r.kind ≠ 2 -> x.id = r.id -> (fH x r).1.id = r.id):=aiS (λh1 h2 h3=>BF hrc h3 h1 h2)
       have ap:=λW=>JZ x r W
       have hsz2 : ((wr.alloc (.cells (aX r) 147)).alloc (.cells (bN x) 33)).heap.size = wr.heap.size + 2:=by simp
       have Gd:=hM.lt
       subst UG
       cases hf : eZ l r.id with
       | none =>
         rw [hf] at hlk hfx
         simp only [Option.getD_none,Option.isSome_none] at hlk hfx
         subst hfx
         by_cases hk0 : r.kind = 0
         ·have fC : Hid (iV l r = some (fG l ⟨r.id,r.px,r.py,r.pz,r.vx,r.vy,r.vz,r.aJ,0⟩)):=aiS (by rw [jD.out,hf];simp only;rw [if_pos hk0])
          obtain ⟨w3,hup,xQ,hO3⟩:=rY hM2 ⟨r.id,r.px,r.py,r.pz,r.vx,r.vy,r.vz,r.aJ,0⟩
          have hD3:=hD2.only hO3 (λk hk=>by omega)
          have wJ:=oP.out _ fC.out;clear jD oP qY pV ap
          have HS2 : Hid (uf w #[.int .i64 tick,.int .i64 time,.slice ae es.length gB] #[.int .i64 g.tick,.int .i64 g.time,.int .i64 g.base,.slice (some ⟨b,off,none⟩) g.recs.length cap] (j4 es) g.recs M (k + 1) w3):=aiS ⟨_,hD3,xQ,hMs,kL.trans (by rw [fC.out]),wJ⟩
          clear hD1 hD2 hM1 hM2 hM hD hD3 xQ kL hok wJ HS
          obtain ⟨rk,ri,p1,p2,p3,q1,q2,q3,ra⟩:=r
          obtain ⟨c0,c1,c2,c3,c4,c5,c6,c7,c8⟩:=hc
          unfold bM bK at hlk
          unfold bM at hup
          simp only [bN,bK] at *
          subst hk0
          clear hO3
          go_wp2
          go_roundw
          case rel=>exact ⟨k + 1,by omega,by go_num,HS2.out⟩
          case measure=>simp [intOf];omega
         ·have fC : Hid (iV l r = none):=aiS (by rw [jD.out,hf];simp only;rw [if_neg hk0])
          have HV : Hid (z = (dD,15)):=aiS (by rw [HF.out];unfold fD;rw [kL,fC.out])
          have hZ:=hD2.2.2.1;have sM:=hZ.cell 0;have wG:=hZ.free 0;have sN:=hZ.cell 1;have wH:=hZ.free 1;have sO:=hZ.cell 2;have wI:=hZ.free 2;simp at sM sN sO;have HB1:=aiS hD2.2.2.2.1;have HZ1:=aiS hZ;clear hD1 hD2 hM1 hM2 hM hD hZ kL hok HF HD HM HS HR iN uY oP qY pV ap jD
          have UH : (r.kind == 0) = false:=by simpa using hk0
          obtain ⟨rk,ri,p1,p2,p3,q1,q2,q3,ra⟩:=r
          obtain ⟨c0,c1,c2,c3,c4,c5,c6,c7,c8⟩:=hc
          unfold bM bK at hlk
          simp only [bN,bK] at *
          go_wp2
          exact bodyPost_ret (v:=.tuple #[.agg #[.int .i64 0,.int .i64 0,.slice none 0 0],.int .i64 15])
           (by have hh:=fB (v0:=.int .i64 0) (v1:=.int .i64 0) (v2:=.slice none 0 0) HZ1.out
               have g0:=hh.cell 0;have g1:=hh.cell 1;have g2:=hh.cell 2;simp at g0 g1 g2
               simp [results,Tryz.results117,go_sem,g0,g1,g2]) rfl
           ⟨.slice none 0 0,by rw [HV.out];rfl,by rw [HV.out];exact aM.nil _ _,dz HB1.out (by omega)⟩
       | some y =>
         rw [hf] at hlk hfx
         simp only [Option.getD_some,Option.isSome_some] at hlk hfx
         subst hfx
         have UJ:=aiS (qY.out hf)
         by_cases hk0 : r.kind = 0
         ·have fC : Hid (iV l r = none):=aiS (by rw [jD.out,hf];simp only;rw [if_pos hk0])
          have HV : Hid (z = (dD,15)):=aiS (by rw [HF.out];unfold fD;rw [kL,fC.out])
          have hZ:=hD2.2.2.1;have sM:=hZ.cell 0;have wG:=hZ.free 0;have sN:=hZ.cell 1;have wH:=hZ.free 1;have sO:=hZ.cell 2;have wI:=hZ.free 2;simp at sM sN sO;have HB1:=aiS hD2.2.2.2.1;have HZ1:=aiS hZ;clear hD1 hD2 hM1 hM2 hM hD hZ kL hok HF HD HM HS HR iN uY oP qY pV ap jD
          obtain ⟨rk,ri,p1,p2,p3,q1,q2,q3,ra⟩:=r
          obtain ⟨c0,c1,c2,c3,c4,c5,c6,c7,c8⟩:=hc
          obtain ⟨ei,e1,e2,e3,e4,e5,e6,e7,e8⟩:=y
          unfold bM at hlk
          simp only [bN] at *
          subst hk0
          go_wp2
          exact bodyPost_ret (v:=.tuple #[.agg #[.int .i64 0,.int .i64 0,.slice none 0 0],.int .i64 15])
           (by have hh:=fB (v0:=.int .i64 0) (v1:=.int .i64 0) (v2:=.slice none 0 0) HZ1.out
               have g0:=hh.cell 0;have g1:=hh.cell 1;have g2:=hh.cell 2;simp at g0 g1 g2
               simp [results,Tryz.results117,go_sem,g0,g1,g2]) rfl
           ⟨.slice none 0 0,by rw [HV.out];rfl,by rw [HV.out];exact aM.nil _ _,dz HB1.out (by omega)⟩
         ·have UH : (r.kind == 0) = false:=by simpa using hk0
          by_cases hk2 : r.kind = 2
          ·have fC : Hid (iV l r = some (kK l r.id)):=aiS (by rw [jD.out,hf];simp only;rw [if_neg hk0,if_pos hk2])
           obtain ⟨w3,hup,xQ,hO3⟩:=zM hM2 r.id 0 3
           have hD3:=hD2.only hO3 (λk hk=>by omega)
           have wJ:=oP.out _ fC.out;clear jD oP qY pV ap
           have HS2 : Hid (uf w #[.int .i64 tick,.int .i64 time,.slice ae es.length gB] #[.int .i64 g.tick,.int .i64 g.time,.int .i64 g.base,.slice (some ⟨b,off,none⟩) g.recs.length cap] (j4 es) g.recs M (k + 1) w3):=aiS ⟨_,hD3,xQ,hMs,kL.trans (by rw [fC.out]),wJ⟩
           clear hD1 hD2 hM1 hM2 hM hD hD3 xQ kL hok wJ HS
           obtain ⟨rk,ri,p1,p2,p3,q1,q2,q3,ra⟩:=r
           obtain ⟨c0,c1,c2,c3,c4,c5,c6,c7,c8⟩:=hc
           obtain ⟨ei,e1,e2,e3,e4,e5,e6,e7,e8⟩:=y
           unfold bM at hlk
           simp only [bN] at *
           subst hk2
           clear hO3
           go_wp2
           go_roundw
           case rel=>exact ⟨k + 1,by omega,by go_num,HS2.out⟩
           case measure=>simp [intOf];omega
          ·have fC : Hid (iV l r = some (fG l (fH y r).1)):=aiS (by rw [jD.out,hf];simp only;rw [if_neg hk0,if_neg hk2])
           have aeV : (r.kind == 2) = false:=by simpa using hk2
           have J7:=pV.out hk0 hk2 UJ.out;have J8:=oP.out _ fC.out
           have J9:=aiS (show nA w #[.int .i64 tick,.int .i64 time,.slice ae es.length gB] #[.int .i64 g.tick,.int .i64 g.time,.int .i64 g.base,.slice (some ⟨b,off,none⟩) g.recs.length cap] ((wr.alloc (.cells (aX r) 147)).alloc (.cells (bN y) 33)) /\ bW ((wr.alloc (.cells (aX r) 147)).alloc (.cells (bN y) 33)) M l from ⟨hD2,hM2⟩)
           have Zv : Hid (∀ w3,nA w #[.int .i64 tick,.int .i64 time,.slice ae es.length gB] #[.int .i64 g.tick,.int .i64 g.time,.int .i64 g.base,.slice (some ⟨b,off,none⟩) g.recs.length cap] w3 -> bW w3 M (fG l (fH y r).1) -> uf w #[.int .i64 tick,.int .i64 time,.slice ae es.length gB] #[.int .i64 g.tick,.int .i64 g.time,.int .i64 g.base,.slice (some ⟨b,off,none⟩) g.recs.length cap] (j4 es) g.recs M (k + 1) w3):=aiS (λw3 h1 h2=>⟨_,h1,h2,hMs,kL.trans (by rw [fC.out]),J8⟩)
           have He : Hid (∀ W,bW W M l -> ∃ w',(Instr.mapUpdate lV (.map (some M)) (.int .i64 r.id) (.agg (bN (fH y r).1))).run Tryz.prog W = .ok () w' /\ bW w' M (fG l (fH y r).1) /\ Only (λk=>k = M) W w'):=aiS (λW h=>by have:=rY h (fH y r).1;rwa [J7] at this)
           generalize fH y r = q at *
           clear hD1 hD2 hM1 hM2 hM hD kL hok HS jD oP qY pV fC J8 J7
           obtain ⟨rk,ri,p1,p2,p3,q1,q2,q3,ra⟩:=r
           obtain ⟨c0,c1,c2,c3,c4,c5,c6,c7,c8⟩:=hc
           obtain ⟨ei,e1,e2,e3,e4,e5,e6,e7,e8⟩:=y
           unfold bM at hlk
           unfold bM lT at ap
           simp only [bN] at hlk ap J9
           simp only at *
           have HI : Hid (BG w #[.int .i64 tick,.int .i64 time,.slice ae es.length gB] #[.int .i64 g.tick,.int .i64 g.time,.int .i64 g.base,.slice (some ⟨b,off,none⟩) g.recs.length cap] wr.heap.size (wr.heap.size + 1) ⟨rk,ri,p1,p2,p3,q1,q2,q3,ra⟩ ⟨ei,e1,e2,e3,e4,e5,e6,e7,e8⟩ M l (fG l q.1) [] ((wr.alloc (.cells (aX ⟨rk,ri,p1,p2,p3,q1,q2,q3,ra⟩) 147)).alloc (.cells (bN ⟨ei,e1,e2,e3,e4,e5,e6,e7,e8⟩) 33)).drew):=aiS (by
            obtain ⟨h1,h2⟩:=J9.out
            refine ⟨⟨h1.below (below_drewN aiU 1),(ak.new wr _ _).alloc _,?_⟩,h2.below (below_drewN aiU 1) h2.lt⟩
            have:=ak.new (wr.alloc (.cells (aX ⟨rk,ri,p1,p2,p3,q1,q2,q3,ra⟩) 147)) (bN ⟨ei,e1,e2,e3,e4,e5,e6,e7,e8⟩) 33
            rw [show (wr.alloc (.cells (aX ⟨rk,ri,p1,p2,p3,q1,q2,q3,ra⟩) 147)).heap.size = wr.heap.size + 1 by simp] at this
            exact this)
           have Bc:=aiS (show M < wr.heap.size /\ w.heap.size + 3 <= M from ⟨Gd,hMs⟩)
           clear J9 Gd hMs
           go_wp2_with fail
           apply wE [9] (BG w #[.int .i64 tick,.int .i64 time,.slice ae es.length gB] #[.int .i64 g.tick,.int .i64 g.time,.int .i64 g.base,.slice (some ⟨b,off,none⟩) g.recs.length cap] wr.heap.size (wr.heap.size + 1) ⟨rk,ri,p1,p2,p3,q1,q2,q3,ra⟩ ⟨ei,e1,e2,e3,e4,e5,e6,e7,e8⟩ M l (fG l q.1))
           case hm=>kernel_rfl
           case hB=>kernel_rfl
           case hp=>kernel_rfl
           case hI=>exact HI.out
           repeat (apply bZ;(next=>rfl);(next=>(intro b W hW K hK;have yX:=hW.rec;have yE:=hW.ent;unfold aX at yX;have x0:=yX.cell 0;have Zw:=yE.cell 0;have x1:=yX.cell 1;have Zx:=yE.cell 1;have x2:=yX.cell 2;have e2':=yE.cell 2;have x3:=yX.cell 3;have e3':=yE.cell 3;have x4:=yX.cell 4;have e4':=yE.cell 4;have x5:=yX.cell 5;have e5':=yE.cell 5;have x6:=yX.cell 6;have Zy:=yE.cell 6;have x7:=yX.cell 7;have Zz:=yE.cell 7;have x8:=yX.cell 8;have ZA:=yE.cell 8;simp at x0 Zw x1 Zx x2 e2' x3 e3' x4 e4' x5 e5' x6 Zy x7 Zz x8 ZA; go_simp;first | exact ⟨hW,hK⟩ | exact hK));(next=>exact ⟨_,HI.out⟩);(try go_simp))
           (apply bZ;(next=>rfl);(next=>(intro b W hW K hK;go_simp;first | exact ⟨hW,_,(ap W).mono (λe w' hh=>⟨hh.1,hW.below hh.2⟩),hK⟩ | exact ⟨_,(ap W).mono (λe w' hh=>⟨hh.1,hW.below hh.2⟩),hK⟩));(next=>exact ⟨_,HI.out⟩);(try go_simp))
           repeat (apply bZ;(next=>rfl);(next=>(intro b W hW K hK;go_simp;first | exact ⟨hW,hK⟩ | exact hK));(next=>exact ⟨_,HI.out⟩);(try go_simp))
           apply dL (s:=λ_=>True)
           case hk=>rfl
           case hne=>exact ⟨undef,trivial⟩
           case hw=>rfl
           case h =>
            intro W hW
            obtain ⟨hB,Wd⟩:=hW
            obtain ⟨w',hrun,hM',Ka⟩:=He.out W Wd
            simp only [bN] at hrun
            go_simp
            have h1:=Bc.out
            exact ⟨⟨hB.1.only Ka (λk hk=>by omega),Ka.blk hB.2.1 (by omega),Ka.blk hB.2.2 (by omega)⟩,hM'⟩
           intro uu _
           refine kC ?_
           intro WC aP
           have HS2:=aiS (Zv.out WC aP.1.1 aP.2);clear aP
           go_wp2
           go_roundw
           case rel=>exact ⟨k + 1,by omega,by go_num,HS2.out⟩
           case measure=>simp [intOf];omega
      ·obtain rfl : k = g.recs.length:=by omega
       rw [List.drop_length] at kL
       have zP : kR (j4 es) g.recs = some l:=kL
       obtain ⟨es0,Kc,hb0,he0,_,_,hnd⟩:=hM
       have hM : bW wr M l:=⟨es0,Kc,hb0,he0,by assumption,by assumption,hnd⟩
       clear hb0 he0;have hln:=MC hM 3
       by_cases hbig : 64 < l.length
       ·have HV : Hid (z = (dD,4)):=aiS (by rw [HF.out];unfold fD;rw [zP];simp only;rw [if_pos hbig])
        have hbig2 : (64 : Int) < l.length:=by omega
        have hZ:=hD.2.2.1;have sM:=hZ.cell 0;have wG:=hZ.free 0;have sN:=hZ.cell 1;have wH:=hZ.free 1;have sO:=hZ.cell 2;have wI:=hZ.free 2;simp at sM sN sO;have HB1:=aiS hD.2.2.2.1;have HZ1:=aiS hZ;clear hZ kL zP hok HF HD HM HS HR iN hbig hD hM hnd
        go_wp2
        exact bodyPost_ret (v:=.tuple #[.agg #[.int .i64 0,.int .i64 0,.slice none 0 0],.int .i64 4])
         (by have hh:=fB (v0:=.int .i64 0) (v1:=.int .i64 0) (v2:=.slice none 0 0) HZ1.out
             have g0:=hh.cell 0;have g1:=hh.cell 1;have g2:=hh.cell 2;simp at g0 g1 g2
             simp [results,Tryz.results117,go_sem,g0,g1,g2]) rfl
         ⟨.slice none 0 0,by rw [HV.out];rfl,by rw [HV.out];exact aM.nil _ _,dz HB1.out (by omega)⟩
       ·have HV : Hid (z = (⟨g.tick,g.time,uQ l⟩,0)):=aiS (by rw [HF.out];unfold fD;rw [zP];simp only;rw [if_neg hbig])
        have hbig2 : ¬ (64 : Int) < l.length:=by omega
        have Rk:=(callsIn_wide (n:=9)).1 (values_in Fence.wide 9 trivial rfl (some M) wr)
        have iO : Below wr.heap.size wr (wr.alloc (.cells #[.map (some M)] lV)):=aiT
        have sf:=Bw wr.heap.size M l (by omega) (wr.alloc (.cells #[.map (some M)] lV)) (by simp) ((ak.new wr #[.map (some M)] lV).cell 0) (hM.below iO hM.lt)
        have hD2:=hD.below iO;have HD2:=aiS hD2;have Bt:=aiS hnd;clear kL zP hok HF HD HM HS HR iN hbig hD hM hnd hD2 iO
        go_wp2_with fail
        refine Rk.mono ?_;rintro e w5 ⟨rfl,rfl⟩
        go_wp2_with fail
        refine sf.mono ?_;rintro e w6 ⟨vv,xs,rfl,hxp,hxs,hxo,hxb⟩
        have hD3:=HD2.out.below hxb
        have hxe : xs = uQ l:=Gc hxp hxs Bt.out
        have hG:=hD3.2.1;have hZ:=hD3.2.2.1;have sM:=hZ.cell 0;have wG:=hZ.free 0;have sN:=hZ.cell 1;have wH:=hZ.free 1;have sO:=hZ.cell 2;have wI:=hZ.free 2;simp at sM sN sO;have q0:=hG.cell 0;have q1:=hG.cell 1;simp at q0 q1;have HB1:=aiS hD3.2.2.2.1;have HZ1:=aiS hZ;have hsz:=hD3.2.2.2.1.size;have HO:=aiS hxo
        obtain ⟨va,vc,rfl,_⟩:=hxo.slice
        have MJ : Hid (∀ j,(Value.slice va xs.length vc).ownBlock = some j -> w.heap.size + 3 <= j):=aiS (λj e=>by have:=(hxo.lt j e).1;have:=HD2.out.2.2.2.2;omega)
        have ZB : Hid (w.heap.size <= (wr.alloc (.cells #[.map (some M)] lV)).heap.size):=aiS (by have:=HD2.out.2.2.2.2;omega)
        have MK:=aiS hxe;clear hZ hG hxp hxs hxo hxb hD3 Rk sf HD2 Bt hxe
        go_wp2
        exact bodyPost_ret (v:=.tuple #[.agg #[.int .i64 g.tick,.int .i64 g.time,.slice va xs.length vc],.int .i64 0])
         (by have hh:=fB (v0:=.int .i64 g.tick) (v1:=.int .i64 g.time) (v2:=.slice va xs.length vc) HZ1.out
             have g0:=hh.cell 0;have g1:=hh.cell 1;have g2:=hh.cell 2;simp at g0 g1 g2
             simp [results,Tryz.results117,go_sem,g0,g1,g2]) rfl
         ⟨_,by rw [HV.out],by rw [HV.out];simp only;rw [← MK.out];exact aM.only (aM.base HO.out ZB.out) (kS (S:=λk=>k = w.heap.size + 2) (Only.refl _ _) (.inl rfl)) (λj e h=>by have:=MJ.out j e;omega),dz HB1.out (by omega)⟩
    ·have aeT : (tick != g.base) = true:=by simpa using htb
     have HV : Hid (z = (dD,14)):=aiS (by rw [HZ3.out,if_neg (by simp),if_pos (by simpa using htb)])
     clear hD2 HZ3 G9 htb
     go_wp2
     exact bodyPost_ret (v:=.tuple #[.agg #[.int .i64 0,.int .i64 0,.slice none 0 0],.int .i64 14])
      (by have hh:=fB (v0:=.int .i64 0) (v1:=.int .i64 0) (v2:=.slice none 0 0) HZ1.out
          have g0:=hh.cell 0;have g1:=hh.cell 1;have g2:=hh.cell 2;simp at g0 g1 g2
          simp [results,Tryz.results117,go_sem,g0,g1,g2]) rfl
      ⟨.slice none 0 0,by rw [HV.out];rfl,by rw [HV.out];exact aM.nil _ _,dz HB1.out (by omega)⟩
   ·have hsc2 : (sc != 0) = true:=by simpa using hsc
    have HV : Hid (z = (dD,sc)):=aiS (by rw [HZ3.out,if_pos hsc])
    clear hD2 HZ3 G9 hsc
    go_wp2
    exact bodyPost_ret (v:=.tuple #[.agg #[.int .i64 0,.int .i64 0,.slice none 0 0],.int .i64 sc])
     (by have hh:=fB (v0:=.int .i64 0) (v1:=.int .i64 0) (v2:=.slice none 0 0) HZ1.out
         have g0:=hh.cell 0;have g1:=hh.cell 1;have g2:=hh.cell 2;simp at g0 g1 g2
         simp [results,Tryz.results117,go_sem,g0,g1,g2]) rfl
     ⟨.slice none 0 0,by rw [HV.out];rfl,by rw [HV.out];exact aM.nil _ _,dz HB1.out (by omega)⟩
  ·have HF : Hid (z = fD g []):=aiS (by rw [HZ2.out,if_neg hbase])
   have HD:=Zu;have HM:=HMm;clear J6 HZ2
   have HS : Hid (uf w #[.int .i64 tick,.int .i64 time,.slice ae es.length gB] #[.int .i64 g.tick,.int .i64 g.time,.int .i64 g.base,.slice ga g.recs.length cap] [] g.recs w1.heap.size 0 (w1.alloc (.map #[] 0))):=aiS ⟨_,HD.out,HM.out.1,HM.out.2.1,by simp,HM.out.2.2⟩
   have hG:=HD.out.2.1;have g3:=hG.cell 3;simp at g3;clear hG
   go_wp2_with fail
   go_loopw [10,11,42] (λ_ _ i wr=>∃ k : Nat,k <= g.recs.length /\ i = .int .i64 k /\ uf w #[.int .i64 tick,.int .i64 time,.slice ae es.length gB] #[.int .i64 g.tick,.int .i64 g.time,.int .i64 g.base,.slice ga g.recs.length cap] [] g.recs w1.heap.size k wr) (λ_ _ i _=>g.recs.length - (intOf i).toNat)
   case atStart=>exact ⟨0,Nat.zero_le _,rfl,HS.out⟩
   case round =>
    rename_i wr
    obtain ⟨k,hk,rfl,l,hD,hM,hMs,kL,hok⟩:=hrel
    clear g3
    by_cases hlt : k < g.recs.length
    ·have hlt' : (k : Int) < g.recs.length:=by omega
     obtain ⟨r,hr⟩ : ∃ r,g.recs[k]? = some r:=⟨_,List.getElem?_eq_getElem hlt⟩
     have hdrop : g.recs.drop k = r :: g.recs.drop (k + 1):=by
      rw [List.drop_eq_getElem_cons hlt]
      rw [List.getElem?_eq_getElem hlt] at hr
      cases hr;rfl
     rw [hdrop,kR] at kL
     have hmem : r ∈ g.recs:=List.mem_of_getElem? hr
     have hrc:=iN.out r hmem;have uY:=HR.out.1 r hmem
     obtain ⟨b,off,UG,hbl,hcs⟩ : ∃ b off,ga = some ⟨b,off,none⟩ /\ b < w.heap.size /\ ∀ i r,g.recs[i]? = some r -> oN w b (off + i * 9) r:=by
      rcases HR.out.2 with h0 | h0
      ·rw [h0] at hlt;simp at hlt
      ·exact h0
     have hc:=(hcs k r hr).below hD.2.2.2.1 hbl
     have aeU : 0 <= r.kind /\ r.kind <= 3:=by unfold dH at hrc;split at hrc;cases hrc;omega
     have zN : Below wr.heap.size wr (wr.alloc (.cells (aX r) 147)):=aiT
     have hM1:=hM.below zN hM.lt;have hlk:=zK hM1 r.id;have hD1:=hD.below zN
     obtain ⟨x,hfx⟩ : ∃ x,(eZ l r.id).getD bK = x:=⟨_,rfl⟩
     have zO : Below (wr.alloc (.cells (aX r) 147)).heap.size (wr.alloc (.cells (aX r) 147)) ((wr.alloc (.cells (aX r) 147)).alloc (.cells (bN x) 33)):=aiT
     have hM2:=hM1.below zO hM1.lt;have hD2:=hD1.below zO
     have jD : Hid (iV l r = match eZ l r.id with | some x=>if r.kind = 0 then none else if r.kind = 2 then some (kK l r.id) else some (fG l (fH x r).1) | none=>if r.kind = 0 then some (fG l ⟨r.id,r.px,r.py,r.pz,r.vx,r.vy,r.vz,r.aJ,0⟩) else none):=aiS rfl
     have oP : Hid (∀ l',iV l r = some l' -> ∀ e ∈ l',e.Ok):=aiS (λl' h=>D5 h hok uY)
     have qY : Hid (eZ l r.id = some x -> x.id = r.id):=aiS (λh=>(xO h).2)
     have pV : Hid (r.kind ≠ 0 -> r.kind ≠ 2 -> x.id = r.id -> (fH x r).1.id = r.id):=aiS (λh1 h2 h3=>BF hrc h3 h1 h2)
     have ap:=λW=>JZ x r W
     have hsz2 : ((wr.alloc (.cells (aX r) 147)).alloc (.cells (bN x) 33)).heap.size = wr.heap.size + 2:=by simp
     have Gd:=hM.lt
     subst UG
     cases hf : eZ l r.id with
     | none =>
       rw [hf] at hlk hfx
       simp only [Option.getD_none,Option.isSome_none] at hlk hfx
       subst hfx
       by_cases hk0 : r.kind = 0
       ·have fC : Hid (iV l r = some (fG l ⟨r.id,r.px,r.py,r.pz,r.vx,r.vy,r.vz,r.aJ,0⟩)):=aiS (by rw [jD.out,hf];simp only;rw [if_pos hk0])
        obtain ⟨w3,hup,xQ,hO3⟩:=rY hM2 ⟨r.id,r.px,r.py,r.pz,r.vx,r.vy,r.vz,r.aJ,0⟩
        have hD3:=hD2.only hO3 (λk hk=>by omega)
        have wJ:=oP.out _ fC.out;clear jD oP qY pV ap
        have HS2 : Hid (uf w #[.int .i64 tick,.int .i64 time,.slice ae es.length gB] #[.int .i64 g.tick,.int .i64 g.time,.int .i64 g.base,.slice (some ⟨b,off,none⟩) g.recs.length cap] [] g.recs w1.heap.size (k + 1) w3):=aiS ⟨_,hD3,xQ,hMs,kL.trans (by rw [fC.out]),wJ⟩
        clear hD1 hD2 hM1 hM2 hM hD hD3 xQ kL hok wJ HS
        obtain ⟨rk,ri,p1,p2,p3,q1,q2,q3,ra⟩:=r
        obtain ⟨c0,c1,c2,c3,c4,c5,c6,c7,c8⟩:=hc
        unfold bM bK at hlk
        unfold bM at hup
        simp only [bN,bK] at *
        subst hk0
        clear hO3
        go_wp2
        go_roundw
        case rel=>exact ⟨k + 1,by omega,by go_num,HS2.out⟩
        case measure=>simp [intOf];omega
       ·have fC : Hid (iV l r = none):=aiS (by rw [jD.out,hf];simp only;rw [if_neg hk0])
        have HV : Hid (z = (dD,15)):=aiS (by rw [HF.out];unfold fD;rw [kL,fC.out])
        have hZ:=hD2.2.2.1;have sM:=hZ.cell 0;have wG:=hZ.free 0;have sN:=hZ.cell 1;have wH:=hZ.free 1;have sO:=hZ.cell 2;have wI:=hZ.free 2;simp at sM sN sO;have HB1:=aiS hD2.2.2.2.1;have HZ1:=aiS hZ;clear hD1 hD2 hM1 hM2 hM hD hZ kL hok HF HD HM HS HR iN uY oP qY pV ap jD
        have UH : (r.kind == 0) = false:=by simpa using hk0
        obtain ⟨rk,ri,p1,p2,p3,q1,q2,q3,ra⟩:=r
        obtain ⟨c0,c1,c2,c3,c4,c5,c6,c7,c8⟩:=hc
        unfold bM bK at hlk
        simp only [bN,bK] at *
        go_wp2
        exact bodyPost_ret (v:=.tuple #[.agg #[.int .i64 0,.int .i64 0,.slice none 0 0],.int .i64 15])
         (by have hh:=fB (v0:=.int .i64 0) (v1:=.int .i64 0) (v2:=.slice none 0 0) HZ1.out
             have g0:=hh.cell 0;have g1:=hh.cell 1;have g2:=hh.cell 2;simp at g0 g1 g2
             simp [results,Tryz.results117,go_sem,g0,g1,g2]) rfl
         ⟨.slice none 0 0,by rw [HV.out];rfl,by rw [HV.out];exact aM.nil _ _,dz HB1.out (by omega)⟩
     | some y =>
       rw [hf] at hlk hfx
       simp only [Option.getD_some,Option.isSome_some] at hlk hfx
       subst hfx
       have UJ:=aiS (qY.out hf)
       by_cases hk0 : r.kind = 0
       ·have fC : Hid (iV l r = none):=aiS (by rw [jD.out,hf];simp only;rw [if_pos hk0])
        have HV : Hid (z = (dD,15)):=aiS (by rw [HF.out];unfold fD;rw [kL,fC.out])
        have hZ:=hD2.2.2.1;have sM:=hZ.cell 0;have wG:=hZ.free 0;have sN:=hZ.cell 1;have wH:=hZ.free 1;have sO:=hZ.cell 2;have wI:=hZ.free 2;simp at sM sN sO;have HB1:=aiS hD2.2.2.2.1;have HZ1:=aiS hZ;clear hD1 hD2 hM1 hM2 hM hD hZ kL hok HF HD HM HS HR iN uY oP qY pV ap jD
        obtain ⟨rk,ri,p1,p2,p3,q1,q2,q3,ra⟩:=r
        obtain ⟨c0,c1,c2,c3,c4,c5,c6,c7,c8⟩:=hc
        obtain ⟨ei,e1,e2,e3,e4,e5,e6,e7,e8⟩:=y
        unfold bM at hlk
        simp only [bN] at *
        subst hk0
        go_wp2
        exact bodyPost_ret (v:=.tuple #[.agg #[.int .i64 0,.int .i64 0,.slice none 0 0],.int .i64 15])
         (by have hh:=fB (v0:=.int .i64 0) (v1:=.int .i64 0) (v2:=.slice none 0 0) HZ1.out
             have g0:=hh.cell 0;have g1:=hh.cell 1;have g2:=hh.cell 2;simp at g0 g1 g2
             simp [results,Tryz.results117,go_sem,g0,g1,g2]) rfl
         ⟨.slice none 0 0,by rw [HV.out];rfl,by rw [HV.out];exact aM.nil _ _,dz HB1.out (by omega)⟩
       ·have UH : (r.kind == 0) = false:=by simpa using hk0
        by_cases hk2 : r.kind = 2
        ·have fC : Hid (iV l r = some (kK l r.id)):=aiS (by rw [jD.out,hf];simp only;rw [if_neg hk0,if_pos hk2])
         obtain ⟨w3,hup,xQ,hO3⟩:=zM hM2 r.id 0 3
         have hD3:=hD2.only hO3 (λk hk=>by omega)
         have wJ:=oP.out _ fC.out;clear jD oP qY pV ap
         have HS2 : Hid (uf w #[.int .i64 tick,.int .i64 time,.slice ae es.length gB] #[.int .i64 g.tick,.int .i64 g.time,.int .i64 g.base,.slice (some ⟨b,off,none⟩) g.recs.length cap] [] g.recs w1.heap.size (k + 1) w3):=aiS ⟨_,hD3,xQ,hMs,kL.trans (by rw [fC.out]),wJ⟩
         clear hD1 hD2 hM1 hM2 hM hD hD3 xQ kL hok wJ HS
         obtain ⟨rk,ri,p1,p2,p3,q1,q2,q3,ra⟩:=r
         obtain ⟨c0,c1,c2,c3,c4,c5,c6,c7,c8⟩:=hc
         obtain ⟨ei,e1,e2,e3,e4,e5,e6,e7,e8⟩:=y
         unfold bM at hlk
         simp only [bN] at *
         subst hk2
         clear hO3
         go_wp2
         go_roundw
         case rel=>exact ⟨k + 1,by omega,by go_num,HS2.out⟩
         case measure=>simp [intOf];omega
        ·have fC : Hid (iV l r = some (fG l (fH y r).1)):=aiS (by rw [jD.out,hf];simp only;rw [if_neg hk0,if_neg hk2])
         have aeV : (r.kind == 2) = false:=by simpa using hk2
         have J7:=pV.out hk0 hk2 UJ.out;have J8:=oP.out _ fC.out
         have J9:=aiS (show nA w #[.int .i64 tick,.int .i64 time,.slice ae es.length gB] #[.int .i64 g.tick,.int .i64 g.time,.int .i64 g.base,.slice (some ⟨b,off,none⟩) g.recs.length cap] ((wr.alloc (.cells (aX r) 147)).alloc (.cells (bN y) 33)) /\ bW ((wr.alloc (.cells (aX r) 147)).alloc (.cells (bN y) 33)) w1.heap.size l from ⟨hD2,hM2⟩)
         have Zv : Hid (∀ w3,nA w #[.int .i64 tick,.int .i64 time,.slice ae es.length gB] #[.int .i64 g.tick,.int .i64 g.time,.int .i64 g.base,.slice (some ⟨b,off,none⟩) g.recs.length cap] w3 -> bW w3 w1.heap.size (fG l (fH y r).1) -> uf w #[.int .i64 tick,.int .i64 time,.slice ae es.length gB] #[.int .i64 g.tick,.int .i64 g.time,.int .i64 g.base,.slice (some ⟨b,off,none⟩) g.recs.length cap] [] g.recs w1.heap.size (k + 1) w3):=aiS (λw3 h1 h2=>⟨_,h1,h2,hMs,kL.trans (by rw [fC.out]),J8⟩)
         have He : Hid (∀ W,bW W w1.heap.size l -> ∃ w',(Instr.mapUpdate lV (.map (some w1.heap.size)) (.int .i64 r.id) (.agg (bN (fH y r).1))).run Tryz.prog W = .ok () w' /\ bW w' w1.heap.size (fG l (fH y r).1) /\ Only (λk=>k = w1.heap.size) W w'):=aiS (λW h=>by have:=rY h (fH y r).1;rwa [J7] at this)
         generalize fH y r = q at *
         clear hD1 hD2 hM1 hM2 hM hD kL hok HS jD oP qY pV fC J8 J7
         obtain ⟨rk,ri,p1,p2,p3,q1,q2,q3,ra⟩:=r
         obtain ⟨c0,c1,c2,c3,c4,c5,c6,c7,c8⟩:=hc
         obtain ⟨ei,e1,e2,e3,e4,e5,e6,e7,e8⟩:=y
         unfold bM at hlk
         unfold bM lT at ap
         simp only [bN] at hlk ap J9
         simp only at *
         have HI : Hid (BG w #[.int .i64 tick,.int .i64 time,.slice ae es.length gB] #[.int .i64 g.tick,.int .i64 g.time,.int .i64 g.base,.slice (some ⟨b,off,none⟩) g.recs.length cap] wr.heap.size (wr.heap.size + 1) ⟨rk,ri,p1,p2,p3,q1,q2,q3,ra⟩ ⟨ei,e1,e2,e3,e4,e5,e6,e7,e8⟩ w1.heap.size l (fG l q.1) [] ((wr.alloc (.cells (aX ⟨rk,ri,p1,p2,p3,q1,q2,q3,ra⟩) 147)).alloc (.cells (bN ⟨ei,e1,e2,e3,e4,e5,e6,e7,e8⟩) 33)).drew):=aiS (by
          obtain ⟨h1,h2⟩:=J9.out
          refine ⟨⟨h1.below (below_drewN aiU 1),(ak.new wr _ _).alloc _,?_⟩,h2.below (below_drewN aiU 1) h2.lt⟩
          have:=ak.new (wr.alloc (.cells (aX ⟨rk,ri,p1,p2,p3,q1,q2,q3,ra⟩) 147)) (bN ⟨ei,e1,e2,e3,e4,e5,e6,e7,e8⟩) 33
          rw [show (wr.alloc (.cells (aX ⟨rk,ri,p1,p2,p3,q1,q2,q3,ra⟩) 147)).heap.size = wr.heap.size + 1 by simp] at this
          exact this)
         have Bc:=aiS (show w1.heap.size < wr.heap.size /\ w.heap.size + 3 <= w1.heap.size from ⟨Gd,hMs⟩)
         clear J9 Gd hMs
         go_wp2_with fail
         apply wE [9] (BG w #[.int .i64 tick,.int .i64 time,.slice ae es.length gB] #[.int .i64 g.tick,.int .i64 g.time,.int .i64 g.base,.slice (some ⟨b,off,none⟩) g.recs.length cap] wr.heap.size (wr.heap.size + 1) ⟨rk,ri,p1,p2,p3,q1,q2,q3,ra⟩ ⟨ei,e1,e2,e3,e4,e5,e6,e7,e8⟩ w1.heap.size l (fG l q.1))
         case hm=>kernel_rfl
         case hB=>kernel_rfl
         case hp=>kernel_rfl
         case hI=>exact HI.out
         repeat (apply bZ;(next=>rfl);(next=>(intro b W hW K hK;have yX:=hW.rec;have yE:=hW.ent;unfold aX at yX;have x0:=yX.cell 0;have Zw:=yE.cell 0;have x1:=yX.cell 1;have Zx:=yE.cell 1;have x2:=yX.cell 2;have e2':=yE.cell 2;have x3:=yX.cell 3;have e3':=yE.cell 3;have x4:=yX.cell 4;have e4':=yE.cell 4;have x5:=yX.cell 5;have e5':=yE.cell 5;have x6:=yX.cell 6;have Zy:=yE.cell 6;have x7:=yX.cell 7;have Zz:=yE.cell 7;have x8:=yX.cell 8;have ZA:=yE.cell 8;simp at x0 Zw x1 Zx x2 e2' x3 e3' x4 e4' x5 e5' x6 Zy x7 Zz x8 ZA; go_simp;first | exact ⟨hW,hK⟩ | exact hK));(next=>exact ⟨_,HI.out⟩);(try go_simp))
         (apply bZ;(next=>rfl);(next=>(intro b W hW K hK;go_simp;first | exact ⟨hW,_,(ap W).mono (λe w' hh=>⟨hh.1,hW.below hh.2⟩),hK⟩ | exact ⟨_,(ap W).mono (λe w' hh=>⟨hh.1,hW.below hh.2⟩),hK⟩));(next=>exact ⟨_,HI.out⟩);(try go_simp))
         repeat (apply bZ;(next=>rfl);(next=>(intro b W hW K hK;go_simp;first | exact ⟨hW,hK⟩ | exact hK));(next=>exact ⟨_,HI.out⟩);(try go_simp))
         apply dL (s:=λ_=>True)
         case hk=>rfl
         case hne=>exact ⟨undef,trivial⟩
         case hw=>rfl
         case h =>
          intro W hW
          obtain ⟨hB,Wd⟩:=hW
          obtain ⟨w',hrun,hM',Ka⟩:=He.out W Wd
          simp only [bN] at hrun
          go_simp
          have h1:=Bc.out
          exact ⟨⟨hB.1.only Ka (λk hk=>by omega),Ka.blk hB.2.1 (by omega),Ka.blk hB.2.2 (by omega)⟩,hM'⟩
         intro uu _
         refine kC ?_
         intro WC aP
         have HS2:=aiS (Zv.out WC aP.1.1 aP.2);clear aP
         go_wp2
         go_roundw
         case rel=>exact ⟨k + 1,by omega,by go_num,HS2.out⟩
         case measure=>simp [intOf];omega
    ·obtain rfl : k = g.recs.length:=by omega
     rw [List.drop_length] at kL
     have zP : kR [] g.recs = some l:=kL
     obtain ⟨es0,Kc,hb0,he0,_,_,hnd⟩:=hM
     have hM : bW wr w1.heap.size l:=⟨es0,Kc,hb0,he0,by assumption,by assumption,hnd⟩
     clear hb0 he0;have hln:=MC hM 3
     by_cases hbig : 64 < l.length
     ·have HV : Hid (z = (dD,4)):=aiS (by rw [HF.out];unfold fD;rw [zP];simp only;rw [if_pos hbig])
      have hbig2 : (64 : Int) < l.length:=by omega
      have hZ:=hD.2.2.1;have sM:=hZ.cell 0;have wG:=hZ.free 0;have sN:=hZ.cell 1;have wH:=hZ.free 1;have sO:=hZ.cell 2;have wI:=hZ.free 2;simp at sM sN sO;have HB1:=aiS hD.2.2.2.1;have HZ1:=aiS hZ;clear hZ kL zP hok HF HD HM HS HR iN hbig hD hM hnd
      go_wp2
      exact bodyPost_ret (v:=.tuple #[.agg #[.int .i64 0,.int .i64 0,.slice none 0 0],.int .i64 4])
       (by have hh:=fB (v0:=.int .i64 0) (v1:=.int .i64 0) (v2:=.slice none 0 0) HZ1.out
           have g0:=hh.cell 0;have g1:=hh.cell 1;have g2:=hh.cell 2;simp at g0 g1 g2
           simp [results,Tryz.results117,go_sem,g0,g1,g2]) rfl
       ⟨.slice none 0 0,by rw [HV.out];rfl,by rw [HV.out];exact aM.nil _ _,dz HB1.out (by omega)⟩
     ·have HV : Hid (z = (⟨g.tick,g.time,uQ l⟩,0)):=aiS (by rw [HF.out];unfold fD;rw [zP];simp only;rw [if_neg hbig])
      have hbig2 : ¬ (64 : Int) < l.length:=by omega
      have Rk:=(callsIn_wide (n:=9)).1 (values_in Fence.wide 9 trivial rfl (some w1.heap.size) wr)
      have iO : Below wr.heap.size wr (wr.alloc (.cells #[.map (some w1.heap.size)] lV)):=aiT
      have sf:=Bw wr.heap.size w1.heap.size l (by omega) (wr.alloc (.cells #[.map (some w1.heap.size)] lV)) (by simp) ((ak.new wr #[.map (some w1.heap.size)] lV).cell 0) (hM.below iO hM.lt)
      have hD2:=hD.below iO;have HD2:=aiS hD2;have Bt:=aiS hnd;clear kL zP hok HF HD HM HS HR iN hbig hD hM hnd hD2 iO
      go_wp2_with fail
      refine Rk.mono ?_;rintro e w5 ⟨rfl,rfl⟩
      go_wp2_with fail
      refine sf.mono ?_;rintro e w6 ⟨vv,xs,rfl,hxp,hxs,hxo,hxb⟩
      have hD3:=HD2.out.below hxb
      have hxe : xs = uQ l:=Gc hxp hxs Bt.out
      have hG:=hD3.2.1;have hZ:=hD3.2.2.1;have sM:=hZ.cell 0;have wG:=hZ.free 0;have sN:=hZ.cell 1;have wH:=hZ.free 1;have sO:=hZ.cell 2;have wI:=hZ.free 2;simp at sM sN sO;have q0:=hG.cell 0;have q1:=hG.cell 1;simp at q0 q1;have HB1:=aiS hD3.2.2.2.1;have HZ1:=aiS hZ;have hsz:=hD3.2.2.2.1.size;have HO:=aiS hxo
      obtain ⟨va,vc,rfl,_⟩:=hxo.slice
      have MJ : Hid (∀ j,(Value.slice va xs.length vc).ownBlock = some j -> w.heap.size + 3 <= j):=aiS (λj e=>by have:=(hxo.lt j e).1;have:=HD2.out.2.2.2.2;omega)
      have ZB : Hid (w.heap.size <= (wr.alloc (.cells #[.map (some w1.heap.size)] lV)).heap.size):=aiS (by have:=HD2.out.2.2.2.2;omega)
      have MK:=aiS hxe;clear hZ hG hxp hxs hxo hxb hD3 Rk sf HD2 Bt hxe
      go_wp2
      exact bodyPost_ret (v:=.tuple #[.agg #[.int .i64 g.tick,.int .i64 g.time,.slice va xs.length vc],.int .i64 0])
       (by have hh:=fB (v0:=.int .i64 g.tick) (v1:=.int .i64 g.time) (v2:=.slice va xs.length vc) HZ1.out
           have g0:=hh.cell 0;have g1:=hh.cell 1;have g2:=hh.cell 2;simp at g0 g1 g2
           simp [results,Tryz.results117,go_sem,g0,g1,g2]) rfl
       ⟨_,by rw [HV.out],by rw [HV.out];simp only;rw [← MK.out];exact aM.only (aM.base HO.out ZB.out) (kS (S:=λk=>k = w.heap.size + 2) (Only.refl _ _) (.inl rfl)) (λj e h=>by have:=MJ.out j e;omega),dz HB1.out (by omega)⟩
 ·have HV : Hid (z = (dD,ge)):=aiS (by rw [HZ.out,if_pos hge])
  have ah0 : (ge != 0) = true:=by simpa using hge
  have hZ:=hD1.2.2.1;have c0:=hZ.cell 0;have f0:=hZ.free 0;have c1:=hZ.cell 1;have f1:=hZ.free 1;have c2:=hZ.cell 2;have f2:=hZ.free 2;simp at c0 c1 c2;have HB1:=aiS hD1.2.2.2.1;have HZ1:=aiS hZ;clear hD1 hZ HZ hge UF
  go_wp2
  exact bodyPost_ret (v:=.tuple #[.agg #[.int .i64 0,.int .i64 0,.slice none 0 0],.int .i64 ge])
   (by have hh:=fB (v0:=.int .i64 0) (v1:=.int .i64 0) (v2:=.slice none 0 0) HZ1.out
       have g0:=hh.cell 0;have g1:=hh.cell 1;have g2:=hh.cell 2;simp at g0 g1 g2
       simp [results,Tryz.results117,go_sem,g0,g1,g2]) rfl
   ⟨.slice none 0 0,by rw [HV.out];rfl,by rw [HV.out];exact aM.nil _ _,dz HB1.out (by omega)⟩
end Go.Proofs.YtklkooeimkedgaaGreat
namespace Go.Proofs.YtklkooeimkedgaaGreat
open Go.RowKit
set_option maxRecDepth 100000
structure aG where
 key : Int
 sn : Sn
 a : Option Addr
 cap : Nat
abbrev fQ (k : aG) : Value:=.slice k.a k.sn.ents.length k.cap
def oQ (k : aG) : List Value:=[.int .i64 k.key,.int .i64 k.sn.tick,.int .i64 k.sn.time,fQ k]
abbrev bL : TypeId:=221
abbrev vF : TypeId:=195
def qF (l : List aG) : Prop:=l.Pairwise (λa b=>a.key < b.key)
structure lI (w : World) (R : Nat) (l : List aG) (most floor : Int) (gone : Bool) (S : Nat -> Prop) (v : Value) : Prop where
 blk : ak w R #[v,.int .i64 most,.int .i64 floor,.bool gone] vF
 row : w.ownsRow 0 bL 4 v l.length (l.flatMap oQ)
 ents : ∀ k ∈ l,aM w 0 (fQ k) k.sn.ents /\ ∀ e ∈ k.sn.ents,e.Ok
 sR : S R
 sv : ∀ j,v.ownBlock = some j -> S j
 se : ∀ k ∈ l,∀ j,(fQ k).ownBlock = some j -> S j
 up : qF l
 len : (l.length : Int) <= 64
def RingAt (w : World) (R : Nat) (l : List aG) (most floor : Int) (gone : Bool) (S : Nat -> Prop) : Prop:=∃ v,lI w R l most floor gone S v
theorem oU {w w' : World} {base k n : Nat} {e : TypeId} {v : Value} {xs : List Value} {S : Nat -> Prop} (h : w.ownsRow base e k v n xs) (ho : Only S w w') (hS : ∀ j,v.ownBlock = some j -> ¬ S j) : w'.ownsRow base e k v n xs:=by
 have hlt:=h.lt
 obtain ⟨h1,h2⟩:=h
 refine ⟨h1,?_⟩
 rcases h2 with h2 | ⟨g,cap,cur,rfl,a,b,c⟩
 ·exact .inl h2
 ·exact .inr ⟨g,cap,cur,rfl,a,by rw [ho.block g (hlt g rfl).2 (hS g rfl)];exact b,c⟩
theorem lI.only {w w' : World} {R : Nat} {l : List aG} {most floor : Int} {gone : Bool} {S T : Nat -> Prop} {v : Value} (h : lI w R l most floor gone S v) (ho : Only T w w') (hd : ∀ k,S k -> ¬ T k) : lI w' R l most floor gone S v :=
 ⟨ho.blk h.blk (hd _ h.sR),oU h.row ho (λj e=>hd j (h.sv j e)),λk hk=>⟨(h.ents k hk).1.only ho (λj e=>hd j (h.se k hk j e)),(h.ents k hk).2⟩,h.sR,h.sv,h.se,h.up,h.len⟩
theorem RingAt.only {w w' : World} {R : Nat} {l : List aG} {most floor : Int} {gone : Bool} {S T : Nat -> Prop} (h : RingAt w R l most floor gone S) (ho : Only T w w') (hd : ∀ k,S k -> ¬ T k) : RingAt w' R l most floor gone S:=by
 obtain ⟨v,h⟩:=h;exact ⟨v,h.only ho hd⟩
theorem RingAt.below {w w' : World} {R : Nat} {l : List aG} {most floor : Int} {gone : Bool} {S : Nat -> Prop} (h : RingAt w R l most floor gone S) (hb : Below w.heap.size w w') : RingAt w' R l most floor gone S :=
 h.only (Only.of_below (S:=λ_=>False) hb) (λ_ _ h=>h)
theorem lI.slice {w : World} {R : Nat} {l : List aG} {most floor : Int} {gone : Bool} {S : Nat -> Prop} {v : Value} (h : lI w R l most floor gone S v) : ∃ a c,v = .slice a l.length c /\ (a = none -> c = 0) /\ l.length <= c:=by
 obtain ⟨_,⟨rfl,hn⟩ | ⟨g,cap,cur,rfl,a,b,c,d⟩⟩:=h.row
 ·exact ⟨none,0,by rw [hn],λ_=>rfl,by omega⟩
 ·exact ⟨_,_,rfl,λh=>(by cases h),c⟩
theorem Wh : ∀ (d : List aG) (i : Nat) (x : aG),d[i]? = some x -> ∀ j,j < 4 -> (d.flatMap oQ)[i * 4 + j]? = (oQ x)[j]?
 | [],i,r,h,_,_=>by simp at h
 | y :: d,0,x,h,j,hj=>by
   simp at h;subst h
   rw [List.flatMap_cons,List.getElem?_append_left (by show _ < 4;omega)]
   congr 1;omega
 | y :: d,i + 1,x,h,j,hj=>by
   have h' : d[i]? = some x:=by simpa using h
   rw [List.flatMap_cons,List.getElem?_append_right (by show 4 <= _;omega),show (oQ y).length = 4 from rfl,show (i + 1) * 4 + j - 4 = i * 4 + j by omega]
   exact Wh d i x h' j hj
theorem lI.cells {w : World} {R : Nat} {l : List aG} {most floor : Int} {gone : Bool} {S : Nat -> Prop} {v : Value} (h : lI w R l most floor gone S v) {i : Nat} {x : aG} (hx : l[i]? = some x) :
 ∃ g c,v = .slice (some ⟨g,0,none⟩) l.length c /\ w.cell? ⟨g,i * 4,none⟩ = some (.int .i64 x.key) /\ w.cell? ⟨g,i * 4 + 1,none⟩ = some (.int .i64 x.sn.tick) /\ w.cell? ⟨g,i * 4 + 2,none⟩ = some (.int .i64 x.sn.time) /\ w.cell? ⟨g,i * 4 + 3,none⟩ = some (fQ x):=by
 have hi : i < l.length:=(List.getElem?_eq_some_iff.1 hx).1
 have hc:=λg hg=>h.row.cells (g:=g) hg
 obtain ⟨_,⟨rfl,hn⟩ | ⟨g,cap,cur,rfl,a,b,c,d⟩⟩:=h.row
 ·omega
 ·have hf:=Wh l i x hx
  have ha : ∀ o,(⟨g,0,none⟩ : Addr).add o = ⟨g,o,none⟩:=λo=>by unfold Addr.add;split <;> simp_all
  have cell : ∀ j u,j < 4 -> (oQ x)[j]? = some u -> w.cell? ⟨g,i * 4 + j,none⟩ = some u:=λj u hj hu=>by
   rw [← ha];exact hc g rfl _ _ (by rw [hf j hj];exact hu)
  exact ⟨g,cap,rfl,cell 0 _ (by decide) rfl,cell 1 _ (by decide) rfl,cell 2 _ (by decide) rfl,cell 3 _ (by decide) rfl⟩
theorem UK (most : Int) (h1 : 1 <= most) (h2 : most <= 64) (w : World) :
 Calls Tryz.prog 69 #[.int .i64 most] w λe w'=>e = .returned (.tuple #[.pointer (some ⟨w.heap.size,0,none⟩),.int .i64 0]) /\ RingAt w' w.heap.size [] most 0 false (λk=>k = w.heap.size) /\ Below w.heap.size w w' /\ w.heap.size < w'.heap.size:=by
 have a1 : ¬ most < 1:=by omega
 have a2 : ¬ 64 < most:=by omega
 have HR : Hid (RingAt (w.alloc (.cells #[.slice none 0 0,.int .i64 most,.int .i64 0,.bool false] vF)) w.heap.size [] most 0 false (λk=>k = w.heap.size)):=aiS
  ⟨.slice none 0 0,ak.new w _ _,World.ownsRow_nil _ _ _ _,λk hk=>(by simp at hk),rfl,λj e=>(by cases e),λk hk=>(by simp at hk),List.Pairwise.nil,by simp⟩
 have HB : Hid (Below w.heap.size w (w.alloc (.cells #[.slice none 0 0,.int .i64 most,.int .i64 0,.bool false] vF)) /\ w.heap.size < (w.alloc (.cells #[.slice none 0 0,.int .i64 most,.int .i64 0,.bool false] vF)).heap.size):=aiS ⟨aiT,by simp⟩
 go_enter Tryz.func69,Tryz.ntmps69
 go_wp2
 exact bodyPost_ret (v:=.tuple #[.pointer (some ⟨w.heap.size,0,none⟩),.int .i64 0]) (by simp [results,Tryz.results69,go_sem]) rfl ⟨rfl,HR.out,HB.out⟩
theorem jy (R : Nat) (l : List aG) (most floor : Int) (gone : Bool) (S : Nat -> Prop) (w : World) (h : RingAt w R l most floor gone S) :
 Calls Tryz.prog 130 #[.pointer (some ⟨R,0,none⟩)] w λe w'=>e = .returned (.int .i64 (l.length : Nat)) /\ w = w':=by
 obtain ⟨v,h⟩:=h
 obtain ⟨a,c,rfl,_,_⟩:=h.slice
 have c0:=h.blk.cell 0;simp at c0;clear h
 go_enter Tryz.func130,Tryz.ntmps130
 go_wp2
 go_ret
 exact ⟨rfl,rfl⟩
theorem Rl (R : Nat) (l : List aG) (most floor : Int) (gone : Bool) (S : Nat -> Prop) (w : World) (h : RingAt w R l most floor gone S) :
 Calls Tryz.prog 167 #[.pointer (some ⟨R,0,none⟩)] w λe w'=>e = .returned (.tuple #[.int .i64 floor,.bool gone]) /\ Below w.heap.size w w':=by
 obtain ⟨v,h⟩:=h
 have c2:=h.blk.cell 2;have c3:=h.blk.cell 3;simp at c2 c3;clear h
 go_enter Tryz.func167,Tryz.ntmps167
 go_wp2_with fail
 go_quiet (fail)
 go_wp2
 exact bodyPost_ret (v:=.tuple #[.int .i64 floor,.bool gone]) (by simp [results,Tryz.results167,go_sem]) rfl ⟨rfl,below_drewN aiU _⟩
end Go.Proofs.YtklkooeimkedgaaGreat
namespace Go.Proofs.YtklkooeimkedgaaGreat
open Go.RowKit
set_option maxRecDepth 100000
def dX (l : List aG) (key : Int) : Nat:=(l.takeWhile (λk=>decide (k.key < key))).length
def eF (l : List aG) (key : Int) : Bool:=(l[dX l key]?).elim false (λk=>k.key == key)
theorem zm (l : List aG) (key : Int) : dX l key <= l.length:=List.Sublist.length_le (List.takeWhile_sublist _)
theorem CQ : ∀ {l : List aG} {key : Int} {i : Nat} {x : aG},qF l -> l[i]? = some x -> (i < dX l key ↔ x.key < key)
 | [],key,i,x,_,h=>by simp at h
 | y :: l,key,0,x,hu,h=>by
   simp at h;subst h
   unfold dX
   by_cases hy : y.key < key
   ·rw [List.takeWhile_cons_of_pos (by simpa using hy)];simp [hy]
   ·rw [List.takeWhile_cons_of_neg (by simpa using hy)];simp [hy]
 | y :: l,key,i + 1,x,hu,h=>by
   have h' : l[i]? = some x:=by simpa using h
   have hp:=List.pairwise_cons.1 hu;have hyx:=hp.1 x (List.mem_of_getElem? h')
   unfold dX
   by_cases hy : y.key < key
   ·rw [List.takeWhile_cons_of_pos (by simpa using hy)]
    have:=CQ (key:=key) hp.2 h'
    unfold dX at this
    simp only [List.length_cons]
    omega
   ·rw [List.takeWhile_cons_of_neg (by simpa using hy)]
    simp
    omega
theorem abR (k : Int) (t m : Int) (s : Value) (key : Int) (w : World) :
 Calls Tryz.prog 175 #[.agg #[.int .i64 k,.int .i64 t,.int .i64 m,s],.int .i64 key] w λe w'=>e = .returned (.int .i64 (if k < key then -1 else if key < k then 1 else 0)) /\ Below w.heap.size w w':=by
 have HB : Hid (Below w.heap.size w (w.alloc (.cells #[.int .i64 k,.int .i64 t,.int .i64 m,s] bL))):=aiS (aiT)
 by_cases h1 : k < key
 ·rw [if_pos h1]
  go_enter Tryz.func175,Tryz.ntmps175
  go_wp2
  go_ret
  exact ⟨rfl,HB.out⟩
 ·rw [if_neg h1]
  by_cases h2 : key < k
  ·rw [if_pos h2]
   go_enter Tryz.func175,Tryz.ntmps175
   go_wp2
   go_ret
   exact ⟨rfl,HB.out⟩
  ·rw [if_neg h2]
   go_enter Tryz.func175,Tryz.ntmps175
   go_wp2
   go_ret
   exact ⟨rfl,HB.out⟩
def Rm (w : World) (a : Option Addr) (l : List aG) : Prop :=
 l = [] \/ ∃ g,a = some ⟨g,0,none⟩ /\ g < w.heap.size /\ ∀ i x,l[i]? = some x -> w.cell? ⟨g,i * 4,none⟩ = some (.int .i64 x.key) /\ w.cell? ⟨g,i * 4 + 1,none⟩ = some (.int .i64 x.sn.tick) /\ w.cell? ⟨g,i * 4 + 2,none⟩ = some (.int .i64 x.sn.time) /\ w.cell? ⟨g,i * 4 + 3,none⟩ = some (fQ x)
set_option maxHeartbeats 1000000 in
theorem Rn (a : Option Addr) (cap : Nat) (l : List aG) (key : Int) (w : World) (h : Rm w a l) (hu : qF l) (hl : (l.length : Int) <= 64) :
 Calls Tryz.prog 174 #[.slice a l.length cap,.int .i64 key,.func (.func 175) #[] #[]] w λe w'=>e = .returned (.tuple #[.int .i64 (dX l key : Nat),.bool (eF l key)]) /\ Below w.heap.size w w':=by
 have HU:=aiS hu;have HK:=aiS h;have GY:=aiS (zm l key)
 have pl:=λk t m s w=>abR k t m s key w
 have HHK : Hid (eF l key = (l[dX l key]?).elim false (λk=>k.key == key)):=aiS rfl
 have dI : Hid (∀ i x,l[i]? = some x -> (i < dX l key ↔ x.key < key)):=aiS (λi x hx=>CQ hu hx)
 generalize eF l key = hk at *
 generalize dX l key = n at *
 clear h hu
 go_enter Tryz.func174,Tryz.ntmps174
 go_wp2_with fail
 go_loopw [9,10,11] (λi j _ wr=>∃ a b : Nat,i = .int .i64 a /\ j = .int .i64 b /\ a <= n /\ n <= b /\ b <= l.length /\ Below w.heap.size w wr) (λi j _ _=>(intOf j).toNat - (intOf i).toNat)
 case atStart=>exact ⟨0,l.length,rfl,rfl,Nat.zero_le _,GY.out,Nat.le_refl _,Below.refl _ _⟩
 case round =>
  rename_i wr
  obtain ⟨a1,b1,rfl,rfl,h1,h2,h3,hB⟩:=hrel
  by_cases hab : a1 < b1
  ·have hlt' : (a1 : Int) < b1:=by omega
   have hm : (a1 + b1) / 2 < l.length:=by omega
   obtain ⟨x,hx⟩ : ∃ x,l[(a1 + b1) / 2]? = some x:=⟨l[(a1 + b1) / 2],List.getElem?_eq_getElem hm⟩
   obtain ⟨g,rfl,hg,hcs⟩ : ∃ g,a = some ⟨g,0,none⟩ /\ g < w.heap.size /\ ∀ i x,l[i]? = some x -> w.cell? ⟨g,i * 4,none⟩ = some (.int .i64 x.key) /\ w.cell? ⟨g,i * 4 + 1,none⟩ = some (.int .i64 x.sn.tick) /\ w.cell? ⟨g,i * 4 + 2,none⟩ = some (.int .i64 x.sn.time) /\ w.cell? ⟨g,i * 4 + 3,none⟩ = some (fQ x):=by
    rcases HK.out with h0 | h0
    ·subst h0;simp at hm
    ·exact h0
   obtain ⟨c0,c1,c2,c3⟩:=hcs _ x hx
   have d0:=(hB.cell (p:=⟨g,(a1 + b1) / 2 * 4,none⟩) hg).trans c0;have d1:=(hB.cell (p:=⟨g,(a1 + b1) / 2 * 4 + 1,none⟩) hg).trans c1;have d2:=(hB.cell (p:=⟨g,(a1 + b1) / 2 * 4 + 2,none⟩) hg).trans c2;have d3:=(hB.cell (p:=⟨g,(a1 + b1) / 2 * 4 + 3,none⟩) hg).trans c3;have HL:=aiS (dI.out _ x hx);clear c0 c1 c2 c3 hcs HK
   have hw : wrap64 ((a1 : Int) + b1) = (a1 : Int) + b1:=by unfold wrap64;omega
   have hw2 : wrap64 (((a1 : Int) + b1) / 2 + 1) = (((a1 + b1) / 2 + 1 : Nat) : Int):=by unfold wrap64;omega
   go_wp2_with fail
   by_cases hkey : x.key < key
   ·have HN:=aiS (HL.out.2 hkey)
    refine (pl x.key x.sn.tick x.sn.time (fQ x) wr).mono ?_
    rw [if_pos hkey]
    rintro e w1 ⟨rfl,hB1⟩
    have uZ:=aiS (hB.trans (hB1.mono hB.size));clear hB hB1 d0 d1 d2 d3
    go_wp2_with fail
    go_roundw
    case rel=>exact ⟨(a1 + b1) / 2 + 1,b1,rfl,rfl,HN.out,by omega,h3,uZ.out⟩
    case measure=>show (b1 : Int).toNat - ((((a1 + b1) / 2 + 1 : Nat) : Int)).toNat < (b1 : Int).toNat - (a1 : Int).toNat;omega
   ·have HN:=aiS (λh=>hkey (HL.out.1 h))
    obtain ⟨r,hr,hr0⟩ : ∃ r : Int,(if x.key < key then (-1 : Int) else if key < x.key then 1 else 0) = r /\ ¬ r < 0:=by
     rw [if_neg hkey];split <;> exact ⟨_,rfl,by decide⟩
    refine (pl x.key x.sn.tick x.sn.time (fQ x) wr).mono ?_
    rw [hr]
    clear hr
    rintro e w1 ⟨rfl,hB1⟩
    have uZ:=aiS (hB.trans (hB1.mono hB.size));clear hB hB1 d0 d1 d2 d3
    go_wp2_with fail
    go_roundw
    case rel=>exact ⟨a1,(a1 + b1) / 2,rfl,by congr 1,h1,Nat.le_of_not_lt HN.out,by omega,uZ.out⟩
    case measure=>show ((((a1 : Int) + b1) / 2)).toNat - (a1 : Int).toNat < (b1 : Int).toNat - (a1 : Int).toNat;omega
  ·obtain rfl : a1 = n:=by omega
   obtain rfl : b1 = a1:=by omega
   by_cases hn : b1 < l.length
   ·have hn' : (b1 : Int) < l.length:=by omega
    obtain ⟨x,hx⟩ : ∃ x,l[b1]? = some x:=⟨l[b1],List.getElem?_eq_getElem hn⟩
    obtain ⟨g,rfl,hg,hcs⟩ : ∃ g,a = some ⟨g,0,none⟩ /\ g < w.heap.size /\ ∀ i x,l[i]? = some x -> w.cell? ⟨g,i * 4,none⟩ = some (.int .i64 x.key) /\ w.cell? ⟨g,i * 4 + 1,none⟩ = some (.int .i64 x.sn.tick) /\ w.cell? ⟨g,i * 4 + 2,none⟩ = some (.int .i64 x.sn.time) /\ w.cell? ⟨g,i * 4 + 3,none⟩ = some (fQ x):=by
     rcases HK.out with h0 | h0
     ·subst h0;simp at hn
     ·exact h0
    obtain ⟨c0,c1,c2,c3⟩:=hcs _ x hx
    have d0:=(hB.cell (p:=⟨g,b1 * 4,none⟩) hg).trans c0;have d1:=(hB.cell (p:=⟨g,b1 * 4 + 1,none⟩) hg).trans c1;have d2:=(hB.cell (p:=⟨g,b1 * 4 + 2,none⟩) hg).trans c2;have d3:=(hB.cell (p:=⟨g,b1 * 4 + 3,none⟩) hg).trans c3;have HL:=aiS (dI.out _ x hx);clear c0 c1 c2 c3 hcs HK;have Ro:=HHK.out
    rw [hx] at Ro
    go_wp2_with fail
    have hnk : ¬ x.key < key:=λh=>Nat.lt_irrefl _ (HL.out.2 h)
    refine (pl x.key x.sn.tick x.sn.time (fQ x) wr).mono ?_
    rw [if_neg hnk]
    by_cases hk2 : key < x.key
    ·rw [if_pos hk2]
     obtain rfl : hk = false:=by
      rw [Ro];show (x.key == key) = false
      exact beq_eq_false_iff_ne.2 (by omega)
     clear Ro
     rintro e w1 ⟨rfl,hB1⟩
     have uZ:=aiS (hB.trans (hB1.mono hB.size));clear hB hB1 d0 d1 d2 d3
     go_wp2_with fail
     exact bodyPost_ret (v:=.tuple #[.int .i64 (b1 : Nat),.bool false]) (by simp [results,Tryz.results174,go_sem]) rfl ⟨rfl,uZ.out⟩
    ·rw [if_neg hk2]
     obtain rfl : hk = true:=by
      rw [Ro];show (x.key == key) = true
      exact beq_iff_eq.2 (by omega)
     clear Ro
     rintro e w1 ⟨rfl,hB1⟩
     have uZ:=aiS (hB.trans (hB1.mono hB.size));clear hB hB1 d0 d1 d2 d3
     go_wp2_with fail
     exact bodyPost_ret (v:=.tuple #[.int .i64 (b1 : Nat),.bool true]) (by simp [results,Tryz.results174,go_sem]) rfl ⟨rfl,uZ.out⟩
   ·have hn' : ¬ (b1 : Int) < l.length:=by omega
    obtain rfl : hk = false:=by rw [HHK.out,List.getElem?_eq_none (by omega)];rfl
    go_wp2_with fail
    exact bodyPost_ret (v:=.tuple #[.int .i64 (b1 : Nat),.bool false]) (by simp [results,Tryz.results174,go_sem]) rfl ⟨rfl,hB⟩
theorem lI.keys {w : World} {R : Nat} {l : List aG} {most floor : Int} {gone : Bool} {S : Nat -> Prop} {v : Value} (h : lI w R l most floor gone S v) {a : Option Addr} {n c : Nat} (hv : v = .slice a n c) : Rm w a l:=by
 rcases hl : l with _ | ⟨x,l'⟩
 ·exact .inl rfl
 ·obtain ⟨g,c',e,_⟩:=h.cells (i:=0) (x:=x) (by rw [hl];rfl)
  have hlt:=h.row.lt g
  rw [hv] at e
  cases e
  refine .inr ⟨g,rfl,hlt (by rw [hv];rfl) |>.2,λi x hx=>?_⟩
  rw [← hl] at hx
  obtain ⟨g',c'',e,h4⟩:=h.cells hx
  rw [hv] at e
  cases e
  exact h4
theorem D6 (R : Nat) (l : List aG) (most floor : Int) (gone : Bool) (S : Nat -> Prop) (key : Int) (w : World) (h : RingAt w R l most floor gone S) :
 Calls Tryz.prog 119 #[.pointer (some ⟨R,0,none⟩),.int .i64 key] w λe w'=>e = .returned (.tuple #[.int .i64 (dX l key : Nat),.bool (eF l key)]) /\ Below w.heap.size w w':=by
 obtain ⟨v,h⟩:=h
 obtain ⟨a,c,rfl,_,_⟩:=h.slice
 have hb:=λw' (hB : Below w.heap.size w w')=>Rn a c l key w' ((h.only (T:=λ_=>False) (Only.of_below hB) (λ_ _ h=>h)).keys rfl) h.up h.len
 have c0:=h.blk.cell 0;simp at c0;clear h
 generalize dX l key = n at *
 generalize eF l key = hk at *
 go_enter Tryz.func119,Tryz.ntmps119
 go_wp2_with fail
 refine (hb w aiU).mono ?_
 rintro e w1 ⟨rfl,hB⟩
 clear hb;have HB:=aiS hB;clear hB
 go_wp2_with fail
 exact bodyPost_ret (v:=.tuple #[.int .i64 (n : Nat),.bool hk]) (by simp [results,Tryz.results119,go_sem]) rfl ⟨rfl,HB.out⟩
end Go.Proofs.YtklkooeimkedgaaGreat
namespace Go.Proofs.YtklkooeimkedgaaGreat
open Go.RowKit
set_option maxRecDepth 100000
def eG (l : List aG) (key : Int) : Option aG:=if eF l key then l[dX l key]? else none
def xR : Option aG -> Value
 | none=>.agg #[.int .i64 0,.int .i64 0,.slice none 0 0]
 | some k=>.agg #[.int .i64 k.sn.tick,.int .i64 k.sn.time,fQ k]
def eB (l : List aG) (key : Int) : Nat:=if eF l key then dX l key + 1 else dX l key
theorem Hf {l : List aG} {key : Int} (h : eF l key = true) : ∃ x,l[dX l key]? = some x /\ x.key = key:=by
 unfold eF at h
 rcases hx : l[dX l key]? with _ | x
 ·rw [hx] at h;cases h
 ·rw [hx] at h;exact ⟨x,rfl,by simpa using h⟩
theorem iB (R : Nat) (l : List aG) (most floor : Int) (gone : Bool) (S : Nat -> Prop) (key : Int) (w : World) (h : RingAt w R l most floor gone S) :
 Calls Tryz.prog 168 #[.pointer (some ⟨R,0,none⟩),.int .i64 key] w λe w'=>e = .returned (.int .i64 (eB l key : Nat)) /\ Below w.heap.size w w':=by
 have pl:=D6 R l most floor gone S key w h
 have hle : dX l key <= 64:=by
  obtain ⟨v,hp⟩:=h
  have:=hp.len
  have:=zm l key
  omega
 unfold eB
 clear h
 generalize dX l key = n at *
 generalize eF l key = hk at *
 have w1 : wrap64 ((n : Int) + 1) = (n + 1 : Nat):=by unfold wrap64;omega
 cases hk
 ·go_enter Tryz.func168,Tryz.ntmps168
  go_wp2_with fail
  refine pl.mono ?_
  rintro e w1 ⟨rfl,hB⟩
  have HB:=aiS hB;clear pl hB
  go_wp2_with fail
  exact bodyPost_ret (v:=.int .i64 (n : Nat)) (by simp [results,Tryz.results168,go_sem]) rfl ⟨rfl,HB.out⟩
 ·go_enter Tryz.func168,Tryz.ntmps168
  go_wp2_with fail
  refine pl.mono ?_
  rintro e w1 ⟨rfl,hB⟩
  have HB:=aiS hB;clear pl hB
  go_wp2_with fail
  exact bodyPost_ret (v:=.int .i64 (n + 1 : Nat)) (by simp [results,Tryz.results168,go_sem]) rfl ⟨rfl,HB.out⟩
theorem Ke (R : Nat) (l : List aG) (most floor : Int) (gone : Bool) (S : Nat -> Prop) (key : Int) (w : World) (h : RingAt w R l most floor gone S) :
 Calls Tryz.prog 80 #[.pointer (some ⟨R,0,none⟩),.int .i64 key] w λe w'=>e = .returned (.tuple #[xR (eG l key),.bool (eF l key)]) /\ Below w.heap.size w w':=by
 have HR:=aiS (h.below (aiU.alloc (Nat.le_refl _) (.cells #[.int .i64 0,.int .i64 0,.slice none 0 0] 36)))
 have pl:=λw h=>D6 R l most floor gone S key w h
 have HB0:=aiS (show Below w.heap.size w (w.alloc (.cells #[.int .i64 0,.int .i64 0,.slice none 0 0] 36)) from aiT)
 have HX0:=aiS (ak.new w #[.int .i64 0,.int .i64 0,.slice none 0 0] 36)
 have HG : Hid (eG l key = if eF l key then l[dX l key]? else none):=aiS rfl
 have HH : Hid (eF l key = true -> ∃ x,l[dX l key]? = some x /\ x.key = key):=aiS Hf
 clear h
 generalize eG l key = gk at *
 generalize dX l key = n at *
 generalize eF l key = hk at *
 cases hk
 ·obtain rfl : gk = none:=HG.out
  go_enter Tryz.func80,Tryz.ntmps80
  go_wp2_with fail
  refine (pl _ HR.out).mono ?_
  rintro e w1 ⟨rfl,hB⟩
  have hX:=HX0.out.below hB (by simp)
  have c0:=hX.cell 0;have c1:=hX.cell 1;have c2:=hX.cell 2;have f0:=hX.free 0;have f1:=hX.free 1;have f2:=hX.free 2;simp at c0 c1 c2
  have HB:=aiS (dz (v0:=.int .i64 0) (v1:=.int .i64 0) (v2:=.slice none 0 0) (HB0.out.trans (hB.mono (by simp))) (Nat.le_refl _))
  clear pl hB hX
  go_wp2_with fail
  exact bodyPost_ret (v:=.tuple #[xR none,.bool false]) (by simp [results,Tryz.results80,go_sem,xR,c0,c1,c2]) rfl ⟨rfl,HB.out⟩
 ·obtain ⟨x,hx,hkey⟩:=HH.out rfl
  obtain rfl : gk = some x:=by rw [HG.out,if_pos rfl];exact hx
  have HXX:=aiS hx;clear hx hkey
  go_enter Tryz.func80,Tryz.ntmps80
  go_wp2_with fail
  refine (pl _ HR.out).mono ?_
  rintro e w1 ⟨rfl,hB⟩
  have hX:=HX0.out.below hB (by simp)
  have c0:=hX.cell 0;have c1:=hX.cell 1;have c2:=hX.cell 2;simp at c0 c1 c2;have f0:=hX.free 0;have f1:=hX.free 1;have f2:=hX.free 2
  obtain ⟨g,c,hcs,hRn⟩ : ∃ g c,(w1.cell? ⟨R,0,none⟩ = some (.slice (some ⟨g,0,none⟩) l.length c) /\ w1.cell? ⟨g,n * 4 + 1,none⟩ = some (.int .i64 x.sn.tick) /\ w1.cell? ⟨g,n * 4 + 2,none⟩ = some (.int .i64 x.sn.time) /\ w1.cell? ⟨g,n * 4 + 3,none⟩ = some (fQ x)) /\ (n < l.length):=by
   obtain ⟨v,hP⟩:=HR.out.below hB
   obtain ⟨g,c,rfl,d0,d1,d2,d3⟩:=hP.cells HXX.out
   have e0:=hP.blk.cell 0;simp at e0
   exact ⟨g,c,⟨e0,d1,d2,d3⟩,(List.getElem?_eq_some_iff.1 HXX.out).1⟩
  obtain ⟨e0,d1,d2,d3⟩:=hcs
  have hn' : (n : Int) < l.length:=by omega
  have fu:=aiS (fB (v0:=.int .i64 x.sn.tick) (v1:=.int .i64 x.sn.time) (v2:=fQ x) hX);have g0:=fu.out.cell 0;have g1:=fu.out.cell 1;have g2:=fu.out.cell 2;have k0:=fu.out.free 0;have k1:=fu.out.free 1;have k2:=fu.out.free 2;simp at g0 g1 g2 k0 k1 k2
  have HB:=aiS (dz (v0:=.int .i64 x.sn.tick) (v1:=.int .i64 x.sn.time) (v2:=fQ x) (dz (v0:=.int .i64 x.sn.tick) (v1:=.int .i64 x.sn.time) (v2:=fQ x) (HB0.out.trans (hB.mono (by simp))) (Nat.le_refl _)) (Nat.le_refl _))
  clear pl hB hX
  go_wp2_with fail
  exact bodyPost_ret (v:=.tuple #[xR (some x),.bool true]) (by simp [results,Tryz.results80,go_sem,xR,c0,c1,c2,g0,g1,g2]) rfl ⟨rfl,HB.out⟩
theorem XU (R : Nat) (l : List aG) (most floor : Int) (gone : Bool) (S : Nat -> Prop) (i : Int) (w : World) (h : RingAt w R l most floor gone S) (hi : i < 0 \/ (l.length : Int) <= i) :
 Calls Tryz.prog 131 #[.pointer (some ⟨R,0,none⟩),.int .i64 i] w λe w'=>e = .returned (.tuple #[.int .i64 0,xR none,.int .i64 3]) /\ Below w.heap.size w w':=by
 obtain ⟨v,hP⟩:=h
 obtain ⟨a,c,rfl,_,_⟩:=hP.slice
 obtain ⟨w1,hw1⟩ : ∃ w1,(w.alloc (.cells #[.int .i64 0,.int .i64 0,.slice none 0 0] 36)).alloc (.cells #[.int .i64 0,.int .i64 0,.slice none 0 0] 36) = w1:=⟨_,rfl⟩
 have HB0 : Hid (Below w.heap.size w w1):=aiS (by rw [← hw1];exact (aiT).alloc (by simp) _)
 have HX0 : Hid (ak w1 w.heap.size #[.int .i64 0,.int .i64 0,.slice none 0 0] 36):=aiS (by rw [← hw1];exact (ak.new _ _ _).alloc _)
 have fu : Hid (ak w1 (w.heap.size + 1) #[.int .i64 0,.int .i64 0,.slice none 0 0] 36):=aiS (by rw [← hw1];have:=ak.new (w.alloc (.cells #[.int .i64 0,.int .i64 0,.slice none 0 0] 36)) #[.int .i64 0,.int .i64 0,.slice none 0 0] 36;simpa using this)
 have e0:=(hP.blk.below HB0.out hP.blk.lt).cell 0;simp at e0;have c0:=HX0.out.cell 0;have c1:=HX0.out.cell 1;have c2:=HX0.out.cell 2;have d0:=fu.out.cell 0;have d1:=fu.out.cell 1;have d2:=fu.out.cell 2;simp at c0 c1 c2 d0 d1 d2;clear hP
 by_cases hi0 : i < 0
 ·go_enter Tryz.func131,Tryz.ntmps131
  go_wp2_with fail
  clear hw1
  refine aQ 2 (by kernel_rfl) (by kernel_rfl) ?_
  simp only [List.take_succ_cons,List.take_zero,List.drop_succ_cons,List.drop_zero]
  repeat (apply aA;(next=>(intro W hW K hK;have y0:=hW.cell d0;have y1:=hW.cell d1;have y2:=hW.cell d2;go_simp;first | exact ⟨hW,hK⟩ | exact hK));(next=>exact aH.self _);(try go_simp))
  refine aT ?_
  intro WC aP
  have oV:=HX0.out.below aP HX0.out.lt;have k0:=oV.cell 0;have k1:=oV.cell 1;have k2:=oV.cell 2;have f0:=oV.free 0;have f1:=oV.free 1;have f2:=oV.free 2;simp at k0 k1 k2;have HB:=aiS (dz (v0:=.int .i64 0) (v1:=.int .i64 0) (v2:=.slice none 0 0) (HB0.out.trans (Below.mono aP HB0.out.size)) (Nat.le_refl _));clear aP oV e0 c0 c1 c2 d0 d1 d2
  go_wp2_with fail
  exact bodyPost_ret (v:=.tuple #[.int .i64 0,xR none,.int .i64 3]) (by simp [results,Tryz.results131,go_sem,xR,k0,k1,k2]) rfl ⟨rfl,HB.out⟩
 ·have hi1 : (l.length : Int) <= i:=by omega
  go_enter Tryz.func131,Tryz.ntmps131
  go_wp2_with fail
  clear hw1
  refine aQ 2 (by kernel_rfl) (by kernel_rfl) ?_
  simp only [List.take_succ_cons,List.take_zero,List.drop_succ_cons,List.drop_zero]
  repeat (apply aA;(next=>(intro W hW K hK;have y0:=hW.cell d0;have y1:=hW.cell d1;have y2:=hW.cell d2;go_simp;first | exact ⟨hW,hK⟩ | exact hK));(next=>exact aH.self _);(try go_simp))
  refine aT ?_
  intro WC aP
  have oV:=HX0.out.below aP HX0.out.lt;have k0:=oV.cell 0;have k1:=oV.cell 1;have k2:=oV.cell 2;have f0:=oV.free 0;have f1:=oV.free 1;have f2:=oV.free 2;simp at k0 k1 k2;have HB:=aiS (dz (v0:=.int .i64 0) (v1:=.int .i64 0) (v2:=.slice none 0 0) (HB0.out.trans (Below.mono aP HB0.out.size)) (Nat.le_refl _));clear aP oV e0 c0 c1 c2 d0 d1 d2
  go_wp2_with fail
  exact bodyPost_ret (v:=.tuple #[.int .i64 0,xR none,.int .i64 3]) (by simp [results,Tryz.results131,go_sem,xR,k0,k1,k2]) rfl ⟨rfl,HB.out⟩
theorem ZC (R : Nat) (l : List aG) (most floor : Int) (gone : Bool) (S : Nat -> Prop) (i : Nat) (x : aG) (w : World) (h : RingAt w R l most floor gone S) (hx : l[i]? = some x) :
 Calls Tryz.prog 131 #[.pointer (some ⟨R,0,none⟩),.int .i64 (i : Nat)] w λe w'=>e = .returned (.tuple #[.int .i64 x.key,xR (some x),.int .i64 0]) /\ Below w.heap.size w w':=by
 obtain ⟨v,hP⟩:=h
 obtain ⟨w1,hw1⟩ : ∃ w1,(w.alloc (.cells #[.int .i64 0,.int .i64 0,.slice none 0 0] 36)).alloc (.cells #[.int .i64 0,.int .i64 0,.slice none 0 0] 36) = w1:=⟨_,rfl⟩
 have HB0 : Hid (Below w.heap.size w w1):=aiS (by rw [← hw1];exact (aiT).alloc (by simp) _)
 have HX0 : Hid (ak w1 w.heap.size #[.int .i64 0,.int .i64 0,.slice none 0 0] 36):=aiS (by rw [← hw1];exact (ak.new _ _ _).alloc _)
 have hP1:=hP.only (T:=λ_=>False) (Only.of_below HB0.out) (λ_ _ h=>h)
 obtain ⟨g,c,rfl,d0,d1,d2,d3⟩:=hP1.cells hx
 have e0:=hP1.blk.cell 0;simp at e0
 have hn : i < l.length:=(List.getElem?_eq_some_iff.1 hx).1
 have a1 : ¬ (i : Int) < 0:=by omega
 have a2 : ¬ (l.length : Int) <= i:=by omega
 have a3 : (i : Int) < l.length:=by omega
 clear hP hP1 hx
 go_enter Tryz.func131,Tryz.ntmps131
 go_wp2_with fail
 clear hw1
 refine aQ 17 (by kernel_rfl) (by kernel_rfl) ?_
 simp only [List.take_succ_cons,List.take_zero,List.drop_succ_cons,List.drop_zero]
 repeat (apply aA;(next=>(intro W hW K hK;have y0:=hW.cell e0;have y1:=hW.cell d0;have y2:=hW.cell d1;have y3:=hW.cell d2;have y4:=hW.cell d3;go_simp;first | exact ⟨hW,hK⟩ | exact hK));(next=>exact aH.self _);(try go_simp))
 refine aT ?_
 intro WC aP
 have oV:=HX0.out.below aP HX0.out.lt;have k0:=oV.cell 0;have k1:=oV.cell 1;have k2:=oV.cell 2;have f0:=oV.free 0;have f1:=oV.free 1;have f2:=oV.free 2;simp at k0 k1 k2;have HB:=aiS (dz (v0:=.int .i64 x.sn.tick) (v1:=.int .i64 x.sn.time) (v2:=fQ x) (HB0.out.trans (Below.mono aP HB0.out.size)) (Nat.le_refl _));clear aP oV e0 d0 d1 d2 d3
 go_wp2_with fail
 exact bodyPost_ret (v:=.tuple #[.int .i64 x.key,xR (some x),.int .i64 0]) (by simp [results,Tryz.results131,go_sem,xR,k0,k1,k2]) rfl ⟨rfl,HB.out⟩
end Go.Proofs.YtklkooeimkedgaaGreat
