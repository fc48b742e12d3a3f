/- Parts of the walk of TopJumps: Delta4, Ring1, Ring2, Ring3. -/
import Derived.Test.YtklkooeimkedgaaGreatJ6
import Derived.Test.YtklkooeimkedgaaGreatJ40
set_option linter.unusedVariables false
set_option linter.unusedSimpArgs false
namespace Go.Proofs.YtklkooeimkedgaaGreat
open Go.RowKit
set_option maxRecDepth 100000
theorem OwnE.base {w : World} {base base' : Nat} {v : Value} {es : List Ent} (h : OwnE w base v es) (hb : base' ≤ base) : OwnE w base' v es:=by
 obtain ⟨h1,h2⟩:=h
 refine ⟨h1,?_⟩
 rcases h2 with h2 | ⟨g,cap,cur,rfl,a,b,c⟩
 ·exact .inl h2
 ·exact .inr ⟨g,cap,cur,rfl,Nat.le_trans hb a,b,c⟩
theorem blk3 {w : World} {b : Nat} {t : TypeId} {o0 o1 o2 v0 v1 v2 : Value} (h : Blk w b #[o0,o1,o2] t) : Blk (((w.setCell ⟨b,0,none⟩ v0).setCell ⟨b,1,none⟩ v1).setCell ⟨b,2,none⟩ v2) b #[v0,v1,v2] t:=by
 simpa using (((h.set 0 v0).set 1 v1).set 2 v2)
theorem only3 {S : Nat → Prop} {w0 w : World} {b : Nat} {v0 v1 v2 : Value} (h : Only S w0 w) (hb : S b ∨ w0.heap.size ≤ b) : Only S w0 (((w.setCell ⟨b,0,none⟩ v0).setCell ⟨b,1,none⟩ v1).setCell ⟨b,2,none⟩ v2) :=
 ((h.setCell (p:=⟨b,0,none⟩) hb v0).setCell (p:=⟨b,1,none⟩) hb v1).setCell (p:=⟨b,2,none⟩) hb v2
theorem below3 {w0 w : World} {b : Nat} {v0 v1 v2 : Value} (h : Below w0.heap.size w0 w) (hb : w0.heap.size ≤ b) : Below w0.heap.size w0 (((w.setCell ⟨b,0,none⟩ v0).setCell ⟨b,1,none⟩ v1).setCell ⟨b,2,none⟩ v2) :=
 (only3 (S:=fun _=>False) (Only.of_below h) (.inr hb)).below (Nat.le_refl _) (fun _ h=>h.elim)
theorem grBodE_len {g : Gr} (h : grBodE g = 0) : (g.recs.length : Int) ≤ 128:=by
 unfold grBodE at h
 have hh : grHdE g.tick g.time g.base g.recs.length = 0:=by
  split at h
  ·rename_i hh;exact absurd h hh
  ·rename_i hh;exact Decidable.of_not_not hh
 unfold grHdE at hh
 split at hh
 ·cases hh
 split at hh
 ·cases hh
 split at hh
 ·cases hh
 omega
def DaRel (w : World) (s g : Array Value) (wr : World) : Prop :=
 Blk wr w.heap.size s 36 ∧ Blk wr (w.heap.size + 1) g 39 ∧ Blk wr (w.heap.size + 2) #[.int .i64 0,.int .i64 0,.slice none 0 0] 36 ∧ Below w.heap.size w wr ∧ w.heap.size + 3 ≤ wr.heap.size
theorem DaRel.below {w : World} {s g : Array Value} {wr w2 : World} (h : DaRel w s g wr) (hb : Below wr.heap.size wr w2) : DaRel w s g w2:=by
 obtain ⟨h1,h2,h3,h4,h5⟩:=h
 exact ⟨h1.below hb h1.lt,h2.below hb h2.lt,h3.below hb h3.lt,h4.trans (hb.mono h4.size),Nat.le_trans h5 hb.size⟩
theorem DaRel.only {w : World} {s g : Array Value} {wr w2 : World} {S : Nat → Prop} (h : DaRel w s g wr) (ho : Only S wr w2) (hS : ∀ k,S k → w.heap.size + 3 ≤ k) : DaRel w s g w2:=by
 obtain ⟨h1,h2,h3,h4,h5⟩:=h
 exact ⟨ho.blk h1 (fun h=>by have:=hS _ h;omega),ho.blk h2 (fun h=>by have:=hS _ h;omega),ho.blk h3 (fun h=>by have:=hS _ h;omega),h4.trans (ho.below h4.size (fun k hk=>by have:=hS k hk;omega)),Nat.le_trans h5 ho.size⟩
def DpI (w : World) (s g : Array Value) (X Y : Nat) (r : Rec) (y : Ent) (M : Nat) (l l' : List Ent) : List Value → World → Prop
 | [],W=>(DaRel w s g W ∧ Blk W X (recA r) 147 ∧ Blk W Y (entA y) 33) ∧ MapIs W M l
 | [_],W=>(DaRel w s g W ∧ Blk W X (recA r) 147 ∧ Blk W Y (entA y) 33) ∧ MapIs W M l'
 | _,_=>False
section
variable {w : World} {s g : Array Value} {X Y : Nat} {r : Rec} {y : Ent} {M : Nat} {l l' : List Ent}
theorem DpI.rec : ∀ {b : List Value} {W : World},DpI w s g X Y r y M l l' b W → Blk W X (recA r) 147
 | [],_,h=>h.1.2.1
 | [_],_,h=>h.1.2.1
 | _ :: _ :: _,_,h=>h.elim
theorem DpI.ent : ∀ {b : List Value} {W : World},DpI w s g X Y r y M l l' b W → Blk W Y (entA y) 33
 | [],_,h=>h.1.2.2
 | [_],_,h=>h.1.2.2
 | _ :: _ :: _,_,h=>h.elim
theorem DpI.below : ∀ {b : List Value} {W W' : World},DpI w s g X Y r y M l l' b W → Below W.heap.size W W' → DpI w s g X Y r y M l l' b W'
 | [],_,_,h,hb=>⟨⟨h.1.1.below hb,h.1.2.1.below hb h.1.2.1.lt,h.1.2.2.below hb h.1.2.2.lt⟩,h.2.below hb h.2.lt⟩
 | [_],_,_,h,hb=>⟨⟨h.1.1.below hb,h.1.2.1.below hb h.1.2.1.lt,h.1.2.2.below hb h.1.2.2.lt⟩,h.2.below hb h.2.lt⟩
 | _ :: _ :: _,_,_,h,_=>h.elim
end
def DlRel (w : World) (s g : Array Value) (now : List Ent) (rs : List Rec) (M k : Nat) (wr : World) : Prop :=
 ∃ l,DaRel w s g wr ∧ MapIs wr M l ∧ w.heap.size + 3 ≤ M ∧ apAll now rs = apAll l (rs.drop k) ∧ ∀ e ∈ l,e.Ok
set_option maxHeartbeats 4000000 in
theorem dapply_f (tick time : Int) (ae : Option Addr) (ecap : Nat) (es : List Ent) (g : Gr) (ga : Option Addr) (cap : Nat) (hgt : I64 g.time) (w : World) (hE : EntsL w ae es) (hR : RecsAt w ga g.recs) (hlE : (es.length : Int) ≤ 140737488355000) :
  Calls Tryz.prog 117 #[snapV tick time ae es.length ecap,grV g.tick g.time g.base ga g.recs.length cap] w fun e w'=>∃ v,e = .returned (.tuple #[.agg #[.int .i64 (apF ⟨tick,time,es⟩ g).1.tick,.int .i64 (apF ⟨tick,time,es⟩ g).1.time,v],.int .i64 (apF ⟨tick,time,es⟩ g).2]) ∧ OwnE w' w.heap.size v (apF ⟨tick,time,es⟩ g).1.ents ∧ Below w.heap.size w w':=by
 have hA0 : Blk (((w.alloc (.cells #[.int .i64 tick,.int .i64 time,.slice ae es.length ecap] 36)).alloc (.cells #[.int .i64 g.tick,.int .i64 g.time,.int .i64 g.base,.slice ga g.recs.length cap] 39)).alloc (.cells #[.int .i64 0,.int .i64 0,.slice none 0 0] 36)) w.heap.size #[.int .i64 tick,.int .i64 time,.slice ae es.length ecap] 36:=((Blk.new w _ _).alloc _).alloc _
 have hG0 : Blk (((w.alloc (.cells #[.int .i64 tick,.int .i64 time,.slice ae es.length ecap] 36)).alloc (.cells #[.int .i64 g.tick,.int .i64 g.time,.int .i64 g.base,.slice ga g.recs.length cap] 39)).alloc (.cells #[.int .i64 0,.int .i64 0,.slice none 0 0] 36)) (w.heap.size + 1) #[.int .i64 g.tick,.int .i64 g.time,.int .i64 g.base,.slice ga g.recs.length cap] 39:=by
  have:=(Blk.new (w.alloc (.cells #[.int .i64 tick,.int .i64 time,.slice ae es.length ecap] 36)) #[.int .i64 g.tick,.int .i64 g.time,.int .i64 g.base,.slice ga g.recs.length cap] 39).alloc (.cells #[.int .i64 0,.int .i64 0,.slice none 0 0] 36)
  rw [show (w.alloc (.cells #[.int .i64 tick,.int .i64 time,.slice ae es.length ecap] 36)).heap.size = w.heap.size + 1 by simp] at this
  exact this
 have hZ0 : Blk (((w.alloc (.cells #[.int .i64 tick,.int .i64 time,.slice ae es.length ecap] 36)).alloc (.cells #[.int .i64 g.tick,.int .i64 g.time,.int .i64 g.base,.slice ga g.recs.length cap] 39)).alloc (.cells #[.int .i64 0,.int .i64 0,.slice none 0 0] 36)) (w.heap.size + 2) #[.int .i64 0,.int .i64 0,.slice none 0 0] 36:=by
  have:=Blk.new ((w.alloc (.cells #[.int .i64 tick,.int .i64 time,.slice ae es.length ecap] 36)).alloc (.cells #[.int .i64 g.tick,.int .i64 g.time,.int .i64 g.base,.slice ga g.recs.length cap] 39)) #[.int .i64 0,.int .i64 0,.slice none 0 0] 36
  rw [show ((w.alloc (.cells #[.int .i64 tick,.int .i64 time,.slice ae es.length ecap] 36)).alloc (.cells #[.int .i64 g.tick,.int .i64 g.time,.int .i64 g.base,.slice ga g.recs.length cap] 39)).heap.size = w.heap.size + 2 by simp] at this
  exact this
 have hB0 : Below w.heap.size w (((w.alloc (.cells #[.int .i64 tick,.int .i64 time,.slice ae es.length ecap] 36)).alloc (.cells #[.int .i64 g.tick,.int .i64 g.time,.int .i64 g.base,.slice ga g.recs.length cap] 39)).alloc (.cells #[.int .i64 0,.int .i64 0,.slice none 0 0] 36)):=(((Below.refl _ _).alloc (Nat.le_refl _) _).alloc (by simp) _).alloc (by simp;omega) _
 have HD0:=Lib.hid (show DaRel w #[.int .i64 tick,.int .i64 time,.slice ae es.length ecap] #[.int .i64 g.tick,.int .i64 g.time,.int .i64 g.base,.slice ga g.recs.length cap] (((w.alloc (.cells #[.int .i64 tick,.int .i64 time,.slice ae es.length ecap] 36)).alloc (.cells #[.int .i64 g.tick,.int .i64 g.time,.int .i64 g.base,.slice ga g.recs.length cap] 39)).alloc (.cells #[.int .i64 0,.int .i64 0,.slice none 0 0] 36)) from ⟨hA0,hG0,hZ0,hB0,by simp⟩)
 have ck:=gcheck_f g.tick g.time g.base hgt ga cap g.recs _ ((hR.below hB0))
 rw [show (⟨g.tick,g.time,g.base,g.recs⟩ : Gr) = g from rfl] at ck
 have HZ : Hid (apF ⟨tick,time,es⟩ g = if grBodE g ≠ 0 then (sn0,grBodE g) else if 0 ≤ g.base then (if snChk ⟨tick,time,es⟩ ≠ 0 then (sn0,snChk ⟨tick,time,es⟩) else if tick ≠ g.base then (sn0,14) else apFin g (byIdF es)) else apFin g []):=Lib.hid rfl
 have HLN0 : Hid (grBodE g = 0 → (g.recs.length : Int) ≤ 128):=Lib.hid grBodE_len
 have HCH0 : Hid (grBodE g = 0 → ∀ r ∈ g.recs,recChk r = 0):=Lib.hid grBodE_chk
 generalize apF ⟨tick,time,es⟩ g = z at *
 generalize grBodE g = ge at *
 have HE:=Lib.hid hE
 have HR:=Lib.hid hR
 unfold snapV grV at *
 clear hE hR hA0 hG0 hZ0 hB0
 go_enter Tryz.func117,Tryz.ntmps117
 go_wp2_with fail
 refine ck.mono ?_;rintro e w1 ⟨rfl,hb1⟩
 have hD1:=HD0.out.below hb1
 have HD1:=Lib.hid hD1
 clear ck hb1 HD0
 by_cases hge : ge = 0
 ·have hNr:=HLN0.out hge
  have HCH : Hid (∀ r ∈ g.recs,recChk r = 0):=Lib.hid (HCH0.out hge)
  have HZ2 : Hid (z = if 0 ≤ g.base then (if snChk ⟨tick,time,es⟩ ≠ 0 then (sn0,snChk ⟨tick,time,es⟩) else if tick ≠ g.base then (sn0,14) else apFin g (byIdF es)) else apFin g []):=Lib.hid (by rw [HZ.out,if_neg (by simpa using hge)])
  subst hge
  have hG:=hD1.2.1
  have b2:=hG.alloc (.map #[] 0)
  have g2:=b2.cell 2
  simp at g2
  have hDm : DaRel w #[.int .i64 tick,.int .i64 time,.slice ae es.length ecap] #[.int .i64 g.tick,.int .i64 g.time,.int .i64 g.base,.slice ga g.recs.length cap] (w1.alloc (.map #[] 0)):=hD1.below ((Below.refl _ _).alloc (Nat.le_refl _) _)
  have HDm:=Lib.hid hDm
  have HMm:=Lib.hid (show MapIs (w1.alloc (.map #[] 0)) w1.heap.size [] ∧ w.heap.size + 3 ≤ w1.heap.size ∧ ∀ e ∈ ([] : List Ent),e.Ok from ⟨MapIs.new w1,hD1.2.2.2.2,by simp⟩)
  clear hD1 hG b2 HZ HCH0
  by_cases hbase : 0 ≤ g.base
  ·have ck2:=delchk_f tick time ae es.length ecap (fun i=>es.getD i ent0) (w1.alloc (.map #[] 0)) (EntsAt.below HE.out hDm.2.2.2.1) (by omega)
   unfold snapV at ck2
   have HZ3 : Hid (z = if snChk ⟨tick,time,es⟩ ≠ 0 then (sn0,snChk ⟨tick,time,es⟩) else if tick ≠ g.base then (sn0,14) else apFin g (byIdF es)):=Lib.hid (by rw [HZ2.out,if_pos hbase])
   have HSC : Hid (snChk ⟨tick,time,es⟩ = 0 → (es.length : Int) ≤ 64):=Lib.hid (fun h=>by
    unfold snChk snapChk at h
    simp only at h
    split at h
    ·cases h
    split at h
    ·cases h
    omega)
   rw [show snapChk tick time es.length (fun i=>es.getD i ent0) = snChk ⟨tick,time,es⟩ from rfl] at ck2
   generalize snChk ⟨tick,time,es⟩ = sc at *
   have q0:=hDm.1.cell 0
   have q1:=hDm.1.cell 1
   have q2:=hDm.1.cell 2
   simp at q0 q1 q2
   clear hDm HZ2 HMm
   go_wp2_with fail
   refine ck2.mono ?_;rintro e w2 ⟨rfl,hb2⟩
   have hD2:=HDm.out.below hb2
   have HD2:=Lib.hid hD2
   have r0:=hD2.1.cell 0
   have r2:=hD2.1.cell 2
   have s2:=hD2.2.1.cell 2
   have hZ:=hD2.2.2.1
   have zc0:=hZ.cell 0
   have zf0:=hZ.free 0
   have zc1:=hZ.cell 1
   have zf1:=hZ.free 1
   have zc2:=hZ.cell 2
   have zf2:=hZ.free 2
   simp at zc0 zc1 zc2
   simp at r0 r2 s2
   have HZ1:=Lib.hid hZ
   have HB1:=Lib.hid hD2.2.2.2.1
   clear ck2 hb2 HDm q0 q1 q2 hZ
   by_cases hsc : sc = 0
   ·subst hsc
    have hel:=HSC.out rfl
    by_cases htb : tick = g.base
    ·have htb2 : (tick != g.base) = false:=by simpa using htb
     have HF : Hid (z = apFin g (byIdF es)):=Lib.hid (by rw [HZ3.out,if_neg (by simp),if_neg (by simpa using htb)])
     have bi:=byId_f ae ecap es w2 (EntsL.below HE.out hD2.2.2.2.1) (by omega)
     clear hD2 HZ3 HSC htb
     go_wp2_with fail
     refine bi.mono ?_;rintro e w4 ⟨M,rfl,hMl,hM4,hb4⟩
     have HD:=Lib.hid (HD2.out.below hb4)
     have HM:=Lib.hid (show MapIs w4 M (byIdF es) ∧ w.heap.size + 3 ≤ M ∧ ∀ e ∈ byIdF es,e.Ok from ⟨hM4,Nat.le_trans HD2.out.2.2.2.2 hMl,byIdF_ok (EntsL.ok HE.out)⟩)
     clear bi hMl hM4 hb4 HD2 HZ1 HB1 zc0 zc1 zc2 zf0 zf1 zf2 r0 r2 s2 g2
     have HS : Hid (DlRel w #[.int .i64 tick,.int .i64 time,.slice ae es.length ecap] #[.int .i64 g.tick,.int .i64 g.time,.int .i64 g.base,.slice ga g.recs.length cap] (byIdF es) g.recs M 0 w4):=Lib.hid ⟨_,HD.out,HM.out.1,HM.out.2.1,by simp,HM.out.2.2⟩
     have hG:=HD.out.2.1
     have g3:=hG.cell 3
     simp at g3
     clear hG
     go_wp2_with fail
     go_loopw [10,11,42] (fun _ _ i wr=>∃ k : Nat,k ≤ g.recs.length ∧ i = .int .i64 k ∧ DlRel w #[.int .i64 tick,.int .i64 time,.slice ae es.length ecap] #[.int .i64 g.tick,.int .i64 g.time,.int .i64 g.base,.slice ga g.recs.length cap] (byIdF es) g.recs M k wr) (fun _ _ i _=>g.recs.length - (intOf i).toNat)
     case atStart=>exact ⟨0,Nat.zero_le _,rfl,HS.out⟩
     case round =>
      rename_i wr
      obtain ⟨k,hk,rfl,l,hD,hM,hMs,hAp,hok⟩:=hrel
      clear g3
      by_cases hlt : k < g.recs.length
      ·have hlt' : (k : Int) < g.recs.length:=by omega
       obtain ⟨r,hr⟩ : ∃ r,g.recs[k]? = some r:=⟨_,List.getElem?_eq_getElem hlt⟩
       have hdrop : g.recs.drop k = r :: g.recs.drop (k + 1):=by
        rw [List.drop_eq_getElem_cons hlt]
        rw [List.getElem?_eq_getElem hlt] at hr
        cases hr;rfl
       rw [hdrop,apAll] at hAp
       have hmem : r ∈ g.recs:=List.mem_of_getElem? hr
       have hrc:=HCH.out r hmem
       have hrk:=HR.out.1 r hmem
       obtain ⟨b,off,hgae,hbl,hcs⟩ : ∃ b off,ga = some ⟨b,off,none⟩ ∧ b < w.heap.size ∧ ∀ i r,g.recs[i]? = some r → RecCells w b (off + i * 9) r:=by
        rcases HR.out.2 with h0 | h0
        ·rw [h0] at hlt;simp at hlt
        ·exact h0
       have hc:=(hcs k r hr).below hD.2.2.2.1 hbl
       have hKnd : 0 ≤ r.kind ∧ r.kind ≤ 3:=by unfold recChk at hrc;split at hrc;cases hrc;omega
       have hAl1 : Below wr.heap.size wr (wr.alloc (.cells (recA r) 147)):=(Below.refl _ _).alloc (Nat.le_refl _) _
       have hM1:=hM.below hAl1 hM.lt
       have hlk:=lookup_ent hM1 r.id
       have hD1:=hD.below hAl1
       obtain ⟨x,hfx⟩ : ∃ x,(findE l r.id).getD ent0 = x:=⟨_,rfl⟩
       have hAl2 : Below (wr.alloc (.cells (recA r) 147)).heap.size (wr.alloc (.cells (recA r) 147)) ((wr.alloc (.cells (recA r) 147)).alloc (.cells (entA x) 33)):=(Below.refl _ _).alloc (Nat.le_refl _) _
       have hM2:=hM1.below hAl2 hM1.lt
       have hD2:=hD1.below hAl2
       have HONE0 : Hid (apOne l r = match findE l r.id with | some x=>if r.kind = 0 then none else if r.kind = 2 then some (delE l r.id) else some (putE l (recApl x r).1) | none=>if r.kind = 0 then some (putE l ⟨r.id,r.px,r.py,r.pz,r.vx,r.vy,r.vz,r.ang,0⟩) else none):=Lib.hid rfl
       have HOK1 : Hid (∀ l',apOne l r = some l' → ∀ e ∈ l',e.Ok):=Lib.hid (fun l' h=>apOne_ok h hok hrk)
       have HID : Hid (findE l r.id = some x → x.id = r.id):=Lib.hid (fun h=>(findE_mem h).2)
       have HAPID : Hid (r.kind ≠ 0 → r.kind ≠ 2 → x.id = r.id → (recApl x r).1.id = r.id):=Lib.hid (fun h1 h2 h3=>recApl_id hrc h3 h1 h2)
       have ap:=fun W=>rapply_f x r W
       have hsz2 : ((wr.alloc (.cells (recA r) 147)).alloc (.cells (entA x) 33)).heap.size = wr.heap.size + 2:=by simp
       have hMlt:=hM.lt
       subst hgae
       cases hf : findE l r.id with
       | none =>
        rw [hf] at hlk hfx
        simp only [Option.getD_none,Option.isSome_none] at hlk hfx
        subst hfx
        by_cases hk0 : r.kind = 0
        ·have HONE : Hid (apOne l r = some (putE l ⟨r.id,r.px,r.py,r.pz,r.vx,r.vy,r.vz,r.ang,0⟩)):=Lib.hid (by rw [HONE0.out,hf];simp only;rw [if_pos hk0])
         obtain ⟨w3,hup,hM3,hO3⟩:=update_ent hM2 ⟨r.id,r.px,r.py,r.pz,r.vx,r.vy,r.vz,r.ang,0⟩
         have hD3:=hD2.only hO3 (fun k hk=>by omega)
         have hok3:=HOK1.out _ HONE.out
         clear HONE0 HOK1 HID HAPID ap
         have HS2 : Hid (DlRel w #[.int .i64 tick,.int .i64 time,.slice ae es.length ecap] #[.int .i64 g.tick,.int .i64 g.time,.int .i64 g.base,.slice (some ⟨b,off,none⟩) g.recs.length cap] (byIdF es) g.recs M (k + 1) w3):=Lib.hid ⟨_,hD3,hM3,hMs,hAp.trans (by rw [HONE.out]),hok3⟩
         clear hD1 hD2 hM1 hM2 hM hD hD3 hM3 hAp hok hok3 HS
         obtain ⟨rk,ri,p1,p2,p3,q1,q2,q3,ra⟩:=r
         obtain ⟨c0,c1,c2,c3,c4,c5,c6,c7,c8⟩:=hc
         unfold entV ent0 at hlk
         unfold entV at hup
         simp only [entA,ent0] at *
         subst hk0
         clear hO3
         go_wp2
         go_roundw
         case rel=>exact ⟨k + 1,by omega,by go_num,HS2.out⟩
         case measure=>simp [intOf];omega
        ·have HONE : Hid (apOne l r = none):=Lib.hid (by rw [HONE0.out,hf];simp only;rw [if_neg hk0])
         have HV : Hid (z = (sn0,15)):=Lib.hid (by rw [HF.out];unfold apFin;rw [hAp,HONE.out])
         have hZ:=hD2.2.2.1
         have zc0:=hZ.cell 0
         have zf0:=hZ.free 0
         have zc1:=hZ.cell 1
         have zf1:=hZ.free 1
         have zc2:=hZ.cell 2
         have zf2:=hZ.free 2
         simp at zc0 zc1 zc2
         have HB1:=Lib.hid hD2.2.2.2.1
         have HZ1:=Lib.hid hZ
         clear hD1 hD2 hM1 hM2 hM hD hZ hAp hok HF HD HM HS HR HCH hrk HOK1 HID HAPID ap HONE0
         have hk02 : (r.kind == 0) = false:=by simpa using hk0
         obtain ⟨rk,ri,p1,p2,p3,q1,q2,q3,ra⟩:=r
         obtain ⟨c0,c1,c2,c3,c4,c5,c6,c7,c8⟩:=hc
         unfold entV ent0 at hlk
         simp only [entA,ent0] at *
         go_wp2
         exact bodyPost_ret (v:=.tuple #[.agg #[.int .i64 0,.int .i64 0,.slice none 0 0],.int .i64 15])
          (by
            have hh:=blk3 (v0:=.int .i64 0) (v1:=.int .i64 0) (v2:=.slice none 0 0) HZ1.out
            have g0:=hh.cell 0
            have g1:=hh.cell 1
            have g2:=hh.cell 2
            simp at g0 g1 g2
            simp [results,Tryz.results117,go_sem,g0,g1,g2]) rfl
          ⟨.slice none 0 0,by rw [HV.out];rfl,by rw [HV.out];exact OwnE.nil _ _,below3 HB1.out (by omega)⟩
       | some y =>
        rw [hf] at hlk hfx
        simp only [Option.getD_some,Option.isSome_some] at hlk hfx
        subst hfx
        have HYID:=Lib.hid (HID.out hf)
        by_cases hk0 : r.kind = 0
        ·have HONE : Hid (apOne l r = none):=Lib.hid (by rw [HONE0.out,hf];simp only;rw [if_pos hk0])
         have HV : Hid (z = (sn0,15)):=Lib.hid (by rw [HF.out];unfold apFin;rw [hAp,HONE.out])
         have hZ:=hD2.2.2.1
         have zc0:=hZ.cell 0
         have zf0:=hZ.free 0
         have zc1:=hZ.cell 1
         have zf1:=hZ.free 1
         have zc2:=hZ.cell 2
         have zf2:=hZ.free 2
         simp at zc0 zc1 zc2
         have HB1:=Lib.hid hD2.2.2.2.1
         have HZ1:=Lib.hid hZ
         clear hD1 hD2 hM1 hM2 hM hD hZ hAp hok HF HD HM HS HR HCH hrk HOK1 HID HAPID ap HONE0
         obtain ⟨rk,ri,p1,p2,p3,q1,q2,q3,ra⟩:=r
         obtain ⟨c0,c1,c2,c3,c4,c5,c6,c7,c8⟩:=hc
         obtain ⟨ei,e1,e2,e3,e4,e5,e6,e7,e8⟩:=y
         unfold entV at hlk
         simp only [entA] at *
         subst hk0
         go_wp2
         exact bodyPost_ret (v:=.tuple #[.agg #[.int .i64 0,.int .i64 0,.slice none 0 0],.int .i64 15])
          (by
            have hh:=blk3 (v0:=.int .i64 0) (v1:=.int .i64 0) (v2:=.slice none 0 0) HZ1.out
            have g0:=hh.cell 0
            have g1:=hh.cell 1
            have g2:=hh.cell 2
            simp at g0 g1 g2
            simp [results,Tryz.results117,go_sem,g0,g1,g2]) rfl
          ⟨.slice none 0 0,by rw [HV.out];rfl,by rw [HV.out];exact OwnE.nil _ _,below3 HB1.out (by omega)⟩
        ·have hk02 : (r.kind == 0) = false:=by simpa using hk0
         by_cases hk2 : r.kind = 2
         ·have HONE : Hid (apOne l r = some (delE l r.id)):=Lib.hid (by rw [HONE0.out,hf];simp only;rw [if_neg hk0,if_pos hk2])
          obtain ⟨w3,hup,hM3,hO3⟩:=delete_ent hM2 r.id 0 3
          have hD3:=hD2.only hO3 (fun k hk=>by omega)
          have hok3:=HOK1.out _ HONE.out
          clear HONE0 HOK1 HID HAPID ap
          have HS2 : Hid (DlRel w #[.int .i64 tick,.int .i64 time,.slice ae es.length ecap] #[.int .i64 g.tick,.int .i64 g.time,.int .i64 g.base,.slice (some ⟨b,off,none⟩) g.recs.length cap] (byIdF es) g.recs M (k + 1) w3):=Lib.hid ⟨_,hD3,hM3,hMs,hAp.trans (by rw [HONE.out]),hok3⟩
          clear hD1 hD2 hM1 hM2 hM hD hD3 hM3 hAp hok hok3 HS
          obtain ⟨rk,ri,p1,p2,p3,q1,q2,q3,ra⟩:=r
          obtain ⟨c0,c1,c2,c3,c4,c5,c6,c7,c8⟩:=hc
          obtain ⟨ei,e1,e2,e3,e4,e5,e6,e7,e8⟩:=y
          unfold entV at hlk
          simp only [entA] at *
          subst hk2
          clear hO3
          go_wp2
          go_roundw
          case rel=>exact ⟨k + 1,by omega,by go_num,HS2.out⟩
          case measure=>simp [intOf];omega
         ·have HONE : Hid (apOne l r = some (putE l (recApl y r).1)):=Lib.hid (by rw [HONE0.out,hf];simp only;rw [if_neg hk0,if_neg hk2])
          have hk22 : (r.kind == 2) = false:=by simpa using hk2
          have hzid:=HAPID.out hk0 hk2 HYID.out
          have hokz:=HOK1.out _ HONE.out
          have HCN:=Lib.hid (show DaRel w #[.int .i64 tick,.int .i64 time,.slice ae es.length ecap] #[.int .i64 g.tick,.int .i64 g.time,.int .i64 g.base,.slice (some ⟨b,off,none⟩) g.recs.length cap] ((wr.alloc (.cells (recA r) 147)).alloc (.cells (entA y) 33)) ∧ MapIs ((wr.alloc (.cells (recA r) 147)).alloc (.cells (entA y) 33)) M l from ⟨hD2,hM2⟩)
          have HNX : Hid (∀ w3,DaRel w #[.int .i64 tick,.int .i64 time,.slice ae es.length ecap] #[.int .i64 g.tick,.int .i64 g.time,.int .i64 g.base,.slice (some ⟨b,off,none⟩) g.recs.length cap] w3 → MapIs w3 M (putE l (recApl y r).1) → DlRel w #[.int .i64 tick,.int .i64 time,.slice ae es.length ecap] #[.int .i64 g.tick,.int .i64 g.time,.int .i64 g.base,.slice (some ⟨b,off,none⟩) g.recs.length cap] (byIdF es) g.recs M (k + 1) w3):=Lib.hid (fun w3 h1 h2=>⟨_,h1,h2,hMs,hAp.trans (by rw [HONE.out]),hokz⟩)
          have HUP : Hid (∀ W,MapIs W M l → ∃ w',(Instr.mapUpdate mapT (.map (some M)) (.int .i64 r.id) (.agg (entA (recApl y r).1))).run Tryz.prog W = .ok () w' ∧ MapIs w' M (putE l (recApl y r).1) ∧ Only (fun k=>k = M) W w'):=Lib.hid (fun W h=>by have:=update_ent h (recApl y r).1;rwa [hzid] at this)
          generalize recApl y r = q at *
          clear hD1 hD2 hM1 hM2 hM hD hAp hok HS HONE0 HOK1 HID HAPID HONE hokz hzid
          obtain ⟨rk,ri,p1,p2,p3,q1,q2,q3,ra⟩:=r
          obtain ⟨c0,c1,c2,c3,c4,c5,c6,c7,c8⟩:=hc
          obtain ⟨ei,e1,e2,e3,e4,e5,e6,e7,e8⟩:=y
          unfold entV at hlk
          unfold entV recV at ap
          simp only [entA] at hlk ap HCN
          simp only at *
          have HI : Hid (DpI w #[.int .i64 tick,.int .i64 time,.slice ae es.length ecap] #[.int .i64 g.tick,.int .i64 g.time,.int .i64 g.base,.slice (some ⟨b,off,none⟩) g.recs.length cap] wr.heap.size (wr.heap.size + 1) ⟨rk,ri,p1,p2,p3,q1,q2,q3,ra⟩ ⟨ei,e1,e2,e3,e4,e5,e6,e7,e8⟩ M l (putE l q.1) [] ((wr.alloc (.cells (recA ⟨rk,ri,p1,p2,p3,q1,q2,q3,ra⟩) 147)).alloc (.cells (entA ⟨ei,e1,e2,e3,e4,e5,e6,e7,e8⟩) 33)).drew):=Lib.hid (by
           obtain ⟨h1,h2⟩:=HCN.out
           refine ⟨⟨h1.below (below_drewN (Below.refl _ _) 1),(Blk.new wr _ _).alloc _,?_⟩,h2.below (below_drewN (Below.refl _ _) 1) h2.lt⟩
           have:=Blk.new (wr.alloc (.cells (recA ⟨rk,ri,p1,p2,p3,q1,q2,q3,ra⟩) 147)) (entA ⟨ei,e1,e2,e3,e4,e5,e6,e7,e8⟩) 33
           rw [show (wr.alloc (.cells (recA ⟨rk,ri,p1,p2,p3,q1,q2,q3,ra⟩) 147)).heap.size = wr.heap.size + 1 by simp] at this
           exact this)
          have HML:=Lib.hid (show M < wr.heap.size ∧ w.heap.size + 3 ≤ M from ⟨hMlt,hMs⟩)
          clear HCN hMlt hMs
          go_wp2_with fail
          apply wp_region_chainA [9] (DpI w #[.int .i64 tick,.int .i64 time,.slice ae es.length ecap] #[.int .i64 g.tick,.int .i64 g.time,.int .i64 g.base,.slice (some ⟨b,off,none⟩) g.recs.length cap] wr.heap.size (wr.heap.size + 1) ⟨rk,ri,p1,p2,p3,q1,q2,q3,ra⟩ ⟨ei,e1,e2,e3,e4,e5,e6,e7,e8⟩ M l (putE l q.1))
          case hm=>kernel_rfl
          case hB=>kernel_rfl
          case hp=>kernel_rfl
          case hI=>exact HI.out
          repeat (apply wpChain_fix;(next=>rfl);(next=>(intro b W hW K hK;have yX:=hW.rec;have yE:=hW.ent;unfold recA at yX;have x0:=yX.cell 0;have e0':=yE.cell 0;have x1:=yX.cell 1;have e1':=yE.cell 1;have x2:=yX.cell 2;have e2':=yE.cell 2;have x3:=yX.cell 3;have e3':=yE.cell 3;have x4:=yX.cell 4;have e4':=yE.cell 4;have x5:=yX.cell 5;have e5':=yE.cell 5;have x6:=yX.cell 6;have e6':=yE.cell 6;have x7:=yX.cell 7;have e7':=yE.cell 7;have x8:=yX.cell 8;have e8':=yE.cell 8;simp at x0 e0' x1 e1' x2 e2' x3 e3' x4 e4' x5 e5' x6 e6' x7 e7' x8 e8'; go_simp;first | exact ⟨hW,hK⟩ | exact hK));(next=>exact ⟨_,HI.out⟩);(try go_simp))
          (apply wpChain_fix;(next=>rfl);(next=>(intro b W hW K hK;go_simp;first | exact ⟨hW,_,(ap W).mono (fun e w' hh=>⟨hh.1,hW.below hh.2⟩),hK⟩ | exact ⟨_,(ap W).mono (fun e w' hh=>⟨hh.1,hW.below hh.2⟩),hK⟩));(next=>exact ⟨_,HI.out⟩);(try go_simp))
          repeat (apply wpChain_fix;(next=>rfl);(next=>(intro b W hW K hK;go_simp;first | exact ⟨hW,hK⟩ | exact hK));(next=>exact ⟨_,HI.out⟩);(try go_simp))
          apply wpChain_one (s:=fun _=>True)
          case hk=>rfl
          case hne=>exact ⟨undef,trivial⟩
          case hw=>rfl
          case h =>
           intro W hW
           obtain ⟨hB,hMw⟩:=hW
           obtain ⟨w',hrun,hM',hO'⟩:=HUP.out W hMw
           simp only [entA] at hrun
           go_simp
           have h1:=HML.out
           exact ⟨⟨hB.1.only hO' (fun k hk=>by omega),hO'.blk hB.2.1 (by omega),hO'.blk hB.2.2 (by omega)⟩,hM'⟩
          intro uu _
          refine wpChain_nil ?_
          intro WC hWC
          have HS2:=Lib.hid (HNX.out WC hWC.1.1 hWC.2)
          clear hWC
          go_wp2
          go_roundw
          case rel=>exact ⟨k + 1,by omega,by go_num,HS2.out⟩
          case measure=>simp [intOf];omega
      ·obtain rfl : k = g.recs.length:=by omega
       rw [List.drop_length] at hAp
       have hAp2 : apAll (byIdF es) g.recs = some l:=hAp
       obtain ⟨es0,clock0,hb0,he0,_,_,hnd⟩:=hM
       have hM : MapIs wr M l:=⟨es0,clock0,hb0,he0,by assumption,by assumption,hnd⟩
       clear hb0 he0
       have hln:=len_ent hM 3
       by_cases hbig : 64 < l.length
       ·have HV : Hid (z = (sn0,4)):=Lib.hid (by rw [HF.out];unfold apFin;rw [hAp2];simp only;rw [if_pos hbig])
        have hbig2 : (64 : Int) < l.length:=by omega
        have hZ:=hD.2.2.1
        have zc0:=hZ.cell 0
        have zf0:=hZ.free 0
        have zc1:=hZ.cell 1
        have zf1:=hZ.free 1
        have zc2:=hZ.cell 2
        have zf2:=hZ.free 2
        simp at zc0 zc1 zc2
        have HB1:=Lib.hid hD.2.2.2.1
        have HZ1:=Lib.hid hZ
        clear hZ hAp hAp2 hok HF HD HM HS HR HCH hbig hD hM hnd
        go_wp2
        exact bodyPost_ret (v:=.tuple #[.agg #[.int .i64 0,.int .i64 0,.slice none 0 0],.int .i64 4])
         (by
           have hh:=blk3 (v0:=.int .i64 0) (v1:=.int .i64 0) (v2:=.slice none 0 0) HZ1.out
           have g0:=hh.cell 0
           have g1:=hh.cell 1
           have g2:=hh.cell 2
           simp at g0 g1 g2
           simp [results,Tryz.results117,go_sem,g0,g1,g2]) rfl
         ⟨.slice none 0 0,by rw [HV.out];rfl,by rw [HV.out];exact OwnE.nil _ _,below3 HB1.out (by omega)⟩
       ·have HV : Hid (z = (⟨g.tick,g.time,srtE l⟩,0)):=Lib.hid (by rw [HF.out];unfold apFin;rw [hAp2];simp only;rw [if_neg hbig])
        have hbig2 : ¬ (64 : Int) < l.length:=by omega
        have vin:=(callsIn_wide (n:=9)).1 (values_in Fence.wide 9 trivial rfl (some M) wr)
        have hAl : Below wr.heap.size wr (wr.alloc (.cells #[.map (some M)] mapT)):=(Below.refl _ _).alloc (Nat.le_refl _) _
        have sf:=sortedFunc_f wr.heap.size M l (by omega) (wr.alloc (.cells #[.map (some M)] mapT)) (by simp) ((Blk.new wr #[.map (some M)] mapT).cell 0) (hM.below hAl hM.lt)
        have hD2:=hD.below hAl
        have HD2:=Lib.hid hD2
        have HND:=Lib.hid hnd
        clear hAp hAp2 hok HF HD HM HS HR HCH hbig hD hM hnd hD2 hAl
        go_wp2_with fail
        refine vin.mono ?_;rintro e w5 ⟨rfl,rfl⟩
        go_wp2_with fail
        refine sf.mono ?_;rintro e w6 ⟨vv,xs,rfl,hxp,hxs,hxo,hxb⟩
        have hD3:=HD2.out.below hxb
        have hxe : xs = srtE l:=srtE_eq hxp hxs HND.out
        have hG:=hD3.2.1
        have hZ:=hD3.2.2.1
        have zc0:=hZ.cell 0
        have zf0:=hZ.free 0
        have zc1:=hZ.cell 1
        have zf1:=hZ.free 1
        have zc2:=hZ.cell 2
        have zf2:=hZ.free 2
        simp at zc0 zc1 zc2
        have q0:=hG.cell 0
        have q1:=hG.cell 1
        simp at q0 q1
        have HB1:=Lib.hid hD3.2.2.2.1
        have HZ1:=Lib.hid hZ
        have hsz:=hD3.2.2.2.1.size
        have HO:=Lib.hid hxo
        obtain ⟨va,vc,rfl,_⟩:=hxo.slice
        have HAP : Hid (∀ j,(Value.slice va xs.length vc).ownBlock = some j → w.heap.size + 3 ≤ j):=Lib.hid (fun j e=>by have:=(hxo.lt j e).1;have:=HD2.out.2.2.2.2;omega)
        have HQQ : Hid (w.heap.size ≤ (wr.alloc (.cells #[.map (some M)] mapT)).heap.size):=Lib.hid (by have:=HD2.out.2.2.2.2;omega)
        have HXE:=Lib.hid hxe
        clear hZ hG hxp hxs hxo hxb hD3 vin sf HD2 HND hxe
        go_wp2
        exact bodyPost_ret (v:=.tuple #[.agg #[.int .i64 g.tick,.int .i64 g.time,.slice va xs.length vc],.int .i64 0])
         (by
           have hh:=blk3 (v0:=.int .i64 g.tick) (v1:=.int .i64 g.time) (v2:=.slice va xs.length vc) HZ1.out
           have g0:=hh.cell 0
           have g1:=hh.cell 1
           have g2:=hh.cell 2
           simp at g0 g1 g2
           simp [results,Tryz.results117,go_sem,g0,g1,g2]) rfl
         ⟨_,by rw [HV.out],by rw [HV.out];simp only;rw [← HXE.out];exact OwnE.only (OwnE.base HO.out HQQ.out) (only3 (S:=fun k=>k = w.heap.size + 2) (Only.refl _ _) (.inl rfl)) (fun j e h=>by have:=HAP.out j e;omega),below3 HB1.out (by omega)⟩
    ·have htb2 : (tick != g.base) = true:=by simpa using htb
     have HV : Hid (z = (sn0,14)):=Lib.hid (by rw [HZ3.out,if_neg (by simp),if_pos (by simpa using htb)])
     clear hD2 HZ3 HSC htb
     go_wp2
     exact bodyPost_ret (v:=.tuple #[.agg #[.int .i64 0,.int .i64 0,.slice none 0 0],.int .i64 14])
      (by
        have hh:=blk3 (v0:=.int .i64 0) (v1:=.int .i64 0) (v2:=.slice none 0 0) HZ1.out
        have g0:=hh.cell 0
        have g1:=hh.cell 1
        have g2:=hh.cell 2
        simp at g0 g1 g2
        simp [results,Tryz.results117,go_sem,g0,g1,g2]) rfl
      ⟨.slice none 0 0,by rw [HV.out];rfl,by rw [HV.out];exact OwnE.nil _ _,below3 HB1.out (by omega)⟩
   ·have hsc2 : (sc != 0) = true:=by simpa using hsc
    have HV : Hid (z = (sn0,sc)):=Lib.hid (by rw [HZ3.out,if_pos hsc])
    clear hD2 HZ3 HSC hsc
    go_wp2
    exact bodyPost_ret (v:=.tuple #[.agg #[.int .i64 0,.int .i64 0,.slice none 0 0],.int .i64 sc])
     (by
       have hh:=blk3 (v0:=.int .i64 0) (v1:=.int .i64 0) (v2:=.slice none 0 0) HZ1.out
       have g0:=hh.cell 0
       have g1:=hh.cell 1
       have g2:=hh.cell 2
       simp at g0 g1 g2
       simp [results,Tryz.results117,go_sem,g0,g1,g2]) rfl
     ⟨.slice none 0 0,by rw [HV.out];rfl,by rw [HV.out];exact OwnE.nil _ _,below3 HB1.out (by omega)⟩
  ·have HF : Hid (z = apFin g []):=Lib.hid (by rw [HZ2.out,if_neg hbase])
   have HD:=HDm
   have HM:=HMm
   clear hDm HZ2
   have HS : Hid (DlRel w #[.int .i64 tick,.int .i64 time,.slice ae es.length ecap] #[.int .i64 g.tick,.int .i64 g.time,.int .i64 g.base,.slice ga g.recs.length cap] [] g.recs w1.heap.size 0 (w1.alloc (.map #[] 0))):=Lib.hid ⟨_,HD.out,HM.out.1,HM.out.2.1,by simp,HM.out.2.2⟩
   have hG:=HD.out.2.1
   have g3:=hG.cell 3
   simp at g3
   clear hG
   go_wp2_with fail
   go_loopw [10,11,42] (fun _ _ i wr=>∃ k : Nat,k ≤ g.recs.length ∧ i = .int .i64 k ∧ DlRel w #[.int .i64 tick,.int .i64 time,.slice ae es.length ecap] #[.int .i64 g.tick,.int .i64 g.time,.int .i64 g.base,.slice ga g.recs.length cap] [] g.recs w1.heap.size k wr) (fun _ _ i _=>g.recs.length - (intOf i).toNat)
   case atStart=>exact ⟨0,Nat.zero_le _,rfl,HS.out⟩
   case round =>
    rename_i wr
    obtain ⟨k,hk,rfl,l,hD,hM,hMs,hAp,hok⟩:=hrel
    clear g3
    by_cases hlt : k < g.recs.length
    ·have hlt' : (k : Int) < g.recs.length:=by omega
     obtain ⟨r,hr⟩ : ∃ r,g.recs[k]? = some r:=⟨_,List.getElem?_eq_getElem hlt⟩
     have hdrop : g.recs.drop k = r :: g.recs.drop (k + 1):=by
      rw [List.drop_eq_getElem_cons hlt]
      rw [List.getElem?_eq_getElem hlt] at hr
      cases hr;rfl
     rw [hdrop,apAll] at hAp
     have hmem : r ∈ g.recs:=List.mem_of_getElem? hr
     have hrc:=HCH.out r hmem
     have hrk:=HR.out.1 r hmem
     obtain ⟨b,off,hgae,hbl,hcs⟩ : ∃ b off,ga = some ⟨b,off,none⟩ ∧ b < w.heap.size ∧ ∀ i r,g.recs[i]? = some r → RecCells w b (off + i * 9) r:=by
      rcases HR.out.2 with h0 | h0
      ·rw [h0] at hlt;simp at hlt
      ·exact h0
     have hc:=(hcs k r hr).below hD.2.2.2.1 hbl
     have hKnd : 0 ≤ r.kind ∧ r.kind ≤ 3:=by unfold recChk at hrc;split at hrc;cases hrc;omega
     have hAl1 : Below wr.heap.size wr (wr.alloc (.cells (recA r) 147)):=(Below.refl _ _).alloc (Nat.le_refl _) _
     have hM1:=hM.below hAl1 hM.lt
     have hlk:=lookup_ent hM1 r.id
     have hD1:=hD.below hAl1
     obtain ⟨x,hfx⟩ : ∃ x,(findE l r.id).getD ent0 = x:=⟨_,rfl⟩
     have hAl2 : Below (wr.alloc (.cells (recA r) 147)).heap.size (wr.alloc (.cells (recA r) 147)) ((wr.alloc (.cells (recA r) 147)).alloc (.cells (entA x) 33)):=(Below.refl _ _).alloc (Nat.le_refl _) _
     have hM2:=hM1.below hAl2 hM1.lt
     have hD2:=hD1.below hAl2
     have HONE0 : Hid (apOne l r = match findE l r.id with | some x=>if r.kind = 0 then none else if r.kind = 2 then some (delE l r.id) else some (putE l (recApl x r).1) | none=>if r.kind = 0 then some (putE l ⟨r.id,r.px,r.py,r.pz,r.vx,r.vy,r.vz,r.ang,0⟩) else none):=Lib.hid rfl
     have HOK1 : Hid (∀ l',apOne l r = some l' → ∀ e ∈ l',e.Ok):=Lib.hid (fun l' h=>apOne_ok h hok hrk)
     have HID : Hid (findE l r.id = some x → x.id = r.id):=Lib.hid (fun h=>(findE_mem h).2)
     have HAPID : Hid (r.kind ≠ 0 → r.kind ≠ 2 → x.id = r.id → (recApl x r).1.id = r.id):=Lib.hid (fun h1 h2 h3=>recApl_id hrc h3 h1 h2)
     have ap:=fun W=>rapply_f x r W
     have hsz2 : ((wr.alloc (.cells (recA r) 147)).alloc (.cells (entA x) 33)).heap.size = wr.heap.size + 2:=by simp
     have hMlt:=hM.lt
     subst hgae
     cases hf : findE l r.id with
     | none =>
      rw [hf] at hlk hfx
      simp only [Option.getD_none,Option.isSome_none] at hlk hfx
      subst hfx
      by_cases hk0 : r.kind = 0
      ·have HONE : Hid (apOne l r = some (putE l ⟨r.id,r.px,r.py,r.pz,r.vx,r.vy,r.vz,r.ang,0⟩)):=Lib.hid (by rw [HONE0.out,hf];simp only;rw [if_pos hk0])
       obtain ⟨w3,hup,hM3,hO3⟩:=update_ent hM2 ⟨r.id,r.px,r.py,r.pz,r.vx,r.vy,r.vz,r.ang,0⟩
       have hD3:=hD2.only hO3 (fun k hk=>by omega)
       have hok3:=HOK1.out _ HONE.out
       clear HONE0 HOK1 HID HAPID ap
       have HS2 : Hid (DlRel w #[.int .i64 tick,.int .i64 time,.slice ae es.length ecap] #[.int .i64 g.tick,.int .i64 g.time,.int .i64 g.base,.slice (some ⟨b,off,none⟩) g.recs.length cap] [] g.recs w1.heap.size (k + 1) w3):=Lib.hid ⟨_,hD3,hM3,hMs,hAp.trans (by rw [HONE.out]),hok3⟩
       clear hD1 hD2 hM1 hM2 hM hD hD3 hM3 hAp hok hok3 HS
       obtain ⟨rk,ri,p1,p2,p3,q1,q2,q3,ra⟩:=r
       obtain ⟨c0,c1,c2,c3,c4,c5,c6,c7,c8⟩:=hc
       unfold entV ent0 at hlk
       unfold entV at hup
       simp only [entA,ent0] at *
       subst hk0
       clear hO3
       go_wp2
       go_roundw
       case rel=>exact ⟨k + 1,by omega,by go_num,HS2.out⟩
       case measure=>simp [intOf];omega
      ·have HONE : Hid (apOne l r = none):=Lib.hid (by rw [HONE0.out,hf];simp only;rw [if_neg hk0])
       have HV : Hid (z = (sn0,15)):=Lib.hid (by rw [HF.out];unfold apFin;rw [hAp,HONE.out])
       have hZ:=hD2.2.2.1
       have zc0:=hZ.cell 0
       have zf0:=hZ.free 0
       have zc1:=hZ.cell 1
       have zf1:=hZ.free 1
       have zc2:=hZ.cell 2
       have zf2:=hZ.free 2
       simp at zc0 zc1 zc2
       have HB1:=Lib.hid hD2.2.2.2.1
       have HZ1:=Lib.hid hZ
       clear hD1 hD2 hM1 hM2 hM hD hZ hAp hok HF HD HM HS HR HCH hrk HOK1 HID HAPID ap HONE0
       have hk02 : (r.kind == 0) = false:=by simpa using hk0
       obtain ⟨rk,ri,p1,p2,p3,q1,q2,q3,ra⟩:=r
       obtain ⟨c0,c1,c2,c3,c4,c5,c6,c7,c8⟩:=hc
       unfold entV ent0 at hlk
       simp only [entA,ent0] at *
       go_wp2
       exact bodyPost_ret (v:=.tuple #[.agg #[.int .i64 0,.int .i64 0,.slice none 0 0],.int .i64 15])
        (by
          have hh:=blk3 (v0:=.int .i64 0) (v1:=.int .i64 0) (v2:=.slice none 0 0) HZ1.out
          have g0:=hh.cell 0
          have g1:=hh.cell 1
          have g2:=hh.cell 2
          simp at g0 g1 g2
          simp [results,Tryz.results117,go_sem,g0,g1,g2]) rfl
        ⟨.slice none 0 0,by rw [HV.out];rfl,by rw [HV.out];exact OwnE.nil _ _,below3 HB1.out (by omega)⟩
     | some y =>
      rw [hf] at hlk hfx
      simp only [Option.getD_some,Option.isSome_some] at hlk hfx
      subst hfx
      have HYID:=Lib.hid (HID.out hf)
      by_cases hk0 : r.kind = 0
      ·have HONE : Hid (apOne l r = none):=Lib.hid (by rw [HONE0.out,hf];simp only;rw [if_pos hk0])
       have HV : Hid (z = (sn0,15)):=Lib.hid (by rw [HF.out];unfold apFin;rw [hAp,HONE.out])
       have hZ:=hD2.2.2.1
       have zc0:=hZ.cell 0
       have zf0:=hZ.free 0
       have zc1:=hZ.cell 1
       have zf1:=hZ.free 1
       have zc2:=hZ.cell 2
       have zf2:=hZ.free 2
       simp at zc0 zc1 zc2
       have HB1:=Lib.hid hD2.2.2.2.1
       have HZ1:=Lib.hid hZ
       clear hD1 hD2 hM1 hM2 hM hD hZ hAp hok HF HD HM HS HR HCH hrk HOK1 HID HAPID ap HONE0
       obtain ⟨rk,ri,p1,p2,p3,q1,q2,q3,ra⟩:=r
       obtain ⟨c0,c1,c2,c3,c4,c5,c6,c7,c8⟩:=hc
       obtain ⟨ei,e1,e2,e3,e4,e5,e6,e7,e8⟩:=y
       unfold entV at hlk
       simp only [entA] at *
       subst hk0
       go_wp2
       exact bodyPost_ret (v:=.tuple #[.agg #[.int .i64 0,.int .i64 0,.slice none 0 0],.int .i64 15])
        (by
          have hh:=blk3 (v0:=.int .i64 0) (v1:=.int .i64 0) (v2:=.slice none 0 0) HZ1.out
          have g0:=hh.cell 0
          have g1:=hh.cell 1
          have g2:=hh.cell 2
          simp at g0 g1 g2
          simp [results,Tryz.results117,go_sem,g0,g1,g2]) rfl
        ⟨.slice none 0 0,by rw [HV.out];rfl,by rw [HV.out];exact OwnE.nil _ _,below3 HB1.out (by omega)⟩
      ·have hk02 : (r.kind == 0) = false:=by simpa using hk0
       by_cases hk2 : r.kind = 2
       ·have HONE : Hid (apOne l r = some (delE l r.id)):=Lib.hid (by rw [HONE0.out,hf];simp only;rw [if_neg hk0,if_pos hk2])
        obtain ⟨w3,hup,hM3,hO3⟩:=delete_ent hM2 r.id 0 3
        have hD3:=hD2.only hO3 (fun k hk=>by omega)
        have hok3:=HOK1.out _ HONE.out
        clear HONE0 HOK1 HID HAPID ap
        have HS2 : Hid (DlRel w #[.int .i64 tick,.int .i64 time,.slice ae es.length ecap] #[.int .i64 g.tick,.int .i64 g.time,.int .i64 g.base,.slice (some ⟨b,off,none⟩) g.recs.length cap] [] g.recs w1.heap.size (k + 1) w3):=Lib.hid ⟨_,hD3,hM3,hMs,hAp.trans (by rw [HONE.out]),hok3⟩
        clear hD1 hD2 hM1 hM2 hM hD hD3 hM3 hAp hok hok3 HS
        obtain ⟨rk,ri,p1,p2,p3,q1,q2,q3,ra⟩:=r
        obtain ⟨c0,c1,c2,c3,c4,c5,c6,c7,c8⟩:=hc
        obtain ⟨ei,e1,e2,e3,e4,e5,e6,e7,e8⟩:=y
        unfold entV at hlk
        simp only [entA] at *
        subst hk2
        clear hO3
        go_wp2
        go_roundw
        case rel=>exact ⟨k + 1,by omega,by go_num,HS2.out⟩
        case measure=>simp [intOf];omega
       ·have HONE : Hid (apOne l r = some (putE l (recApl y r).1)):=Lib.hid (by rw [HONE0.out,hf];simp only;rw [if_neg hk0,if_neg hk2])
        have hk22 : (r.kind == 2) = false:=by simpa using hk2
        have hzid:=HAPID.out hk0 hk2 HYID.out
        have hokz:=HOK1.out _ HONE.out
        have HCN:=Lib.hid (show DaRel w #[.int .i64 tick,.int .i64 time,.slice ae es.length ecap] #[.int .i64 g.tick,.int .i64 g.time,.int .i64 g.base,.slice (some ⟨b,off,none⟩) g.recs.length cap] ((wr.alloc (.cells (recA r) 147)).alloc (.cells (entA y) 33)) ∧ MapIs ((wr.alloc (.cells (recA r) 147)).alloc (.cells (entA y) 33)) w1.heap.size l from ⟨hD2,hM2⟩)
        have HNX : Hid (∀ w3,DaRel w #[.int .i64 tick,.int .i64 time,.slice ae es.length ecap] #[.int .i64 g.tick,.int .i64 g.time,.int .i64 g.base,.slice (some ⟨b,off,none⟩) g.recs.length cap] w3 → MapIs w3 w1.heap.size (putE l (recApl y r).1) → DlRel w #[.int .i64 tick,.int .i64 time,.slice ae es.length ecap] #[.int .i64 g.tick,.int .i64 g.time,.int .i64 g.base,.slice (some ⟨b,off,none⟩) g.recs.length cap] [] g.recs w1.heap.size (k + 1) w3):=Lib.hid (fun w3 h1 h2=>⟨_,h1,h2,hMs,hAp.trans (by rw [HONE.out]),hokz⟩)
        have HUP : Hid (∀ W,MapIs W w1.heap.size l → ∃ w',(Instr.mapUpdate mapT (.map (some w1.heap.size)) (.int .i64 r.id) (.agg (entA (recApl y r).1))).run Tryz.prog W = .ok () w' ∧ MapIs w' w1.heap.size (putE l (recApl y r).1) ∧ Only (fun k=>k = w1.heap.size) W w'):=Lib.hid (fun W h=>by have:=update_ent h (recApl y r).1;rwa [hzid] at this)
        generalize recApl y r = q at *
        clear hD1 hD2 hM1 hM2 hM hD hAp hok HS HONE0 HOK1 HID HAPID HONE hokz hzid
        obtain ⟨rk,ri,p1,p2,p3,q1,q2,q3,ra⟩:=r
        obtain ⟨c0,c1,c2,c3,c4,c5,c6,c7,c8⟩:=hc
        obtain ⟨ei,e1,e2,e3,e4,e5,e6,e7,e8⟩:=y
        unfold entV at hlk
        unfold entV recV at ap
        simp only [entA] at hlk ap HCN
        simp only at *
        have HI : Hid (DpI w #[.int .i64 tick,.int .i64 time,.slice ae es.length ecap] #[.int .i64 g.tick,.int .i64 g.time,.int .i64 g.base,.slice (some ⟨b,off,none⟩) g.recs.length cap] wr.heap.size (wr.heap.size + 1) ⟨rk,ri,p1,p2,p3,q1,q2,q3,ra⟩ ⟨ei,e1,e2,e3,e4,e5,e6,e7,e8⟩ w1.heap.size l (putE l q.1) [] ((wr.alloc (.cells (recA ⟨rk,ri,p1,p2,p3,q1,q2,q3,ra⟩) 147)).alloc (.cells (entA ⟨ei,e1,e2,e3,e4,e5,e6,e7,e8⟩) 33)).drew):=Lib.hid (by
         obtain ⟨h1,h2⟩:=HCN.out
         refine ⟨⟨h1.below (below_drewN (Below.refl _ _) 1),(Blk.new wr _ _).alloc _,?_⟩,h2.below (below_drewN (Below.refl _ _) 1) h2.lt⟩
         have:=Blk.new (wr.alloc (.cells (recA ⟨rk,ri,p1,p2,p3,q1,q2,q3,ra⟩) 147)) (entA ⟨ei,e1,e2,e3,e4,e5,e6,e7,e8⟩) 33
         rw [show (wr.alloc (.cells (recA ⟨rk,ri,p1,p2,p3,q1,q2,q3,ra⟩) 147)).heap.size = wr.heap.size + 1 by simp] at this
         exact this)
        have HML:=Lib.hid (show w1.heap.size < wr.heap.size ∧ w.heap.size + 3 ≤ w1.heap.size from ⟨hMlt,hMs⟩)
        clear HCN hMlt hMs
        go_wp2_with fail
        apply wp_region_chainA [9] (DpI w #[.int .i64 tick,.int .i64 time,.slice ae es.length ecap] #[.int .i64 g.tick,.int .i64 g.time,.int .i64 g.base,.slice (some ⟨b,off,none⟩) g.recs.length cap] wr.heap.size (wr.heap.size + 1) ⟨rk,ri,p1,p2,p3,q1,q2,q3,ra⟩ ⟨ei,e1,e2,e3,e4,e5,e6,e7,e8⟩ w1.heap.size l (putE l q.1))
        case hm=>kernel_rfl
        case hB=>kernel_rfl
        case hp=>kernel_rfl
        case hI=>exact HI.out
        repeat (apply wpChain_fix;(next=>rfl);(next=>(intro b W hW K hK;have yX:=hW.rec;have yE:=hW.ent;unfold recA at yX;have x0:=yX.cell 0;have e0':=yE.cell 0;have x1:=yX.cell 1;have e1':=yE.cell 1;have x2:=yX.cell 2;have e2':=yE.cell 2;have x3:=yX.cell 3;have e3':=yE.cell 3;have x4:=yX.cell 4;have e4':=yE.cell 4;have x5:=yX.cell 5;have e5':=yE.cell 5;have x6:=yX.cell 6;have e6':=yE.cell 6;have x7:=yX.cell 7;have e7':=yE.cell 7;have x8:=yX.cell 8;have e8':=yE.cell 8;simp at x0 e0' x1 e1' x2 e2' x3 e3' x4 e4' x5 e5' x6 e6' x7 e7' x8 e8'; go_simp;first | exact ⟨hW,hK⟩ | exact hK));(next=>exact ⟨_,HI.out⟩);(try go_simp))
        (apply wpChain_fix;(next=>rfl);(next=>(intro b W hW K hK;go_simp;first | exact ⟨hW,_,(ap W).mono (fun e w' hh=>⟨hh.1,hW.below hh.2⟩),hK⟩ | exact ⟨_,(ap W).mono (fun e w' hh=>⟨hh.1,hW.below hh.2⟩),hK⟩));(next=>exact ⟨_,HI.out⟩);(try go_simp))
        repeat (apply wpChain_fix;(next=>rfl);(next=>(intro b W hW K hK;go_simp;first | exact ⟨hW,hK⟩ | exact hK));(next=>exact ⟨_,HI.out⟩);(try go_simp))
        apply wpChain_one (s:=fun _=>True)
        case hk=>rfl
        case hne=>exact ⟨undef,trivial⟩
        case hw=>rfl
        case h =>
         intro W hW
         obtain ⟨hB,hMw⟩:=hW
         obtain ⟨w',hrun,hM',hO'⟩:=HUP.out W hMw
         simp only [entA] at hrun
         go_simp
         have h1:=HML.out
         exact ⟨⟨hB.1.only hO' (fun k hk=>by omega),hO'.blk hB.2.1 (by omega),hO'.blk hB.2.2 (by omega)⟩,hM'⟩
        intro uu _
        refine wpChain_nil ?_
        intro WC hWC
        have HS2:=Lib.hid (HNX.out WC hWC.1.1 hWC.2)
        clear hWC
        go_wp2
        go_roundw
        case rel=>exact ⟨k + 1,by omega,by go_num,HS2.out⟩
        case measure=>simp [intOf];omega
    ·obtain rfl : k = g.recs.length:=by omega
     rw [List.drop_length] at hAp
     have hAp2 : apAll [] g.recs = some l:=hAp
     obtain ⟨es0,clock0,hb0,he0,_,_,hnd⟩:=hM
     have hM : MapIs wr w1.heap.size l:=⟨es0,clock0,hb0,he0,by assumption,by assumption,hnd⟩
     clear hb0 he0
     have hln:=len_ent hM 3
     by_cases hbig : 64 < l.length
     ·have HV : Hid (z = (sn0,4)):=Lib.hid (by rw [HF.out];unfold apFin;rw [hAp2];simp only;rw [if_pos hbig])
      have hbig2 : (64 : Int) < l.length:=by omega
      have hZ:=hD.2.2.1
      have zc0:=hZ.cell 0
      have zf0:=hZ.free 0
      have zc1:=hZ.cell 1
      have zf1:=hZ.free 1
      have zc2:=hZ.cell 2
      have zf2:=hZ.free 2
      simp at zc0 zc1 zc2
      have HB1:=Lib.hid hD.2.2.2.1
      have HZ1:=Lib.hid hZ
      clear hZ hAp hAp2 hok HF HD HM HS HR HCH hbig hD hM hnd
      go_wp2
      exact bodyPost_ret (v:=.tuple #[.agg #[.int .i64 0,.int .i64 0,.slice none 0 0],.int .i64 4])
       (by
         have hh:=blk3 (v0:=.int .i64 0) (v1:=.int .i64 0) (v2:=.slice none 0 0) HZ1.out
         have g0:=hh.cell 0
         have g1:=hh.cell 1
         have g2:=hh.cell 2
         simp at g0 g1 g2
         simp [results,Tryz.results117,go_sem,g0,g1,g2]) rfl
       ⟨.slice none 0 0,by rw [HV.out];rfl,by rw [HV.out];exact OwnE.nil _ _,below3 HB1.out (by omega)⟩
     ·have HV : Hid (z = (⟨g.tick,g.time,srtE l⟩,0)):=Lib.hid (by rw [HF.out];unfold apFin;rw [hAp2];simp only;rw [if_neg hbig])
      have hbig2 : ¬ (64 : Int) < l.length:=by omega
      have vin:=(callsIn_wide (n:=9)).1 (values_in Fence.wide 9 trivial rfl (some w1.heap.size) wr)
      have hAl : Below wr.heap.size wr (wr.alloc (.cells #[.map (some w1.heap.size)] mapT)):=(Below.refl _ _).alloc (Nat.le_refl _) _
      have sf:=sortedFunc_f wr.heap.size w1.heap.size l (by omega) (wr.alloc (.cells #[.map (some w1.heap.size)] mapT)) (by simp) ((Blk.new wr #[.map (some w1.heap.size)] mapT).cell 0) (hM.below hAl hM.lt)
      have hD2:=hD.below hAl
      have HD2:=Lib.hid hD2
      have HND:=Lib.hid hnd
      clear hAp hAp2 hok HF HD HM HS HR HCH hbig hD hM hnd hD2 hAl
      go_wp2_with fail
      refine vin.mono ?_;rintro e w5 ⟨rfl,rfl⟩
      go_wp2_with fail
      refine sf.mono ?_;rintro e w6 ⟨vv,xs,rfl,hxp,hxs,hxo,hxb⟩
      have hD3:=HD2.out.below hxb
      have hxe : xs = srtE l:=srtE_eq hxp hxs HND.out
      have hG:=hD3.2.1
      have hZ:=hD3.2.2.1
      have zc0:=hZ.cell 0
      have zf0:=hZ.free 0
      have zc1:=hZ.cell 1
      have zf1:=hZ.free 1
      have zc2:=hZ.cell 2
      have zf2:=hZ.free 2
      simp at zc0 zc1 zc2
      have q0:=hG.cell 0
      have q1:=hG.cell 1
      simp at q0 q1
      have HB1:=Lib.hid hD3.2.2.2.1
      have HZ1:=Lib.hid hZ
      have hsz:=hD3.2.2.2.1.size
      have HO:=Lib.hid hxo
      obtain ⟨va,vc,rfl,_⟩:=hxo.slice
      have HAP : Hid (∀ j,(Value.slice va xs.length vc).ownBlock = some j → w.heap.size + 3 ≤ j):=Lib.hid (fun j e=>by have:=(hxo.lt j e).1;have:=HD2.out.2.2.2.2;omega)
      have HQQ : Hid (w.heap.size ≤ (wr.alloc (.cells #[.map (some w1.heap.size)] mapT)).heap.size):=Lib.hid (by have:=HD2.out.2.2.2.2;omega)
      have HXE:=Lib.hid hxe
      clear hZ hG hxp hxs hxo hxb hD3 vin sf HD2 HND hxe
      go_wp2
      exact bodyPost_ret (v:=.tuple #[.agg #[.int .i64 g.tick,.int .i64 g.time,.slice va xs.length vc],.int .i64 0])
       (by
         have hh:=blk3 (v0:=.int .i64 g.tick) (v1:=.int .i64 g.time) (v2:=.slice va xs.length vc) HZ1.out
         have g0:=hh.cell 0
         have g1:=hh.cell 1
         have g2:=hh.cell 2
         simp at g0 g1 g2
         simp [results,Tryz.results117,go_sem,g0,g1,g2]) rfl
       ⟨_,by rw [HV.out],by rw [HV.out];simp only;rw [← HXE.out];exact OwnE.only (OwnE.base HO.out HQQ.out) (only3 (S:=fun k=>k = w.heap.size + 2) (Only.refl _ _) (.inl rfl)) (fun j e h=>by have:=HAP.out j e;omega),below3 HB1.out (by omega)⟩
 ·have HV : Hid (z = (sn0,ge)):=Lib.hid (by rw [HZ.out,if_pos hge])
  have hge2 : (ge != 0) = true:=by simpa using hge
  have hZ:=hD1.2.2.1
  have c0:=hZ.cell 0
  have f0:=hZ.free 0
  have c1:=hZ.cell 1
  have f1:=hZ.free 1
  have c2:=hZ.cell 2
  have f2:=hZ.free 2
  simp at c0 c1 c2
  have HB1:=Lib.hid hD1.2.2.2.1
  have HZ1:=Lib.hid hZ
  clear hD1 hZ HZ hge HCH0
  go_wp2
  exact bodyPost_ret (v:=.tuple #[.agg #[.int .i64 0,.int .i64 0,.slice none 0 0],.int .i64 ge])
   (by
     have hh:=blk3 (v0:=.int .i64 0) (v1:=.int .i64 0) (v2:=.slice none 0 0) HZ1.out
     have g0:=hh.cell 0
     have g1:=hh.cell 1
     have g2:=hh.cell 2
     simp at g0 g1 g2
     simp [results,Tryz.results117,go_sem,g0,g1,g2]) rfl
   ⟨.slice none 0 0,by rw [HV.out];rfl,by rw [HV.out];exact OwnE.nil _ _,below3 HB1.out (by omega)⟩
end Go.Proofs.YtklkooeimkedgaaGreat
namespace Go.Proofs.YtklkooeimkedgaaGreat
open Go.RowKit
set_option maxRecDepth 100000
structure Kpt where
 key : Int
 sn : Sn
 a : Option Addr
 cap : Nat
abbrev kpS (k : Kpt) : Value:=.slice k.a k.sn.ents.length k.cap
def kpL (k : Kpt) : List Value:=[.int .i64 k.key,.int .i64 k.sn.tick,.int .i64 k.sn.time,kpS k]
abbrev oneT : TypeId:=221
abbrev ringT : TypeId:=195
def keysUp (l : List Kpt) : Prop:=l.Pairwise (fun a b=>a.key < b.key)
structure RingP (w : World) (R : Nat) (l : List Kpt) (most floor : Int) (gone : Bool) (S : Nat → Prop) (v : Value) : Prop where
 blk : Blk w R #[v,.int .i64 most,.int .i64 floor,.bool gone] ringT
 row : w.ownsRow 0 oneT 4 v l.length (l.flatMap kpL)
 ents : ∀ k ∈ l,OwnE w 0 (kpS k) k.sn.ents ∧ ∀ e ∈ k.sn.ents,e.Ok
 sR : S R
 sv : ∀ j,v.ownBlock = some j → S j
 se : ∀ k ∈ l,∀ j,(kpS k).ownBlock = some j → S j
 up : keysUp l
 len : (l.length : Int) ≤ 64
def RingAt (w : World) (R : Nat) (l : List Kpt) (most floor : Int) (gone : Bool) (S : Nat → Prop) : Prop:=∃ v,RingP w R l most floor gone S v
theorem ownsOnly {w w' : World} {base k n : Nat} {e : TypeId} {v : Value} {xs : List Value} {S : Nat → Prop} (h : w.ownsRow base e k v n xs) (ho : Only S w w') (hS : ∀ j,v.ownBlock = some j → ¬ S j) : w'.ownsRow base e k v n xs:=by
 have hlt:=h.lt
 obtain ⟨h1,h2⟩:=h
 refine ⟨h1,?_⟩
 rcases h2 with h2 | ⟨g,cap,cur,rfl,a,b,c⟩
 ·exact .inl h2
 ·exact .inr ⟨g,cap,cur,rfl,a,by rw [ho.block g (hlt g rfl).2 (hS g rfl)];exact b,c⟩
theorem RingP.only {w w' : World} {R : Nat} {l : List Kpt} {most floor : Int} {gone : Bool} {S T : Nat → Prop} {v : Value} (h : RingP w R l most floor gone S v) (ho : Only T w w') (hd : ∀ k,S k → ¬ T k) : RingP w' R l most floor gone S v :=
 ⟨ho.blk h.blk (hd _ h.sR),ownsOnly h.row ho (fun j e=>hd j (h.sv j e)),fun k hk=>⟨(h.ents k hk).1.only ho (fun j e=>hd j (h.se k hk j e)),(h.ents k hk).2⟩,h.sR,h.sv,h.se,h.up,h.len⟩
theorem RingAt.only {w w' : World} {R : Nat} {l : List Kpt} {most floor : Int} {gone : Bool} {S T : Nat → Prop} (h : RingAt w R l most floor gone S) (ho : Only T w w') (hd : ∀ k,S k → ¬ T k) : RingAt w' R l most floor gone S:=by
 obtain ⟨v,h⟩:=h;exact ⟨v,h.only ho hd⟩
theorem RingAt.below {w w' : World} {R : Nat} {l : List Kpt} {most floor : Int} {gone : Bool} {S : Nat → Prop} (h : RingAt w R l most floor gone S) (hb : Below w.heap.size w w') : RingAt w' R l most floor gone S :=
 h.only (Only.of_below (S:=fun _=>False) hb) (fun _ _ h=>h)
theorem RingP.slice {w : World} {R : Nat} {l : List Kpt} {most floor : Int} {gone : Bool} {S : Nat → Prop} {v : Value} (h : RingP w R l most floor gone S v) : ∃ a c,v = .slice a l.length c ∧ (a = none → c = 0) ∧ l.length ≤ c:=by
 obtain ⟨_,⟨rfl,hn⟩ | ⟨g,cap,cur,rfl,a,b,c,d⟩⟩:=h.row
 ·exact ⟨none,0,by rw [hn],fun _=>rfl,by omega⟩
 ·exact ⟨_,_,rfl,fun h=>(by cases h),c⟩
theorem flat4 : ∀ (d : List Kpt) (i : Nat) (x : Kpt),d[i]? = some x → ∀ j,j < 4 → (d.flatMap kpL)[i * 4 + j]? = (kpL x)[j]?
 | [],i,r,h,_,_=>by simp at h
 | y :: d,0,x,h,j,hj=>by
  simp at h;subst h
  rw [List.flatMap_cons,List.getElem?_append_left (by show _ < 4;omega)]
  congr 1;omega
 | y :: d,i + 1,x,h,j,hj=>by
  have h' : d[i]? = some x:=by simpa using h
  rw [List.flatMap_cons,List.getElem?_append_right (by show 4 ≤ _;omega),show (kpL y).length = 4 from rfl,show (i + 1) * 4 + j - 4 = i * 4 + j by omega]
  exact flat4 d i x h' j hj
theorem RingP.cells {w : World} {R : Nat} {l : List Kpt} {most floor : Int} {gone : Bool} {S : Nat → Prop} {v : Value} (h : RingP w R l most floor gone S v) {i : Nat} {x : Kpt} (hx : l[i]? = some x) :
  ∃ g c,v = .slice (some ⟨g,0,none⟩) l.length c ∧ w.cell? ⟨g,i * 4,none⟩ = some (.int .i64 x.key) ∧ w.cell? ⟨g,i * 4 + 1,none⟩ = some (.int .i64 x.sn.tick) ∧ w.cell? ⟨g,i * 4 + 2,none⟩ = some (.int .i64 x.sn.time) ∧ w.cell? ⟨g,i * 4 + 3,none⟩ = some (kpS x):=by
 have hi : i < l.length:=(List.getElem?_eq_some_iff.1 hx).1
 have hc:=fun g hg=>h.row.cells (g:=g) hg
 obtain ⟨_,⟨rfl,hn⟩ | ⟨g,cap,cur,rfl,a,b,c,d⟩⟩:=h.row
 ·omega
 ·have hf:=flat4 l i x hx
  have ha : ∀ o,(⟨g,0,none⟩ : Addr).add o = ⟨g,o,none⟩:=fun o=>by unfold Addr.add;split <;> simp_all
  have cell : ∀ j u,j < 4 → (kpL x)[j]? = some u → w.cell? ⟨g,i * 4 + j,none⟩ = some u:=fun j u hj hu=>by
   rw [← ha];exact hc g rfl _ _ (by rw [hf j hj];exact hu)
  exact ⟨g,cap,rfl,cell 0 _ (by decide) rfl,cell 1 _ (by decide) rfl,cell 2 _ (by decide) rfl,cell 3 _ (by decide) rfl⟩
theorem rgnew_ok (most : Int) (h1 : 1 ≤ most) (h2 : most ≤ 64) (w : World) :
  Calls Tryz.prog 69 #[.int .i64 most] w fun e w'=>e = .returned (.tuple #[.pointer (some ⟨w.heap.size,0,none⟩),.int .i64 0]) ∧ RingAt w' w.heap.size [] most 0 false (fun k=>k = w.heap.size) ∧ Below w.heap.size w w' ∧ w.heap.size < w'.heap.size:=by
 have a1 : ¬ most < 1:=by omega
 have a2 : ¬ 64 < most:=by omega
 have HR : Hid (RingAt (w.alloc (.cells #[.slice none 0 0,.int .i64 most,.int .i64 0,.bool false] ringT)) w.heap.size [] most 0 false (fun k=>k = w.heap.size)):=Lib.hid
  ⟨.slice none 0 0,Blk.new w _ _,World.ownsRow_nil _ _ _ _,fun k hk=>(by simp at hk),rfl,fun j e=>(by cases e),fun k hk=>(by simp at hk),List.Pairwise.nil,by simp⟩
 have HB : Hid (Below w.heap.size w (w.alloc (.cells #[.slice none 0 0,.int .i64 most,.int .i64 0,.bool false] ringT)) ∧ w.heap.size < (w.alloc (.cells #[.slice none 0 0,.int .i64 most,.int .i64 0,.bool false] ringT)).heap.size):=Lib.hid ⟨(Below.refl _ _).alloc (Nat.le_refl _) _,by simp⟩
 go_enter Tryz.func69,Tryz.ntmps69
 go_wp2
 exact bodyPost_ret (v:=.tuple #[.pointer (some ⟨w.heap.size,0,none⟩),.int .i64 0]) (by simp [results,Tryz.results69,go_sem]) rfl ⟨rfl,HR.out,HB.out⟩
theorem rglen_f (R : Nat) (l : List Kpt) (most floor : Int) (gone : Bool) (S : Nat → Prop) (w : World) (h : RingAt w R l most floor gone S) :
  Calls Tryz.prog 130 #[.pointer (some ⟨R,0,none⟩)] w fun e w'=>e = .returned (.int .i64 (l.length : Nat)) ∧ w = w':=by
 obtain ⟨v,h⟩:=h
 obtain ⟨a,c,rfl,_,_⟩:=h.slice
 have c0:=h.blk.cell 0
 simp at c0
 clear h
 go_enter Tryz.func130,Tryz.ntmps130
 go_wp2
 go_ret
 exact ⟨rfl,rfl⟩
theorem rgfloor_f (R : Nat) (l : List Kpt) (most floor : Int) (gone : Bool) (S : Nat → Prop) (w : World) (h : RingAt w R l most floor gone S) :
  Calls Tryz.prog 167 #[.pointer (some ⟨R,0,none⟩)] w fun e w'=>e = .returned (.tuple #[.int .i64 floor,.bool gone]) ∧ Below w.heap.size w w':=by
 obtain ⟨v,h⟩:=h
 have c2:=h.blk.cell 2
 have c3:=h.blk.cell 3
 simp at c2 c3
 clear h
 go_enter Tryz.func167,Tryz.ntmps167
 go_wp2_with fail
 go_quiet (fail)
 go_wp2
 exact bodyPost_ret (v:=.tuple #[.int .i64 floor,.bool gone]) (by simp [results,Tryz.results167,go_sem]) rfl ⟨rfl,below_drewN (Below.refl _ _) _⟩
end Go.Proofs.YtklkooeimkedgaaGreat
namespace Go.Proofs.YtklkooeimkedgaaGreat
open Go.RowKit
set_option maxRecDepth 100000
def cntK (l : List Kpt) (key : Int) : Nat:=(l.takeWhile (fun k=>decide (k.key < key))).length
def hasK (l : List Kpt) (key : Int) : Bool:=(l[cntK l key]?).elim false (fun k=>k.key == key)
theorem cntK_le (l : List Kpt) (key : Int) : cntK l key ≤ l.length:=List.Sublist.length_le (List.takeWhile_sublist _)
theorem cntK_lt : ∀ {l : List Kpt} {key : Int} {i : Nat} {x : Kpt},keysUp l → l[i]? = some x → (i < cntK l key ↔ x.key < key)
 | [],key,i,x,_,h=>by simp at h
 | y :: l,key,0,x,hu,h=>by
  simp at h;subst h
  unfold cntK
  by_cases hy : y.key < key
  ·rw [List.takeWhile_cons_of_pos (by simpa using hy)];simp [hy]
  ·rw [List.takeWhile_cons_of_neg (by simpa using hy)];simp [hy]
 | y :: l,key,i + 1,x,hu,h=>by
  have h' : l[i]? = some x:=by simpa using h
  have hp:=List.pairwise_cons.1 hu
  have hyx:=hp.1 x (List.mem_of_getElem? h')
  unfold cntK
  by_cases hy : y.key < key
  ·rw [List.takeWhile_cons_of_pos (by simpa using hy)]
   have:=cntK_lt (key:=key) hp.2 h'
   unfold cntK at this
   simp only [List.length_cons]
   omega
  ·rw [List.takeWhile_cons_of_neg (by simpa using hy)]
   simp
   omega
theorem pl1_f (k : Int) (t m : Int) (s : Value) (key : Int) (w : World) :
  Calls Tryz.prog 175 #[.agg #[.int .i64 k,.int .i64 t,.int .i64 m,s],.int .i64 key] w fun e w'=>e = .returned (.int .i64 (if k < key then -1 else if key < k then 1 else 0)) ∧ Below w.heap.size w w':=by
 have HB : Hid (Below w.heap.size w (w.alloc (.cells #[.int .i64 k,.int .i64 t,.int .i64 m,s] oneT))):=Lib.hid ((Below.refl _ _).alloc (Nat.le_refl _) _)
 by_cases h1 : k < key
 ·rw [if_pos h1]
  go_enter Tryz.func175,Tryz.ntmps175
  go_wp2
  go_ret
  exact ⟨rfl,HB.out⟩
 ·rw [if_neg h1]
  by_cases h2 : key < k
  ·rw [if_pos h2]
   go_enter Tryz.func175,Tryz.ntmps175
   go_wp2
   go_ret
   exact ⟨rfl,HB.out⟩
  ·rw [if_neg h2]
   go_enter Tryz.func175,Tryz.ntmps175
   go_wp2
   go_ret
   exact ⟨rfl,HB.out⟩
def KeysAt (w : World) (a : Option Addr) (l : List Kpt) : Prop :=
 l = [] ∨ ∃ g,a = some ⟨g,0,none⟩ ∧ g < w.heap.size ∧ ∀ i x,l[i]? = some x → w.cell? ⟨g,i * 4,none⟩ = some (.int .i64 x.key) ∧ w.cell? ⟨g,i * 4 + 1,none⟩ = some (.int .i64 x.sn.tick) ∧ w.cell? ⟨g,i * 4 + 2,none⟩ = some (.int .i64 x.sn.time) ∧ w.cell? ⟨g,i * 4 + 3,none⟩ = some (kpS x)
set_option maxHeartbeats 1000000 in
theorem bsearch_f (a : Option Addr) (cap : Nat) (l : List Kpt) (key : Int) (w : World) (h : KeysAt w a l) (hu : keysUp l) (hl : (l.length : Int) ≤ 64) :
  Calls Tryz.prog 174 #[.slice a l.length cap,.int .i64 key,.func (.func 175) #[] #[]] w fun e w'=>e = .returned (.tuple #[.int .i64 (cntK l key : Nat),.bool (hasK l key)]) ∧ Below w.heap.size w w':=by
 have HU:=Lib.hid hu
 have HK:=Lib.hid h
 have HLE:=Lib.hid (cntK_le l key)
 have pl:=fun k t m s w=>pl1_f k t m s key w
 have HHK : Hid (hasK l key = (l[cntK l key]?).elim false (fun k=>k.key == key)):=Lib.hid rfl
 have HLT : Hid (∀ i x,l[i]? = some x → (i < cntK l key ↔ x.key < key)):=Lib.hid (fun i x hx=>cntK_lt hu hx)
 generalize hasK l key = hk at *
 generalize cntK l key = n at *
 clear h hu
 go_enter Tryz.func174,Tryz.ntmps174
 go_wp2_with fail
 go_loopw [9,10,11] (fun i j _ wr=>∃ a b : Nat,i = .int .i64 a ∧ j = .int .i64 b ∧ a ≤ n ∧ n ≤ b ∧ b ≤ l.length ∧ Below w.heap.size w wr) (fun i j _ _=>(intOf j).toNat - (intOf i).toNat)
 case atStart=>exact ⟨0,l.length,rfl,rfl,Nat.zero_le _,HLE.out,Nat.le_refl _,Below.refl _ _⟩
 case round =>
  rename_i wr
  obtain ⟨a1,b1,rfl,rfl,h1,h2,h3,hB⟩:=hrel
  by_cases hab : a1 < b1
  ·have hlt' : (a1 : Int) < b1:=by omega
   have hm : (a1 + b1) / 2 < l.length:=by omega
   obtain ⟨x,hx⟩ : ∃ x,l[(a1 + b1) / 2]? = some x:=⟨l[(a1 + b1) / 2],List.getElem?_eq_getElem hm⟩
   obtain ⟨g,rfl,hg,hcs⟩ : ∃ g,a = some ⟨g,0,none⟩ ∧ g < w.heap.size ∧ ∀ i x,l[i]? = some x → w.cell? ⟨g,i * 4,none⟩ = some (.int .i64 x.key) ∧ w.cell? ⟨g,i * 4 + 1,none⟩ = some (.int .i64 x.sn.tick) ∧ w.cell? ⟨g,i * 4 + 2,none⟩ = some (.int .i64 x.sn.time) ∧ w.cell? ⟨g,i * 4 + 3,none⟩ = some (kpS x):=by
    rcases HK.out with h0 | h0
    ·subst h0;simp at hm
    ·exact h0
   obtain ⟨c0,c1,c2,c3⟩:=hcs _ x hx
   have d0:=(hB.cell (p:=⟨g,(a1 + b1) / 2 * 4,none⟩) hg).trans c0
   have d1:=(hB.cell (p:=⟨g,(a1 + b1) / 2 * 4 + 1,none⟩) hg).trans c1
   have d2:=(hB.cell (p:=⟨g,(a1 + b1) / 2 * 4 + 2,none⟩) hg).trans c2
   have d3:=(hB.cell (p:=⟨g,(a1 + b1) / 2 * 4 + 3,none⟩) hg).trans c3
   have HL:=Lib.hid (HLT.out _ x hx)
   clear c0 c1 c2 c3 hcs HK
   have hw : wrap64 ((a1 : Int) + b1) = (a1 : Int) + b1:=by unfold wrap64;omega
   have hw2 : wrap64 (((a1 : Int) + b1) / 2 + 1) = (((a1 + b1) / 2 + 1 : Nat) : Int):=by unfold wrap64;omega
   go_wp2_with fail
   by_cases hkey : x.key < key
   ·have HN:=Lib.hid (HL.out.2 hkey)
    refine (pl x.key x.sn.tick x.sn.time (kpS x) wr).mono ?_
    rw [if_pos hkey]
    rintro e w1 ⟨rfl,hB1⟩
    have HBB:=Lib.hid (hB.trans (hB1.mono hB.size))
    clear hB hB1 d0 d1 d2 d3
    go_wp2_with fail
    go_roundw
    case rel=>exact ⟨(a1 + b1) / 2 + 1,b1,rfl,rfl,HN.out,by omega,h3,HBB.out⟩
    case measure=>show (b1 : Int).toNat - ((((a1 + b1) / 2 + 1 : Nat) : Int)).toNat < (b1 : Int).toNat - (a1 : Int).toNat;omega
   ·have HN:=Lib.hid (fun h=>hkey (HL.out.1 h))
    obtain ⟨r,hr,hr0⟩ : ∃ r : Int,(if x.key < key then (-1 : Int) else if key < x.key then 1 else 0) = r ∧ ¬ r < 0:=by
     rw [if_neg hkey];split <;> exact ⟨_,rfl,by decide⟩
    refine (pl x.key x.sn.tick x.sn.time (kpS x) wr).mono ?_
    rw [hr]
    clear hr
    rintro e w1 ⟨rfl,hB1⟩
    have HBB:=Lib.hid (hB.trans (hB1.mono hB.size))
    clear hB hB1 d0 d1 d2 d3
    go_wp2_with fail
    go_roundw
    case rel=>exact ⟨a1,(a1 + b1) / 2,rfl,by congr 1,h1,Nat.le_of_not_lt HN.out,by omega,HBB.out⟩
    case measure=>show ((((a1 : Int) + b1) / 2)).toNat - (a1 : Int).toNat < (b1 : Int).toNat - (a1 : Int).toNat;omega
  ·obtain rfl : a1 = n:=by omega
   obtain rfl : b1 = a1:=by omega
   by_cases hn : b1 < l.length
   ·have hn' : (b1 : Int) < l.length:=by omega
    obtain ⟨x,hx⟩ : ∃ x,l[b1]? = some x:=⟨l[b1],List.getElem?_eq_getElem hn⟩
    obtain ⟨g,rfl,hg,hcs⟩ : ∃ g,a = some ⟨g,0,none⟩ ∧ g < w.heap.size ∧ ∀ i x,l[i]? = some x → w.cell? ⟨g,i * 4,none⟩ = some (.int .i64 x.key) ∧ w.cell? ⟨g,i * 4 + 1,none⟩ = some (.int .i64 x.sn.tick) ∧ w.cell? ⟨g,i * 4 + 2,none⟩ = some (.int .i64 x.sn.time) ∧ w.cell? ⟨g,i * 4 + 3,none⟩ = some (kpS x):=by
     rcases HK.out with h0 | h0
     ·subst h0;simp at hn
     ·exact h0
    obtain ⟨c0,c1,c2,c3⟩:=hcs _ x hx
    have d0:=(hB.cell (p:=⟨g,b1 * 4,none⟩) hg).trans c0
    have d1:=(hB.cell (p:=⟨g,b1 * 4 + 1,none⟩) hg).trans c1
    have d2:=(hB.cell (p:=⟨g,b1 * 4 + 2,none⟩) hg).trans c2
    have d3:=(hB.cell (p:=⟨g,b1 * 4 + 3,none⟩) hg).trans c3
    have HL:=Lib.hid (HLT.out _ x hx)
    clear c0 c1 c2 c3 hcs HK
    have hHK:=HHK.out
    rw [hx] at hHK
    go_wp2_with fail
    have hnk : ¬ x.key < key:=fun h=>Nat.lt_irrefl _ (HL.out.2 h)
    refine (pl x.key x.sn.tick x.sn.time (kpS x) wr).mono ?_
    rw [if_neg hnk]
    by_cases hk2 : key < x.key
    ·rw [if_pos hk2]
     obtain rfl : hk = false:=by
      rw [hHK];show (x.key == key) = false
      exact beq_eq_false_iff_ne.2 (by omega)
     clear hHK
     rintro e w1 ⟨rfl,hB1⟩
     have HBB:=Lib.hid (hB.trans (hB1.mono hB.size))
     clear hB hB1 d0 d1 d2 d3
     go_wp2_with fail
     exact bodyPost_ret (v:=.tuple #[.int .i64 (b1 : Nat),.bool false]) (by simp [results,Tryz.results174,go_sem]) rfl ⟨rfl,HBB.out⟩
    ·rw [if_neg hk2]
     obtain rfl : hk = true:=by
      rw [hHK];show (x.key == key) = true
      exact beq_iff_eq.2 (by omega)
     clear hHK
     rintro e w1 ⟨rfl,hB1⟩
     have HBB:=Lib.hid (hB.trans (hB1.mono hB.size))
     clear hB hB1 d0 d1 d2 d3
     go_wp2_with fail
     exact bodyPost_ret (v:=.tuple #[.int .i64 (b1 : Nat),.bool true]) (by simp [results,Tryz.results174,go_sem]) rfl ⟨rfl,HBB.out⟩
   ·have hn' : ¬ (b1 : Int) < l.length:=by omega
    obtain rfl : hk = false:=by rw [HHK.out,List.getElem?_eq_none (by omega)];rfl
    go_wp2_with fail
    exact bodyPost_ret (v:=.tuple #[.int .i64 (b1 : Nat),.bool false]) (by simp [results,Tryz.results174,go_sem]) rfl ⟨rfl,hB⟩
theorem RingP.keys {w : World} {R : Nat} {l : List Kpt} {most floor : Int} {gone : Bool} {S : Nat → Prop} {v : Value} (h : RingP w R l most floor gone S v) {a : Option Addr} {n c : Nat} (hv : v = .slice a n c) : KeysAt w a l:=by
 rcases hl : l with _ | ⟨x,l'⟩
 ·exact .inl rfl
 ·obtain ⟨g,c',e,_⟩:=h.cells (i:=0) (x:=x) (by rw [hl];rfl)
  have hlt:=h.row.lt g
  rw [hv] at e
  cases e
  refine .inr ⟨g,rfl,hlt (by rw [hv];rfl) |>.2,fun i x hx=>?_⟩
  rw [← hl] at hx
  obtain ⟨g',c'',e,h4⟩:=h.cells hx
  rw [hv] at e
  cases e
  exact h4
theorem rplace_f (R : Nat) (l : List Kpt) (most floor : Int) (gone : Bool) (S : Nat → Prop) (key : Int) (w : World) (h : RingAt w R l most floor gone S) :
  Calls Tryz.prog 119 #[.pointer (some ⟨R,0,none⟩),.int .i64 key] w fun e w'=>e = .returned (.tuple #[.int .i64 (cntK l key : Nat),.bool (hasK l key)]) ∧ Below w.heap.size w w':=by
 obtain ⟨v,h⟩:=h
 obtain ⟨a,c,rfl,_,_⟩:=h.slice
 have hb:=fun w' (hB : Below w.heap.size w w')=>bsearch_f a c l key w' ((h.only (T:=fun _=>False) (Only.of_below hB) (fun _ _ h=>h)).keys rfl) h.up h.len
 have c0:=h.blk.cell 0
 simp at c0
 clear h
 generalize cntK l key = n at *
 generalize hasK l key = hk at *
 go_enter Tryz.func119,Tryz.ntmps119
 go_wp2_with fail
 refine (hb w (Below.refl _ _)).mono ?_
 rintro e w1 ⟨rfl,hB⟩
 clear hb
 have HB:=Lib.hid hB
 clear hB
 go_wp2_with fail
 exact bodyPost_ret (v:=.tuple #[.int .i64 (n : Nat),.bool hk]) (by simp [results,Tryz.results119,go_sem]) rfl ⟨rfl,HB.out⟩
end Go.Proofs.YtklkooeimkedgaaGreat
namespace Go.Proofs.YtklkooeimkedgaaGreat
open Go.RowKit
set_option maxRecDepth 100000
def getK (l : List Kpt) (key : Int) : Option Kpt:=if hasK l key then l[cntK l key]? else none
def snV : Option Kpt → Value
 | none=>.agg #[.int .i64 0,.int .i64 0,.slice none 0 0]
 | some k=>.agg #[.int .i64 k.sn.tick,.int .i64 k.sn.time,kpS k]
def untK (l : List Kpt) (key : Int) : Nat:=if hasK l key then cntK l key + 1 else cntK l key
theorem hasK_some {l : List Kpt} {key : Int} (h : hasK l key = true) : ∃ x,l[cntK l key]? = some x ∧ x.key = key:=by
 unfold hasK at h
 rcases hx : l[cntK l key]? with _ | x
 ·rw [hx] at h;cases h
 ·rw [hx] at h;exact ⟨x,rfl,by simpa using h⟩
theorem runtil_f (R : Nat) (l : List Kpt) (most floor : Int) (gone : Bool) (S : Nat → Prop) (key : Int) (w : World) (h : RingAt w R l most floor gone S) :
  Calls Tryz.prog 168 #[.pointer (some ⟨R,0,none⟩),.int .i64 key] w fun e w'=>e = .returned (.int .i64 (untK l key : Nat)) ∧ Below w.heap.size w w':=by
 have pl:=rplace_f R l most floor gone S key w h
 have hle : cntK l key ≤ 64:=by
  obtain ⟨v,hp⟩:=h
  have:=hp.len
  have:=cntK_le l key
  omega
 unfold untK
 clear h
 generalize cntK l key = n at *
 generalize hasK l key = hk at *
 have w1 : wrap64 ((n : Int) + 1) = (n + 1 : Nat):=by unfold wrap64;omega
 cases hk
 ·go_enter Tryz.func168,Tryz.ntmps168
  go_wp2_with fail
  refine pl.mono ?_
  rintro e w1 ⟨rfl,hB⟩
  have HB:=Lib.hid hB
  clear pl hB
  go_wp2_with fail
  exact bodyPost_ret (v:=.int .i64 (n : Nat)) (by simp [results,Tryz.results168,go_sem]) rfl ⟨rfl,HB.out⟩
 ·go_enter Tryz.func168,Tryz.ntmps168
  go_wp2_with fail
  refine pl.mono ?_
  rintro e w1 ⟨rfl,hB⟩
  have HB:=Lib.hid hB
  clear pl hB
  go_wp2_with fail
  exact bodyPost_ret (v:=.int .i64 (n + 1 : Nat)) (by simp [results,Tryz.results168,go_sem]) rfl ⟨rfl,HB.out⟩
theorem rget_f (R : Nat) (l : List Kpt) (most floor : Int) (gone : Bool) (S : Nat → Prop) (key : Int) (w : World) (h : RingAt w R l most floor gone S) :
  Calls Tryz.prog 80 #[.pointer (some ⟨R,0,none⟩),.int .i64 key] w fun e w'=>e = .returned (.tuple #[snV (getK l key),.bool (hasK l key)]) ∧ Below w.heap.size w w':=by
 have HR:=Lib.hid (h.below ((Below.refl _ _).alloc (Nat.le_refl _) (.cells #[.int .i64 0,.int .i64 0,.slice none 0 0] 36)))
 have pl:=fun w h=>rplace_f R l most floor gone S key w h
 have HB0:=Lib.hid (show Below w.heap.size w (w.alloc (.cells #[.int .i64 0,.int .i64 0,.slice none 0 0] 36)) from (Below.refl _ _).alloc (Nat.le_refl _) _)
 have HX0:=Lib.hid (Blk.new w #[.int .i64 0,.int .i64 0,.slice none 0 0] 36)
 have HG : Hid (getK l key = if hasK l key then l[cntK l key]? else none):=Lib.hid rfl
 have HH : Hid (hasK l key = true → ∃ x,l[cntK l key]? = some x ∧ x.key = key):=Lib.hid hasK_some
 clear h
 generalize getK l key = gk at *
 generalize cntK l key = n at *
 generalize hasK l key = hk at *
 cases hk
 ·obtain rfl : gk = none:=HG.out
  go_enter Tryz.func80,Tryz.ntmps80
  go_wp2_with fail
  refine (pl _ HR.out).mono ?_
  rintro e w1 ⟨rfl,hB⟩
  have hX:=HX0.out.below hB (by simp)
  have c0:=hX.cell 0
  have c1:=hX.cell 1
  have c2:=hX.cell 2
  have f0:=hX.free 0
  have f1:=hX.free 1
  have f2:=hX.free 2
  simp at c0 c1 c2
  have HB:=Lib.hid (below3 (v0:=.int .i64 0) (v1:=.int .i64 0) (v2:=.slice none 0 0) (HB0.out.trans (hB.mono (by simp))) (Nat.le_refl _))
  clear pl hB hX
  go_wp2_with fail
  exact bodyPost_ret (v:=.tuple #[snV none,.bool false]) (by simp [results,Tryz.results80,go_sem,snV,c0,c1,c2]) rfl ⟨rfl,HB.out⟩
 ·obtain ⟨x,hx,hkey⟩:=HH.out rfl
  obtain rfl : gk = some x:=by rw [HG.out,if_pos rfl];exact hx
  have HXX:=Lib.hid hx
  clear hx hkey
  go_enter Tryz.func80,Tryz.ntmps80
  go_wp2_with fail
  refine (pl _ HR.out).mono ?_
  rintro e w1 ⟨rfl,hB⟩
  have hX:=HX0.out.below hB (by simp)
  have c0:=hX.cell 0
  have c1:=hX.cell 1
  have c2:=hX.cell 2
  simp at c0 c1 c2
  have f0:=hX.free 0
  have f1:=hX.free 1
  have f2:=hX.free 2
  obtain ⟨g,c,hcs,hRn⟩ : ∃ g c,(w1.cell? ⟨R,0,none⟩ = some (.slice (some ⟨g,0,none⟩) l.length c) ∧ w1.cell? ⟨g,n * 4 + 1,none⟩ = some (.int .i64 x.sn.tick) ∧ w1.cell? ⟨g,n * 4 + 2,none⟩ = some (.int .i64 x.sn.time) ∧ w1.cell? ⟨g,n * 4 + 3,none⟩ = some (kpS x)) ∧ (n < l.length):=by
   obtain ⟨v,hP⟩:=HR.out.below hB
   obtain ⟨g,c,rfl,d0,d1,d2,d3⟩:=hP.cells HXX.out
   have e0:=hP.blk.cell 0
   simp at e0
   exact ⟨g,c,⟨e0,d1,d2,d3⟩,(List.getElem?_eq_some_iff.1 HXX.out).1⟩
  obtain ⟨e0,d1,d2,d3⟩:=hcs
  have hn' : (n : Int) < l.length:=by omega
  have HX1:=Lib.hid (blk3 (v0:=.int .i64 x.sn.tick) (v1:=.int .i64 x.sn.time) (v2:=kpS x) hX)
  have g0:=HX1.out.cell 0
  have g1:=HX1.out.cell 1
  have g2:=HX1.out.cell 2
  have k0:=HX1.out.free 0
  have k1:=HX1.out.free 1
  have k2:=HX1.out.free 2
  simp at g0 g1 g2 k0 k1 k2
  have HB:=Lib.hid (below3 (v0:=.int .i64 x.sn.tick) (v1:=.int .i64 x.sn.time) (v2:=kpS x) (below3 (v0:=.int .i64 x.sn.tick) (v1:=.int .i64 x.sn.time) (v2:=kpS x) (HB0.out.trans (hB.mono (by simp))) (Nat.le_refl _)) (Nat.le_refl _))
  clear pl hB hX
  go_wp2_with fail
  exact bodyPost_ret (v:=.tuple #[snV (some x),.bool true]) (by simp [results,Tryz.results80,go_sem,snV,c0,c1,c2,g0,g1,g2]) rfl ⟨rfl,HB.out⟩
theorem rat_bad (R : Nat) (l : List Kpt) (most floor : Int) (gone : Bool) (S : Nat → Prop) (i : Int) (w : World) (h : RingAt w R l most floor gone S) (hi : i < 0 ∨ (l.length : Int) ≤ i) :
  Calls Tryz.prog 131 #[.pointer (some ⟨R,0,none⟩),.int .i64 i] w fun e w'=>e = .returned (.tuple #[.int .i64 0,snV none,.int .i64 3]) ∧ Below w.heap.size w w':=by
 obtain ⟨v,hP⟩:=h
 obtain ⟨a,c,rfl,_,_⟩:=hP.slice
 obtain ⟨w1,hw1⟩ : ∃ w1,(w.alloc (.cells #[.int .i64 0,.int .i64 0,.slice none 0 0] 36)).alloc (.cells #[.int .i64 0,.int .i64 0,.slice none 0 0] 36) = w1:=⟨_,rfl⟩
 have HB0 : Hid (Below w.heap.size w w1):=Lib.hid (by rw [← hw1];exact ((Below.refl _ _).alloc (Nat.le_refl _) _).alloc (by simp) _)
 have HX0 : Hid (Blk w1 w.heap.size #[.int .i64 0,.int .i64 0,.slice none 0 0] 36):=Lib.hid (by rw [← hw1];exact (Blk.new _ _ _).alloc _)
 have HX1 : Hid (Blk w1 (w.heap.size + 1) #[.int .i64 0,.int .i64 0,.slice none 0 0] 36):=Lib.hid (by rw [← hw1];have:=Blk.new (w.alloc (.cells #[.int .i64 0,.int .i64 0,.slice none 0 0] 36)) #[.int .i64 0,.int .i64 0,.slice none 0 0] 36;simpa using this)
 have e0:=(hP.blk.below HB0.out hP.blk.lt).cell 0
 simp at e0
 have c0:=HX0.out.cell 0
 have c1:=HX0.out.cell 1
 have c2:=HX0.out.cell 2
 have d0:=HX1.out.cell 0
 have d1:=HX1.out.cell 1
 have d2:=HX1.out.cell 2
 simp at c0 c1 c2 d0 d1 d2
 clear hP
 by_cases hi0 : i < 0
 ·go_enter Tryz.func131,Tryz.ntmps131
  go_wp2_with fail
  clear hw1
  refine wp_region_calm 2 (by kernel_rfl) (by kernel_rfl) ?_
  simp only [List.take_succ_cons,List.take_zero,List.drop_succ_cons,List.drop_zero]
  repeat (apply wpCalm_step;(next=>(intro W hW K hK;have y0:=hW.cell d0;have y1:=hW.cell d1;have y2:=hW.cell d2;go_simp;first | exact ⟨hW,hK⟩ | exact hK));(next=>exact CalmI.self _);(try go_simp))
  refine wpCalm_nil ?_
  intro WC hWC
  have hXC:=HX0.out.below hWC HX0.out.lt
  have k0:=hXC.cell 0
  have k1:=hXC.cell 1
  have k2:=hXC.cell 2
  have f0:=hXC.free 0
  have f1:=hXC.free 1
  have f2:=hXC.free 2
  simp at k0 k1 k2
  have HB:=Lib.hid (below3 (v0:=.int .i64 0) (v1:=.int .i64 0) (v2:=.slice none 0 0) (HB0.out.trans (Below.mono hWC HB0.out.size)) (Nat.le_refl _))
  clear hWC hXC e0 c0 c1 c2 d0 d1 d2
  go_wp2_with fail
  exact bodyPost_ret (v:=.tuple #[.int .i64 0,snV none,.int .i64 3]) (by simp [results,Tryz.results131,go_sem,snV,k0,k1,k2]) rfl ⟨rfl,HB.out⟩
 ·have hi1 : (l.length : Int) ≤ i:=by omega
  go_enter Tryz.func131,Tryz.ntmps131
  go_wp2_with fail
  clear hw1
  refine wp_region_calm 2 (by kernel_rfl) (by kernel_rfl) ?_
  simp only [List.take_succ_cons,List.take_zero,List.drop_succ_cons,List.drop_zero]
  repeat (apply wpCalm_step;(next=>(intro W hW K hK;have y0:=hW.cell d0;have y1:=hW.cell d1;have y2:=hW.cell d2;go_simp;first | exact ⟨hW,hK⟩ | exact hK));(next=>exact CalmI.self _);(try go_simp))
  refine wpCalm_nil ?_
  intro WC hWC
  have hXC:=HX0.out.below hWC HX0.out.lt
  have k0:=hXC.cell 0
  have k1:=hXC.cell 1
  have k2:=hXC.cell 2
  have f0:=hXC.free 0
  have f1:=hXC.free 1
  have f2:=hXC.free 2
  simp at k0 k1 k2
  have HB:=Lib.hid (below3 (v0:=.int .i64 0) (v1:=.int .i64 0) (v2:=.slice none 0 0) (HB0.out.trans (Below.mono hWC HB0.out.size)) (Nat.le_refl _))
  clear hWC hXC e0 c0 c1 c2 d0 d1 d2
  go_wp2_with fail
  exact bodyPost_ret (v:=.tuple #[.int .i64 0,snV none,.int .i64 3]) (by simp [results,Tryz.results131,go_sem,snV,k0,k1,k2]) rfl ⟨rfl,HB.out⟩
theorem rat_ok (R : Nat) (l : List Kpt) (most floor : Int) (gone : Bool) (S : Nat → Prop) (i : Nat) (x : Kpt) (w : World) (h : RingAt w R l most floor gone S) (hx : l[i]? = some x) :
  Calls Tryz.prog 131 #[.pointer (some ⟨R,0,none⟩),.int .i64 (i : Nat)] w fun e w'=>e = .returned (.tuple #[.int .i64 x.key,snV (some x),.int .i64 0]) ∧ Below w.heap.size w w':=by
 obtain ⟨v,hP⟩:=h
 obtain ⟨w1,hw1⟩ : ∃ w1,(w.alloc (.cells #[.int .i64 0,.int .i64 0,.slice none 0 0] 36)).alloc (.cells #[.int .i64 0,.int .i64 0,.slice none 0 0] 36) = w1:=⟨_,rfl⟩
 have HB0 : Hid (Below w.heap.size w w1):=Lib.hid (by rw [← hw1];exact ((Below.refl _ _).alloc (Nat.le_refl _) _).alloc (by simp) _)
 have HX0 : Hid (Blk w1 w.heap.size #[.int .i64 0,.int .i64 0,.slice none 0 0] 36):=Lib.hid (by rw [← hw1];exact (Blk.new _ _ _).alloc _)
 have hP1:=hP.only (T:=fun _=>False) (Only.of_below HB0.out) (fun _ _ h=>h)
 obtain ⟨g,c,rfl,d0,d1,d2,d3⟩:=hP1.cells hx
 have e0:=hP1.blk.cell 0
 simp at e0
 have hn : i < l.length:=(List.getElem?_eq_some_iff.1 hx).1
 have a1 : ¬ (i : Int) < 0:=by omega
 have a2 : ¬ (l.length : Int) ≤ i:=by omega
 have a3 : (i : Int) < l.length:=by omega
 clear hP hP1 hx
 go_enter Tryz.func131,Tryz.ntmps131
 go_wp2_with fail
 clear hw1
 refine wp_region_calm 17 (by kernel_rfl) (by kernel_rfl) ?_
 simp only [List.take_succ_cons,List.take_zero,List.drop_succ_cons,List.drop_zero]
 repeat (apply wpCalm_step;(next=>(intro W hW K hK;have y0:=hW.cell e0;have y1:=hW.cell d0;have y2:=hW.cell d1;have y3:=hW.cell d2;have y4:=hW.cell d3;go_simp;first | exact ⟨hW,hK⟩ | exact hK));(next=>exact CalmI.self _);(try go_simp))
 refine wpCalm_nil ?_
 intro WC hWC
 have hXC:=HX0.out.below hWC HX0.out.lt
 have k0:=hXC.cell 0
 have k1:=hXC.cell 1
 have k2:=hXC.cell 2
 have f0:=hXC.free 0
 have f1:=hXC.free 1
 have f2:=hXC.free 2
 simp at k0 k1 k2
 have HB:=Lib.hid (below3 (v0:=.int .i64 x.sn.tick) (v1:=.int .i64 x.sn.time) (v2:=kpS x) (HB0.out.trans (Below.mono hWC HB0.out.size)) (Nat.le_refl _))
 clear hWC hXC e0 d0 d1 d2 d3
 go_wp2_with fail
 exact bodyPost_ret (v:=.tuple #[.int .i64 x.key,snV (some x),.int .i64 0]) (by simp [results,Tryz.results131,go_sem,snV,k0,k1,k2]) rfl ⟨rfl,HB.out⟩
end Go.Proofs.YtklkooeimkedgaaGreat
