/- Parts of the walk of TopJumps: Pose8. -/
import Derived.Test.YtklkooeimkedgaaGreatJ24
set_option linter.unusedVariables false
set_option linter.unusedSimpArgs false
namespace Go.Proofs.YtklkooeimkedgaaGreat
open Go.RowKit
set_option maxRecDepth 100000
def chk1 (c : Cfg) (ka ta : Int) (aa : Option Addr) (la ca : Nat) (A : Nat → Ent) : Int:=pchk c (fun _=>ka) (fun _=>ta) (fun _=>(aa,la,ca)) (fun _=>A) 1
theorem chk1_ok {c : Cfg} {ka ta : Int} {aa : Option Addr} {la ca : Nat} {A : Nat → Ent} (h : chk1 c ka ta aa la ca A = 0) : la ≤ 64 ∧ 0 ≤ c.extra ∧ snapChk ka ta la A = 0 ∧ cchk c = 0:=by
 unfold chk1 pchk at h
 split at h
 ·rename_i hc
  have h2 : snapChk ka ta la A = 0:=by
   by_cases e : snapChk ka ta la A = 0
   ·exact e
   ·have : chkS (fun _=>ka) (fun _=>ta) (fun _=>(aa,la,ca)) (fun _=>A) 1 0 = snapChk ka ta la A:=by
     show (if snapChk ka ta la A = 0 then _ else snapChk ka ta la A) = _
     rw [if_neg e]
    rw [this] at h;exact h
  refine ⟨snapChk_len h2,?_,h2,hc⟩
  unfold cchk at hc
  split at hc
  ·split at hc
   ·contradiction
   ·split at hc
    ·rename_i h3
     simp only [Bool.and_eq_true] at h3
     have:=h3.2
     unfold inB at this
     simp at this
     exact this.1
    ·exact absurd hc (by decide)
  ·exact absurd hc (by decide)
 ·contradiction
def byP (m d : Int) (x : Ent) : Po:=⟨x.id,addF x.px (mulF x.vx d),addF x.py (mulF x.vy d),addF x.pz (mulF x.vz d),x.ang,m⟩
def byF (m d : Int) (A : Nat → Ent) (i : Nat) : Po:=byP m d (A i)
def byM (c : Cfg) (d : Int) : Int:=if d = 0 then 0 else if c.extra < d then 4 else 3
def byD (c : Cfg) (d : Int) : Int:=if c.extra < d then c.extra else d
theorem bey_ok {a t : Int} (h : beyE a t = 0) : a ≤ t ∧ beyN a t = subF t a ∧ -2305843009213693952 ≤ a ∧ a ≤ 2305843009213693952:=by
 have hn : beyN a t = subF t a:=by unfold beyN;rw [if_pos h]
 have hc : chkT (fun _=>a) 1 = 0:=by
  unfold beyE at h
  split at h
  ·assumption
  ·assumption
 have h1 : ¬ (t < a):=by
  unfold beyE at h
  rw [if_pos hc] at h
  intro hh;rw [if_pos hh] at h;exact absurd h (by decide)
 have b0:=chk_bounds hc (show 0 < 1 by omega)
 exact ⟨by omega,hn,b0⟩
set_option maxHeartbeats 1000000 in
theorem pbey_bad (c : Cfg) (ka ta : Int) (aa : Option Addr) (la ca : Nat) (A : Nat → Ent) (at0 : Int) (w : World) (hta : I64 ta) (hat : I64 at0) (ha : EntsAt w aa la A) (hla : (la : Int) ≤ 4611686018427387904) (h0 : chk1 c ka ta aa la ca A ≠ 0) :
  Calls Tryz.prog 47 #[cfgV c,snapV ka ta aa la ca,.int .i64 at0] w fun e w'=>e = .returned (.tuple #[.slice none 0 0,.int .i64 (chk1 c ka ta aa la ca A)]) ∧ Below w.heap.size w w':=by
 have hB3 : Below w.heap.size w ((w.alloc (.cells #[.int .i64 c.ring,.int .i64 c.window,.int .i64 c.base,.int .i64 c.gain,.int .i64 c.least,.int .i64 c.most,.int .i64 c.slack,.int .i64 c.num,.int .i64 c.den,.int .i64 c.extra,.bool c.curved] 29)).alloc (.cells #[.int .i64 ka,.int .i64 ta,.slice aa la ca] 36)):=((Below.refl _ _).alloc (Nat.le_refl _) _).alloc (by simp) _
 have bc:=((Blk.new w #[.int .i64 c.ring,.int .i64 c.window,.int .i64 c.base,.int .i64 c.gain,.int .i64 c.least,.int .i64 c.most,.int .i64 c.slack,.int .i64 c.num,.int .i64 c.den,.int .i64 c.extra,.bool c.curved] 29).alloc (.cells #[.int .i64 ka,.int .i64 ta,.slice aa la ca] 36))
 have ba:=Blk.new (w.alloc (.cells #[.int .i64 c.ring,.int .i64 c.window,.int .i64 c.base,.int .i64 c.gain,.int .i64 c.least,.int .i64 c.most,.int .i64 c.slack,.int .i64 c.num,.int .i64 c.den,.int .i64 c.extra,.bool c.curved] 29)) #[.int .i64 ka,.int .i64 ta,.slice aa la ca] 36
 have CK:=pcheck_f c (some ⟨((w.alloc (.cells #[.int .i64 c.ring,.int .i64 c.window,.int .i64 c.base,.int .i64 c.gain,.int .i64 c.least,.int .i64 c.most,.int .i64 c.slack,.int .i64 c.num,.int .i64 c.den,.int .i64 c.extra,.bool c.curved] 29)).alloc (.cells #[.int .i64 ka,.int .i64 ta,.slice aa la ca] 36)).heap.size,0,none⟩) 1 1 _ _ _ _ _ (sns1 ((w.alloc (.cells #[.int .i64 c.ring,.int .i64 c.window,.int .i64 c.base,.int .i64 c.gain,.int .i64 c.least,.int .i64 c.most,.int .i64 c.slack,.int .i64 c.num,.int .i64 c.den,.int .i64 c.extra,.bool c.curved] 29)).alloc (.cells #[.int .i64 ka,.int .i64 ta,.slice aa la ca] 36)) ka ta aa la ca A (ha.below hB3) hla) (by decide)
 have hs3 : ((w.alloc (.cells #[.int .i64 c.ring,.int .i64 c.window,.int .i64 c.base,.int .i64 c.gain,.int .i64 c.least,.int .i64 c.most,.int .i64 c.slack,.int .i64 c.num,.int .i64 c.den,.int .i64 c.extra,.bool c.curved] 29)).alloc (.cells #[.int .i64 ka,.int .i64 ta,.slice aa la ca] 36)).heap.size = w.heap.size + 1 + 1:=by simp
 change Calls _ _ _ _ (fun e w'=>e = .returned (.int .i64 (chk1 c ka ta aa la ca A)) ∧ _) at CK
 simp only [World.size_alloc] at ba
 unfold cfgV at CK ⊢
 unfold snapV
 generalize chk1 c ka ta aa la ca A = z at *
 have hz : (z != 0) = true:=by simpa using h0
 go_enter Tryz.func47,Tryz.ntmps47
 go_wp2_with fail
 generalize ((w.alloc (.cells #[.int .i64 c.ring,.int .i64 c.window,.int .i64 c.base,.int .i64 c.gain,.int .i64 c.least,.int .i64 c.most,.int .i64 c.slack,.int .i64 c.num,.int .i64 c.den,.int .i64 c.extra,.bool c.curved] 29)).alloc (.cells #[.int .i64 ka,.int .i64 ta,.slice aa la ca] 36)) = W at *
 rw [hs3] at CK
 refine CK.mono ?_;rintro e w1 ⟨rfl,hb1⟩
 have hB1 : Below W.heap.size W w1:=((Below.refl _ _).alloc (Nat.le_refl _) _).trans (hb1.mono (by simp))
 have HB1 : Hid (Below w.heap.size w w1):=Lib.hid (hB3.trans (hB1.mono hB3.size))
 have SC:=Lib.hid (bc.below hB1 bc.lt)
 have SA:=Lib.hid (ba.below hB1 ba.lt)
 clear hB3 hb1 hB1 CK bc ba hs3
 go_wp2
 exact bodyPost_ret (v:=.tuple #[.slice none 0 0,.int .i64 z]) (by simp [results,Tryz.results47,go_sem]) rfl ⟨rfl,HB1.out⟩
set_option maxHeartbeats 1000000 in
theorem pbey_bad2 (c : Cfg) (ka ta : Int) (aa : Option Addr) (la ca : Nat) (A : Nat → Ent) (at0 : Int) (w : World) (hta : I64 ta) (hat : I64 at0) (ha : EntsAt w aa la A) (hla : (la : Int) ≤ 4611686018427387904) (h0 : chk1 c ka ta aa la ca A = 0) (h1 : beyE ta at0 ≠ 0) :
  Calls Tryz.prog 47 #[cfgV c,snapV ka ta aa la ca,.int .i64 at0] w fun e w'=>e = .returned (.tuple #[.slice none 0 0,.int .i64 (beyE ta at0)]) ∧ Below w.heap.size w w':=by
 have PT:=bey_f ka ta at0 aa la ca hta hat
 have hB3 : Below w.heap.size w ((w.alloc (.cells #[.int .i64 c.ring,.int .i64 c.window,.int .i64 c.base,.int .i64 c.gain,.int .i64 c.least,.int .i64 c.most,.int .i64 c.slack,.int .i64 c.num,.int .i64 c.den,.int .i64 c.extra,.bool c.curved] 29)).alloc (.cells #[.int .i64 ka,.int .i64 ta,.slice aa la ca] 36)):=((Below.refl _ _).alloc (Nat.le_refl _) _).alloc (by simp) _
 have bc:=((Blk.new w #[.int .i64 c.ring,.int .i64 c.window,.int .i64 c.base,.int .i64 c.gain,.int .i64 c.least,.int .i64 c.most,.int .i64 c.slack,.int .i64 c.num,.int .i64 c.den,.int .i64 c.extra,.bool c.curved] 29).alloc (.cells #[.int .i64 ka,.int .i64 ta,.slice aa la ca] 36))
 have ba:=Blk.new (w.alloc (.cells #[.int .i64 c.ring,.int .i64 c.window,.int .i64 c.base,.int .i64 c.gain,.int .i64 c.least,.int .i64 c.most,.int .i64 c.slack,.int .i64 c.num,.int .i64 c.den,.int .i64 c.extra,.bool c.curved] 29)) #[.int .i64 ka,.int .i64 ta,.slice aa la ca] 36
 have CK:=pcheck_f c (some ⟨((w.alloc (.cells #[.int .i64 c.ring,.int .i64 c.window,.int .i64 c.base,.int .i64 c.gain,.int .i64 c.least,.int .i64 c.most,.int .i64 c.slack,.int .i64 c.num,.int .i64 c.den,.int .i64 c.extra,.bool c.curved] 29)).alloc (.cells #[.int .i64 ka,.int .i64 ta,.slice aa la ca] 36)).heap.size,0,none⟩) 1 1 _ _ _ _ _ (sns1 ((w.alloc (.cells #[.int .i64 c.ring,.int .i64 c.window,.int .i64 c.base,.int .i64 c.gain,.int .i64 c.least,.int .i64 c.most,.int .i64 c.slack,.int .i64 c.num,.int .i64 c.den,.int .i64 c.extra,.bool c.curved] 29)).alloc (.cells #[.int .i64 ka,.int .i64 ta,.slice aa la ca] 36)) ka ta aa la ca A (ha.below hB3) hla) (by decide)
 have hs3 : ((w.alloc (.cells #[.int .i64 c.ring,.int .i64 c.window,.int .i64 c.base,.int .i64 c.gain,.int .i64 c.least,.int .i64 c.most,.int .i64 c.slack,.int .i64 c.num,.int .i64 c.den,.int .i64 c.extra,.bool c.curved] 29)).alloc (.cells #[.int .i64 ka,.int .i64 ta,.slice aa la ca] 36)).heap.size = w.heap.size + 1 + 1:=by simp
 change Calls _ _ _ _ (fun e w'=>e = .returned (.int .i64 (chk1 c ka ta aa la ca A)) ∧ _) at CK
 simp only [World.size_alloc] at ba
 unfold cfgV at CK ⊢
 unfold snapV
 rw [h0] at CK
 clear h0
 generalize beyE ta at0 = z at *
 generalize beyN ta at0 = num at *
 have hz : (z != 0) = true:=by simpa using h1
 go_enter Tryz.func47,Tryz.ntmps47
 go_wp2_with fail
 generalize ((w.alloc (.cells #[.int .i64 c.ring,.int .i64 c.window,.int .i64 c.base,.int .i64 c.gain,.int .i64 c.least,.int .i64 c.most,.int .i64 c.slack,.int .i64 c.num,.int .i64 c.den,.int .i64 c.extra,.bool c.curved] 29)).alloc (.cells #[.int .i64 ka,.int .i64 ta,.slice aa la ca] 36)) = W at *
 rw [hs3] at CK
 refine CK.mono ?_;rintro e w1 ⟨rfl,hb1⟩
 have hB1 : Below W.heap.size W w1:=((Below.refl _ _).alloc (Nat.le_refl _) _).trans (hb1.mono (by simp))
 have HB1 : Hid (Below w.heap.size w w1):=Lib.hid (hB3.trans (hB1.mono hB3.size))
 have SC:=Lib.hid (bc.below hB1 bc.lt)
 have SA:=Lib.hid (ba.below hB1 ba.lt)
 clear hB3 hb1 hB1 CK bc ba hs3
 obtain ⟨a0,a1,a2⟩:=sn_cells SA.out
 go_wp2_with fail
 refine (PT _).mono ?_;rintro e w2 ⟨rfl,hb2⟩
 have HB2 : Hid (Below w.heap.size w w2):=Lib.hid (HB1.out.trans (hb2.mono HB1.out.size))
 clear hb2 a0 a1 a2 PT
 go_wp2
 exact bodyPost_ret (v:=.tuple #[.slice none 0 0,.int .i64 z]) (by simp [results,Tryz.results47,go_sem]) rfl ⟨rfl,HB2.out⟩
set_option maxHeartbeats 4000000 in
theorem pbey_Z (c : Cfg) (ok : c.Ok) (ka ta : Int) (aa : Option Addr) (la ca : Nat) (A : Nat → Ent) (at0 : Int) (w : World) (hta : I64 ta) (hat : I64 at0) (ha : EntsAt w aa la A) (hla : (la : Int) ≤ 4611686018427387904) (h0 : chk1 c ka ta aa la ca A = 0) (h1 : beyE ta at0 = 0) (hd : subF at0 ta = 0) :
  Calls Tryz.prog 47 #[cfgV c,snapV ka ta aa la ca,.int .i64 at0] w fun e w'=>∃ s cp,e = .returned (.tuple #[.slice s la cp,.int .i64 0]) ∧ PosesAt w' s la (byF 0 0 A) ∧ Below w.heap.size w w':=by
 obtain ⟨i0,hi,hz0,hz1,hz2⟩:=info_parts infoPose
 have PT:=bey_f ka ta at0 aa la ca hta hat
 obtain ⟨hl64,hex,_,_⟩:=chk1_ok h0
 obtain ⟨hle,hN,_,_⟩:=bey_ok h1
 rw [hN,h1] at PT
 have hd64:=subF_i64 at0 ta
 have hd0 : 0 ≤ subF at0 ta:=by unfold subF sat;omega
 generalize subF at0 ta = d at *
 clear hN h1 hle
 subst hd
 have hg : decide (c.extra < 0) = false:=decide_eq_false (by omega)
 have hdd : I64 0:=by unfold I64;omega
 obtain ⟨P,hP⟩ : ∃ P,byF 0 0 A = P:=⟨_,rfl⟩
 have HP : Hid (∀ i,P i = byP 0 0 (A i)):=Lib.hid (fun i=>by rw [← hP];rfl)
 rw [hP]
 have HDD:=Lib.hid hdd
 clear hP hd64 hd0 hex hdd 
 have hB3 : Below w.heap.size w ((w.alloc (.cells #[.int .i64 c.ring,.int .i64 c.window,.int .i64 c.base,.int .i64 c.gain,.int .i64 c.least,.int .i64 c.most,.int .i64 c.slack,.int .i64 c.num,.int .i64 c.den,.int .i64 c.extra,.bool c.curved] 29)).alloc (.cells #[.int .i64 ka,.int .i64 ta,.slice aa la ca] 36)):=((Below.refl _ _).alloc (Nat.le_refl _) _).alloc (by simp) _
 have bc:=((Blk.new w #[.int .i64 c.ring,.int .i64 c.window,.int .i64 c.base,.int .i64 c.gain,.int .i64 c.least,.int .i64 c.most,.int .i64 c.slack,.int .i64 c.num,.int .i64 c.den,.int .i64 c.extra,.bool c.curved] 29).alloc (.cells #[.int .i64 ka,.int .i64 ta,.slice aa la ca] 36))
 have ba:=Blk.new (w.alloc (.cells #[.int .i64 c.ring,.int .i64 c.window,.int .i64 c.base,.int .i64 c.gain,.int .i64 c.least,.int .i64 c.most,.int .i64 c.slack,.int .i64 c.num,.int .i64 c.den,.int .i64 c.extra,.bool c.curved] 29)) #[.int .i64 ka,.int .i64 ta,.slice aa la ca] 36
 have CK:=pcheck_f c (some ⟨((w.alloc (.cells #[.int .i64 c.ring,.int .i64 c.window,.int .i64 c.base,.int .i64 c.gain,.int .i64 c.least,.int .i64 c.most,.int .i64 c.slack,.int .i64 c.num,.int .i64 c.den,.int .i64 c.extra,.bool c.curved] 29)).alloc (.cells #[.int .i64 ka,.int .i64 ta,.slice aa la ca] 36)).heap.size,0,none⟩) 1 1 _ _ _ _ _ (sns1 ((w.alloc (.cells #[.int .i64 c.ring,.int .i64 c.window,.int .i64 c.base,.int .i64 c.gain,.int .i64 c.least,.int .i64 c.most,.int .i64 c.slack,.int .i64 c.num,.int .i64 c.den,.int .i64 c.extra,.bool c.curved] 29)).alloc (.cells #[.int .i64 ka,.int .i64 ta,.slice aa la ca] 36)) ka ta aa la ca A (ha.below hB3) hla) (by decide)
 have hs3 : ((w.alloc (.cells #[.int .i64 c.ring,.int .i64 c.window,.int .i64 c.base,.int .i64 c.gain,.int .i64 c.least,.int .i64 c.most,.int .i64 c.slack,.int .i64 c.num,.int .i64 c.den,.int .i64 c.extra,.bool c.curved] 29)).alloc (.cells #[.int .i64 ka,.int .i64 ta,.slice aa la ca] 36)).heap.size = w.heap.size + 1 + 1:=by simp
 change Calls _ _ _ _ (fun e w'=>e = .returned (.int .i64 (chk1 c ka ta aa la ca A)) ∧ _) at CK
 simp only [World.size_alloc] at ba
 unfold cfgV at CK ⊢
 unfold snapV
 go_enter Tryz.func47,Tryz.ntmps47
 go_wp2_with fail
 generalize ((w.alloc (.cells #[.int .i64 c.ring,.int .i64 c.window,.int .i64 c.base,.int .i64 c.gain,.int .i64 c.least,.int .i64 c.most,.int .i64 c.slack,.int .i64 c.num,.int .i64 c.den,.int .i64 c.extra,.bool c.curved] 29)).alloc (.cells #[.int .i64 ka,.int .i64 ta,.slice aa la ca] 36)) = W at *
 rw [hs3] at CK
 refine CK.mono ?_;rintro e w1 ⟨rfl,hb1⟩
 have hB1 : Below W.heap.size W w1:=((Below.refl _ _).alloc (Nat.le_refl _) _).trans (hb1.mono (by simp))
 have HB1 : Hid (Below w.heap.size w w1):=Lib.hid (hB3.trans (hB1.mono hB3.size))
 have SC:=Lib.hid (bc.below hB1 bc.lt)
 have SA:=Lib.hid (ba.below hB1 ba.lt)
 clear hB3 hb1 hB1 CK bc ba hs3
 rw [h0]
 clear h0
 have hokA:=ha.1
 have HCA : Hid (∀ k,k < la → ∃ b off,aa = some ⟨b,off,none⟩ ∧ b < w.heap.size ∧ EntCells w b (off + k * 9) (A k)):=Lib.hid (fun k hk=>by
  rcases ha.2 with h0 | ⟨b,off,e,hb,hc⟩
  ·omega
  ·exact ⟨b,off,e,hb,hc k hk⟩)
 obtain ⟨a0,a1,a2⟩:=sn_cells SA.out
 go_wp2_with fail
 refine (PT _).mono ?_;rintro e W0 ⟨rfl,hb2⟩
 have SCn:=Lib.hid (SC.out.below hb2 SC.out.lt)
 clear SC
 have SC:=SCn
 clear SCn
 have SAn:=Lib.hid (SA.out.below hb2 SA.out.lt)
 clear SA
 have SA:=SAn
 clear SAn
 have HW0 : Hid (Below w.heap.size w W0):=Lib.hid (HB1.out.trans (hb2.mono HB1.out.size))
 clear hb2 a0 a1 a2 PT HB1
 obtain ⟨a0,a1,a2⟩:=sn_cells SA.out
 obtain ⟨q0,q1,q2,q3,q4,q5,q6,q7,q8,q9,q10⟩:=cfg_cells SC.out
 go_wp2_with fail
 clear a0 a1 a2 q0 q1 q2 q3 q4 q5 q6 q7 q8 q9 q10
 go_loopw [12,45] (fun v i wr=>∃ k : Nat,k ≤ la ∧ i = .int .i64 k ∧ wr.ownsRow W0.heap.size 52 6 v k (poL P k) ∧ Below W0.heap.size W0 wr) (fun _ i _=>la - (intOf i).toNat)
 case atStart=>exact ⟨0,Nat.zero_le _,rfl,World.ownsRow_nil _ _ _ _,Below.refl _ _⟩
 case round =>
   rename_i wr
   obtain ⟨k,hk,rfl,hown,hB⟩:=hrel
   have hsz:=hB.size
   by_cases hlt : k < la
   ·obtain ⟨b,off,hea,hbw,hc⟩:=HCA.out k hlt
    subst hea
    have hcw:=hc.below (HW0.out.trans (hB.mono HW0.out.size)) hbw
    have hx:=hokA k hlt
    have HPk:=Lib.hid (HP.out k)
    have HL : Hid (poL P (k + 1) = poL P k ++ [.int .i64 (P k).id,.int .i64 (P k).px,.int .i64 (P k).py,.int .i64 (P k).pz,.int .u16 (P k).ang,.int .i64 (P k).mode]):=Lib.hid rfl
    have EX:=exact_f (A k)
    unfold entV poV exactP at EX
    have hkl : (k : Int) < la:=by omega
    have HOWN:=Lib.hid hown
    have HLT:=Lib.hid (fun j e=>(hown.lt j e).2)
    have HB:=Lib.hid hB
    have HCW:=Lib.hid hcw
    clear hc hown hB
    generalize P k = pk at *
    generalize A k = x at *
    obtain ⟨xid,px,py,pz,vx,vy,vz,ang,gen⟩:=x
    obtain ⟨c0,c1,c2,c3,c4,c5,c6,c7,c8⟩:=hcw
    dsimp only at c0 c1 c2 c3 c4 c5 c6 c7 c8 EX
    have VG:=Lib.hid (vgo_f px py pz vx vy vz 0 hx.px hx.py hx.pz hx.vx hx.vy hx.vz HDD.out)
    go_wp2_with fail
    refine (EX _).mono ?_;rintro e w4 ⟨rfl,hb4⟩
    have X4:=Lib.hid ((Blk.new wr #[.int .i64 xid,.int .i64 px,.int .i64 py,.int .i64 pz,.int .i64 vx,.int .i64 vy,.int .i64 vz,.int .u16 ang,.int .u8 gen] 33).below hb4 (by simp))
    have HB4 : Hid (Below W0.heap.size W0 w4):=Lib.hid ((HB.out.alloc hsz _).trans (hb4.mono (by simp;omega)))
    have OW4:=Lib.hid (own_below (HOWN.out.alloc _) hb4)
    have l4:=X4.out.lt
    clear hb4 EX c0 c1 c2 c3 c4 c5 c6 c7 c8 HB HOWN
    obtain ⟨c0,c1,c2,c3,c4,c5,c6,c7,c8⟩:=ent_cells X4.out
    have HPK : Hid (pk = ⟨xid,addF px (mulF vx 0),addF py (mulF vy 0),addF pz (mulF vz 0),ang,0⟩):=Lib.hid HPk.out
    generalize addF px (mulF vx 0) = z1 at *
    generalize addF py (mulF vy 0) = z2 at *
    generalize addF pz (mulF vz 0) = z3 at *
    go_wp2_with fail
    refine (VG.out _).mono ?_;rintro e w6 ⟨rfl,hb6⟩
    have P6:=Lib.hid ((Blk.new w4 #[.int .i64 xid,.int .i64 px,.int .i64 py,.int .i64 pz,.int .u16 ang,.int .i64 0] 52).below hb6 (by simp))
    have HB6 : Hid (Below W0.heap.size W0 w6):=Lib.hid ((HB4.out.alloc HB4.out.size _).trans (hb6.mono (by have:=HB4.out.size;simp;omega)))
    have OW6:=Lib.hid (own_below (OW4.out.alloc _) hb6)
    have l6:=P6.out.lt
    clear hb6 c0 c1 c2 c3 c4 c5 c6 c7 c8 HB4 OW4 X4 VG
    obtain ⟨p0,p1,p2,p3,p4,p5⟩:=po_cells P6.out
    obtain ⟨f0,f1,f2,f3,f4,f5⟩:=po_free P6.out
    have Z9:=sets4 P6.out 5 (.int .i64 0) 1 (.int .i64 z1) 2 (.int .i64 z2) 3 (.int .i64 z3)
    have OWZ:=Lib.hid (own_only OW6.out Z9.2 (fun j e h=>by have:=HLT.out j e;have h2 : j = w4.heap.size:=h;omega))
    have HBZ:=Lib.hid (HB6.out.trans (Z9.2.below HB6.out.size (by rintro i rfl;omega)))
    clear Z9
    go_wp2_with (at_builtin;refine wpList_append_own _ rfl (.tmp 60) (.tmp 62) 47 rfl W0.heap.size 52 i0 (.agg #[.int .i64 0,.int .i64 0,.int .i64 0,.int .i64 0,.int .u16 0,.int .i64 0]) 6 48 Tryz.underlying47 hi hz0 hz1 hz2 rfl (by decide) _ _ _ rfl (OWZ.out.alloc _) ⟨w6.heap.size,0,none⟩ 1 1 [.int .i64 xid,.int .i64 z1,.int .i64 z2,.int .i64 z3,.int .u16 ang,.int .i64 0] rfl rfl ?c1 ?c2 ?c3 ?c4 ?c5 ?_)
    case c1=>exact cells_new (by simp)
    case c2=>intro u hu;simp at hu;rcases hu with rfl | rfl | rfl | rfl | rfl | rfl <;> rfl
    case c3=>unfold maxLen;omega
    case c4=>omega
    case c5=>have:=HBZ.out.size;simp at *;omega
    intro v' w10 hown' hgrow _
    have hszz:=HBZ.out.size
    have hB' : Hid (Below W0.heap.size W0 w10):=Lib.hid ((HBZ.out.alloc hszz _).grown hgrow (by simp at *;omega) (fun j e=>(OWZ.out.lt j e).1))
    have HO : Hid (w10.ownsRow W0.heap.size 52 6 v' (k + 1) (poL P (k + 1))):=Lib.hid (by rw [HL.out,HPK.out];exact hown')
    clear hown' hgrow
    go_wp2
    go_roundw
    case rel=>exact ⟨k + 1,by omega,by go_num,HO.out,hB'.out⟩
    case measure=>simp [intOf];omega
   ·obtain rfl : k = la:=by omega
    obtain ⟨s,cp,rfl,hS⟩:=poses_of_row hown
    have HS:=Lib.hid hS
    have HBE:=Lib.hid (HW0.out.trans (hB.mono HW0.out.size))
    clear hS hown hB
    go_wp2
    exact bodyPost_ret (v:=.tuple #[.slice s k cp,.int .i64 0]) (by simp [results,Tryz.results47,go_sem]) rfl ⟨s,cp,rfl,HS.out,HBE.out⟩
set_option maxHeartbeats 4000000 in
theorem pbey_F (c : Cfg) (ok : c.Ok) (ka ta : Int) (aa : Option Addr) (la ca : Nat) (A : Nat → Ent) (at0 : Int) (w : World) (hta : I64 ta) (hat : I64 at0) (ha : EntsAt w aa la A) (hla : (la : Int) ≤ 4611686018427387904) (h0 : chk1 c ka ta aa la ca A = 0) (h1 : beyE ta at0 = 0) (hd : subF at0 ta ≠ 0) (hf : c.extra < subF at0 ta) :
  Calls Tryz.prog 47 #[cfgV c,snapV ka ta aa la ca,.int .i64 at0] w fun e w'=>∃ s cp,e = .returned (.tuple #[.slice s la cp,.int .i64 0]) ∧ PosesAt w' s la (byF 4 c.extra A) ∧ Below w.heap.size w w':=by
 obtain ⟨i0,hi,hz0,hz1,hz2⟩:=info_parts infoPose
 have PT:=bey_f ka ta at0 aa la ca hta hat
 obtain ⟨hl64,hex,_,_⟩:=chk1_ok h0
 obtain ⟨hle,hN,_,_⟩:=bey_ok h1
 rw [hN,h1] at PT
 have hd64:=subF_i64 at0 ta
 have hd0 : 0 ≤ subF at0 ta:=by unfold subF sat;omega
 generalize subF at0 ta = d at *
 clear hN h1 hle
 have hg0 : (d == 0) = false:=by simpa using hd
 have hg1 : decide (c.extra < d) = true:=decide_eq_true hf
 have hdd : I64 c.extra:=ok.extra
 obtain ⟨P,hP⟩ : ∃ P,byF 4 c.extra A = P:=⟨_,rfl⟩
 have HP : Hid (∀ i,P i = byP 4 c.extra (A i)):=Lib.hid (fun i=>by rw [← hP];rfl)
 rw [hP]
 have HDD:=Lib.hid hdd
 clear hP hd64 hd0 hex hdd hd hf
 have hB3 : Below w.heap.size w ((w.alloc (.cells #[.int .i64 c.ring,.int .i64 c.window,.int .i64 c.base,.int .i64 c.gain,.int .i64 c.least,.int .i64 c.most,.int .i64 c.slack,.int .i64 c.num,.int .i64 c.den,.int .i64 c.extra,.bool c.curved] 29)).alloc (.cells #[.int .i64 ka,.int .i64 ta,.slice aa la ca] 36)):=((Below.refl _ _).alloc (Nat.le_refl _) _).alloc (by simp) _
 have bc:=((Blk.new w #[.int .i64 c.ring,.int .i64 c.window,.int .i64 c.base,.int .i64 c.gain,.int .i64 c.least,.int .i64 c.most,.int .i64 c.slack,.int .i64 c.num,.int .i64 c.den,.int .i64 c.extra,.bool c.curved] 29).alloc (.cells #[.int .i64 ka,.int .i64 ta,.slice aa la ca] 36))
 have ba:=Blk.new (w.alloc (.cells #[.int .i64 c.ring,.int .i64 c.window,.int .i64 c.base,.int .i64 c.gain,.int .i64 c.least,.int .i64 c.most,.int .i64 c.slack,.int .i64 c.num,.int .i64 c.den,.int .i64 c.extra,.bool c.curved] 29)) #[.int .i64 ka,.int .i64 ta,.slice aa la ca] 36
 have CK:=pcheck_f c (some ⟨((w.alloc (.cells #[.int .i64 c.ring,.int .i64 c.window,.int .i64 c.base,.int .i64 c.gain,.int .i64 c.least,.int .i64 c.most,.int .i64 c.slack,.int .i64 c.num,.int .i64 c.den,.int .i64 c.extra,.bool c.curved] 29)).alloc (.cells #[.int .i64 ka,.int .i64 ta,.slice aa la ca] 36)).heap.size,0,none⟩) 1 1 _ _ _ _ _ (sns1 ((w.alloc (.cells #[.int .i64 c.ring,.int .i64 c.window,.int .i64 c.base,.int .i64 c.gain,.int .i64 c.least,.int .i64 c.most,.int .i64 c.slack,.int .i64 c.num,.int .i64 c.den,.int .i64 c.extra,.bool c.curved] 29)).alloc (.cells #[.int .i64 ka,.int .i64 ta,.slice aa la ca] 36)) ka ta aa la ca A (ha.below hB3) hla) (by decide)
 have hs3 : ((w.alloc (.cells #[.int .i64 c.ring,.int .i64 c.window,.int .i64 c.base,.int .i64 c.gain,.int .i64 c.least,.int .i64 c.most,.int .i64 c.slack,.int .i64 c.num,.int .i64 c.den,.int .i64 c.extra,.bool c.curved] 29)).alloc (.cells #[.int .i64 ka,.int .i64 ta,.slice aa la ca] 36)).heap.size = w.heap.size + 1 + 1:=by simp
 change Calls _ _ _ _ (fun e w'=>e = .returned (.int .i64 (chk1 c ka ta aa la ca A)) ∧ _) at CK
 simp only [World.size_alloc] at ba
 unfold cfgV at CK ⊢
 unfold snapV
 go_enter Tryz.func47,Tryz.ntmps47
 go_wp2_with fail
 generalize ((w.alloc (.cells #[.int .i64 c.ring,.int .i64 c.window,.int .i64 c.base,.int .i64 c.gain,.int .i64 c.least,.int .i64 c.most,.int .i64 c.slack,.int .i64 c.num,.int .i64 c.den,.int .i64 c.extra,.bool c.curved] 29)).alloc (.cells #[.int .i64 ka,.int .i64 ta,.slice aa la ca] 36)) = W at *
 rw [hs3] at CK
 refine CK.mono ?_;rintro e w1 ⟨rfl,hb1⟩
 have hB1 : Below W.heap.size W w1:=((Below.refl _ _).alloc (Nat.le_refl _) _).trans (hb1.mono (by simp))
 have HB1 : Hid (Below w.heap.size w w1):=Lib.hid (hB3.trans (hB1.mono hB3.size))
 have SC:=Lib.hid (bc.below hB1 bc.lt)
 have SA:=Lib.hid (ba.below hB1 ba.lt)
 clear hB3 hb1 hB1 CK bc ba hs3
 rw [h0]
 clear h0
 have hokA:=ha.1
 have HCA : Hid (∀ k,k < la → ∃ b off,aa = some ⟨b,off,none⟩ ∧ b < w.heap.size ∧ EntCells w b (off + k * 9) (A k)):=Lib.hid (fun k hk=>by
  rcases ha.2 with h0 | ⟨b,off,e,hb,hc⟩
  ·omega
  ·exact ⟨b,off,e,hb,hc k hk⟩)
 obtain ⟨a0,a1,a2⟩:=sn_cells SA.out
 go_wp2_with fail
 refine (PT _).mono ?_;rintro e w2 ⟨rfl,hb2⟩
 have SCn:=Lib.hid (SC.out.below hb2 SC.out.lt)
 clear SC
 have SC:=SCn
 clear SCn
 have SAn:=Lib.hid (SA.out.below hb2 SA.out.lt)
 clear SA
 have SA:=SAn
 clear SAn
 have HW0 : Hid (Below w.heap.size w w2):=Lib.hid (HB1.out.trans (hb2.mono HB1.out.size))
 clear hb2 a0 a1 a2 PT HB1
 obtain ⟨a0,a1,a2⟩:=sn_cells SA.out
 obtain ⟨q0,q1,q2,q3,q4,q5,q6,q7,q8,q9,q10⟩:=cfg_cells SC.out
 go_wp2_with fail
 refine wp_region_calm 3 (by kernel_rfl) (by kernel_rfl) ?_
 simp only [List.take_succ_cons,List.take_zero,List.drop_succ_cons,List.drop_zero]
 repeat (apply wpCalm_step;(next=>(intro W hW K hK;have y0:=hW.cell q9;go_simp;first | exact ⟨hW,hK⟩ | exact hK));(next=>exact CalmI.self _);(try go_simp))
 refine wpCalm_nil ?_
 intro WC hWC
 generalize WC = W0 at *
 have hb3 : Below w2.heap.size w2 W0:=hWC
 have SAn:=Lib.hid (SA.out.below hb3 SA.out.lt)
 clear SA
 have SA:=SAn
 clear SAn
 have SCn:=Lib.hid (SC.out.below hb3 SC.out.lt)
 clear SC
 have SC:=SCn
 clear SCn
 have HW1 : Hid (Below w.heap.size w W0):=Lib.hid (HW0.out.trans (hb3.mono HW0.out.size))
 clear HW0 hWC hb3 a0 a1 a2 q0 q1 q2 q3 q4 q5 q6 q7 q8 q9 q10
 have HW0:=HW1
 clear HW1
 obtain ⟨a0,a1,a2⟩:=sn_cells SA.out
 go_wp2_with fail
 clear a0 a1 a2
 go_loopw [12,45] (fun v i wr=>∃ k : Nat,k ≤ la ∧ i = .int .i64 k ∧ wr.ownsRow W0.heap.size 52 6 v k (poL P k) ∧ Below W0.heap.size W0 wr) (fun _ i _=>la - (intOf i).toNat)
 case atStart=>exact ⟨0,Nat.zero_le _,rfl,World.ownsRow_nil _ _ _ _,Below.refl _ _⟩
 case round =>
   rename_i wr
   obtain ⟨k,hk,rfl,hown,hB⟩:=hrel
   have hsz:=hB.size
   by_cases hlt : k < la
   ·obtain ⟨b,off,hea,hbw,hc⟩:=HCA.out k hlt
    subst hea
    have hcw:=hc.below (HW0.out.trans (hB.mono HW0.out.size)) hbw
    have hx:=hokA k hlt
    have HPk:=Lib.hid (HP.out k)
    have HL : Hid (poL P (k + 1) = poL P k ++ [.int .i64 (P k).id,.int .i64 (P k).px,.int .i64 (P k).py,.int .i64 (P k).pz,.int .u16 (P k).ang,.int .i64 (P k).mode]):=Lib.hid rfl
    have EX:=exact_f (A k)
    unfold entV poV exactP at EX
    have hkl : (k : Int) < la:=by omega
    have HOWN:=Lib.hid hown
    have HLT:=Lib.hid (fun j e=>(hown.lt j e).2)
    have HB:=Lib.hid hB
    have HCW:=Lib.hid hcw
    clear hc hown hB
    generalize P k = pk at *
    generalize A k = x at *
    obtain ⟨xid,px,py,pz,vx,vy,vz,ang,gen⟩:=x
    obtain ⟨c0,c1,c2,c3,c4,c5,c6,c7,c8⟩:=hcw
    dsimp only at c0 c1 c2 c3 c4 c5 c6 c7 c8 EX
    have VG:=Lib.hid (vgo_f px py pz vx vy vz c.extra hx.px hx.py hx.pz hx.vx hx.vy hx.vz HDD.out)
    go_wp2_with fail
    refine (EX _).mono ?_;rintro e w4 ⟨rfl,hb4⟩
    have X4:=Lib.hid ((Blk.new wr #[.int .i64 xid,.int .i64 px,.int .i64 py,.int .i64 pz,.int .i64 vx,.int .i64 vy,.int .i64 vz,.int .u16 ang,.int .u8 gen] 33).below hb4 (by simp))
    have HB4 : Hid (Below W0.heap.size W0 w4):=Lib.hid ((HB.out.alloc hsz _).trans (hb4.mono (by simp;omega)))
    have OW4:=Lib.hid (own_below (HOWN.out.alloc _) hb4)
    have l4:=X4.out.lt
    clear hb4 EX c0 c1 c2 c3 c4 c5 c6 c7 c8 HB HOWN
    obtain ⟨c0,c1,c2,c3,c4,c5,c6,c7,c8⟩:=ent_cells X4.out
    have HPK : Hid (pk = ⟨xid,addF px (mulF vx c.extra),addF py (mulF vy c.extra),addF pz (mulF vz c.extra),ang,4⟩):=Lib.hid HPk.out
    generalize addF px (mulF vx c.extra) = z1 at *
    generalize addF py (mulF vy c.extra) = z2 at *
    generalize addF pz (mulF vz c.extra) = z3 at *
    go_wp2_with fail
    refine (VG.out _).mono ?_;rintro e w6 ⟨rfl,hb6⟩
    have P6:=Lib.hid ((Blk.new w4 #[.int .i64 xid,.int .i64 px,.int .i64 py,.int .i64 pz,.int .u16 ang,.int .i64 0] 52).below hb6 (by simp))
    have HB6 : Hid (Below W0.heap.size W0 w6):=Lib.hid ((HB4.out.alloc HB4.out.size _).trans (hb6.mono (by have:=HB4.out.size;simp;omega)))
    have OW6:=Lib.hid (own_below (OW4.out.alloc _) hb6)
    have l6:=P6.out.lt
    clear hb6 c0 c1 c2 c3 c4 c5 c6 c7 c8 HB4 OW4 X4 VG
    obtain ⟨p0,p1,p2,p3,p4,p5⟩:=po_cells P6.out
    obtain ⟨f0,f1,f2,f3,f4,f5⟩:=po_free P6.out
    have Z9:=sets4 P6.out 5 (.int .i64 4) 1 (.int .i64 z1) 2 (.int .i64 z2) 3 (.int .i64 z3)
    have OWZ:=Lib.hid (own_only OW6.out Z9.2 (fun j e h=>by have:=HLT.out j e;have h2 : j = w4.heap.size:=h;omega))
    have HBZ:=Lib.hid (HB6.out.trans (Z9.2.below HB6.out.size (by rintro i rfl;omega)))
    clear Z9
    go_wp2_with (at_builtin;refine wpList_append_own _ rfl (.tmp 60) (.tmp 62) 47 rfl W0.heap.size 52 i0 (.agg #[.int .i64 0,.int .i64 0,.int .i64 0,.int .i64 0,.int .u16 0,.int .i64 0]) 6 48 Tryz.underlying47 hi hz0 hz1 hz2 rfl (by decide) _ _ _ rfl (OWZ.out.alloc _) ⟨w6.heap.size,0,none⟩ 1 1 [.int .i64 xid,.int .i64 z1,.int .i64 z2,.int .i64 z3,.int .u16 ang,.int .i64 4] rfl rfl ?c1 ?c2 ?c3 ?c4 ?c5 ?_)
    case c1=>exact cells_new (by simp)
    case c2=>intro u hu;simp at hu;rcases hu with rfl | rfl | rfl | rfl | rfl | rfl <;> rfl
    case c3=>unfold maxLen;omega
    case c4=>omega
    case c5=>have:=HBZ.out.size;simp at *;omega
    intro v' w10 hown' hgrow _
    have hszz:=HBZ.out.size
    have hB' : Hid (Below W0.heap.size W0 w10):=Lib.hid ((HBZ.out.alloc hszz _).grown hgrow (by simp at *;omega) (fun j e=>(OWZ.out.lt j e).1))
    have HO : Hid (w10.ownsRow W0.heap.size 52 6 v' (k + 1) (poL P (k + 1))):=Lib.hid (by rw [HL.out,HPK.out];exact hown')
    clear hown' hgrow
    go_wp2
    go_roundw
    case rel=>exact ⟨k + 1,by omega,by go_num,HO.out,hB'.out⟩
    case measure=>simp [intOf];omega
   ·obtain rfl : k = la:=by omega
    obtain ⟨s,cp,rfl,hS⟩:=poses_of_row hown
    have HS:=Lib.hid hS
    have HBE:=Lib.hid (HW0.out.trans (hB.mono HW0.out.size))
    clear hS hown hB
    go_wp2
    exact bodyPost_ret (v:=.tuple #[.slice s k cp,.int .i64 0]) (by simp [results,Tryz.results47,go_sem]) rfl ⟨s,cp,rfl,HS.out,HBE.out⟩
set_option maxHeartbeats 4000000 in
theorem pbey_N (c : Cfg) (ok : c.Ok) (ka ta : Int) (aa : Option Addr) (la ca : Nat) (A : Nat → Ent) (at0 : Int) (w : World) (hta : I64 ta) (hat : I64 at0) (ha : EntsAt w aa la A) (hla : (la : Int) ≤ 4611686018427387904) (h0 : chk1 c ka ta aa la ca A = 0) (h1 : beyE ta at0 = 0) (hd : subF at0 ta ≠ 0) (hf : ¬ c.extra < subF at0 ta) :
  Calls Tryz.prog 47 #[cfgV c,snapV ka ta aa la ca,.int .i64 at0] w fun e w'=>∃ s cp,e = .returned (.tuple #[.slice s la cp,.int .i64 0]) ∧ PosesAt w' s la (byF 3 (subF at0 ta) A) ∧ Below w.heap.size w w':=by
 obtain ⟨i0,hi,hz0,hz1,hz2⟩:=info_parts infoPose
 have PT:=bey_f ka ta at0 aa la ca hta hat
 obtain ⟨hl64,hex,_,_⟩:=chk1_ok h0
 obtain ⟨hle,hN,_,_⟩:=bey_ok h1
 rw [hN,h1] at PT
 have hd64:=subF_i64 at0 ta
 have hd0 : 0 ≤ subF at0 ta:=by unfold subF sat;omega
 generalize subF at0 ta = d at *
 clear hN h1 hle
 have hg0 : (d == 0) = false:=by simpa using hd
 have hg1 : decide (c.extra < d) = false:=decide_eq_false hf
 have hg2 : decide (0 < d) = true:=decide_eq_true (by omega)
 have hdd : I64 d:=hd64
 obtain ⟨P,hP⟩ : ∃ P,byF 3 d A = P:=⟨_,rfl⟩
 have HP : Hid (∀ i,P i = byP 3 d (A i)):=Lib.hid (fun i=>by rw [← hP];rfl)
 rw [hP]
 have HDD:=Lib.hid hdd
 clear hP hd64 hd0 hex hdd hd hf
 have hB3 : Below w.heap.size w ((w.alloc (.cells #[.int .i64 c.ring,.int .i64 c.window,.int .i64 c.base,.int .i64 c.gain,.int .i64 c.least,.int .i64 c.most,.int .i64 c.slack,.int .i64 c.num,.int .i64 c.den,.int .i64 c.extra,.bool c.curved] 29)).alloc (.cells #[.int .i64 ka,.int .i64 ta,.slice aa la ca] 36)):=((Below.refl _ _).alloc (Nat.le_refl _) _).alloc (by simp) _
 have bc:=((Blk.new w #[.int .i64 c.ring,.int .i64 c.window,.int .i64 c.base,.int .i64 c.gain,.int .i64 c.least,.int .i64 c.most,.int .i64 c.slack,.int .i64 c.num,.int .i64 c.den,.int .i64 c.extra,.bool c.curved] 29).alloc (.cells #[.int .i64 ka,.int .i64 ta,.slice aa la ca] 36))
 have ba:=Blk.new (w.alloc (.cells #[.int .i64 c.ring,.int .i64 c.window,.int .i64 c.base,.int .i64 c.gain,.int .i64 c.least,.int .i64 c.most,.int .i64 c.slack,.int .i64 c.num,.int .i64 c.den,.int .i64 c.extra,.bool c.curved] 29)) #[.int .i64 ka,.int .i64 ta,.slice aa la ca] 36
 have CK:=pcheck_f c (some ⟨((w.alloc (.cells #[.int .i64 c.ring,.int .i64 c.window,.int .i64 c.base,.int .i64 c.gain,.int .i64 c.least,.int .i64 c.most,.int .i64 c.slack,.int .i64 c.num,.int .i64 c.den,.int .i64 c.extra,.bool c.curved] 29)).alloc (.cells #[.int .i64 ka,.int .i64 ta,.slice aa la ca] 36)).heap.size,0,none⟩) 1 1 _ _ _ _ _ (sns1 ((w.alloc (.cells #[.int .i64 c.ring,.int .i64 c.window,.int .i64 c.base,.int .i64 c.gain,.int .i64 c.least,.int .i64 c.most,.int .i64 c.slack,.int .i64 c.num,.int .i64 c.den,.int .i64 c.extra,.bool c.curved] 29)).alloc (.cells #[.int .i64 ka,.int .i64 ta,.slice aa la ca] 36)) ka ta aa la ca A (ha.below hB3) hla) (by decide)
 have hs3 : ((w.alloc (.cells #[.int .i64 c.ring,.int .i64 c.window,.int .i64 c.base,.int .i64 c.gain,.int .i64 c.least,.int .i64 c.most,.int .i64 c.slack,.int .i64 c.num,.int .i64 c.den,.int .i64 c.extra,.bool c.curved] 29)).alloc (.cells #[.int .i64 ka,.int .i64 ta,.slice aa la ca] 36)).heap.size = w.heap.size + 1 + 1:=by simp
 change Calls _ _ _ _ (fun e w'=>e = .returned (.int .i64 (chk1 c ka ta aa la ca A)) ∧ _) at CK
 simp only [World.size_alloc] at ba
 unfold cfgV at CK ⊢
 unfold snapV
 go_enter Tryz.func47,Tryz.ntmps47
 go_wp2_with fail
 generalize ((w.alloc (.cells #[.int .i64 c.ring,.int .i64 c.window,.int .i64 c.base,.int .i64 c.gain,.int .i64 c.least,.int .i64 c.most,.int .i64 c.slack,.int .i64 c.num,.int .i64 c.den,.int .i64 c.extra,.bool c.curved] 29)).alloc (.cells #[.int .i64 ka,.int .i64 ta,.slice aa la ca] 36)) = W at *
 rw [hs3] at CK
 refine CK.mono ?_;rintro e w1 ⟨rfl,hb1⟩
 have hB1 : Below W.heap.size W w1:=((Below.refl _ _).alloc (Nat.le_refl _) _).trans (hb1.mono (by simp))
 have HB1 : Hid (Below w.heap.size w w1):=Lib.hid (hB3.trans (hB1.mono hB3.size))
 have SC:=Lib.hid (bc.below hB1 bc.lt)
 have SA:=Lib.hid (ba.below hB1 ba.lt)
 clear hB3 hb1 hB1 CK bc ba hs3
 rw [h0]
 clear h0
 have hokA:=ha.1
 have HCA : Hid (∀ k,k < la → ∃ b off,aa = some ⟨b,off,none⟩ ∧ b < w.heap.size ∧ EntCells w b (off + k * 9) (A k)):=Lib.hid (fun k hk=>by
  rcases ha.2 with h0 | ⟨b,off,e,hb,hc⟩
  ·omega
  ·exact ⟨b,off,e,hb,hc k hk⟩)
 obtain ⟨a0,a1,a2⟩:=sn_cells SA.out
 go_wp2_with fail
 refine (PT _).mono ?_;rintro e W0 ⟨rfl,hb2⟩
 have SCn:=Lib.hid (SC.out.below hb2 SC.out.lt)
 clear SC
 have SC:=SCn
 clear SCn
 have SAn:=Lib.hid (SA.out.below hb2 SA.out.lt)
 clear SA
 have SA:=SAn
 clear SAn
 have HW0 : Hid (Below w.heap.size w W0):=Lib.hid (HB1.out.trans (hb2.mono HB1.out.size))
 clear hb2 a0 a1 a2 PT HB1
 obtain ⟨a0,a1,a2⟩:=sn_cells SA.out
 obtain ⟨q0,q1,q2,q3,q4,q5,q6,q7,q8,q9,q10⟩:=cfg_cells SC.out
 go_wp2_with fail
 clear a0 a1 a2 q0 q1 q2 q3 q4 q5 q6 q7 q8 q9 q10
 go_loopw [12,45] (fun v i wr=>∃ k : Nat,k ≤ la ∧ i = .int .i64 k ∧ wr.ownsRow W0.heap.size 52 6 v k (poL P k) ∧ Below W0.heap.size W0 wr) (fun _ i _=>la - (intOf i).toNat)
 case atStart=>exact ⟨0,Nat.zero_le _,rfl,World.ownsRow_nil _ _ _ _,Below.refl _ _⟩
 case round =>
   rename_i wr
   obtain ⟨k,hk,rfl,hown,hB⟩:=hrel
   have hsz:=hB.size
   by_cases hlt : k < la
   ·obtain ⟨b,off,hea,hbw,hc⟩:=HCA.out k hlt
    subst hea
    have hcw:=hc.below (HW0.out.trans (hB.mono HW0.out.size)) hbw
    have hx:=hokA k hlt
    have HPk:=Lib.hid (HP.out k)
    have HL : Hid (poL P (k + 1) = poL P k ++ [.int .i64 (P k).id,.int .i64 (P k).px,.int .i64 (P k).py,.int .i64 (P k).pz,.int .u16 (P k).ang,.int .i64 (P k).mode]):=Lib.hid rfl
    have EX:=exact_f (A k)
    unfold entV poV exactP at EX
    have hkl : (k : Int) < la:=by omega
    have HOWN:=Lib.hid hown
    have HLT:=Lib.hid (fun j e=>(hown.lt j e).2)
    have HB:=Lib.hid hB
    have HCW:=Lib.hid hcw
    clear hc hown hB
    generalize P k = pk at *
    generalize A k = x at *
    obtain ⟨xid,px,py,pz,vx,vy,vz,ang,gen⟩:=x
    obtain ⟨c0,c1,c2,c3,c4,c5,c6,c7,c8⟩:=hcw
    dsimp only at c0 c1 c2 c3 c4 c5 c6 c7 c8 EX
    have VG:=Lib.hid (vgo_f px py pz vx vy vz d hx.px hx.py hx.pz hx.vx hx.vy hx.vz HDD.out)
    go_wp2_with fail
    refine (EX _).mono ?_;rintro e w4 ⟨rfl,hb4⟩
    have X4:=Lib.hid ((Blk.new wr #[.int .i64 xid,.int .i64 px,.int .i64 py,.int .i64 pz,.int .i64 vx,.int .i64 vy,.int .i64 vz,.int .u16 ang,.int .u8 gen] 33).below hb4 (by simp))
    have HB4 : Hid (Below W0.heap.size W0 w4):=Lib.hid ((HB.out.alloc hsz _).trans (hb4.mono (by simp;omega)))
    have OW4:=Lib.hid (own_below (HOWN.out.alloc _) hb4)
    have l4:=X4.out.lt
    clear hb4 EX c0 c1 c2 c3 c4 c5 c6 c7 c8 HB HOWN
    obtain ⟨c0,c1,c2,c3,c4,c5,c6,c7,c8⟩:=ent_cells X4.out
    have HPK : Hid (pk = ⟨xid,addF px (mulF vx d),addF py (mulF vy d),addF pz (mulF vz d),ang,3⟩):=Lib.hid HPk.out
    generalize addF px (mulF vx d) = z1 at *
    generalize addF py (mulF vy d) = z2 at *
    generalize addF pz (mulF vz d) = z3 at *
    go_wp2_with fail
    refine (VG.out _).mono ?_;rintro e w6 ⟨rfl,hb6⟩
    have P6:=Lib.hid ((Blk.new w4 #[.int .i64 xid,.int .i64 px,.int .i64 py,.int .i64 pz,.int .u16 ang,.int .i64 0] 52).below hb6 (by simp))
    have HB6 : Hid (Below W0.heap.size W0 w6):=Lib.hid ((HB4.out.alloc HB4.out.size _).trans (hb6.mono (by have:=HB4.out.size;simp;omega)))
    have OW6:=Lib.hid (own_below (OW4.out.alloc _) hb6)
    have l6:=P6.out.lt
    clear hb6 c0 c1 c2 c3 c4 c5 c6 c7 c8 HB4 OW4 X4 VG
    obtain ⟨p0,p1,p2,p3,p4,p5⟩:=po_cells P6.out
    obtain ⟨f0,f1,f2,f3,f4,f5⟩:=po_free P6.out
    have Z9:=sets4 P6.out 5 (.int .i64 3) 1 (.int .i64 z1) 2 (.int .i64 z2) 3 (.int .i64 z3)
    have OWZ:=Lib.hid (own_only OW6.out Z9.2 (fun j e h=>by have:=HLT.out j e;have h2 : j = w4.heap.size:=h;omega))
    have HBZ:=Lib.hid (HB6.out.trans (Z9.2.below HB6.out.size (by rintro i rfl;omega)))
    clear Z9
    go_wp2_with (at_builtin;refine wpList_append_own _ rfl (.tmp 60) (.tmp 62) 47 rfl W0.heap.size 52 i0 (.agg #[.int .i64 0,.int .i64 0,.int .i64 0,.int .i64 0,.int .u16 0,.int .i64 0]) 6 48 Tryz.underlying47 hi hz0 hz1 hz2 rfl (by decide) _ _ _ rfl (OWZ.out.alloc _) ⟨w6.heap.size,0,none⟩ 1 1 [.int .i64 xid,.int .i64 z1,.int .i64 z2,.int .i64 z3,.int .u16 ang,.int .i64 3] rfl rfl ?c1 ?c2 ?c3 ?c4 ?c5 ?_)
    case c1=>exact cells_new (by simp)
    case c2=>intro u hu;simp at hu;rcases hu with rfl | rfl | rfl | rfl | rfl | rfl <;> rfl
    case c3=>unfold maxLen;omega
    case c4=>omega
    case c5=>have:=HBZ.out.size;simp at *;omega
    intro v' w10 hown' hgrow _
    have hszz:=HBZ.out.size
    have hB' : Hid (Below W0.heap.size W0 w10):=Lib.hid ((HBZ.out.alloc hszz _).grown hgrow (by simp at *;omega) (fun j e=>(OWZ.out.lt j e).1))
    have HO : Hid (w10.ownsRow W0.heap.size 52 6 v' (k + 1) (poL P (k + 1))):=Lib.hid (by rw [HL.out,HPK.out];exact hown')
    clear hown' hgrow
    go_wp2
    go_roundw
    case rel=>exact ⟨k + 1,by omega,by go_num,HO.out,hB'.out⟩
    case measure=>simp [intOf];omega
   ·obtain rfl : k = la:=by omega
    obtain ⟨s,cp,rfl,hS⟩:=poses_of_row hown
    have HS:=Lib.hid hS
    have HBE:=Lib.hid (HW0.out.trans (hB.mono HW0.out.size))
    clear hS hown hB
    go_wp2
    exact bodyPost_ret (v:=.tuple #[.slice s k cp,.int .i64 0]) (by simp [results,Tryz.results47,go_sem]) rfl ⟨s,cp,rfl,HS.out,HBE.out⟩
end Go.Proofs.YtklkooeimkedgaaGreat
