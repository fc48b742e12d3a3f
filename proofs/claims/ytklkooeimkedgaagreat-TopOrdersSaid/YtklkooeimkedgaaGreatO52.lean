/- Parts of the walk of TopOrders: Client1, Client2, Client3, Kept1, Same1, Swap1. -/
import Derived.Test.YtklkooeimkedgaaGreatO0
import Derived.Test.YtklkooeimkedgaaGreatO45
import Derived.Test.YtklkooeimkedgaaGreatO51
set_option linter.unusedVariables false
set_option linter.unusedSimpArgs false
namespace Go.Proofs.YtklkooeimkedgaaGreat
open Go.RowKit
set_option maxRecDepth 100000
structure K9 (w : World) (C : Nat) (c : aS) (T R K : Nat) (l : List aG) (floor : Int) (gone : Bool) (cs : CS) (fr : Int) (S SS SK : Nat -> Prop) : Prop where
 blk : ak w C #[.int .i64 c.ring,.int .i64 c.window,.int .i64 c.base,.int .i64 c.gain,.int .i64 c.least,.int .i64 c.most,.int .i64 c.aF,.int .i64 c.num,.int .i64 c.den,.int .i64 c.extra,.bool c.aC,.pointer (some ⟨T,0,none⟩),.pointer (some ⟨K,0,none⟩),.int .i64 fr] 86
 st : gN w T R l c.ring floor gone SS
 room : (l.length : Int) <= c.ring
 ck : sH w K c cs SK
 FU : ∀ k,SS k -> ¬ SK k
 nC : ¬ SS C /\ ¬ SK C
 sub : S C /\ (∀ k,SS k -> S k) /\ ∀ k,SK k -> S k
 lt : ∀ k,S k -> k < w.heap.size
structure kG where
 ss : List Sn
 floor : Int
 gone : Bool
 cs : CS
structure aeM (c : aS) (l : List aG) (x : kG) : Prop where
 map : l.map (·.sn) = x.ss
 key : ∀ k ∈ l,k.key = k.sn.tick
 La : ∀ s ∈ x.ss,gM s = 0
 cs : x.cs.Ok c
def fZ (w : World) (C : Nat) (c : aS) (x : kG) (S : Nat -> Prop) : Prop:=∃ T R K l fr SS SK,K9 w C c T R K l x.floor x.gone x.cs fr S SS SK /\ aeM c l x
theorem K9.only {w w' : World} {C : Nat} {c : aS} {T R K : Nat} {l : List aG} {floor : Int} {gone : Bool} {cs : CS} {fr : Int} {S SS SK U : Nat -> Prop} (h : K9 w C c T R K l floor gone cs fr S SS SK) (ho : Only U w w') (hd : ∀ k,S k -> ¬ U k) : K9 w' C c T R K l floor gone cs fr S SS SK :=
 ⟨ho.blk h.blk (hd _ h.sub.1),h.st.only ho (λk hk=>hd k (h.sub.2.1 k hk)),h.room,h.ck.only ho (λk hk=>hd k (h.sub.2.2 k hk)),h.FU,h.nC,h.sub,λk hk=>Nat.lt_of_lt_of_le (h.lt k hk) ho.size⟩
theorem fZ.only {w w' : World} {C : Nat} {c : aS} {x : kG} {S U : Nat -> Prop} (h : fZ w C c x S) (ho : Only U w w') (hd : ∀ k,S k -> ¬ U k) : fZ w' C c x S:=by
 obtain ⟨T,R,K,l,fr,SS,SK,h1,h2⟩:=h
 exact ⟨T,R,K,l,fr,SS,SK,h1.only ho hd,h2⟩
theorem fZ.below {w w' : World} {C : Nat} {c : aS} {x : kG} {S : Nat -> Prop} (h : fZ w C c x S) (hb : Below w.heap.size w w') : fZ w' C c x S :=
 h.only (Only.of_below (S:=λ_=>False) hb) (λ_ _ h=>h)
theorem fZ.lt {w : World} {C : Nat} {c : aS} {x : kG} {S : Nat -> Prop} (h : fZ w C c x S) : ∀ k,S k -> k < w.heap.size:=by
 obtain ⟨T,R,K,l,fr,SS,SK,h1,h2⟩:=h
 exact h1.lt
theorem fZ.ok {w : World} {C : Nat} {c : aS} {x : kG} {S : Nat -> Prop} (h : fZ w C c x S) : (∀ s ∈ x.ss,gM s = 0) /\ x.cs.Ok c /\ x.ss.length <= 64:=by
 obtain ⟨T,R,K,l,fr,SS,SK,h1,h2⟩:=h
 refine ⟨h2.La,h2.cs,?_⟩
 obtain ⟨v,hp⟩:=h1.st.ring
 have:=hp.len
 rw [← h2.map,List.length_map]
 omega
def Aw (c : aS) : kG:=⟨[],0,false,cs0 c⟩
theorem IL {c : aS} (h : iU c = 0) : 1 <= c.ring /\ c.ring <= 64:=by
 obtain ⟨h1,_,_⟩:=vG h
 have:=qY.1 h1
 omega
theorem aaD {c : aS} (hc : iU c = 0) : (cs0 c).Ok c :=
 ⟨λx hx=>by simp [cs0] at hx,by simp [cs0],⟨by simp [cs0],by simp [cs0]⟩,AV (vG hc).2.1 0,⟨by simp [cs0],by simp [cs0]⟩,⟨by simp [cs0],by simp [cs0]⟩,.inl rfl⟩
set_option maxHeartbeats 1000000 in
theorem Lb (c : aS) (ok : c.Ok) (hc : iU c = 0) (w : World) :
  Calls Tryz.prog 9 #[bE c] w λe w'=>∃ C S,e = .returned (.tuple #[.pointer (some ⟨C,0,none⟩),.int .i64 0]) /\ fZ w' C c (Aw c) S /\ (∀ k,S k -> w.heap.size <= k) /\ Below w.heap.size w w':=by
 have cn:=Yn c ok hc
 obtain ⟨r1,r2⟩:=IL hc
 have sn:=Vj c.ring r1 r2
 have HCO:=ahZ (aaD hc)
 have Z0:=ahZ r1
 clear r1 r2
 obtain ⟨w0,hw0⟩ : ∃ w0,w.alloc (.cells #[.int .i64 c.ring,.int .i64 c.window,.int .i64 c.base,.int .i64 c.gain,.int .i64 c.least,.int .i64 c.most,.int .i64 c.aF,.int .i64 c.num,.int .i64 c.den,.int .i64 c.extra,.bool c.aC] 29) = w0:=⟨_,rfl⟩
 have hB0 : Below w.heap.size w w0:=by rw [← hw0];exact (Below.refl _ _).alloc (Nat.le_refl _) _
 have hX0 : ak w0 w.heap.size #[.int .i64 c.ring,.int .i64 c.window,.int .i64 c.base,.int .i64 c.gain,.int .i64 c.least,.int .i64 c.most,.int .i64 c.aF,.int .i64 c.num,.int .i64 c.den,.int .i64 c.extra,.bool c.aC] 29:=by rw [← hw0];exact ak.new _ _ _
 have HX0:=ahZ hX0
 have HB0:=ahZ hB0
 obtain ⟨q0,q1,q2,q3,q4,q5,q6,q7,q8,q9,mP⟩:=gD hX0
 have hsz0 : w.heap.size <= w0.heap.size:=hB0.size
 clear hB0 hX0
 unfold bE at cn ⊢
 go_enter Tryz.func9,Tryz.ntmps9
 go_wp2_with fail
 clear hw0
 refine (cn w0).mono ?_
 rintro e w1 ⟨K,SK,rfl,TF,hSK,hb1⟩
 have HCk:=ahZ TF
 have HSK:=ahZ hSK
 have HB1:=ahZ (HB0.out.trans (hb1.mono hsz0))
 have gJ:=ahZ (HX0.out.below hb1 HX0.out.lt)
 have hsz1 : w0.heap.size <= w1.heap.size:=hb1.size
 clear q0 q1 q2 q3 q4 q5 q6 q7 q8 q9 mP cn TF hSK hb1
 obtain ⟨q0,q1,q2,q3,q4,q5,q6,q7,q8,q9,mP⟩:=gD gJ.out
 go_wp2_with fail
 refine (sn w1).mono ?_
 rintro e w2 ⟨T,rfl,hSt,hb2,hT1,hT2⟩
 have gy:=ahZ (gJ.out.below hb2 gJ.out.lt)
 clear q0 q1 q2 q3 q4 q5 q6 q7 q8 q9 mP sn
 obtain ⟨q0,q1,q2,q3,q4,q5,q6,q7,q8,q9,mP⟩:=gD gy.out
 have HF : Hid (fZ (w2.alloc (.cells #[.int .i64 c.ring,.int .i64 c.window,.int .i64 c.base,.int .i64 c.gain,.int .i64 c.least,.int .i64 c.most,.int .i64 c.aF,.int .i64 c.num,.int .i64 c.den,.int .i64 c.extra,.bool c.aC,.pointer (some ⟨T,0,none⟩),.pointer (some ⟨K,0,none⟩),.int .i64 0] 86)) w2.heap.size c (Aw c) (λk=>w.heap.size <= k /\ k < w2.heap.size + 1) /\
   Below w.heap.size w (w2.alloc (.cells #[.int .i64 c.ring,.int .i64 c.window,.int .i64 c.base,.int .i64 c.gain,.int .i64 c.least,.int .i64 c.most,.int .i64 c.aF,.int .i64 c.num,.int .i64 c.den,.int .i64 c.extra,.bool c.aC,.pointer (some ⟨T,0,none⟩),.pointer (some ⟨K,0,none⟩),.int .i64 0] 86))):=ahZ (by
  have hsz2:=hb2.size
  have hA : Below w2.heap.size w2 (w2.alloc (.cells #[.int .i64 c.ring,.int .i64 c.window,.int .i64 c.base,.int .i64 c.gain,.int .i64 c.least,.int .i64 c.most,.int .i64 c.aF,.int .i64 c.num,.int .i64 c.den,.int .i64 c.extra,.bool c.aC,.pointer (some ⟨T,0,none⟩),.pointer (some ⟨K,0,none⟩),.int .i64 0] 86)):=(Below.refl _ _).alloc (Nat.le_refl _) _
  have Vy:=HCk.out.only (Only.of_below (S:=λ_=>False) hb2) (λ_ _ h=>h)
  have hB:=HB1.out.trans (hb2.mono (by omega))
  refine ⟨⟨T,w1.heap.size,K,[],0,_,SK,⟨ak.new _ _ _,hSt.below hA,by have:=Z0.out;simp;omega,Vy.only (Only.of_below (S:=λ_=>False) hA) (λ_ _ h=>h),λk hk hk2=>?_,⟨?_,?_⟩,⟨⟨by omega,by omega⟩,λk hk=>⟨by omega,by omega⟩,λk hk=>⟨by have:=HSK.out k hk;omega,?_⟩⟩,λk hk=>by simp;exact hk.2⟩,⟨rfl,by simp,by simp [Aw],HCO.out⟩⟩,hB.alloc hB.size _⟩
  ·have:=HCk.out.lt k hk2;omega
  ·intro hh;omega
  ·intro hh;have:=Vy.lt _ hh;omega
  ·have:=Vy.lt k hk;omega)
 clear hSt hb2
 go_wp2_with fail
 exact bodyPost_ret (v:=.tuple #[.pointer (some ⟨w2.heap.size,0,none⟩),.int .i64 0]) (by simp [results,Tryz.results9,go_sem]) rfl ⟨_,_,rfl,HF.out.1,λk hk=>hk.1,HF.out.2⟩
set_option maxRecDepth 100000
theorem DU {l : List aG} (hu : pE l) {k : aG} (hk : k ∈ l) : eO l k.key = some k:=by
 obtain ⟨i,hi,rfl⟩:=List.mem_iff_getElem.1 hk
 have h1 : dz l (l[i]).key = i:=by
  have a:=vJ (key:=(l[i]).key) hu (List.getElem?_eq_getElem hi)
  have b:=vI l (l[i]).key
  rcases Nat.lt_trichotomy (dz l (l[i]).key) i with h | h | h
  ·have hj : dz l (l[i]).key < l.length:=by omega
   have c:=vJ (key:=(l[i]).key) hu (List.getElem?_eq_getElem hj)
   have d:=List.pairwise_iff_getElem.1 hu _ i hj hi h
   omega
  ·exact h
  ·omega
 have h2 : l[dz l (l[i]).key]? = some (l[i]):=by rw [h1];exact List.getElem?_eq_getElem hi
 have h3 : dY l (l[i]).key = true:=by unfold dY;rw [h2];simp
 unfold eO
 rw [if_pos h3,h2]
theorem Aa (ss : List Sn) (x : Sn) : (fF ss x).length = ss.length + 1:=by
 unfold fF
 have:=List.takeWhile_append_dropWhile (p:=λs : Sn=>decide (s.tick < x.tick)) (l:=ss)
 have h2:=congrArg List.length this
 rw [List.length_append] at h2
 simp only [List.length_append,List.length_cons]
 omega
theorem Vz (ss : List Sn) (key : Int) : dz (ss.map fC) key = (ss.takeWhile (λs=>decide (s.tick < key))).length:=by
 induction ss with
 | nil=>rfl
 | cons y ss ih =>
  unfold dz at *
  rw [List.map_cons]
  by_cases hy : y.tick < key
  ·have h1 : decide ((fC y).key < key) = true:=decide_eq_true hy
   have h2 : decide (y.tick < key) = true:=decide_eq_true hy
   simp only [List.takeWhile_cons,h1,h2,if_true,List.length_cons,ih]
  ·have h1 : decide ((fC y).key < key) = false:=decide_eq_false hy
   have h2 : decide (y.tick < key) = false:=decide_eq_false hy
   simp [List.takeWhile_cons,h1,h2]
theorem VA {most : Int} {r : Rg} {x : Sn} (hl : (r.ss.length : Int) <= most) (hh : dY (r.ss.map fC) x.tick = false) (hs : gQ (r.ss.map fC) most r.floor r.gone x.tick = false) : x ∈ (jK most r x).ss:=by
 unfold jK
 split
 ·simp [fF]
 ·rename_i hn
  rw [Aa] at hn
  have hfull : (r.ss.length : Int) = most:=by omega
  have hu : dZ (r.ss.map fC) x.tick ≠ 0:=by
   intro hu
   unfold gQ at hs
   simp [hu,hfull] at hs
  unfold dZ at hu
  rw [hh] at hu
  simp only [Bool.false_eq_true,if_false] at hu
  rw [Vz] at hu
  simp only [fF]
  cases ht : r.ss.takeWhile (λs=>decide (s.tick < x.tick)) with
  | nil=>rw [ht] at hu;simp at hu
  | cons y l=>simp
theorem IQ {l : List aG} {most floor : Int} {gone : Bool} {tick base : Int} (h : sD l most floor gone tick base = 0) : dY l tick = false /\ gQ l most floor gone tick = false:=by
 unfold sD at h
 split at h
 ·cases h
 rename_i h1
 split at h
 ·cases h
 rename_i h2
 exact ⟨by simpa using h1,by simpa using h2⟩
abbrev kG.rg (x : kG) : Rg:=⟨x.ss,x.floor,x.gone⟩
def Eu (c : aS) (x : kG) (zs : List Int) : Int:=(gu c.ring x.rg zs).2
def Cn (c : aS) (x : kG) (loc : Int) (zs : List Int) : kG :=
 if (gu c.ring x.rg zs).2 = 0 then ⟨(jK c.ring x.rg (gu c.ring x.rg zs).1).ss,(jK c.ring x.rg (gu c.ring x.rg zs).1).floor,(jK c.ring x.rg (gu c.ring x.rg zs).1).gone,rD c x.cs (aN loc (gu c.ring x.rg zs).1.time)⟩ else x
def Lc (c : aS) (x : kG) (zs : List Int) : Prop:=(gu c.ring x.rg zs).2 = 0 -> ∀ l : List aG,l.map (·.sn) = x.ss -> (∀ k ∈ l,k.key = k.sn.tick) -> KY l c.ring x.floor x.gone (gu c.ring x.rg zs).1
theorem TG {most : Int} {r : Rg} {x s : Sn} (h : s ∈ (jK most r x).ss) : s = x \/ s ∈ r.ss:=by
 have hi : ∀ s ∈ fF r.ss x,s = x \/ s ∈ r.ss:=by
  intro s hs
  unfold fF at hs
  rcases List.mem_append.1 hs with h | h
  ·exact .inr ((List.takeWhile_sublist _).mem h)
  ·rcases List.mem_cons.1 h with h | h
   ·exact .inl h
   ·exact .inr ((List.dropWhile_sublist _).mem h)
 unfold jK at h
 split at h
 ·exact hi s h
 ·exact hi s (List.mem_of_mem_drop h)
set_option maxHeartbeats 4000000 in
theorem xY (C : Nat) (c : aS) (NC : c.Ok) (hcc : iU c = 0) (x : kG) (S : Nat -> Prop) (loc : Int) (hloc : aA loc) (a : Option Addr) (len cap : Nat) (zs : List Int) (w : World) (h : fZ w C c x S)
  (hz : BytesAt w a len zs) (hc : a = none -> cap = 0) (hlc : len <= cap) (hl : (len : Int) <= 140737488355000) (hL : x.cs.L.length < 1000) (K3 : Lc c x zs) :
  Calls Tryz.prog 13 #[.pointer (some ⟨C,0,none⟩),.int .i64 loc,.slice a len cap] w λe w'=>e = .returned (.int .i64 (Eu c x zs)) /\ fZ w' C c (Cn c x loc zs) (Grow S w w') /\ Only S w w':=by
 obtain ⟨T,R,K,l,fr,SS,SK,hP,hK⟩:=h
 have iX : Al l (x.ss.map fC):=by rw [← hK.map];exact SX hK.key
 have hzz : eG l c.ring x.floor x.gone zs = gu c.ring x.rg zs:=iX.snap _ _ _ _
 have iT : ∀ k ∈ l,(∀ e ∈ k.sn.ents,e.Ok) /\ k.sn.ents.length <= 64:=λk hk=>by
  refine ⟨?_,(jL.1 (hK.La _ (by rw [← hK.map];exact List.mem_map_of_mem hk))).len⟩
  obtain ⟨v,hp⟩:=hP.st.ring
  exact (hp.ents k hk).2
 have ac:=Pq T R l c.ring x.floor x.gone SS a len cap zs w hP.st (λk hk=>(iT k hk).2) hz hc hlc hl (λh=>by rw [hzz] at h ⊢;exact K3 h l hK.map hK.key) (Pj hz.u8 (λk hk=>(iT k hk).1)) Te (Td _ _ _ _ _)
 have hgood:=λh=>Ph (l:=l) (most:=c.ring) (floor:=x.floor) (gone:=x.gone) (zs:=zs) h
 have VB:=λh=>(Cg (l:=l) (most:=c.ring) (floor:=x.floor) (gone:=x.gone) (zs:=zs) h)
 rw [hzz] at ac hgood VB
 have VD : (gu c.ring x.rg zs).2 = 0 -> dY (x.ss.map fC) (gu c.ring x.rg zs).1.tick = false /\ gQ (x.ss.map fC) c.ring x.floor x.gone (gu c.ring x.rg zs).1.tick = false:=λh0=>by
  have h1:=VB h0
  have h2:=IQ h1.2.1
  have h3 : (gu c.ring x.rg zs).1.tick = (bF zs).1.tick:=by rw [h1.2.2.2.1];exact (El h1.2.2.1).2.1
  rw [h3,← iX.has,← iX.stale];exact h2
 have hmem : (gu c.ring x.rg zs).2 = 0 -> (gu c.ring x.rg zs).1 ∈ (jK c.ring x.rg (gu c.ring x.rg zs).1).ss:=λh0 =>
  VA (r:=x.rg) (by
   obtain ⟨v,hp⟩:=hP.st.ring
   show (x.ss.length : Int) <= c.ring
   rw [← hK.map,List.length_map]
   exact hP.room) (VD h0).1 (VD h0).2
 have HAX : Hid (Cn c x loc zs = if (gu c.ring x.rg zs).2 = 0 then ⟨(jK c.ring x.rg (gu c.ring x.rg zs).1).ss,(jK c.ring x.rg (gu c.ring x.rg zs).1).floor,(jK c.ring x.rg (gu c.ring x.rg zs).1).gone,rD c x.cs (aN loc (gu c.ring x.rg zs).1.time)⟩ else x):=ahZ rfl
 have HP:=ahZ hP
 have HK:=ahZ hK
 have HG:=ahZ hgood
 have HM:=ahZ hmem
 unfold Eu
 generalize Cn c x loc zs = ax at *
 generalize gu c.ring x.rg zs = z at *
 obtain ⟨sn,er⟩:=z
 simp only at *
 have c11:=hP.blk.cell 11
 simp at c11
 clear hP hK hgood hmem VD VB iT iX hzz K3 hz
 go_enter Tryz.func13,Tryz.ntmps13
 go_wp2_with fail
 refine ac.mono ?_
 rintro e w1 ⟨rfl,⟨l',fl,g,hS1,hR⟩,hO⟩
 clear ac
 have TH:=hO.blk HP.out.blk HP.out.nC.1
 have Pt:=HP.out.ck.only hO (λk hk hh=>HP.out.FU k hh hk)
 have aaF:=hO.size
 by_cases her : er = 0
 ·subst her
  obtain rfl : ax = _:=HAX.out.trans (if_pos rfl)
  rcases hR with ⟨h,_⟩ | ⟨_,kx,hk1,hk2,Iz⟩
  ·exact absurd rfl h
  have hgd : pI sn:=HG.out rfl
  have hl2 : ∀ k ∈ l',k.key = k.sn.tick:=λk hk=>by
   rcases Iz.2 k hk with rfl | hk
   ·rw [hk1];exact hk2
   ·exact HK.out.key k hk
  have hlm : l'.map (·.sn) = (jK c.ring x.rg sn).ss /\ fl = (jK c.ring x.rg sn).floor /\ g = (jK c.ring x.rg sn).gone:=by
   have:=Iz.1
   rw [HK.out.map,hk1] at this
   rw [← show _ = jK c.ring x.rg sn from this]
   exact ⟨rfl,rfl,rfl⟩
  have VE : ∀ s ∈ (jK c.ring x.rg sn).ss,gM s = 0:=λs hs=>by
   rcases TG hs with rfl | hs
   ·exact jL.2 hgd
   ·exact HK.out.La s hs
  have TI : ∀ k ∈ l',k.sn.ents.length <= 64:=λk hk=>(jL.1 (VE _ (by rw [← hlm.1];exact List.mem_map_of_mem hk))).len
  have hget : ∃ k,eO l' sn.tick = some k /\ k.sn = sn:=by
   have h1 : sn ∈ l'.map (·.sn):=by rw [hlm.1];exact HM.out rfl
   obtain ⟨k,hk,hks⟩:=List.mem_map.1 h1
   obtain ⟨v,hp⟩:=hS1.ring
   refine ⟨k,?_,hks⟩
   rw [← hks,← hl2 k hk]
   exact DU hp.up hk
  obtain ⟨kk,hkk,hks⟩:=hget
  have gt:=Ny T R l' c.ring fl g _ sn.tick w1 hS1 TI
  rw [hkk] at gt
  have hM : mW (some kk) = sn.time:=by show kk.sn.time = _;rw [hks]
  rw [hM] at gt
  generalize dY l' sn.tick = hv at *
  generalize uZ (some kk) = st at *
  generalize (iw (some kk)) = se at *
  have HRM : Hid ((jK c.ring x.rg sn).ss.length <= c.ring):=ahZ (by
   unfold jK
   split
   ·assumption
   ·rename_i hh
    rw [Aa] at hh
    have h1:=HP.out.room
    have h2 : x.ss.length = l.length:=by have:=congrArg List.length HK.out.map;rw [List.length_map] at this;exact this.symm
    show ((List.drop 1 (fF x.rg.ss sn)).length : Int) <= c.ring
    rw [List.length_drop,Aa,show x.rg.ss.length = l.length from h2]
    omega)
  have gX:=ahZ hS1
  have KT:=ahZ TH
  have aeN:=ahZ Pt
  have oO:=ahZ hO
  have Xa:=ahZ hlm
  have HL2:=ahZ hl2
  have iW:=ahZ VE
  have HGD:=ahZ hgd
  have K4:=ahZ aaF
  have c11':=TH.cell 11
  simp at c11'
  clear hS1 TH Pt hO hlm hl2 VE hgd aaF Iz TI hkk hM c11 HAX
  go_wp2_with fail
  refine gt.mono ?_
  rintro e w2 ⟨ga,gc,rfl,hE,hB⟩
  clear hE gt
  obtain ⟨v2,hv2⟩ : ∃ v,w2.alloc (.cells #[.int .i64 0,.int .i64 0,.slice none 0 0] 36) = v:=⟨_,rfl⟩
  have hBb : Below w2.heap.size w2 v2:=by rw [← hv2];exact (Below.refl _ _).alloc (Nat.le_refl _) _
  have aY : ak v2 w2.heap.size #[.int .i64 0,.int .i64 0,.slice none 0 0] 36:=by rw [← hv2];exact ak.new _ _ _
  have f0:=aY.free 0
  have f1:=aY.free 1
  have f2:=aY.free 2
  have q0:=aY.cell 0
  have q1:=aY.cell 1
  have q2:=aY.cell 2
  simp at q0 q1 q2
  have hX:=jf (v0:=.int .i64 st) (v1:=.int .i64 sn.time) (v2:=.slice ga se.length gc) aY
  have hbx:=dQ (v0:=.int .i64 st) (v1:=.int .i64 sn.time) (v2:=.slice ga se.length gc) hBb (Nat.le_refl _)
  obtain ⟨u2,hu2⟩ : ∃ u,((v2.setCell ⟨w2.heap.size,0,none⟩ (.int .i64 st)).setCell ⟨w2.heap.size,1,none⟩ (.int .i64 sn.time)).setCell ⟨w2.heap.size,2,none⟩ (.slice ga se.length gc) = u:=⟨_,rfl⟩
  rw [hu2] at hX hbx
  clear hBb aY
  have yK : Below w1.heap.size w1 u2:=hB.trans (hbx.mono hB.size)
  have hC2:=KT.out.below yK KT.out.lt
  have qo:=ahZ hC2
  have HS2:=ahZ (gX.out.below yK)
  have aeO:=ahZ (aeN.out.only (Only.of_below (S:=λ_=>False) yK) (λ_ _ h=>h))
  have bT:=ahZ (oO.out.fu yK)
  have VF : Hid (w1.heap.size <= u2.heap.size):=ahZ yK.size
  have x1:=hX.cell 1
  have c12:=hC2.cell 12
  simp at x1 c12
  clear hB hbx yK hC2 hX c11'
  go_wp2_with fail
  clear hv2 hu2 f0 f1 f2 q0 q1 q2
  refine aR 7 (by kernel_rfl) (by kernel_rfl) ?_
  simp only [List.take_succ_cons,List.take_zero,List.drop_succ_cons,List.drop_zero]
  repeat (apply aB;(next=>(intro W hW K hK;have y0:=hW.cell x1;have y1:=hW.cell c12;go_simp;first | exact ⟨hW,hK⟩ | exact hK));(next=>exact aO.self _);(try go_simp))
  refine aW ?_
  intro WC aM
  have aV : Below u2.heap.size u2 WC:=aM
  have HC3:=ahZ (qo.out.below aV qo.out.lt)
  have Wx:=ahZ (HS2.out.below aV)
  have aaG:=aeO.out.only (Only.of_below (S:=λ_=>False) aV) (λ_ _ h=>h)
  have fT:=ahZ (bT.out.fu aV)
  have Pv : Hid (w1.heap.size <= WC.heap.size):=ahZ (Nat.le_trans VF.out aV.size)
  have sm:=TD K c NC hcc x.cs HK.out.cs hL loc sn.time hloc ⟨by have:=HGD.out.time;omega,by have:=HGD.out.time;omega⟩ SK WC aaG
  have GA : (rD c x.cs (aN loc sn.time)).Ok c:=TB HK.out.cs (vG hcc).2.1 (jv _ _) hL
  have VH:=ahZ GA
  clear aM aV aaG x1 c12 GA
  go_wp2_with fail
  refine sm.mono ?_
  rintro e w4 ⟨rfl,aaH,hO4⟩
  have HF : Hid (fZ w4 C c ⟨(jK c.ring x.rg sn).ss,(jK c.ring x.rg sn).floor,(jK c.ring x.rg sn).gone,rD c x.cs (aN loc sn.time)⟩ (Grow S w w4) /\ Only S w w4):=ahZ (by
   have hs4:=hO4.size
   have hs3:=Pv.out
   have hsw:=K4.out
   have hsub:=HP.out.sub
   have hlt:=HP.out.lt
   have hst:=Wx.out.only hO4 (λk hk hh=>by
    rcases hk with hk | hk
    ·exact HP.out.FU k hk hh
    ·have:=hlt k (hsub.2.2 k hh);omega)
   refine ⟨⟨T,R,K,l',fr,_,_,⟨hO4.blk HC3.out HP.out.nC.2,by rw [← Xa.out.2.1,← Xa.out.2.2];exact hst,?_,aaH,λk hk hh=>?_,⟨λhh=>?_,λhh=>?_⟩,⟨⟨.inl hsub.1,?_⟩,λk hk=>⟨?_,?_⟩,λk hk=>⟨?_,hk.2⟩⟩,λk hk=>hk.2⟩,⟨Xa.out.1,HL2.out,iW.out,VH.out⟩⟩,?_⟩
   ·have h1:=HRM.out
    rw [← Xa.out.1,List.length_map] at h1
    exact h1
   ·rcases hk with hk | hk
    ·rcases hh.1 with h5 | h5
     ·exact HP.out.FU k hk h5
     ·have:=hlt k (hsub.2.1 k hk);omega
    ·rcases hh.1 with h5 | h5
     ·have:=hlt k (hsub.2.2 k h5);omega
     ·omega
   ·rcases hh with hh | hh
    ·exact HP.out.nC.1 hh
    ·have:=hlt C hsub.1;omega
   ·rcases hh.1 with hh | hh
    ·exact HP.out.nC.2 hh
    ·have:=hlt C hsub.1;omega
   ·have:=hlt C hsub.1;omega
   ·rcases hk with hk | hk
    ·exact .inl (hsub.2.1 k hk)
    ·exact .inr hk.1
   ·rcases hk with hk | hk
    ·have:=hlt k (hsub.2.1 k hk);omega
    ·omega
   ·rcases hk.1 with hk | hk
    ·exact .inl (hsub.2.2 k hk)
    ·exact .inr (by omega)
   ·exact (fT.out.weaken (λk _ hk=>hsub.2.1 k hk)).bQ hO4 (λi hi hh=>hsub.2.2 i hh))
  clear aaH hO4 sm
  go_wp2_with fail
  exact bodyPost_ret (v:=.int .i64 0) (by simp [results,Tryz.results13,go_sem]) rfl ⟨rfl,HF.out⟩
 ·obtain rfl : ax = x:=HAX.out.trans (if_neg her)
  have hen : (er != 0) = true:=by simpa using her
  rcases hR with ⟨_,rfl,rfl,rfl⟩ | ⟨h,_⟩
  ·have HF : Hid (fZ w1 C c ax (Grow S w w1) /\ Only S w w1):=ahZ (by
    have hsub:=HP.out.sub
    have hlt:=HP.out.lt
    refine ⟨⟨T,R,K,l',fr,_,SK,⟨TH,hS1,HP.out.room,Pt,λk hk hh=>?_,⟨λhh=>?_,HP.out.nC.2⟩,⟨⟨.inl hsub.1,?_⟩,λk hk=>⟨?_,?_⟩,λk hk=>⟨.inl (hsub.2.2 k hk),?_⟩⟩,λk hk=>hk.2⟩,HK.out⟩,hO.weaken (λk _ hk=>hsub.2.1 k hk)⟩
    ·rcases hk with hk | hk
     ·exact HP.out.FU k hk hh
     ·have:=hlt k (hsub.2.2 k hh);omega
    ·rcases hh with hh | hh
     ·exact HP.out.nC.1 hh
     ·have:=hlt C hsub.1;omega
    ·have:=hlt C hsub.1;omega
    ·rcases hk with hk | hk
     ·exact .inl (hsub.2.1 k hk)
     ·exact .inr hk.1
    ·rcases hk with hk | hk
     ·have:=hlt k (hsub.2.1 k hk);omega
     ·omega
    ·have:=hlt k (hsub.2.2 k hk);omega)
   clear TH Pt hS1 hO her
   go_wp2_with fail
   exact bodyPost_ret (v:=.int .i64 er) (by simp [results,Tryz.results13,go_sem]) rfl ⟨rfl,HF.out⟩
  ·exact absurd h her
set_option maxRecDepth 100000
theorem Yo {l : List aG} {x : aG} (hk : ∀ k ∈ l,k.key = k.sn.tick) (hx : x.key = x.sn.tick) : (nZ l x).map (·.sn) = fF (l.map (·.sn)) x.sn:=by
 induction l with
 | nil=>rfl
 | cons y l ih =>
  have h1:=ih (λk h=>hk k (List.mem_cons_of_mem _ h))
  have hy:=hk y (List.mem_cons_self ..)
  by_cases h : y.key < x.key
  ·have h2 : decide (y.sn.tick < x.sn.tick) = true:=by rw [← hy,← hx];exact decide_eq_true h
   rw [Nn h]
   unfold fF at h1 ⊢
   simp only [List.map_cons,List.takeWhile_cons,List.dropWhile_cons,h2,if_true,h1,List.cons_append]
  ·have h2 : decide (y.sn.tick < x.sn.tick) = false:=by rw [← hy,← hx];exact decide_eq_false h
   rw [Np h]
   unfold fF
   simp [List.takeWhile_cons,List.dropWhile_cons,h2]
theorem Pw {l : List aG} {most floor : Int} {gone : Bool} {sn : Sn} (hkey : ∀ k ∈ l,k.key = k.sn.tick) (hhas : dY l sn.tick = false) (hst : gQ l most floor gone sn.tick = false) (hroom : (l.length : Int) <= most) (WI : most <= 64) : KY l most floor gone sn:=by
 intro R S x w hx hk hR hO hok hS
 have hk' : x.key = x.sn.tick:=by rw [hk,hx]
 have hin:=Yo hkey hk'
 rw [← hk] at hhas hst
 have hfl : gone = true -> floor < x.key:=λhg=>by
  unfold gQ at hst
  rw [hg] at hst
  simp at hst
  exact hst.1
 have OY : (l.length : Int) = most -> 0 < dz l x.key:=λhe=>by
  unfold gQ dZ at hst
  rw [hhas] at hst
  simp [he] at hst
  omega
 refine (ZX R l most floor gone S x w hR hO hok hS hhas hroom WI hfl OY).mono ?_
 have hmem : ∀ k ∈ nZ l x,k = x \/ k ∈ l:=λk hk=>Eh hk
 have hlen : (fF (l.map (·.sn)) x.sn).length = (nZ l x).length:=by rw [← hin,List.length_map]
 rintro e w' (⟨h1,rfl,h2,h3⟩ | ⟨h1,k0,h0,rfl,h2,h3⟩)
 ·refine ⟨nZ l x,floor,gone,?_,h2,h3,?_,hmem⟩
  ·unfold KX;rw [if_pos (by rw [hlen];exact h1)]
  ·unfold jK;rw [if_pos (by rw [hlen];exact h1),hin]
 ·have hk0 : k0.key = k0.sn.tick:=by
   rcases hmem k0 (List.mem_of_getElem? h0) with rfl | h
   ·exact hk'
   ·exact hkey _ h
  have hhd : (fF (l.map (·.sn)) x.sn).headD eT = k0.sn:=by
   rw [← hin]
   cases hl : nZ l x with
   | nil=>rw [hl] at h0;cases h0
   | cons y r=>rw [hl] at h0;cases h0;rfl
  have aaI : ¬ (((fF (l.map (·.sn)) x.sn).length : Nat) : Int) <= most:=by rw [hlen];omega
  refine ⟨(nZ l x).drop 1,k0.key,true,?_,h2,h3,?_,λk hk=>hmem k (List.mem_of_mem_drop hk)⟩
  ·unfold KX;rw [if_neg aaI];show _ = Ending.returned (.tuple #[.int .i64 ((fF (l.map (·.sn)) x.sn).headD eT).tick,_,_]);rw [hhd,hk0]
  ·unfold jK;rw [if_neg aaI];show (⟨_,_,_⟩ : Rg) = ⟨(fF (l.map (·.sn)) x.sn).drop 1,((fF (l.map (·.sn)) x.sn).headD eT).tick,true⟩;rw [hhd,hk0,← hin,List.map_drop]
theorem Ab {c : aS} {x : kG} {zs : List Int} (hc : iU c = 0) (hlen : (x.ss.length : Int) <= c.ring) : Lc c x zs:=by
 intro h0 l hl hk
 have iX : Al l (x.ss.map fC):=by rw [← hl];exact SX hk
 have hll : l.length = x.ss.length:=by rw [← hl,List.length_map]
 have h1:=Cg (l:=x.ss.map fC) (most:=c.ring) (floor:=x.floor) (gone:=x.gone) (zs:=zs) h0
 have h2:=IQ h1.2.1
 have h3 : (gu c.ring x.rg zs).1.tick = (bF zs).1.tick:=by
  have:=(El h1.2.2.1).2.1
  unfold gu
  rw [h1.2.2.2.1];exact this
 refine Pw hk ?_ ?_ (by rw [hll];exact hlen) (IL hc).2
 ·rw [h3,iX.has];exact h2.1
 ·rw [h3,iX.stale];exact h2.2
theorem fZ.room {w : World} {C : Nat} {c : aS} {x : kG} {S : Nat -> Prop} (h : fZ w C c x S) : (x.ss.length : Int) <= c.ring:=by
 obtain ⟨T,R,K,l,fr,SS,SK,h1,h2⟩:=h
 rw [← h2.map,List.length_map];exact h1.room
def iV (k : aG) : List Value:=[.int .i64 k.sn.tick,.int .i64 k.sn.time,dV k]
def mZ : aG:=⟨0,eT,none,0⟩
def Ld (w : World) (a : Option Addr) (ks : List aG) : Prop :=
 qI w a ks.length (λi=>(ks.getD i mZ).sn.tick) (λi=>(ks.getD i mZ).sn.time) (λi=>((ks.getD i mZ).a,(ks.getD i mZ).sn.ents.length,(ks.getD i mZ).cap)) (λi j=>(ks.getD i mZ).sn.ents.getD j bS)
theorem GD : (Tryz.prog.info? 36).map (λi=>(i.zero,i.size,i.bytes)) = some (some (.agg #[.int .i64 0,.int .i64 0,.slice none 0 0]),3,40):=by kernel_rfl
structure iC (w : World) (base : Nat) (v : Value) (ks : List aG) : Prop where
 row : w.ownsRow base 36 3 v ks.length (ks.flatMap iV)
 ents : ∀ k ∈ ks,aK w base (dV k) k.sn.ents /\ (∀ e ∈ k.sn.ents,e.Ok) /\ k.sn.ents.length <= 64
theorem iC.nil (w : World) (base : Nat) : iC w base (.slice none 0 0) []:=⟨World.ownsRow_nil _ _ _ _,by simp⟩
theorem iC.below {w w' : World} {base : Nat} {v : Value} {ks : List aG} (h : iC w base v ks) (hb : Below w.heap.size w w') : iC w' base v ks :=
 ⟨nE h.row (Only.of_below (S:=λ_=>False) hb) (λ_ _ h=>h),λk hk=>⟨(h.ents k hk).1.below hb,(h.ents k hk).2⟩⟩
theorem FV : ∀ (d : List aG) (i : Nat) (x : aG),d[i]? = some x -> ∀ j,j < 3 -> (d.flatMap iV)[i * 3 + j]? = (iV x)[j]?
 | [],i,r,h,_,_=>by simp at h
 | y :: d,0,x,h,j,hj=>by
  simp at h;subst h
  rw [List.flatMap_cons,List.getElem?_append_left (by show _ < 3;omega)]
  congr 1;omega
 | y :: d,i + 1,x,h,j,hj=>by
  have h' : d[i]? = some x:=by simpa using h
  rw [List.flatMap_cons,List.getElem?_append_right (by show 3 <= _;omega),show (iV y).length = 3 from rfl,show (i + 1) * 3 + j - 3 = i * 3 + j by omega]
  exact FV d i x h' j hj
theorem iC.ND {w : World} {base : Nat} {v : Value} {ks : List aG} (h : iC w base v ks) : ∃ a c,v = .slice a ks.length c /\ Ld w a ks /\ (a = none -> c = 0) /\ ks.length <= c:=by
 have hc:=λg hg=>h.row.cells (g:=g) hg
 obtain ⟨hr,he⟩:=h
 have iT : ∀ i,i < ks.length -> bV w (ks.getD i mZ).a (ks.getD i mZ).sn.ents.length (λj=>(ks.getD i mZ).sn.ents.getD j bS) /\ ((ks.getD i mZ).sn.ents.length : Int) <= 4611686018427387904:=λi hi=>by
  have hk : ks.getD i mZ = ks[i]:=by simp [List.getD,hi]
  rw [hk]
  obtain ⟨h1,h2,h3⟩:=he _ (List.getElem_mem hi)
  obtain ⟨a,c,e,h4,_⟩:=h1.ents h2
  injection e with e1
  rw [← e1] at h4
  exact ⟨h4,by omega⟩
 obtain ⟨_,⟨rfl,hn⟩ | ⟨g,cap,cur,rfl,a,b,c,d⟩⟩:=hr
 ·refine ⟨none,0,by rw [hn],⟨.inl hn,iT⟩,λ_=>rfl,by omega⟩
 ·refine ⟨_,_,rfl,⟨.inr ⟨g,0,rfl,(Array.getElem?_eq_some_iff.1 b).1,λi hi=>?_⟩,iT⟩,λh=>(by cases h),c⟩
  have hx : ks[i]? = some (ks.getD i mZ):=by simp [List.getD,hi]
  have hf:=FV ks i _ hx
  have ha : ∀ o,(⟨g,0,none⟩ : Addr).add o = ⟨g,o,none⟩:=λo=>by unfold Addr.add;split <;> simp_all
  have cell : ∀ j u,j < 3 -> (iV (ks.getD i mZ))[j]? = some u -> w.cell? ⟨g,i * 3 + j,none⟩ = some u:=λj u hj hu=>by
   rw [← ha];exact hc g rfl _ _ (by rw [hf j hj];exact hu)
  rw [Nat.zero_add]
  exact ⟨cell 0 _ (by decide) rfl,cell 1 _ (by decide) rfl,cell 2 _ (by decide) rfl⟩
theorem iC.app {ops : Array Oper} {rest : List Oper} {o : Oper} {a : Act} {Q : Exit -> Act -> World -> Prop} (w : World) (hgd : o.guard = none) (s x : Operand)
  (ho : o.op = .call { callee:=.builtin .append,args:=#[s,x],argTypes:=#[54,54] })
  (base : Nat) (v : Value) (ks : List aG) (hs : a.eval s = v) (hown : iC w base v ks) (g : Nat) (k : aG) (hx : a.eval x = .slice (some ⟨g,0,none⟩) 1 1) (hb : ak w g #[.int .i64 k.sn.tick,.int .i64 k.sn.time,.slice k.a k.sn.ents.length k.cap] 36)
  (hk : aK w base (dV k) k.sn.ents /\ (∀ e ∈ k.sn.ents,e.Ok) /\ k.sn.ents.length <= 64) (hl : ks.length <= 1000000) (hbase : base <= w.heap.size)
  (h : ∀ v' w',iC w' base v' (ks ++ [k]) -> w.grownBy w' v.ownBlock -> wpList Tryz.prog ops Q rest (a.put o.dst v') w') : wpList Tryz.prog ops Q (o :: rest) a w:=by
 refine mJ w hgd s x 54 36 ho base _ 3 40 Tryz.underlying54 GD rfl (by decide) v ks.length (ks.flatMap iV) hs hown.row g _ hx hb rfl (by intro u hu;simp at hu;rcases hu with rfl | rfl | rfl <;> rfl) (by unfold maxLen;omega) (by omega) hbase (λv' w' h1 h2=>h v' w' ⟨?_,?_⟩ h2)
 ·rw [List.length_append,List.flatMap_append]
  simpa [iV,dV] using h1
 ·intro k' hk'
  have hold : aK w base (dV k') k'.sn.ents /\ (∀ e ∈ k'.sn.ents,e.Ok) /\ k'.sn.ents.length <= 64:=by
   rcases List.mem_append.1 hk' with h | h
   ·exact hown.ents k' h
   ·simp at h;subst h;exact hk
  exact ⟨hold.1.only (ji h2) (λj hj hv=>Ih hown.row hold.1 (by decide) hv hj),hold.2⟩
set_option maxHeartbeats 2000000 in
theorem Le (C : Nat) (c : aS) (x : kG) (S : Nat -> Prop) (w : World) (h : fZ w C c x S) :
  Calls Tryz.prog 43 #[.pointer (some ⟨C,0,none⟩)] w λe w'=>∃ v ks,e = .returned v /\ iC w' w.heap.size v ks /\ ks.map (·.sn) = x.ss /\ Below w.heap.size w w':=by
 obtain ⟨T,R,K,l,fr,SS,SK,hP,hK⟩:=h
 have iT : ∀ k ∈ l,(∀ e ∈ k.sn.ents,e.Ok) /\ k.sn.ents.length <= 64:=λk hk=>by
  refine ⟨?_,(jL.1 (hK.La _ (by rw [← hK.map];exact List.mem_map_of_mem hk))).len⟩
  obtain ⟨v,hp⟩:=hP.st.ring
  exact (hp.ents k hk).2
 have ln:=λW h=>Yg T R l c.ring x.floor x.gone SS W h
 have at_:=λ(i : Int) W h=>aar T R l c.ring x.floor x.gone SS i W h (λk hk=>(iT k hk).2)
 have c11:=hP.blk.cell 11
 simp at c11
 have HC:=ahZ hP.blk
 have HS:=ahZ hP.st
 have HM:=ahZ hK.map
 have HE:=ahZ iT
 have h64 : l.length <= 64:=by obtain ⟨v,hp⟩:=hP.st.ring;have:=hp.len;omega
 have Lf:=ahZ h64
 clear hP hK iT h64
 go_enter Tryz.func43,Tryz.ntmps43
 go_wp2_with fail
 refine (ln w HS.out).mono ?_
 rintro e w1 ⟨rfl,rfl⟩
 clear ln
 have aeP:=c11
 go_wp2_with fail
 go_loopw [3,12] (λv i wr=>∃ (k : Nat) (u : Value) (ks : List aG),k <= l.length /\ i = .int .i64 k /\ u = v /\ ks.map (·.sn) = (l.map (·.sn)).take k /\ iC wr w.heap.size u ks /\ Below w.heap.size w wr) (λ_ i _=>l.length - (intOf i).toNat)
 case atStart=>exact ⟨0,_,[],Nat.zero_le _,rfl,rfl,by simp,iC.nil _ _,Below.refl _ _⟩
 case round =>
  obtain ⟨k,v,ks,hk,rfl,rfl,hm,hO,hB⟩:=hrel
  clear c11 aeP
  by_cases hlt : k < l.length
  ·have hlt' : (k : Int) < l.length:=by omega
   obtain ⟨y,hy⟩ : ∃ y,l[k]? = some y:=⟨_,List.getElem?_eq_getElem hlt⟩
   have hak : fq l (k : Int) = some y:=by unfold fq;rw [if_neg (by omega)];simpa using hy
   have hst:=HS.out.below hB
   have JR:=at_ k wr hst
   rw [hak] at JR
   have hye:=HE.out y (List.mem_of_getElem? hy)
   have hcb:=HC.out.below hB HC.out.lt
   have c11:=hcb.cell 11
   simp at c11
   have HY:=ahZ hy
   have eB:=ahZ hlt
   have HYE:=ahZ hye
   have HMK:=ahZ hm
   have HO:=ahZ hO
   have HB:=ahZ hB
   have hkl : ks.length = k:=by have:=congrArg List.length hm;simp at this;omega
   have NG:=ahZ hkl
   simp only [uZ,mW,iw,qZ] at JR
   obtain ⟨yk,⟨tk,tm,es⟩,ya,yc⟩:=y
   simp only at *
   clear hy hye hm hO hB hst hcb hkl hak at_
   go_wp2_with fail
   refine JR.mono ?_
   rintro e w1 ⟨a1,c1,rfl,hE,hB⟩
   have HB0:=HB.out
   have aaK:=HB0.size
   obtain ⟨v1,hv1⟩ : ∃ v,w1.alloc (.cells #[.int .i64 0,.int .i64 0,.slice none 0 0] 36) = v:=⟨_,rfl⟩
   have hBb : Below w1.heap.size w1 v1:=by rw [← hv1];exact (Below.refl _ _).alloc (Nat.le_refl _) _
   have aY : ak v1 w1.heap.size #[.int .i64 0,.int .i64 0,.slice none 0 0] 36:=by rw [← hv1];exact ak.new _ _ _
   have f0:=aY.free 0
   have f1:=aY.free 1
   have f2:=aY.free 2
   have q0:=aY.cell 0
   have q1:=aY.cell 1
   have q2:=aY.cell 2
   simp at q0 q1 q2
   have hX:=jf (v0:=.int .i64 tk) (v1:=.int .i64 tm) (v2:=.slice a1 es.length c1) aY
   have hbx:=dQ (v0:=.int .i64 tk) (v1:=.int .i64 tm) (v2:=.slice a1 es.length c1) hBb (Nat.le_refl _)
   obtain ⟨u1,hu1⟩ : ∃ u,((v1.setCell ⟨w1.heap.size,0,none⟩ (.int .i64 tk)).setCell ⟨w1.heap.size,1,none⟩ (.int .i64 tm)).setCell ⟨w1.heap.size,2,none⟩ (.slice a1 es.length c1) = u:=⟨_,rfl⟩
   rw [hu1] at hX hbx
   clear hBb aY
   have Ev : Below wr.heap.size wr u1:=hB.trans (hbx.mono hB.size)
   have hE1 : aK u1 w.heap.size (.slice a1 es.length c1) es:=(aK.base hE aaK).below hbx
   obtain ⟨u2,hu2⟩ : ∃ v,u1.alloc (.cells #[.int .i64 tk,.int .i64 tm,.slice a1 es.length c1] 36) = v:=⟨_,rfl⟩
   have hb2 : Below u1.heap.size u1 u2:=by rw [← hu2];exact (Below.refl _ _).alloc (Nat.le_refl _) _
   have gy : Hid (ak u2 u1.heap.size #[.int .i64 tk,.int .i64 tm,.slice a1 es.length c1] 36):=ahZ (by rw [← hu2];exact ak.new _ _ _)
   have HE2:=ahZ (hE1.below hb2)
   have nJ : Below wr.heap.size wr u2:=Ev.trans (hb2.mono Ev.size)
   have bT:=ahZ (HO.out.below nJ)
   have HB2:=ahZ (HB0.trans (nJ.mono HB0.size))
   have x0:=hX.cell 0
   have x1:=hX.cell 1
   have x2:=hX.cell 2
   simp at x0 x1 x2
   clear hB hE hbx Ev hE1 hb2 nJ hX HB0 aaK JR
   go_wp2_with (at_builtin;refine iC.app _ rfl (.tmp 24) (.tmp 26) rfl w.heap.size _ ks rfl bT.out _ ⟨tk,⟨tk,tm,es⟩,a1,c1⟩ rfl gy.out ⟨HE2.out,HYE.out.1,HYE.out.2⟩ (by have:=NG.out;have:=Lf.out;omega) HB2.out.size ?_)
   intro v' w' hr hg
   have HF : Hid (iC w' w.heap.size v' (ks ++ [⟨tk,⟨tk,tm,es⟩,a1,c1⟩]) /\ Below w.heap.size w w' /\ (ks ++ [(⟨tk,⟨tk,tm,es⟩,a1,c1⟩ : aG)]).map (·.sn) = (l.map (·.sn)).take (k + 1)):=ahZ ⟨hr,HB2.out.grown hg HB2.out.size (λj e=>(bT.out.row.lt j e).1),by
    rw [List.map_append,HMK.out,List.take_add_one,List.getElem?_map,HY.out];rfl⟩
   have hw : wrap64 ((k : Int) + 1) = (k : Int) + 1:=by have:=Lf.out;unfold wrap64;omega
   clear hr hg
   go_wp2
   go_roundw
   case rel=>exact ⟨k + 1,_,_,by have:=eB.out;omega,by go_num,rfl,HF.out.2.2,HF.out.1,HF.out.2.1⟩
   case measure=>rw [hw];show l.length - ((k : Int) + 1).toNat < l.length - (k : Int).toNat;have h1:=eB.out;omega
  ·obtain rfl : k = l.length:=by omega
   have HF : Hid (iC wr w.heap.size v ks /\ ks.map (·.sn) = x.ss /\ Below w.heap.size w wr):=ahZ ⟨hO,by rw [hm,← List.length_map (f:=λk : aG=>k.sn),List.take_length];exact HM.out,hB⟩
   clear hO hm hB at_
   go_wp2
   exact bodyPost_ret (v:=v) (by simp [results,Tryz.results43,go_sem]) rfl ⟨v,ks,rfl,HF.out⟩
set_option maxRecDepth 100000
theorem Yv : (Tryz.prog.info? 2).map (λi=>(i.zero,i.size,i.bytes)) = some (some (.int .i64 0),1,8):=by kernel_rfl
theorem DW {w : World} {base : Nat} {v : Value} {ks : List aG} (hr : w.ownsRow base 36 3 v ks.length (ks.flatMap iV)) {i : Nat} {x : aG} (hx : ks[i]? = some x) :
  ∃ g c,v = .slice (some ⟨g,0,none⟩) ks.length c /\ g < w.heap.size /\ w.cell? ⟨g,i * 3,none⟩ = some (.int .i64 x.sn.tick) /\ w.cell? ⟨g,i * 3 + 1,none⟩ = some (.int .i64 x.sn.time) /\ w.cell? ⟨g,i * 3 + 2,none⟩ = some (dV x):=by
 have hi : i < ks.length:=(List.getElem?_eq_some_iff.1 hx).1
 have hc:=λg hg=>hr.cells (g:=g) hg
 obtain ⟨_,⟨rfl,hn⟩ | ⟨g,cap,cur,rfl,a,b,c,d⟩⟩:=hr
 ·omega
 ·have hf:=FV ks i x hx
  have ha : ∀ o,(⟨g,0,none⟩ : Addr).add o = ⟨g,o,none⟩:=λo=>by unfold Addr.add;split <;> simp_all
  have cell : ∀ j u,j < 3 -> (iV x)[j]? = some u -> w.cell? ⟨g,i * 3 + j,none⟩ = some u:=λj u hj hu=>by
   rw [← ha];exact hc g rfl _ _ (by rw [hf j hj];exact hu)
  exact ⟨g,cap,rfl,(Array.getElem?_eq_some_iff.1 b).1,cell 0 _ (by decide) rfl,cell 1 _ (by decide) rfl,cell 2 _ (by decide) rfl⟩
theorem iC.cells {w : World} {base : Nat} {v : Value} {ks : List aG} (h : iC w base v ks) {i : Nat} {x : aG} (hx : ks[i]? = some x) :
  ∃ g c,v = .slice (some ⟨g,0,none⟩) ks.length c /\ g < w.heap.size /\ w.cell? ⟨g,i * 3,none⟩ = some (.int .i64 x.sn.tick) /\ w.cell? ⟨g,i * 3 + 1,none⟩ = some (.int .i64 x.sn.time) /\ w.cell? ⟨g,i * 3 + 2,none⟩ = some (dV x):=DW h.row hx
theorem IY {ops : Array Oper} {rest : List Oper} {o : Oper} {a : Act} {Q : Exit -> Act -> World -> Prop} (w : World) (hgd : o.guard = none) (s x : Operand)
  (ho : o.op = .call { callee:=.builtin .append,args:=#[s,x],argTypes:=#[54,54] })
  (base : Nat) (v : Value) (ks : List aG) (hs : a.eval s = v) (hown : w.ownsRow base 36 3 v ks.length (ks.flatMap iV)) (g : Nat) (k : aG) (hx : a.eval x = .slice (some ⟨g,0,none⟩) 1 1) (hb : ak w g #[.int .i64 k.sn.tick,.int .i64 k.sn.time,.slice k.a k.sn.ents.length k.cap] 36)
  (hl : ks.length <= 1000000) (hbase : base <= w.heap.size)
  (h : ∀ v' w',w'.ownsRow base 36 3 v' (ks ++ [k]).length ((ks ++ [k]).flatMap iV) -> w.grownBy w' v.ownBlock -> wpList Tryz.prog ops Q rest (a.put o.dst v') w') : wpList Tryz.prog ops Q (o :: rest) a w:=by
 refine mJ w hgd s x 54 36 ho base _ 3 40 Tryz.underlying54 GD rfl (by decide) v ks.length (ks.flatMap iV) hs hown g _ hx hb rfl (by intro u hu;simp at hu;rcases hu with rfl | rfl | rfl <;> rfl) (by unfold maxLen;omega) (by omega) hbase (λv' w' h1 h2=>h v' w' ?_ h2)
 rw [List.length_append,List.flatMap_append]
 simpa [iV,dV] using h1
theorem IZ {w : World} {base base' k n : Nat} {e : TypeId} {v : Value} {xs : List Value} (h : w.ownsRow base e k v n xs) (hb : base' <= base) : w.ownsRow base' e k v n xs:=by
 obtain ⟨h1,h2⟩:=h
 refine ⟨h1,?_⟩
 rcases h2 with h2 | ⟨g,cap,cur,rfl,a,b⟩
 ·exact .inl h2
 ·exact .inr ⟨g,cap,cur,rfl,Nat.le_trans hb a,b⟩
def tkV (s : Sn) : Value:=.int .i64 s.tick
def tO (w : World) (base : Nat) (v : Value) (ss : List Sn) : Prop:=w.ownsRow base 2 1 v ss.length (ss.map tkV)
theorem tO.below {w w' : World} {base : Nat} {v : Value} {ss : List Sn} (h : tO w base v ss) (hb : Below w.heap.size w w') : tO w' base v ss:=nE h (Only.of_below (S:=λ_=>False) hb) (λ_ _ h=>h)
theorem tO.base {w : World} {base base' : Nat} {v : Value} {ss : List Sn} (h : tO w base v ss) (hb : base' <= base) : tO w base' v ss:=IZ h hb
theorem tO.cells {w : World} {base : Nat} {v : Value} {ss : List Sn} (h : tO w base v ss) : ∃ a c,v = .slice a ss.length c /\ ∀ (i : Nat) (s : Sn),ss[i]? = some s -> ∃ g,a = some ⟨g,0,none⟩ /\ g < w.heap.size /\ w.cell? ⟨g,i,none⟩ = some (.int .i64 s.tick):=by
 have hc:=λg hg=>World.ownsRow.cells h (g:=g) hg
 obtain ⟨_,⟨rfl,hn⟩ | ⟨g,cap,cur,rfl,a,b,c,d⟩⟩:=h
 ·refine ⟨none,0,by rw [hn],λi s hs=>?_⟩
  have:=(List.getElem?_eq_some_iff.1 hs).1
  omega
 ·refine ⟨_,cap,rfl,λi s hs=>⟨g,rfl,(Array.getElem?_eq_some_iff.1 b).1,?_⟩⟩
  have ha : (⟨g,0,none⟩ : Addr).add i = ⟨g,i,none⟩:=by unfold Addr.add;split <;> simp_all
  rw [← ha]
  exact hc g rfl i _ (by rw [List.getElem?_map,hs];rfl)
set_option maxHeartbeats 2000000 in
theorem VT (C : Nat) (c : aS) (x : kG) (S : Nat -> Prop) (w : World) (h : fZ w C c x S) :
  Calls Tryz.prog 22 #[.pointer (some ⟨C,0,none⟩)] w λe w'=>∃ v,e = .returned v /\ tO w' w.heap.size v x.ss /\ Below w.heap.size w w':=by
 have sn:=Le C c x S w h
 have h64:=h.ok.2.2
 clear h
 go_enter Tryz.func22,Tryz.ntmps22
 go_wp2_with fail
 refine sn.mono ?_
 rintro e w1 ⟨v,ks,rfl,hO,hm,hB⟩
 clear sn
 have hkl : ks.length = x.ss.length:=by rw [← hm,List.length_map]
 have HM:=ahZ hm
 have NG:=ahZ hkl
 have HB:=ahZ hB
 have HO:=ahZ hO
 have Lf:=ahZ h64
 obtain ⟨a,cc,rfl,_,_,_⟩:=hO.ND
 have hn : ks.length <= 64:=by omega
 clear hO hB hm h64 hkl
 go_wp2_with fail
 go_loopw [3,11] (λv i wr=>∃ (k : Nat) (u : Value),k <= ks.length /\ i = .int .i64 k /\ u = v /\ tO wr w1.heap.size u (x.ss.take k) /\ Below w1.heap.size w1 wr) (λ_ i _=>ks.length - (intOf i).toNat)
 case atStart=>exact ⟨0,_,Nat.zero_le _,rfl,rfl,World.ownsRow_nil _ _ _ _,Below.refl _ _⟩
 case round =>
  obtain ⟨k,v,hk,rfl,rfl,hT,hb⟩:=hrel
  by_cases hlt : k < ks.length
  ·have hlt' : (k : Int) < ks.length:=by omega
   obtain ⟨y,hy⟩ : ∃ y,ks[k]? = some y:=⟨_,List.getElem?_eq_getElem hlt⟩
   obtain ⟨g,c',e,hg,c0,c1,c2⟩:=HO.out.cells hy
   injection e with e1 e2 e3
   subst e1 e3
   have HY : Hid (x.ss[k]? = some y.sn):=ahZ (by rw [← HM.out,List.getElem?_map,hy];rfl)
   have d0:=(hb.cell (p:=⟨g,k * 3,none⟩) hg).trans c0
   have d1:=(hb.cell (p:=⟨g,k * 3 + 1,none⟩) hg).trans c1
   have d2:=(hb.cell (p:=⟨g,k * 3 + 2,none⟩) hg).trans c2
   have eB:=ahZ hlt
   have HT:=ahZ hT
   have rX:=ahZ hb
   obtain ⟨yk,⟨tk,tm,es⟩,ya,yc⟩:=y
   simp only at *
   obtain ⟨u1,hu1⟩ : ∃ u,wr.alloc (.cells #[.int .i64 tk,.int .i64 tm,.slice ya es.length yc] 36) = u:=⟨_,rfl⟩
   have hb1 : Below wr.heap.size wr u1:=by rw [← hu1];exact (Below.refl _ _).alloc (Nat.le_refl _) _
   have hX1 : ak u1 wr.heap.size #[.int .i64 tk,.int .i64 tm,.slice ya es.length yc] 36:=by rw [← hu1];exact ak.new _ _ _
   have x0:=hX1.cell 0
   simp at x0
   obtain ⟨u2,hu2⟩ : ∃ u,u1.alloc (.cells #[.int .i64 tk] 2) = u:=⟨_,rfl⟩
   have hb2 : Below u1.heap.size u1 u2:=by rw [← hu2];exact (Below.refl _ _).alloc (Nat.le_refl _) _
   have gy : Hid (ak u2 u1.heap.size #[.int .i64 tk] 2):=ahZ (by rw [← hu2];exact ak.new _ _ _)
   have nJ : Below wr.heap.size wr u2:=hb1.trans (hb2.mono hb1.size)
   have HT2:=ahZ (hT.below nJ)
   have HB2:=ahZ (hb.trans (nJ.mono hb.size))
   have htl : (x.ss.take k).length = k:=by rw [List.length_take,← NG.out];omega
   have TT:=ahZ htl
   clear hT hb hb1 hb2 nJ c0 c1 c2 hX1 hy htl
   go_wp2_with (at_builtin;refine mJ _ rfl (.tmp 15) (.tmp 18) 63 2 rfl w1.heap.size (.int .i64 0) 1 8 Tryz.underlying63 Yv rfl (by decide) _ _ _ rfl HT2.out _ _ rfl gy.out rfl (by intro u hu;simp at hu;subst hu;rfl) (by have:=TT.out;unfold maxLen;omega) (by have:=TT.out;omega) HB2.out.size ?_)
   intro v' w' hr hg'
   have HF : Hid (tO w' w1.heap.size v' (x.ss.take (k + 1)) /\ Below w1.heap.size w1 w'):=ahZ ⟨by
    have e1 : x.ss.take (k + 1) = x.ss.take k ++ [⟨tk,tm,es⟩]:=by rw [List.take_add_one,HY.out];rfl
    unfold tO
    rw [e1,List.map_append,List.length_append,List.map_take]
    rw [List.length_take]
    exact hr,HB2.out.grown hg' HB2.out.size (λj e=>(World.ownsRow.lt HT2.out j e).1)⟩
   have hw : wrap64 ((k : Int) + 1) = (k : Int) + 1:=by unfold wrap64;omega
   clear hr hg'
   go_wp2
   go_roundw
   case rel=>exact ⟨k + 1,_,eB.out,by go_num,rfl,HF.out.1,HF.out.2⟩
   case measure=>show ks.length - ((k : Int) + 1).toNat < ks.length - (k : Int).toNat;have h1:=eB.out;omega
  ·obtain rfl : k = ks.length:=by omega
   have HF : Hid (tO wr w.heap.size v x.ss /\ Below w.heap.size w wr):=ahZ ⟨by
    rw [NG.out,List.take_length] at hT
    exact hT.base HB.out.size,HB.out.trans (hb.mono HB.out.size)⟩
   clear hT hb
   go_wp2
   exact bodyPost_ret (v:=v) (by simp [results,Tryz.results22,go_sem]) rfl ⟨v,rfl,HF.out⟩
set_option maxHeartbeats 2000000 in
theorem VU (C : Nat) (c : aS) (x : kG) (S : Nat -> Prop) (s : Sn) (hs : s ∈ x.ss) (w : World) (h : fZ w C c x S) :
  Calls Tryz.prog 44 #[.pointer (some ⟨C,0,none⟩),.int .i64 s.tick] w λe w'=>∃ a cp,e = .returned (.tuple #[.agg #[.int .i64 s.tick,.int .i64 s.time,.slice a s.ents.length cp],.bool true]) /\ aK w' w.heap.size (.slice a s.ents.length cp) s.ents /\ (∀ e ∈ s.ents,e.Ok) /\ s.ents.length <= 64 /\ Below w.heap.size w w':=by
 obtain ⟨w0,hw0⟩ : ∃ w0,w.alloc (.cells #[.int .i64 0,.int .i64 0,.slice none 0 0] 36) = w0:=⟨_,rfl⟩
 have hB0 : Below w.heap.size w w0:=by rw [← hw0];exact (Below.refl _ _).alloc (Nat.le_refl _) _
 have HX0 : Hid (ak w0 w.heap.size #[.int .i64 0,.int .i64 0,.slice none 0 0] 36):=ahZ (by rw [← hw0];exact ak.new _ _ _)
 have HZ0 : Hid (w0.heap.size = w.heap.size + 1):=ahZ (by rw [← hw0];simp)
 have HB0:=ahZ hB0
 obtain ⟨T,R,K,l,fr,SS,SK,hP,hK⟩:=h.below hB0
 have iT : ∀ k ∈ l,(∀ e ∈ k.sn.ents,e.Ok) /\ k.sn.ents.length <= 64:=λk hk=>by
  refine ⟨?_,(jL.1 (hK.La _ (by rw [← hK.map];exact List.mem_map_of_mem hk))).len⟩
  obtain ⟨v,hp⟩:=hP.st.ring
  exact (hp.ents k hk).2
 obtain ⟨k,hk,hks⟩ : ∃ k ∈ l,k.sn = s:=by
  rw [← hK.map] at hs
  obtain ⟨k,hk,e⟩:=List.mem_map.1 hs
  exact ⟨k,hk,e⟩
 have hup : pE l:=by obtain ⟨v,hp⟩:=hP.st.ring;exact hp.up
 have hget : eO l s.tick = some k:=by rw [← hks,← hK.key k hk];exact DU hup hk
 have hhas : dY l s.tick = true:=by
  unfold eO at hget
  split at hget
  ·assumption
  ·cases hget
 have gt:=Ny T R l c.ring x.floor x.gone SS s.tick w0 hP.st (λk hk=>(iT k hk).2)
 rw [hget,hhas] at gt
 have hse:=iT k hk
 rw [hks] at hse
 simp only [uZ,mW,iw,hks] at gt
 have c11:=hP.blk.cell 11
 simp at c11
 have HSE:=ahZ hse
 clear hget hhas hup hk hks iT hP hK h hs hB0 hse
 go_enter Tryz.func44,Tryz.ntmps44
 go_wp2_with fail
 clear hw0
 refine gt.mono ?_
 rintro e w2 ⟨a2,c2,rfl,hO,hB⟩
 have hX2:=HX0.out.below hB HX0.out.lt
 have f0:=hX2.free 0
 have f1:=hX2.free 1
 have f2:=hX2.free 2
 have q0:=hX2.cell 0
 have q1:=hX2.cell 1
 have q2:=hX2.cell 2
 simp at q0 q1 q2
 obtain ⟨tick,time,ents⟩:=s
 simp only at *
 have dU:=jf (v0:=.int .i64 tick) (v1:=.int .i64 time) (v2:=.slice a2 ents.length c2) hX2
 have HF : Hid (aK (((w2.setCell ⟨w.heap.size,0,none⟩ (.int .i64 tick)).setCell ⟨w.heap.size,1,none⟩ (.int .i64 time)).setCell ⟨w.heap.size,2,none⟩ (.slice a2 ents.length c2)) w.heap.size (.slice a2 ents.length c2) ents /\
   Below w.heap.size w (((w2.setCell ⟨w.heap.size,0,none⟩ (.int .i64 tick)).setCell ⟨w.heap.size,1,none⟩ (.int .i64 time)).setCell ⟨w.heap.size,2,none⟩ (.slice a2 ents.length c2))):=ahZ
  ⟨(aK.base hO (by have:=HZ0.out;omega)).only (sw (S:=λk=>k = w.heap.size) (Only.refl _ _) (.inl rfl)) (λj hj hk=>by have:=(hO.lt j hj).1;have:=HZ0.out;omega),dQ (HB0.out.trans (hB.mono HB0.out.size)) (Nat.le_refl _)⟩
 obtain ⟨u3,hu3⟩ : ∃ u,((w2.setCell ⟨w.heap.size,0,none⟩ (.int .i64 tick)).setCell ⟨w.heap.size,1,none⟩ (.int .i64 time)).setCell ⟨w.heap.size,2,none⟩ (.slice a2 ents.length c2) = u:=⟨_,rfl⟩
 rw [hu3] at HF dU
 have g0:=dU.cell 0
 have g1:=dU.cell 1
 have g2:=dU.cell 2
 simp at g0 g1 g2
 clear hO hB hX2 dU gt HX0 HB0
 go_wp2_with fail
 exact bodyPost_ret (v:=.tuple #[.agg #[.int .i64 tick,.int .i64 time,.slice a2 ents.length c2],.bool true]) (by simp [results,Tryz.results44,go_sem,g0,g1,g2]) rfl ⟨a2,c2,rfl,HF.out.1,HSE.out.1,HSE.out.2,HF.out.2⟩
set_option maxHeartbeats 2000000 in
theorem TU (C : Nat) (c : aS) (x : kG) (S : Nat -> Prop) (w : World) (h : fZ w C c x S) :
  Calls Tryz.prog 17 #[.pointer (some ⟨C,0,none⟩)] w λe w'=>∃ v ks,e = .returned v /\ iC w' w.heap.size v ks /\ ks.map (·.sn) = x.ss /\ Below w.heap.size w w':=by
 have kp:=VT C c x S w h
 have HC:=ahZ h
 have h64:=h.ok.2.2
 have sp:=λs hs W hW=>VU C c x S s hs W hW
 clear h
 go_enter Tryz.func17,Tryz.ntmps17
 go_wp2_with fail
 refine kp.mono ?_
 rintro e w1 ⟨v,rfl,hT,hB⟩
 clear kp
 obtain ⟨a,cc,rfl,hcell⟩:=hT.cells
 have EN:=ahZ hcell
 have HB:=ahZ hB
 have KT:=ahZ (HC.out.below hB)
 clear hT hB hcell
 generalize hn : x.ss.length = n at *
 have HN:=ahZ hn
 clear hn
 go_wp2_with fail
 go_loopw [3,11] (λv i wr=>∃ (k : Nat) (u : Value) (ks : List aG),k <= n /\ i = .int .i64 k /\ u = v /\ ks.map (·.sn) = x.ss.take k /\ iC wr w1.heap.size u ks /\ Below w1.heap.size w1 wr) (λ_ i _=>n - (intOf i).toNat)
 case atStart=>exact ⟨0,_,[],Nat.zero_le _,rfl,rfl,by simp,iC.nil _ _,Below.refl _ _⟩
 case round =>
  obtain ⟨k,v,ks,hk,rfl,rfl,hm,hO,hb⟩:=hrel
  by_cases hlt : k < n
  ·have hlt' : (k : Int) < n:=by omega
   obtain ⟨y,hy⟩ : ∃ y,x.ss[k]? = some y:=⟨_,List.getElem?_eq_getElem (by rw [HN.out];exact hlt)⟩
   obtain ⟨g,rfl,hg,c0⟩:=EN.out k y hy
   have d0:=(hb.cell (p:=⟨g,k,none⟩) hg).trans c0
   have sp1:=sp y (List.mem_of_getElem? hy) wr (KT.out.below hb)
   have HY:=ahZ hy
   have eB:=ahZ hlt
   have HMK:=ahZ hm
   have HO:=ahZ hO
   have rX:=ahZ hb
   have hkl : ks.length = k:=by have:=congrArg List.length hm;simp at this;rw [HN.out] at this;omega
   have NG:=ahZ hkl
   obtain ⟨tk,tm,es⟩:=y
   simp only at *
   clear hy hm hO hb c0 hkl sp
   go_wp2_with fail
   refine sp1.mono ?_
   rintro e w2 ⟨a1,c1,rfl,hE,hok,hle,hB⟩
   have hs2 : w1.heap.size <= w2.heap.size:=Nat.le_trans rX.out.size hB.size
   obtain ⟨v1,hv1⟩ : ∃ v,w2.alloc (.cells #[.int .i64 0,.int .i64 0,.slice none 0 0] 36) = v:=⟨_,rfl⟩
   have hBb : Below w2.heap.size w2 v1:=by rw [← hv1];exact (Below.refl _ _).alloc (Nat.le_refl _) _
   have aY : ak v1 w2.heap.size #[.int .i64 0,.int .i64 0,.slice none 0 0] 36:=by rw [← hv1];exact ak.new _ _ _
   have f0:=aY.free 0
   have f1:=aY.free 1
   have f2:=aY.free 2
   have q0:=aY.cell 0
   have q1:=aY.cell 1
   have q2:=aY.cell 2
   simp at q0 q1 q2
   have hX:=jf (v0:=.int .i64 tk) (v1:=.int .i64 tm) (v2:=.slice a1 es.length c1) aY
   have hbx:=dQ (v0:=.int .i64 tk) (v1:=.int .i64 tm) (v2:=.slice a1 es.length c1) hBb (Nat.le_refl _)
   obtain ⟨u1,hu1⟩ : ∃ u,((v1.setCell ⟨w2.heap.size,0,none⟩ (.int .i64 tk)).setCell ⟨w2.heap.size,1,none⟩ (.int .i64 tm)).setCell ⟨w2.heap.size,2,none⟩ (.slice a1 es.length c1) = u:=⟨_,rfl⟩
   rw [hu1] at hX hbx
   clear hBb aY
   have Ev : Below wr.heap.size wr u1:=hB.trans (hbx.mono hB.size)
   have hE1 : aK u1 w1.heap.size (.slice a1 es.length c1) es:=(aK.base hE rX.out.size).below hbx
   obtain ⟨u2,hu2⟩ : ∃ v,u1.alloc (.cells #[.int .i64 tk,.int .i64 tm,.slice a1 es.length c1] 36) = v:=⟨_,rfl⟩
   have hb2 : Below u1.heap.size u1 u2:=by rw [← hu2];exact (Below.refl _ _).alloc (Nat.le_refl _) _
   have gy : Hid (ak u2 u1.heap.size #[.int .i64 tk,.int .i64 tm,.slice a1 es.length c1] 36):=ahZ (by rw [← hu2];exact ak.new _ _ _)
   have HE2:=ahZ (And.intro (hE1.below hb2) (And.intro hok hle))
   have nJ : Below wr.heap.size wr u2:=Ev.trans (hb2.mono Ev.size)
   have bT:=ahZ (HO.out.below nJ)
   have HB2:=ahZ (rX.out.trans (nJ.mono rX.out.size))
   have x0:=hX.cell 0
   have x1:=hX.cell 1
   have x2:=hX.cell 2
   simp at x0 x1 x2
   clear hB hE hbx Ev hE1 hb2 nJ hX hs2 sp1 hok hle
   go_wp2_with (at_builtin;refine iC.app _ rfl (.tmp 22) (.tmp 24) rfl w1.heap.size _ ks rfl bT.out _ ⟨tk,⟨tk,tm,es⟩,a1,c1⟩ rfl gy.out HE2.out (by have:=NG.out;omega) HB2.out.size ?_)
   intro v' w' hr hg
   have HF : Hid (iC w' w1.heap.size v' (ks ++ [⟨tk,⟨tk,tm,es⟩,a1,c1⟩]) /\ Below w1.heap.size w1 w' /\ (ks ++ [(⟨tk,⟨tk,tm,es⟩,a1,c1⟩ : aG)]).map (·.sn) = x.ss.take (k + 1)):=ahZ ⟨hr,HB2.out.grown hg HB2.out.size (λj e=>(bT.out.row.lt j e).1),by
    rw [List.map_append,HMK.out,List.take_add_one,HY.out];rfl⟩
   have hw : wrap64 ((k : Int) + 1) = (k : Int) + 1:=by have:=eB.out;unfold wrap64;omega
   clear hr hg
   go_wp2
   go_roundw
   case rel=>exact ⟨k + 1,_,_,by have:=eB.out;omega,by go_num,rfl,HF.out.2.2,HF.out.1,HF.out.2.1⟩
   case measure=>show n - ((k : Int) + 1).toNat < n - (k : Int).toNat;have h1:=eB.out;omega
  ·obtain rfl : k = n:=by omega
   have HF : Hid (iC wr w.heap.size v ks /\ ks.map (·.sn) = x.ss /\ Below w.heap.size w wr):=ahZ ⟨⟨IZ hO.row HB.out.size,λk hk=>⟨aK.base (hO.ents k hk).1 HB.out.size,(hO.ents k hk).2⟩⟩,by rw [hm,← HN.out,List.take_length],HB.out.trans (hb.mono HB.out.size)⟩
   clear hO hm hb sp
   go_wp2
   exact bodyPost_ret (v:=v) (by simp [results,Tryz.results17,go_sem]) rfl ⟨v,ks,rfl,HF.out⟩
set_option maxRecDepth 100000
theorem dH.at {w : World} {a : Option Addr} {es : List ay} (h : dH w a es) {i : Nat} {e : ay} (he : es[i]? = some e) : ∃ b off,a = some ⟨b,off,none⟩ /\ b < w.heap.size /\ dh w b (off + i * 9) e:=by
 have hi : i < es.length:=(List.getElem?_eq_some_iff.1 he).1
 obtain ⟨h1,h2⟩:=h
 rcases h2 with h2 | ⟨b,off,rfl,hb,hc⟩
 ·omega
 ·have hx : es.getD i bS = e:=by simp [List.getD,he]
  have this : dh w b (off + i * 9) (es.getD i bS):=hc i hi
  rw [hx] at this
  exact ⟨b,off,rfl,hb,this⟩
theorem VW (e : ay) (W : World) : (Op.equalIn 10000 33 (.agg #[.int .i64 e.id,.int .i64 e.px,.int .i64 e.py,.int .i64 e.pz,.int .i64 e.vx,.int .i64 e.vy,.int .i64 e.vz,.int .u16 e.aI,.int .u8 e.gen]) (.agg #[.int .i64 e.id,.int .i64 e.px,.int .i64 e.py,.int .i64 e.pz,.int .i64 e.vx,.int .i64 e.vy,.int .i64 e.vz,.int .u16 e.aI,.int .u8 e.gen])).run Tryz.prog W = .ok true W:=by
 rw [Rp];simp
set_option maxHeartbeats 2000000 in
theorem Ez (tick time : Int) (es : List ay) (aa ab : Option Addr) (ca cb : Nat) (hl : es.length <= 1000) (w : World) (hA : dH w aa es) (hB : dH w ab es) :
  Calls Tryz.prog 18 #[bC tick time aa es.length ca,bC tick time ab es.length cb] w λe w'=>e = .returned (.bool true) /\ Below w.heap.size w w':=by
 obtain ⟨w0,hw0⟩ : ∃ w0,(w.alloc (.cells #[.int .i64 tick,.int .i64 time,.slice aa es.length ca] 36)).alloc (.cells #[.int .i64 tick,.int .i64 time,.slice ab es.length cb] 36) = w0:=⟨_,rfl⟩
 have hB0 : Below w.heap.size w w0:=by rw [← hw0];exact ((Below.refl _ _).alloc (Nat.le_refl _) _).alloc (by simp) _
 have hX : ak w0 w.heap.size #[.int .i64 tick,.int .i64 time,.slice aa es.length ca] 36:=by rw [← hw0];exact (ak.new _ _ _).alloc _
 have hY : ak w0 (w.heap.size + 1) #[.int .i64 tick,.int .i64 time,.slice ab es.length cb] 36:=by
  rw [← hw0]
  have:=ak.new (w.alloc (.cells #[.int .i64 tick,.int .i64 time,.slice aa es.length ca] 36)) #[.int .i64 tick,.int .i64 time,.slice ab es.length cb] 36
  simpa using this
 have HA:=ahZ (hA.below hB0)
 have HB:=ahZ (hB.below hB0)
 have HB0:=ahZ hB0
 have x0:=hX.cell 0
 have x1:=hX.cell 1
 have x2:=hX.cell 2
 have y0:=hY.cell 0
 have y1:=hY.cell 1
 have y2:=hY.cell 2
 simp at x0 x1 x2 y0 y1 y2
 have HX:=ahZ hX
 have HY:=ahZ hY
 clear hA hB hB0 hX hY
 unfold bC
 go_enter Tryz.func18,Tryz.ntmps18
 go_wp2_with fail
 clear hw0 x0 x1 x2 y0 y1 y2
 go_loopw [5] (λi wr=>∃ k : Nat,k <= es.length /\ i = .int .i64 k /\ Below w0.heap.size w0 wr) (λi _=>es.length - (intOf i).toNat)
 case atStart=>exact ⟨0,Nat.zero_le _,rfl,Below.refl _ _⟩
 case round =>
  obtain ⟨k,hk,rfl,hb⟩:=hrel
  have hX:=HX.out.below hb HX.out.lt
  have hY:=HY.out.below hb HY.out.lt
  have x2:=hX.cell 2
  have y2:=hY.cell 2
  simp at x2 y2
  by_cases hlt : k < es.length
  ·have hlt' : (k : Int) < es.length:=by omega
   obtain ⟨e,he⟩ : ∃ e,es[k]? = some e:=⟨_,List.getElem?_eq_getElem hlt⟩
   obtain ⟨b,o,rfl,hbl,hc⟩:=HA.out.at he
   obtain ⟨b',o',rfl,aeR,hc'⟩:=HB.out.at he
   obtain ⟨a0,a1,a2,a3,a4,a5,a6,a7,a8⟩:=hc.below hb hbl
   obtain ⟨c0,c1,c2,c3,c4,c5,c6,c7,c8⟩:=hc'.below hb aeR
   have hEq:=VW e
   have rX:=ahZ hb
   have hw : wrap64 ((k : Int) + 1) = (k : Int) + 1:=by unfold wrap64;omega
   clear hb hX hY hc hc' he
   go_wp2_with fail
   go_quiet (fail)
   have HB2:=ahZ (below_drewN rX.out 1)
   go_wp2
   go_roundw
   case rel=>exact ⟨k + 1,by omega,by go_num,by first | exact HB2.out | exact below_drewN rX.out _⟩
   case measure=>show es.length - ((k : Int) + 1).toNat < es.length - (k : Int).toNat;omega
  ·obtain rfl : k = es.length:=by omega
   have HF:=ahZ (HB0.out.trans (hb.mono HB0.out.size))
   clear hb hX hY
   go_wp2
   go_ret
   exact ⟨rfl,HF.out⟩
set_option maxRecDepth 100000
theorem aeS {k n : Nat} (hk : k < n) (hn : n <= 1000) : wrap64 ((k : Int) + 1) = (k : Int) + 1:=by unfold wrap64;omega
theorem aeT {m : Nat} (h : m <= 1000) : IntKind.i64.wrap (m : Int) = m /\ wrap64 (m : Int) = m /\ IntKind.i64.wrap ((m : Int) + 1 - 1) = m /\ wrap64 ((m : Int) + 1 - 1) = m /\ (0 : Int) < (m : Int) + 1 /\ (0 : Int) <= (m : Int) /\ (m : Int) < (m : Int) + 1:=by
 refine ⟨?_,?_,?_,?_,?_,?_,?_⟩
 ·rw [IntKind.wrap_i64];omega
 ·unfold wrap64;omega
 ·rw [IntKind.wrap_i64];omega
 ·unfold wrap64;omega
 ·omega
 ·omega
 ·omega
theorem Yw (a b : Int) : (¬ a = 0 \/ ¬ b = 0) \/ (a = 0 /\ b = 0):=by omega
theorem aaR {n : Nat} (h : n ≠ 0) : ¬ (n : Int) = 0:=by omega
theorem aeU {a m k n : Nat} (h1 : a = m + 1) (h2 : a <= k) (h3 : k < n) (h4 : n <= 8) : m <= 1000:=by omega
theorem TV {a k n : Nat} (h2 : a <= k) (h3 : k < n) (h4 : n <= 8) : a <= 1000000:=by omega
theorem lS {n k : Nat} (h : k < n) : n - ((k : Int) + 1).toNat < n - (k : Int).toNat:=by omega
theorem aaS {k : Nat} (hw : wrap64 ((k : Int) + 1) = (k : Int) + 1) : Value.int .i64 (wrap64 ((k : Int) + 1)) = .int .i64 ((k + 1 : Nat) : Int):=by rw [hw];rfl
theorem Cv : ∀ (ts : List aG) (i : Nat) (y : aG),i < ts.length -> (((ts.flatMap iV).set (i * 3) (.int .i64 y.sn.tick)).set (i * 3 + 1) (.int .i64 y.sn.time)).set (i * 3 + 2) (dV y) = (ts.set i y).flatMap iV
 | [],i,y,h=>by simp at h
 | x :: ts,0,y,_=>by simp [iV]
 | x :: ts,i + 1,y,h=>by
  have ih:=Cv ts i y (by simpa using h)
  rw [List.set_cons_succ,List.flatMap_cons,List.flatMap_cons,← ih,show (i + 1) * 3 = i * 3 + 1 + 1 + 1 by omega]
  simp only [iV,List.cons_append,List.nil_append,List.set_cons_succ]
theorem I4 {w : World} {base g n c : Nat} {ts : List aG} (h : w.ownsRow base 36 3 (.slice (some ⟨g,0,none⟩) n c) n (ts.flatMap iV)) {i : Nat} (hi : i < ts.length) (y : aG) :
  (((w.setCell ⟨g,i * 3,none⟩ (.int .i64 y.sn.tick)).setCell ⟨g,i * 3 + 1,none⟩ (.int .i64 y.sn.time)).setCell ⟨g,i * 3 + 2,none⟩ (dV y)).ownsRow base 36 3 (.slice (some ⟨g,0,none⟩) n c) n ((ts.set i y).flatMap iV) /\
  Only (λk=>k = g) w (((w.setCell ⟨g,i * 3,none⟩ (.int .i64 y.sn.tick)).setCell ⟨g,i * 3 + 1,none⟩ (.int .i64 y.sn.time)).setCell ⟨g,i * 3 + 2,none⟩ (dV y)):=by
 obtain ⟨hl,⟨hv,_⟩ | ⟨g',cap,cur,hv,hb,hh,hnc,hcm,hcs,htk⟩⟩:=h
 ·cases hv
 cases hv
 have hb0 : ak w g cur 36:=hh
 have hb3:=((hb0.set (i * 3) (.int .i64 y.sn.tick)).set (i * 3 + 1) (.int .i64 y.sn.time)).set (i * 3 + 2) (dV y)
 have hlen : ((ts.set i y).flatMap iV).length = (ts.flatMap iV).length:=by
  rw [← Cv ts i y hi];simp
 refine ⟨⟨hlen.trans hl,.inr ⟨g,c,_,rfl,hb,hb3,hnc,hcm,by simpa using hcs,?_⟩⟩,?_⟩
 ·rw [Array.toList_setIfInBounds,Array.toList_setIfInBounds,Array.toList_setIfInBounds,List.take_set,List.take_set,List.take_set,htk]
  exact Cv ts i y hi
 ·exact Only.setCell (S:=λk=>k = g) (p:=⟨g,i * 3 + 2,none⟩) (Only.setCell (S:=λk=>k = g) (p:=⟨g,i * 3 + 1,none⟩) (Only.setCell (S:=λk=>k = g) (p:=⟨g,i * 3,none⟩) (Only.refl _ _) (.inl rfl) _) (.inl rfl) _) (.inl rfl) _
theorem qg {w : World} {base g n c : Nat} {xs : List Value} (h : w.ownsRow base 36 3 (.slice (some ⟨g,0,none⟩) n c) n xs) (i : Nat) : w.frozen? ⟨g,i,none⟩ = false:=by
 obtain ⟨hl,⟨hv,_⟩ | ⟨g',cap,cur,hv,hb,hh,_⟩⟩:=h
 ·cases hv
 cases hv
 exact ak.free (cs:=cur) (t:=36) hh i
theorem tQ {w : World} {base g n c : Nat} {ks : List aG} (hr : w.ownsRow base 36 3 (.slice (some ⟨g,0,none⟩) n c) n (ks.flatMap iV)) {i : Nat} {x : aG} (hx : ks[i]? = some x) :
  w.cell? ⟨g,i * 3,none⟩ = some (.int .i64 x.sn.tick) /\ w.cell? ⟨g,i * 3 + 1,none⟩ = some (.int .i64 x.sn.time) /\ w.cell? ⟨g,i * 3 + 2,none⟩ = some (dV x):=by
 have hf:=FV ks i x hx
 have ha : ∀ o,(⟨g,0,none⟩ : Addr).add o = ⟨g,o,none⟩:=λo=>by unfold Addr.add;split <;> simp_all
 have cell : ∀ j u,j < 3 -> (iV x)[j]? = some u -> w.cell? ⟨g,i * 3 + j,none⟩ = some u:=λj u hj hu=>by
  rw [← ha];exact hr.cells (g:=g) rfl _ _ (by rw [hf j hj];exact hu)
 exact ⟨cell 0 _ (by decide) rfl,cell 1 _ (by decide) rfl,cell 2 _ (by decide) rfl⟩
theorem Lr {ops : Array Oper} {rest : List Oper} {o : Oper} {a : Act} {Q : Exit -> Act -> World -> Prop} (w : World) (hgd : o.guard = none) (s x : Operand)
  (ho : o.op = .call { callee:=.builtin .append,args:=#[s,x],argTypes:=#[54,54] })
  (base : Nat) (v : Value) (hs : a.eval s = v) (hown : w.ownsRow base 36 3 v 0 []) (b2 : Nat) (v2 : Value) (ks : List aG) (hx : a.eval x = v2) (hr : w.ownsRow b2 36 3 v2 ks.length (ks.flatMap iV))
  (hl : ks.length <= 1000000) (hbase : base <= w.heap.size)
  (h : ∀ v' w',w'.ownsRow base 36 3 v' ks.length (ks.flatMap iV) -> w.grownBy w' v.ownBlock -> wpList Tryz.prog ops Q rest (a.put o.dst v') w') : wpList Tryz.prog ops Q (o :: rest) a w:=by
 obtain ⟨i0,hi,hz0,hz1,hz2⟩:=info_parts GD
 have hc:=λg hg=>hr.cells (g:=g) hg
 obtain ⟨hl2,⟨rfl,hn⟩ | ⟨g,cap,cur,rfl,q1,q2,q3,q4,q5,q6⟩⟩:=hr
 ·refine wpList_append_own_none hgd s x 54 ho base 36 i0 3 Tryz.underlying54 hi v 0 [] hs hown hx ?_
  have e : ks = []:=List.eq_nil_of_length_eq_zero hn
  subst e
  exact h v w hown (World.grownBy.refl _ _)
 ·refine wpList_append_own w hgd s x 54 ho base 36 i0 _ 3 40 Tryz.underlying54 hi hz0 hz1 hz2 rfl (by decide) v 0 [] hs hown ⟨g,0,none⟩ ks.length cap (ks.flatMap iV) hx hl2 (hc g rfl) ?_ (by unfold maxLen;omega) (by omega) hbase ?_
  ·intro u hu
   obtain ⟨k,_,hk⟩:=List.mem_flatMap.1 hu
   simp [iV] at hk
   rcases hk with rfl | rfl | rfl <;> rfl
  ·intro v' w' h1 h2 _
   rw [Nat.zero_add,List.nil_append] at h1
   exact h v' w' h1 h2
theorem Yx (p : Po) (W : World) : (Op.equalIn 10000 52 (.agg #[.int .i64 p.id,.int .i64 p.px,.int .i64 p.py,.int .i64 p.pz,.int .u16 p.aI,.int .i64 p.mode]) (.agg #[.int .i64 p.id,.int .i64 p.px,.int .i64 p.py,.int .i64 p.pz,.int .u16 p.aI,.int .i64 p.mode])).run Tryz.prog W = .ok true W:=by
 rw [CP];simp
end Go.Proofs.YtklkooeimkedgaaGreat
