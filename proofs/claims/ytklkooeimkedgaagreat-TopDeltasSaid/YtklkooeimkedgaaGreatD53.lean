/- Walk of TopDeltas. -/
import Derived.Test.YtklkooeimkedgaaGreatD45
import Derived.Test.YtklkooeimkedgaaGreatD52
set_option linter.unusedVariables false
set_option linter.unusedSimpArgs false
namespace Go.Proofs.YtklkooeimkedgaaGreat
open Go.RowKit
set_option maxRecDepth 100000
structure LK (w : World) (C : Nat) (c : aP) (T R K : Nat) (l : List aH) (floor : Int) (gone : Bool) (cs : CS) (fr : Int) (S SS SK : Nat -> Prop) : Prop where
 blk : ak w C #[.int .i64 c.ring,.int .i64 c.window,.int .i64 c.base,.int .i64 c.gain,.int .i64 c.least,.int .i64 c.most,.int .i64 c.aD,.int .i64 c.num,.int .i64 c.den,.int .i64 c.extra,.bool c.aC,.pointer (some ⟨T,0,none⟩),.pointer (some ⟨K,0,none⟩),.int .i64 fr] 86
 st : iy w T R l c.ring floor gone SS
 room : (l.length : Int) <= c.ring
 ck : tq w K c cs SK
 pX : ∀ k,SS k -> ¬ SK k
 nC : ¬ SS C /\ ¬ SK C
 sub : S C /\ (∀ k,SS k -> S k) /\ ∀ k,SK k -> S k
 lt : ∀ k,S k -> k < w.heap.size
structure iU where
 ss : List Sn
 floor : Int
 gone : Bool
 cs : CS
structure afU (c : aP) (l : List aH) (x : iU) : Prop where
 map : l.map (·.sn) = x.ss
 key : ∀ k ∈ l,k.key = k.sn.tick
 Ov : ∀ s ∈ x.ss,dI s = 0
 cs : x.cs.Ok c
def gQ (w : World) (C : Nat) (c : aP) (x : iU) (S : Nat -> Prop) : Prop:=∃ T R K l fr SS SK,LK w C c T R K l x.floor x.gone x.cs fr S SS SK /\ afU c l x
theorem LK.only {w w' : World} {C : Nat} {c : aP} {T R K : Nat} {l : List aH} {floor : Int} {gone : Bool} {cs : CS} {fr : Int} {S SS SK U : Nat -> Prop} (h : LK w C c T R K l floor gone cs fr S SS SK) (ho : Only U w w') (hd : ∀ k,S k -> ¬ U k) : LK w' C c T R K l floor gone cs fr S SS SK :=
 ⟨ho.blk h.blk (hd _ h.sub.1),h.st.only ho (λk hk=>hd k (h.sub.2.1 k hk)),h.room,h.ck.only ho (λk hk=>hd k (h.sub.2.2 k hk)),h.pX,h.nC,h.sub,λk hk=>Nat.lt_of_lt_of_le (h.lt k hk) ho.size⟩
theorem gQ.only {w w' : World} {C : Nat} {c : aP} {x : iU} {S U : Nat -> Prop} (h : gQ w C c x S) (ho : Only U w w') (hd : ∀ k,S k -> ¬ U k) : gQ w' C c x S:=by
 obtain ⟨T,R,K,l,fr,SS,SK,h1,h2⟩:=h
 exact ⟨T,R,K,l,fr,SS,SK,h1.only ho hd,h2⟩
theorem gQ.below {w w' : World} {C : Nat} {c : aP} {x : iU} {S : Nat -> Prop} (h : gQ w C c x S) (hb : Below w.heap.size w w') : gQ w' C c x S :=
 h.only (Only.of_below (S:=λ_=>False) hb) (λ_ _ h=>h)
theorem gQ.lt {w : World} {C : Nat} {c : aP} {x : iU} {S : Nat -> Prop} (h : gQ w C c x S) : ∀ k,S k -> k < w.heap.size:=by
 obtain ⟨T,R,K,l,fr,SS,SK,h1,h2⟩:=h
 exact h1.lt
theorem gQ.ok {w : World} {C : Nat} {c : aP} {x : iU} {S : Nat -> Prop} (h : gQ w C c x S) : (∀ s ∈ x.ss,dI s = 0) /\ x.cs.Ok c /\ x.ss.length <= 64:=by
 obtain ⟨T,R,K,l,fr,SS,SK,h1,h2⟩:=h
 refine ⟨h2.Ov,h2.cs,?_⟩
 obtain ⟨v,hp⟩:=h1.st.ring
 have:=hp.len
 rw [← h2.map,List.length_map]
 omega
def qX (c : aP) : iU:=⟨[],0,false,cs0 c⟩
theorem yM {c : aP} (h : fE c = 0) : 1 <= c.ring /\ c.ring <= 64:=by
 obtain ⟨h1,_,_⟩:=wC h
 have:=ng.1 h1
 omega
theorem abw {c : aP} (hc : fE c = 0) : (cs0 c).Ok c :=
 ⟨λx hx=>by simp [cs0] at hx,by simp [cs0],⟨by simp [cs0],by simp [cs0]⟩,Bp (wC hc).2.1 0,⟨by simp [cs0],by simp [cs0]⟩,⟨by simp [cs0],by simp [cs0]⟩,.inl rfl⟩
set_option maxHeartbeats 1000000 in
theorem LM (c : aP) (ok : c.Ok) (hc : fE c = 0) (w : World) :
 Calls Tryz.prog 9 #[aT c] w λe w'=>∃ C S,e = .returned (.tuple #[.pointer (some ⟨C,0,none⟩),.int .i64 0]) /\ gQ w' C c (qX c) S /\ (∀ k,S k -> w.heap.size <= k) /\ Below w.heap.size w w':=by
 have cn:=Zf c ok hc
 obtain ⟨r1,r2⟩:=yM hc
 have sn:=Wd c.ring r1 r2;have HCO:=ajK (abw hc);have HRG:=ajK r1;clear r1 r2
 obtain ⟨w0,hw0⟩ : ∃ w0,w.alloc (.cells #[.int .i64 c.ring,.int .i64 c.window,.int .i64 c.base,.int .i64 c.gain,.int .i64 c.least,.int .i64 c.most,.int .i64 c.aD,.int .i64 c.num,.int .i64 c.den,.int .i64 c.extra,.bool c.aC] 29) = w0:=⟨_,rfl⟩
 have hB0 : Below w.heap.size w w0:=by rw [← hw0];exact ajL
 have hX0 : ak w0 w.heap.size #[.int .i64 c.ring,.int .i64 c.window,.int .i64 c.base,.int .i64 c.gain,.int .i64 c.least,.int .i64 c.most,.int .i64 c.aD,.int .i64 c.num,.int .i64 c.den,.int .i64 c.extra,.bool c.aC] 29:=by rw [← hw0];exact ak.new _ _ _
 have HX0:=ajK hX0;have HB0:=ajK hB0
 obtain ⟨q0,q1,q2,q3,q4,q5,q6,q7,q8,q9,jG⟩:=dJ hX0
 have hsz0 : w.heap.size <= w0.heap.size:=hB0.size
 clear hB0 hX0
 unfold aT at cn ⊢
 go_enter Tryz.func9,Tryz.ntmps9
 go_wp2_with fail
 clear hw0
 refine (cn w0).mono ?_
 rintro e w1 ⟨K,SK,rfl,Uo,hSK,hb1⟩
 have HCk:=ajK Uo;have HSK:=ajK hSK;have HB1:=ajK (HB0.out.trans (hb1.mono hsz0));have gN:=ajK (HX0.out.below hb1 HX0.out.lt)
 have hsz1 : w0.heap.size <= w1.heap.size:=hb1.size
 clear q0 q1 q2 q3 q4 q5 q6 q7 q8 q9 jG cn Uo hSK hb1
 obtain ⟨q0,q1,q2,q3,q4,q5,q6,q7,q8,q9,jG⟩:=dJ gN.out
 go_wp2_with fail
 refine (sn w1).mono ?_
 rintro e w2 ⟨T,rfl,hSt,hb2,hT1,hT2⟩
 have iM:=ajK (gN.out.below hb2 gN.out.lt);clear q0 q1 q2 q3 q4 q5 q6 q7 q8 q9 jG sn
 obtain ⟨q0,q1,q2,q3,q4,q5,q6,q7,q8,q9,jG⟩:=dJ iM.out
 have HF : Hid (gQ (w2.alloc (.cells #[.int .i64 c.ring,.int .i64 c.window,.int .i64 c.base,.int .i64 c.gain,.int .i64 c.least,.int .i64 c.most,.int .i64 c.aD,.int .i64 c.num,.int .i64 c.den,.int .i64 c.extra,.bool c.aC,.pointer (some ⟨T,0,none⟩),.pointer (some ⟨K,0,none⟩),.int .i64 0] 86)) w2.heap.size c (qX c) (λk=>w.heap.size <= k /\ k < w2.heap.size + 1) /\
  Below w.heap.size w (w2.alloc (.cells #[.int .i64 c.ring,.int .i64 c.window,.int .i64 c.base,.int .i64 c.gain,.int .i64 c.least,.int .i64 c.most,.int .i64 c.aD,.int .i64 c.num,.int .i64 c.den,.int .i64 c.extra,.bool c.aC,.pointer (some ⟨T,0,none⟩),.pointer (some ⟨K,0,none⟩),.int .i64 0] 86))):=ajK (by
  have hsz2:=hb2.size
  have hA : Below w2.heap.size w2 (w2.alloc (.cells #[.int .i64 c.ring,.int .i64 c.window,.int .i64 c.base,.int .i64 c.gain,.int .i64 c.least,.int .i64 c.most,.int .i64 c.aD,.int .i64 c.num,.int .i64 c.den,.int .i64 c.extra,.bool c.aC,.pointer (some ⟨T,0,none⟩),.pointer (some ⟨K,0,none⟩),.int .i64 0] 86)):=ajL
  have Wy:=HCk.out.only (Only.of_below (S:=λ_=>False) hb2) (λ_ _ h=>h)
  have hB:=HB1.out.trans (hb2.mono (by omega))
  refine ⟨⟨T,w1.heap.size,K,[],0,_,SK,⟨ak.new _ _ _,hSt.below hA,by have:=HRG.out;simp;omega,Wy.only (Only.of_below (S:=λ_=>False) hA) (λ_ _ h=>h),λk hk hk2=>?_,⟨?_,?_⟩,⟨⟨by omega,by omega⟩,λk hk=>⟨by omega,by omega⟩,λk hk=>⟨by have:=HSK.out k hk;omega,?_⟩⟩,λk hk=>by simp;exact hk.2⟩,⟨rfl,by simp,by simp [qX],HCO.out⟩⟩,hB.alloc hB.size _⟩
  ·have:=HCk.out.lt k hk2;omega
  ·intro hh;omega
  ·intro hh;have:=Wy.lt _ hh;omega
  ·have:=Wy.lt k hk;omega)
 clear hSt hb2
 go_wp2_with fail
 exact bodyPost_ret (v:=.tuple #[.pointer (some ⟨w2.heap.size,0,none⟩),.int .i64 0]) (by simp [results,Tryz.results9,go_sem]) rfl ⟨_,_,rfl,HF.out.1,λk hk=>hk.1,HF.out.2⟩
end Go.Proofs.YtklkooeimkedgaaGreat
namespace Go.Proofs.YtklkooeimkedgaaGreat
open Go.RowKit
set_option maxRecDepth 100000
theorem Ei {l : List aH} (hu : qW l) {k : aH} (hk : k ∈ l) : fC l k.key = some k:=by
 obtain ⟨i,hi,rfl⟩:=List.mem_iff_getElem.1 hk
 have h1 : eD l (l[i]).key = i:=by
  have a:=Dr (key:=(l[i]).key) hu (List.getElem?_eq_getElem hi);have b:=zN l (l[i]).key
  rcases Nat.lt_trichotomy (eD l (l[i]).key) i with h | h | h
  ·have hj : eD l (l[i]).key < l.length:=by omega
   have c:=Dr (key:=(l[i]).key) hu (List.getElem?_eq_getElem hj);have d:=List.pairwise_iff_getElem.1 hu _ i hj hi h
   omega
  ·exact h
  ·omega
 have h2 : l[eD l (l[i]).key]? = some (l[i]):=by rw [h1];exact List.getElem?_eq_getElem hi
 have h3 : fF l (l[i]).key = true:=by unfold fF;rw [h2];simp
 unfold fC
 rw [if_pos h3,h2]
theorem EN (ss : List Sn) (x : Sn) : (jk ss x).length = ss.length + 1:=by
 unfold jk
 have:=List.takeWhile_append_dropWhile (p:=λs : Sn=>decide (s.tick < x.tick)) (l:=ss)
 have h2:=congrArg List.length this
 rw [List.length_append] at h2
 simp only [List.length_append,List.length_cons]
 omega
theorem Wz (ss : List Sn) (key : Int) : eD (ss.map gy) key = (ss.takeWhile (λs=>decide (s.tick < key))).length:=by
 induction ss with
 | nil=>rfl
 | cons y ss ih =>
   unfold eD at *
   rw [List.map_cons]
   by_cases hy : y.tick < key
   ·have h1 : decide ((gy y).key < key) = true:=decide_eq_true hy
    have h2 : decide (y.tick < key) = true:=decide_eq_true hy
    simp only [List.takeWhile_cons,h1,h2,if_true,List.length_cons,ih]
   ·have h1 : decide ((gy y).key < key) = false:=decide_eq_false hy
    have h2 : decide (y.tick < key) = false:=decide_eq_false hy
    simp [List.takeWhile_cons,h1,h2]
theorem WB {most : Int} {r : Rg} {x : Sn} (hl : (r.ss.length : Int) <= most) (hh : fF (r.ss.map gy) x.tick = false) (hs : gP (r.ss.map gy) most r.floor r.gone x.tick = false) : x ∈ (fV most r x).ss:=by
 unfold fV
 split
 ·simp [jk]
 ·rename_i hn
  rw [EN] at hn
  have hfull : (r.ss.length : Int) = most:=by omega
  have hu : dW (r.ss.map gy) x.tick ≠ 0:=by
   intro hu
   unfold gP at hs
   simp [hu,hfull] at hs
  unfold dW at hu
  rw [hh] at hu
  simp only [Bool.false_eq_true,if_false] at hu
  rw [Wz] at hu
  simp only [jk]
  cases ht : r.ss.takeWhile (λs=>decide (s.tick < x.tick)) with
  | nil=>rw [ht] at hu;simp at hu
  | cons y l=>simp
theorem Jp {l : List aH} {most floor : Int} {gone : Bool} {tick base : Int} (h : qO l most floor gone tick base = 0) : fF l tick = false /\ gP l most floor gone tick = false:=by
 unfold qO at h
 split at h
 ·cases h
 rename_i h1
 split at h
 ·cases h
 rename_i h2
 exact ⟨by simpa using h1,by simpa using h2⟩
abbrev iU.rg (x : iU) : Rg:=⟨x.ss,x.floor,x.gone⟩
def uE (c : aP) (x : iU) (zs : List Int) : Int:=(fM c.ring x.rg zs).2
def lI (c : aP) (x : iU) (loc : Int) (zs : List Int) : iU :=
 if (fM c.ring x.rg zs).2 = 0 then ⟨(fV c.ring x.rg (fM c.ring x.rg zs).1).ss,(fV c.ring x.rg (fM c.ring x.rg zs).1).floor,(fV c.ring x.rg (fM c.ring x.rg zs).1).gone,vU c x.cs (aQ loc (fM c.ring x.rg zs).1.time)⟩ else x
def LP (c : aP) (x : iU) (zs : List Int) : Prop:=(fM c.ring x.rg zs).2 = 0 -> ∀ l : List aH,l.map (·.sn) = x.ss -> (∀ k ∈ l,k.key = k.sn.tick) -> LA l c.ring x.floor x.gone (fM c.ring x.rg zs).1
theorem Jq {most : Int} {r : Rg} {x s : Sn} (h : s ∈ (fV most r x).ss) : s = x \/ s ∈ r.ss:=by
 have hi : ∀ s ∈ jk r.ss x,s = x \/ s ∈ r.ss:=by
  intro s hs
  unfold jk at hs
  rcases List.mem_append.1 hs with h | h
  ·exact .inr ((List.takeWhile_sublist _).mem h)
  ·rcases List.mem_cons.1 h with h | h
   ·exact .inl h
   ·exact .inr ((List.dropWhile_sublist _).mem h)
 unfold fV at h
 split at h
 ·exact hi s h
 ·exact hi s (List.mem_of_mem_drop h)
set_option maxHeartbeats 4000000 in
theorem sj (C : Nat) (c : aP) (Ou : c.Ok) (hcc : fE c = 0) (x : iU) (S : Nat -> Prop) (loc : Int) (hloc : aA loc) (a : Option Addr) (len cap : Nat) (zs : List Int) (w : World) (h : gQ w C c x S)
 (hz : BytesAt w a len zs) (hc : a = none -> cap = 0) (hlc : len <= cap) (hl : (len : Int) <= 140737488355000) (hL : x.cs.L.length < 1000) (LD : LP c x zs) :
 Calls Tryz.prog 13 #[.pointer (some ⟨C,0,none⟩),.int .i64 loc,.slice a len cap] w λe w'=>e = .returned (.int .i64 (uE c x zs)) /\ gQ w' C c (lI c x loc zs) (Grow S w w') /\ Only S w w':=by
 obtain ⟨T,R,K,l,fr,SS,SK,hP,hK⟩:=h
 have jm : Al l (x.ss.map gy):=by rw [← hK.map];exact TN hK.key
 have hzz : eu l c.ring x.floor x.gone zs = fM c.ring x.rg zs:=jm.snap _ _ _ _
 have lV : ∀ k ∈ l,(∀ e ∈ k.sn.ents,e.Ok) /\ k.sn.ents.length <= 64:=λk hk=>by
  refine ⟨?_,(gq.1 (hK.Ov _ (by rw [← hK.map];exact List.mem_map_of_mem hk))).len⟩
  obtain ⟨v,hp⟩:=hP.st.ring
  exact (hp.ents k hk).2
 have ac:=Qk T R l c.ring x.floor x.gone SS a len cap zs w hP.st (λk hk=>(lV k hk).2) hz hc hlc hl (λh=>by rw [hzz] at h ⊢;exact LD h l hK.map hK.key) (Qh hz.u8 (λk hk=>(lV k hk).1)) TU (TT _ _ _ _ _)
 have hgood:=λh=>Qg (l:=l) (most:=c.ring) (floor:=x.floor) (gone:=x.gone) (zs:=zs) h
 have WI:=λh=>(Cy (l:=l) (most:=c.ring) (floor:=x.floor) (gone:=x.gone) (zs:=zs) h)
 rw [hzz] at ac hgood WI
 have LQ : (fM c.ring x.rg zs).2 = 0 -> fF (x.ss.map gy) (fM c.ring x.rg zs).1.tick = false /\ gP (x.ss.map gy) c.ring x.floor x.gone (fM c.ring x.rg zs).1.tick = false:=λh0=>by
  have h1:=WI h0;have h2:=Jp h1.2.1
  have h3 : (fM c.ring x.rg zs).1.tick = (bA zs).1.tick:=by rw [h1.2.2.2.1];exact (EG h1.2.2.1).2.1
  rw [h3,← jm.has,← jm.stale];exact h2
 have hmem : (fM c.ring x.rg zs).2 = 0 -> (fM c.ring x.rg zs).1 ∈ (fV c.ring x.rg (fM c.ring x.rg zs).1).ss:=λh0 =>
  WB (r:=x.rg) (by
   obtain ⟨v,hp⟩:=hP.st.ring
   show (x.ss.length : Int) <= c.ring
   rw [← hK.map,List.length_map]
   exact hP.room) (LQ h0).1 (LQ h0).2
 have HAX : Hid (lI c x loc zs = if (fM c.ring x.rg zs).2 = 0 then ⟨(fV c.ring x.rg (fM c.ring x.rg zs).1).ss,(fV c.ring x.rg (fM c.ring x.rg zs).1).floor,(fV c.ring x.rg (fM c.ring x.rg zs).1).gone,vU c x.cs (aQ loc (fM c.ring x.rg zs).1.time)⟩ else x):=ajK rfl
 have HP:=ajK hP;have HK:=ajK hK;have HG:=ajK hgood;have HM:=ajK hmem
 unfold uE
 generalize lI c x loc zs = ax at *
 generalize fM c.ring x.rg zs = z at *
 obtain ⟨sn,er⟩:=z
 simp only at *
 have c11:=hP.blk.cell 11;simp at c11;clear hP hK hgood hmem LQ WI lV jm hzz LD hz
 go_enter Tryz.func13,Tryz.ntmps13
 go_wp2_with fail
 refine ac.mono ?_
 rintro e w1 ⟨rfl,⟨l',fl,g,hS1,hR⟩,hO⟩
 clear ac;have Uq:=hO.blk HP.out.blk HP.out.nC.1
 have Ql:=HP.out.ck.only hO (λk hk hh=>HP.out.pX k hh hk)
 have aby:=hO.size
 by_cases her : er = 0
 ·subst her
  obtain rfl : ax = _:=HAX.out.trans (if_pos rfl)
  rcases hR with ⟨h,_⟩ | ⟨_,kx,hk1,hk2,Jh⟩
  ·exact absurd rfl h
  have hgd : lX sn:=HG.out rfl
  have hl2 : ∀ k ∈ l',k.key = k.sn.tick:=λk hk=>by
   rcases Jh.2 k hk with rfl | hk
   ·rw [hk1];exact hk2
   ·exact HK.out.key k hk
  have hlm : l'.map (·.sn) = (fV c.ring x.rg sn).ss /\ fl = (fV c.ring x.rg sn).floor /\ g = (fV c.ring x.rg sn).gone:=by
   have:=Jh.1
   rw [HK.out.map,hk1] at this
   rw [← show _ = fV c.ring x.rg sn from this]
   exact ⟨rfl,rfl,rfl⟩
  have LU : ∀ s ∈ (fV c.ring x.rg sn).ss,dI s = 0:=λs hs=>by
   rcases Jq hs with rfl | hs
   ·exact gq.2 hgd
   ·exact HK.out.Ov s hs
  have Ur : ∀ k ∈ l',k.sn.ents.length <= 64:=λk hk=>(gq.1 (LU _ (by rw [← hlm.1];exact List.mem_map_of_mem hk))).len
  have hget : ∃ k,fC l' sn.tick = some k /\ k.sn = sn:=by
   have h1 : sn ∈ l'.map (·.sn):=by rw [hlm.1];exact HM.out rfl
   obtain ⟨k,hk,hks⟩:=List.mem_map.1 h1
   obtain ⟨v,hp⟩:=hS1.ring
   refine ⟨k,?_,hks⟩
   rw [← hks,← hl2 k hk]
   exact Ei hp.up hk
  obtain ⟨kk,hkk,hks⟩:=hget
  have gt:=Y5 T R l' c.ring fl g _ sn.tick w1 hS1 Ur
  rw [hkk] at gt
  have hM : om (some kk) = sn.time:=by show kk.sn.time = _;rw [hks]
  rw [hM] at gt
  generalize fF l' sn.tick = hv at *
  generalize xD (some kk) = st at *
  generalize (iR (some kk)) = se at *
  have HRM : Hid ((fV c.ring x.rg sn).ss.length <= c.ring):=ajK (by
   unfold fV
   split
   ·assumption
   ·rename_i hh
    rw [EN] at hh
    have h1:=HP.out.room
    have h2 : x.ss.length = l.length:=by have:=congrArg List.length HK.out.map;rw [List.length_map] at this;exact this.symm
    show ((List.drop 1 (jk x.rg.ss sn)).length : Int) <= c.ring
    rw [List.length_drop,EN,show x.rg.ss.length = l.length from h2]
    omega)
  have iF:=ajK hS1;have Tq:=ajK Uq;have afV:=ajK Ql;have pq:=ajK hO;have Jr:=ajK hlm;have HL2:=ajK hl2;have jl:=ajK LU;have HGD:=ajK hgd;have LG:=ajK aby;have c11':=Uq.cell 11;simp at c11';clear hS1 Uq Ql hO hlm hl2 LU hgd aby Jh Ur hkk hM c11 HAX
  go_wp2_with fail
  refine gt.mono ?_
  rintro e w2 ⟨ga,gc,rfl,hE,hB⟩
  clear hE gt
  obtain ⟨v2,hv2⟩ : ∃ v,w2.alloc (.cells #[.int .i64 0,.int .i64 0,.slice none 0 0] 36) = v:=⟨_,rfl⟩
  have hBb : Below w2.heap.size w2 v2:=by rw [← hv2];exact ajL
  have aV : ak v2 w2.heap.size #[.int .i64 0,.int .i64 0,.slice none 0 0] 36:=by rw [← hv2];exact ak.new _ _ _
  have f0:=aV.free 0;have f1:=aV.free 1;have f2:=aV.free 2;have q0:=aV.cell 0;have q1:=aV.cell 1;have q2:=aV.cell 2;simp at q0 q1 q2;have hX:=jy (v0:=.int .i64 st) (v1:=.int .i64 sn.time) (v2:=.slice ga se.length gc) aV;have hbx:=eZ (v0:=.int .i64 st) (v1:=.int .i64 sn.time) (v2:=.slice ga se.length gc) hBb (Nat.le_refl _)
  obtain ⟨u2,hu2⟩ : ∃ u,((v2.setCell ⟨w2.heap.size,0,none⟩ (.int .i64 st)).setCell ⟨w2.heap.size,1,none⟩ (.int .i64 sn.time)).setCell ⟨w2.heap.size,2,none⟩ (.slice ga se.length gc) = u:=⟨_,rfl⟩
  rw [hu2] at hX hbx
  clear hBb aV
  have Ht : Below w1.heap.size w1 u2:=hB.trans (hbx.mono hB.size)
  have hC2:=Tq.out.below Ht Tq.out.lt;have qJ:=ajK hC2;have HS2:=ajK (iF.out.below Ht)
  have afW:=ajK (afV.out.only (Only.of_below (S:=λ_=>False) Ht) (λ_ _ h=>h))
  have bQ:=ajK (pq.out.fK Ht)
  have WJ : Hid (w1.heap.size <= u2.heap.size):=ajK Ht.size
  have x1:=hX.cell 1;have c12:=hC2.cell 12;simp at x1 c12;clear hB hbx Ht hC2 hX c11'
  go_wp2_with fail
  clear hv2 hu2 f0 f1 f2 q0 q1 q2
  refine aS 7 (by kernel_rfl) (by kernel_rfl) ?_
  simp only [List.take_succ_cons,List.take_zero,List.drop_succ_cons,List.drop_zero]
  repeat (apply aF;(next=>(intro W hW K hK;have y0:=hW.cell x1;have y1:=hW.cell c12;go_simp;first | exact ⟨hW,hK⟩ | exact hK));(next=>exact aN.self _);(try go_simp))
  refine aX ?_
  intro WC aO
  have bN : Below u2.heap.size u2 WC:=aO
  have HC3:=ajK (qJ.out.below bN qJ.out.lt);have XD:=ajK (HS2.out.below bN)
  have abz:=afW.out.only (Only.of_below (S:=λ_=>False) bN) (λ_ _ h=>h)
  have gI:=ajK (bQ.out.fK bN)
  have Qm : Hid (w1.heap.size <= WC.heap.size):=ajK (Nat.le_trans WJ.out bN.size)
  have sm:=Un K c Ou hcc x.cs HK.out.cs hL loc sn.time hloc ⟨by have:=HGD.out.time;omega,by have:=HGD.out.time;omega⟩ SK WC abz
  have Hu : (vU c x.cs (aQ loc sn.time)).Ok c:=Um HK.out.cs (wC hcc).2.1 (jH _ _) hL
  have WK:=ajK Hu;clear aO bN abz x1 c12 Hu
  go_wp2_with fail
  refine sm.mono ?_
  rintro e w4 ⟨rfl,abA,hO4⟩
  have HF : Hid (gQ w4 C c ⟨(fV c.ring x.rg sn).ss,(fV c.ring x.rg sn).floor,(fV c.ring x.rg sn).gone,vU c x.cs (aQ loc sn.time)⟩ (Grow S w w4) /\ Only S w w4):=ajK (by
   have hs4:=hO4.size;have hs3:=Qm.out;have hsw:=LG.out;have hsub:=HP.out.sub;have hlt:=HP.out.lt
   have hst:=XD.out.only hO4 (λk hk hh=>by
    rcases hk with hk | hk
    ·exact HP.out.pX k hk hh
    ·have:=hlt k (hsub.2.2 k hh);omega)
   refine ⟨⟨T,R,K,l',fr,_,_,⟨hO4.blk HC3.out HP.out.nC.2,by rw [← Jr.out.2.1,← Jr.out.2.2];exact hst,?_,abA,λk hk hh=>?_,⟨λhh=>?_,λhh=>?_⟩,⟨⟨.inl hsub.1,?_⟩,λk hk=>⟨?_,?_⟩,λk hk=>⟨?_,hk.2⟩⟩,λk hk=>hk.2⟩,⟨Jr.out.1,HL2.out,jl.out,WK.out⟩⟩,?_⟩
   ·have h1:=HRM.out
    rw [← Jr.out.1,List.length_map] at h1
    exact h1
   ·rcases hk with hk | hk
    ·rcases hh.1 with h5 | h5
     ·exact HP.out.pX k hk h5
     ·have:=hlt k (hsub.2.1 k hk);omega
    ·rcases hh.1 with h5 | h5
     ·have:=hlt k (hsub.2.2 k h5);omega
     ·omega
   ·rcases hh with hh | hh
    ·exact HP.out.nC.1 hh
    ·have:=hlt C hsub.1;omega
   ·rcases hh.1 with hh | hh
    ·exact HP.out.nC.2 hh
    ·have:=hlt C hsub.1;omega
   ·have:=hlt C hsub.1;omega
   ·rcases hk with hk | hk
    ·exact .inl (hsub.2.1 k hk)
    ·exact .inr hk.1
   ·rcases hk with hk | hk
    ·have:=hlt k (hsub.2.1 k hk);omega
    ·omega
   ·rcases hk.1 with hk | hk
    ·exact .inl (hsub.2.2 k hk)
    ·exact .inr (by omega)
   ·exact (gI.out.weaken (λk _ hk=>hsub.2.1 k hk)).bM hO4 (λi hi hh=>hsub.2.2 i hh))
  clear abA hO4 sm
  go_wp2_with fail
  exact bodyPost_ret (v:=.int .i64 0) (by simp [results,Tryz.results13,go_sem]) rfl ⟨rfl,HF.out⟩
 ·obtain rfl : ax = x:=HAX.out.trans (if_neg her)
  have hen : (er != 0) = true:=by simpa using her
  rcases hR with ⟨_,rfl,rfl,rfl⟩ | ⟨h,_⟩
  ·have HF : Hid (gQ w1 C c ax (Grow S w w1) /\ Only S w w1):=ajK (by
    have hsub:=HP.out.sub;have hlt:=HP.out.lt
    refine ⟨⟨T,R,K,l',fr,_,SK,⟨Uq,hS1,HP.out.room,Ql,λk hk hh=>?_,⟨λhh=>?_,HP.out.nC.2⟩,⟨⟨.inl hsub.1,?_⟩,λk hk=>⟨?_,?_⟩,λk hk=>⟨.inl (hsub.2.2 k hk),?_⟩⟩,λk hk=>hk.2⟩,HK.out⟩,hO.weaken (λk _ hk=>hsub.2.1 k hk)⟩
    ·rcases hk with hk | hk
     ·exact HP.out.pX k hk hh
     ·have:=hlt k (hsub.2.2 k hh);omega
    ·rcases hh with hh | hh
     ·exact HP.out.nC.1 hh
     ·have:=hlt C hsub.1;omega
    ·have:=hlt C hsub.1;omega
    ·rcases hk with hk | hk
     ·exact .inl (hsub.2.1 k hk)
     ·exact .inr hk.1
    ·rcases hk with hk | hk
     ·have:=hlt k (hsub.2.1 k hk);omega
     ·omega
    ·have:=hlt k (hsub.2.2 k hk);omega)
   clear Uq Ql hS1 hO her
   go_wp2_with fail
   exact bodyPost_ret (v:=.int .i64 er) (by simp [results,Tryz.results13,go_sem]) rfl ⟨rfl,HF.out⟩
  ·exact absurd h her
end Go.Proofs.YtklkooeimkedgaaGreat
namespace Go.Proofs.YtklkooeimkedgaaGreat
open Go.RowKit
set_option maxRecDepth 100000
theorem Zg {l : List aH} {x : aH} (hk : ∀ k ∈ l,k.key = k.sn.tick) (hx : x.key = x.sn.tick) : (oF l x).map (·.sn) = jk (l.map (·.sn)) x.sn:=by
 induction l with
 | nil=>rfl
 | cons y l ih =>
   have h1:=ih (λk h=>hk k (List.mem_cons_of_mem _ h))
   have hy:=hk y (List.mem_cons_self ..)
   by_cases h : y.key < x.key
   ·have h2 : decide (y.sn.tick < x.sn.tick) = true:=by rw [← hy,← hx];exact decide_eq_true h
    rw [Oc h]
    unfold jk at h1 ⊢
    simp only [List.map_cons,List.takeWhile_cons,List.dropWhile_cons,h2,if_true,h1,List.cons_append]
   ·have h2 : decide (y.sn.tick < x.sn.tick) = false:=by rw [← hy,← hx];exact decide_eq_false h
    rw [Od h]
    unfold jk
    simp [List.takeWhile_cons,List.dropWhile_cons,h2]
theorem Qn {l : List aH} {most floor : Int} {gone : Bool} {sn : Sn} (hkey : ∀ k ∈ l,k.key = k.sn.tick) (hhas : fF l sn.tick = false) (hst : gP l most floor gone sn.tick = false) (hroom : (l.length : Int) <= most) (XH : most <= 64) : LA l most floor gone sn:=by
 intro R S x w hx hk hR hO hok hS
 have hk' : x.key = x.sn.tick:=by rw [hk,hx]
 have hin:=Zg hkey hk'
 rw [← hk] at hhas hst
 have hfl : gone = true -> floor < x.key:=λhg=>by
  unfold gP at hst
  rw [hg] at hst
  simp at hst
  exact hst.1
 have PW : (l.length : Int) = most -> 0 < eD l x.key:=λhe=>by
  unfold gP dW at hst
  rw [hhas] at hst
  simp [he] at hst
  omega
 refine (aaO R l most floor gone S x w hR hO hok hS hhas hroom XH hfl PW).mono ?_
 have hmem : ∀ k ∈ oF l x,k = x \/ k ∈ l:=λk hk=>EB hk
 have hlen : (jk (l.map (·.sn)) x.sn).length = (oF l x).length:=by rw [← hin,List.length_map]
 rintro e w' (⟨h1,rfl,h2,h3⟩ | ⟨h1,k0,h0,rfl,h2,h3⟩)
 ·refine ⟨oF l x,floor,gone,?_,h2,h3,?_,hmem⟩
  ·unfold Lx;rw [if_pos (by rw [hlen];exact h1)]
  ·unfold fV;rw [if_pos (by rw [hlen];exact h1),hin]
 ·have hk0 : k0.key = k0.sn.tick:=by
   rcases hmem k0 (List.mem_of_getElem? h0) with rfl | h
   ·exact hk'
   ·exact hkey _ h
  have hhd : (jk (l.map (·.sn)) x.sn).headD fu = k0.sn:=by
   rw [← hin]
   cases hl : oF l x with
   | nil=>rw [hl] at h0;cases h0
   | cons y r=>rw [hl] at h0;cases h0;rfl
  have abB : ¬ (((jk (l.map (·.sn)) x.sn).length : Nat) : Int) <= most:=by rw [hlen];omega
  refine ⟨(oF l x).drop 1,k0.key,true,?_,h2,h3,?_,λk hk=>hmem k (List.mem_of_mem_drop hk)⟩
  ·unfold Lx;rw [if_neg abB];show _ = Ending.returned (.tuple #[.int .i64 ((jk (l.map (·.sn)) x.sn).headD fu).tick,_,_]);rw [hhd,hk0]
  ·unfold fV;rw [if_neg abB];show (⟨_,_,_⟩ : Rg) = ⟨(jk (l.map (·.sn)) x.sn).drop 1,((jk (l.map (·.sn)) x.sn).headD fu).tick,true⟩;rw [hhd,hk0,← hin,List.map_drop]
theorem tC {c : aP} {x : iU} {zs : List Int} (hc : fE c = 0) (hlen : (x.ss.length : Int) <= c.ring) : LP c x zs:=by
 intro h0 l hl hk
 have jm : Al l (x.ss.map gy):=by rw [← hl];exact TN hk
 have hll : l.length = x.ss.length:=by rw [← hl,List.length_map]
 have h1:=Cy (l:=x.ss.map gy) (most:=c.ring) (floor:=x.floor) (gone:=x.gone) (zs:=zs) h0;have h2:=Jp h1.2.1
 have h3 : (fM c.ring x.rg zs).1.tick = (bA zs).1.tick:=by
  have:=(EG h1.2.2.1).2.1
  unfold fM
  rw [h1.2.2.2.1];exact this
 refine Qn hk ?_ ?_ (by rw [hll];exact hlen) (yM hc).2
 ·rw [h3,jm.has];exact h2.1
 ·rw [h3,jm.stale];exact h2.2
theorem gQ.room {w : World} {C : Nat} {c : aP} {x : iU} {S : Nat -> Prop} (h : gQ w C c x S) : (x.ss.length : Int) <= c.ring:=by
 obtain ⟨T,R,K,l,fr,SS,SK,h1,h2⟩:=h
 rw [← h2.map,List.length_map];exact h1.room
def Ar (k : aH) : List Value:=[.int .i64 k.sn.tick,.int .i64 k.sn.time,fZ k]
def nE : aH:=⟨0,fu,none,0⟩
def WL (w : World) (a : Option Addr) (ks : List aH) : Prop :=
 rz w a ks.length (λi=>(ks.getD i nE).sn.tick) (λi=>(ks.getD i nE).sn.time) (λi=>((ks.getD i nE).a,(ks.getD i nE).sn.ents.length,(ks.getD i nE).cap)) (λi j=>(ks.getD i nE).sn.ents.getD j bP)
theorem Zh : (Tryz.prog.info? 36).map (λi=>(i.zero,i.size,i.bytes)) = some (some (.agg #[.int .i64 0,.int .i64 0,.slice none 0 0]),3,40):=by kernel_rfl
structure kR (w : World) (base : Nat) (v : Value) (ks : List aH) : Prop where
 row : w.ownsRow base 36 3 v ks.length (ks.flatMap Ar)
 ents : ∀ k ∈ ks,aM w base (fZ k) k.sn.ents /\ (∀ e ∈ k.sn.ents,e.Ok) /\ k.sn.ents.length <= 64
theorem kR.nil (w : World) (base : Nat) : kR w base (.slice none 0 0) []:=⟨World.ownsRow_nil _ _ _ _,by simp⟩
theorem kR.below {w w' : World} {base : Nat} {v : Value} {ks : List aH} (h : kR w base v ks) (hb : Below w.heap.size w w') : kR w' base v ks :=
 ⟨pQ h.row (Only.of_below (S:=λ_=>False) hb) (λ_ _ h=>h),λk hk=>⟨(h.ents k hk).1.below hb,(h.ents k hk).2⟩⟩
theorem LV : ∀ (d : List aH) (i : Nat) (x : aH),d[i]? = some x -> ∀ j,j < 3 -> (d.flatMap Ar)[i * 3 + j]? = (Ar x)[j]?
 | [],i,r,h,_,_=>by simp at h
 | y :: d,0,x,h,j,hj=>by
   simp at h;subst h
   rw [List.flatMap_cons,List.getElem?_append_left (by show _ < 3;omega)]
   congr 1;omega
 | y :: d,i + 1,x,h,j,hj=>by
   have h' : d[i]? = some x:=by simpa using h
   rw [List.flatMap_cons,List.getElem?_append_right (by show 3 <= _;omega),show (Ar y).length = 3 from rfl,show (i + 1) * 3 + j - 3 = i * 3 + j by omega]
   exact LV d i x h' j hj
theorem kR.sns {w : World} {base : Nat} {v : Value} {ks : List aH} (h : kR w base v ks) : ∃ a c,v = .slice a ks.length c /\ WL w a ks /\ (a = none -> c = 0) /\ ks.length <= c:=by
 have hc:=λg hg=>h.row.cells (g:=g) hg
 obtain ⟨hr,he⟩:=h
 have lV : ∀ i,i < ks.length -> bV w (ks.getD i nE).a (ks.getD i nE).sn.ents.length (λj=>(ks.getD i nE).sn.ents.getD j bP) /\ ((ks.getD i nE).sn.ents.length : Int) <= 4611686018427387904:=λi hi=>by
  have hk : ks.getD i nE = ks[i]:=by simp [List.getD,hi]
  rw [hk]
  obtain ⟨h1,h2,h3⟩:=he _ (List.getElem_mem hi)
  obtain ⟨a,c,e,h4,_⟩:=h1.ents h2
  injection e with e1
  rw [← e1] at h4
  exact ⟨h4,by omega⟩
 obtain ⟨_,⟨rfl,hn⟩ | ⟨g,cap,cur,rfl,a,b,c,d⟩⟩:=hr
 ·refine ⟨none,0,by rw [hn],⟨.inl hn,lV⟩,λ_=>rfl,by omega⟩
 ·refine ⟨_,_,rfl,⟨.inr ⟨g,0,rfl,(Array.getElem?_eq_some_iff.1 b).1,λi hi=>?_⟩,lV⟩,λh=>(by cases h),c⟩
  have hx : ks[i]? = some (ks.getD i nE):=by simp [List.getD,hi]
  have hf:=LV ks i _ hx
  have ha : ∀ o,(⟨g,0,none⟩ : Addr).add o = ⟨g,o,none⟩:=λo=>by unfold Addr.add;split <;> simp_all
  have cell : ∀ j u,j < 3 -> (Ar (ks.getD i nE))[j]? = some u -> w.cell? ⟨g,i * 3 + j,none⟩ = some u:=λj u hj hu=>by
   rw [← ha];exact hc g rfl _ _ (by rw [hf j hj];exact hu)
  rw [Nat.zero_add]
  exact ⟨cell 0 _ (by decide) rfl,cell 1 _ (by decide) rfl,cell 2 _ (by decide) rfl⟩
theorem kR.app {ops : Array Oper} {rest : List Oper} {o : Oper} {a : Act} {Q : Exit -> Act -> World -> Prop} (w : World) (hgd : o.guard = none) (s x : Operand)
 (ho : o.op = .call { callee:=.builtin .append,args:=#[s,x],argTypes:=#[54,54] })
 (base : Nat) (v : Value) (ks : List aH) (hs : a.eval s = v) (hown : kR w base v ks) (g : Nat) (k : aH) (hx : a.eval x = .slice (some ⟨g,0,none⟩) 1 1) (hb : ak w g #[.int .i64 k.sn.tick,.int .i64 k.sn.time,.slice k.a k.sn.ents.length k.cap] 36)
 (hk : aM w base (fZ k) k.sn.ents /\ (∀ e ∈ k.sn.ents,e.Ok) /\ k.sn.ents.length <= 64) (hl : ks.length <= 1000000) (hbase : base <= w.heap.size)
 (h : ∀ v' w',kR w' base v' (ks ++ [k]) -> w.grownBy w' v.ownBlock -> wpList Tryz.prog ops Q rest (a.put o.dst v') w') : wpList Tryz.prog ops Q (o :: rest) a w:=by
 refine qC w hgd s x 54 36 ho base _ 3 40 Tryz.underlying54 Zh rfl (by decide) v ks.length (ks.flatMap Ar) hs hown.row g _ hx hb rfl (by intro u hu;simp at hu;rcases hu with rfl | rfl | rfl <;> rfl) (by unfold maxLen;omega) (by omega) hbase (λv' w' h1 h2=>h v' w' ⟨?_,?_⟩ h2)
 ·rw [List.length_append,List.flatMap_append]
  simpa [Ar,fZ] using h1
 ·intro k' hk'
  have hold : aM w base (fZ k') k'.sn.ents /\ (∀ e ∈ k'.sn.ents,e.Ok) /\ k'.sn.ents.length <= 64:=by
   rcases List.mem_append.1 hk' with h | h
   ·exact hown.ents k' h
   ·simp at h;subst h;exact hk
  exact ⟨hold.1.only (jD h2) (λj hj hv=>IY hown.row hold.1 (by decide) hv hj),hold.2⟩
set_option maxHeartbeats 2000000 in
theorem LW (C : Nat) (c : aP) (x : iU) (S : Nat -> Prop) (w : World) (h : gQ w C c x S) :
 Calls Tryz.prog 43 #[.pointer (some ⟨C,0,none⟩)] w λe w'=>∃ v ks,e = .returned v /\ kR w' w.heap.size v ks /\ ks.map (·.sn) = x.ss /\ Below w.heap.size w w':=by
 obtain ⟨T,R,K,l,fr,SS,SK,hP,hK⟩:=h
 have lV : ∀ k ∈ l,(∀ e ∈ k.sn.ents,e.Ok) /\ k.sn.ents.length <= 64:=λk hk=>by
  refine ⟨?_,(gq.1 (hK.Ov _ (by rw [← hK.map];exact List.mem_map_of_mem hk))).len⟩
  obtain ⟨v,hp⟩:=hP.st.ring
  exact (hp.ents k hk).2
 have ln:=λW h=>Y4 T R l c.ring x.floor x.gone SS W h
 have at_:=λ(i : Int) W h=>abj T R l c.ring x.floor x.gone SS i W h (λk hk=>(lV k hk).2)
 have c11:=hP.blk.cell 11;simp at c11;have HC:=ajK hP.blk;have HS:=ajK hP.st;have HM:=ajK hK.map;have HE:=ajK lV
 have h64 : l.length <= 64:=by obtain ⟨v,hp⟩:=hP.st.ring;have:=hp.len;omega
 have H64:=ajK h64;clear hP hK lV h64
 go_enter Tryz.func43,Tryz.ntmps43
 go_wp2_with fail
 refine (ln w HS.out).mono ?_
 rintro e w1 ⟨rfl,rfl⟩
 clear ln;have afX:=c11
 go_wp2_with fail
 go_loopw [3,12] (λv i wr=>∃ (k : Nat) (u : Value) (ks : List aH),k <= l.length /\ i = .int .i64 k /\ u = v /\ ks.map (·.sn) = (l.map (·.sn)).take k /\ kR wr w.heap.size u ks /\ Below w.heap.size w wr) (λ_ i _=>l.length - (intOf i).toNat)
 case atStart=>exact ⟨0,_,[],Nat.zero_le _,rfl,rfl,by simp,kR.nil _ _,Below.refl _ _⟩
 case round =>
  obtain ⟨k,v,ks,hk,rfl,rfl,hm,hO,hB⟩:=hrel
  clear c11 afX
  by_cases hlt : k < l.length
  ·have hlt' : (k : Int) < l.length:=by omega
   obtain ⟨y,hy⟩ : ∃ y,l[k]? = some y:=⟨_,List.getElem?_eq_getElem hlt⟩
   have hak : eG l (k : Int) = some y:=by unfold eG;rw [if_neg (by omega)];simpa using hy
   have hst:=HS.out.below hB;have Kq:=at_ k wr hst
   rw [hak] at Kq
   have hye:=HE.out y (List.mem_of_getElem? hy);have hcb:=HC.out.below hB HC.out.lt;have c11:=hcb.cell 11;simp at c11;have HY:=ajK hy;have fD:=ajK hlt;have HYE:=ajK hye;have HMK:=ajK hm;have HO:=ajK hO;have HB:=ajK hB
   have hkl : ks.length = k:=by have:=congrArg List.length hm;simp at this;omega
   have XZ:=ajK hkl
   simp only [xD,om,iR,sV] at Kq
   obtain ⟨yk,⟨tk,tm,es⟩,ya,yc⟩:=y
   simp only at *
   clear hy hye hm hO hB hst hcb hkl hak at_
   go_wp2_with fail
   refine Kq.mono ?_
   rintro e w1 ⟨a1,c1,rfl,hE,hB⟩
   have HB0:=HB.out;have abD:=HB0.size
   obtain ⟨v1,hv1⟩ : ∃ v,w1.alloc (.cells #[.int .i64 0,.int .i64 0,.slice none 0 0] 36) = v:=⟨_,rfl⟩
   have hBb : Below w1.heap.size w1 v1:=by rw [← hv1];exact ajL
   have aV : ak v1 w1.heap.size #[.int .i64 0,.int .i64 0,.slice none 0 0] 36:=by rw [← hv1];exact ak.new _ _ _
   have f0:=aV.free 0;have f1:=aV.free 1;have f2:=aV.free 2;have q0:=aV.cell 0;have q1:=aV.cell 1;have q2:=aV.cell 2;simp at q0 q1 q2;have hX:=jy (v0:=.int .i64 tk) (v1:=.int .i64 tm) (v2:=.slice a1 es.length c1) aV;have hbx:=eZ (v0:=.int .i64 tk) (v1:=.int .i64 tm) (v2:=.slice a1 es.length c1) hBb (Nat.le_refl _)
   obtain ⟨u1,hu1⟩ : ∃ u,((v1.setCell ⟨w1.heap.size,0,none⟩ (.int .i64 tk)).setCell ⟨w1.heap.size,1,none⟩ (.int .i64 tm)).setCell ⟨w1.heap.size,2,none⟩ (.slice a1 es.length c1) = u:=⟨_,rfl⟩
   rw [hu1] at hX hbx
   clear hBb aV
   have WO : Below wr.heap.size wr u1:=hB.trans (hbx.mono hB.size)
   have hE1 : aM u1 w.heap.size (.slice a1 es.length c1) es:=(aM.base hE abD).below hbx
   obtain ⟨u2,hu2⟩ : ∃ v,u1.alloc (.cells #[.int .i64 tk,.int .i64 tm,.slice a1 es.length c1] 36) = v:=⟨_,rfl⟩
   have hb2 : Below u1.heap.size u1 u2:=by rw [← hu2];exact ajL
   have iM : Hid (ak u2 u1.heap.size #[.int .i64 tk,.int .i64 tm,.slice a1 es.length c1] 36):=ajK (by rw [← hu2];exact ak.new _ _ _)
   have HE2:=ajK (hE1.below hb2)
   have rU : Below wr.heap.size wr u2:=WO.trans (hb2.mono WO.size)
   have bQ:=ajK (HO.out.below rU);have HB2:=ajK (HB0.trans (rU.mono HB0.size));have x0:=hX.cell 0;have x1:=hX.cell 1;have x2:=hX.cell 2;simp at x0 x1 x2;clear hB hE hbx WO hE1 hb2 rU hX HB0 abD Kq
   go_wp2_with (at_builtin;refine kR.app _ rfl (.tmp 24) (.tmp 26) rfl w.heap.size _ ks rfl bQ.out _ ⟨tk,⟨tk,tm,es⟩,a1,c1⟩ rfl iM.out ⟨HE2.out,HYE.out.1,HYE.out.2⟩ (by have:=XZ.out;have:=H64.out;omega) HB2.out.size ?_)
   intro v' w' hr hg
   have HF : Hid (kR w' w.heap.size v' (ks ++ [⟨tk,⟨tk,tm,es⟩,a1,c1⟩]) /\ Below w.heap.size w w' /\ (ks ++ [(⟨tk,⟨tk,tm,es⟩,a1,c1⟩ : aH)]).map (·.sn) = (l.map (·.sn)).take (k + 1)):=ajK ⟨hr,HB2.out.grown hg HB2.out.size (λj e=>(bQ.out.row.lt j e).1),by
    rw [List.map_append,HMK.out,List.take_add_one,List.getElem?_map,HY.out];rfl⟩
   have hw : wrap64 ((k : Int) + 1) = (k : Int) + 1:=by have:=H64.out;unfold wrap64;omega
   clear hr hg
   go_wp2
   go_roundw
   case rel=>exact ⟨k + 1,_,_,by have:=fD.out;omega,by go_num,rfl,HF.out.2.2,HF.out.1,HF.out.2.1⟩
   case measure=>rw [hw];show l.length - ((k : Int) + 1).toNat < l.length - (k : Int).toNat;have h1:=fD.out;omega
  ·obtain rfl : k = l.length:=by omega
   have HF : Hid (kR wr w.heap.size v ks /\ ks.map (·.sn) = x.ss /\ Below w.heap.size w wr):=ajK ⟨hO,by rw [hm,← List.length_map (f:=λk : aH=>k.sn),List.take_length];exact HM.out,hB⟩
   clear hO hm hB at_
   go_wp2
   exact bodyPost_ret (v:=v) (by simp [results,Tryz.results43,go_sem]) rfl ⟨v,ks,rfl,HF.out⟩
end Go.Proofs.YtklkooeimkedgaaGreat
namespace Go.Proofs.YtklkooeimkedgaaGreat
open Go.RowKit
set_option maxRecDepth 100000
theorem Js {K T : Nat -> Int} {E E' : Nat -> Option Addr × Nat × Nat} {EE : Nat -> Nat -> ay} (h : ∀ i,(E i).2.1 = (E' i).2.1) : ∀ n i,qL K T E EE n i = qL K T E' EE n i
 | 0,i=>rfl
 | n + 1,i=>by unfold qL;rw [h i,Js h n (i + 1)]
theorem CU {c : aP} {K T : Nat -> Int} {E E' : Nat -> Option Addr × Nat × Nat} {EE : Nat -> Nat -> ay} (h : ∀ i,(E i).2.1 = (E' i).2.1) (n : Nat) : jU c K T E EE n = jU c K T E' EE n:=by
 unfold jU;rw [Js h]
theorem Us {c : aP} {ka ta : Int} {aa LX : Option Addr} {la ca LY : Nat} {A : Nat -> ay} {au : Int} : oU c ka ta aa la ca A au = oU c ka ta LX la LY A au:=by
 have h : jU c (λ_=>ka) (λ_=>ta) (λ_=>(aa,la,ca)) (λ_=>A) 1 = jU c (λ_=>ka) (λ_=>ta) (λ_=>(LX,la,LY)) (λ_=>A) 1:=CU (λ_=>rfl) 1
 unfold oU nL;rw [h]
theorem Ut {c : aP} {ka ta : Int} {aa LX : Option Addr} {la ca LY : Nat} {A : Nat -> ay} {kb tb : Int} {ab ab' : Option Addr} {lb cb cb' : Nat} {B : Nat -> ay} {au : Int} : oQ c ka ta aa la ca A kb tb ab lb cb B au = oQ c ka ta LX la LY A kb tb ab' lb cb' B au:=by
 unfold oQ oO
 rw [CU (E':=two (LX,la,LY) (ab',lb,cb')) (λi=>by unfold two;split <;> rfl)]
theorem WR {c : aP} {au : Int} {K T : Nat -> Int} {E E' : Nat -> Option Addr × Nat × Nat} {EE : Nat -> Nat -> ay} {len : Nat} (h : ∀ i,(E i).2.1 = (E' i).2.1) : yN c au K T E EE len = yN c au K T E' EE len:=by
 unfold yN
 rw [CU h,Us (LX:=(E' (dB T au len)).1) (LY:=(E' (dB T au len)).2.2),Ut (LX:=(E' (dB T au len)).1) (LY:=(E' (dB T au len)).2.2) (ab':=(E' (jO T au len)).1) (cb':=(E' (jO T au len)).2.2),h,h]
def Jt (ss : List Sn) (i : Nat) : Int:=(ss.getD i fu).tick
def CV (ss : List Sn) (i : Nat) : Int:=(ss.getD i fu).time
def Oy (ss : List Sn) (i : Nat) : Option Addr × Nat × Nat:=(none,(ss.getD i fu).ents.length,0)
def CW (ss : List Sn) (i j : Nat) : ay:=(ss.getD i fu).ents.getD j bP
def abH (c : aP) (au : Int) (ss : List Sn) : Int:=yN c au (Jt ss) (CV ss) (Oy ss) (CW ss) ss.length
def tF (c : aP) (au : Int) (ss : List Sn) : Nat:=Gj c au (Jt ss) (CV ss) (Oy ss) (CW ss) ss.length
def zk (c : aP) (au : Int) (ss : List Sn) : Nat -> Po:=Ow c au (Jt ss) (CV ss) (Oy ss) (CW ss) ss.length
theorem Dv (ks : List aH) (i : Nat) : (ks.map (·.sn)).getD i fu = (ks.getD i nE).sn:=by
 simp only [List.getD,List.getElem?_map]
 cases ks[i]? <;> rfl
theorem Zi (c : aP) (ok : c.Ok) (au : Int) (hat : aA au) (a : Option Addr) (cap : Nat) (ks : List aH) (ss : List Sn) (hm : ks.map (·.sn) = ss) (hT : ∀ s ∈ ss,aA s.time) (hl : ks.length <= 1000) (w : World) (h : WL w a ks) :
 Calls Tryz.prog 19 #[aT c,.int .i64 au,.slice a ks.length cap] w (rQ w (tF c au ss) (abH c au ss) (zk c au ss)):=by
 have hK : (λi=>(ks.getD i nE).sn.tick) = Jt ss:=by funext i;unfold Jt;rw [← hm,Dv]
 have hTT : (λi=>(ks.getD i nE).sn.time) = CV ss:=by funext i;unfold CV;rw [← hm,Dv]
 have oL : (λi j=>(ks.getD i nE).sn.ents.getD j bP) = CW ss:=by funext i j;unfold CW;rw [← hm,Dv]
 have hE : ∀ i,((λi=>((ks.getD i nE).a,(ks.getD i nE).sn.ents.length,(ks.getD i nE).cap)) i : Option Addr × Nat × Nat).2.1 = (Oy ss i).2.1:=λi=>by unfold Oy;rw [← hm,Dv]
 have hlen : ks.length = ss.length:=by rw [← hm,List.length_map]
 unfold WL at h
 rw [hK,hTT,oL] at h
 have hTi : ∀ i,i < ks.length -> aA (CV ss i):=λi hi=>by
  unfold CV
  have : i < ss.length:=by omega
  simp only [List.getD,List.getElem?_eq_getElem this,Option.getD_some]
  exact hT _ (List.getElem_mem this)
 have:=ac0 c ok au hat a ks.length cap _ _ _ _ w h hTi (by omega)
 have e1:=WR (c:=c) (au:=au) (K:=Jt ss) (T:=CV ss) (EE:=CW ss) (len:=ks.length) hE
 have e2 : Gj c au (Jt ss) (CV ss) (λi=>((ks.getD i nE).a,(ks.getD i nE).sn.ents.length,(ks.getD i nE).cap)) (CW ss) ks.length = tF c au ss:=by
  unfold tF Gj;rw [e1,hE,hlen]
 have e3 : Ow c au (Jt ss) (CV ss) (λi=>((ks.getD i nE).a,(ks.getD i nE).sn.ents.length,(ks.getD i nE).cap)) (CW ss) ks.length = zk c au ss:=by
  unfold zk Ow;rw [hE,hlen]
 rw [e2,e3,e1,hlen] at this
 rw [hlen]
 exact this
theorem WS {w : World} {base base' k n : Nat} {e : TypeId} {v : Value} {xs : List Value} (h : w.ownsRow base e k v n xs) (hb : base' <= base) : w.ownsRow base' e k v n xs:=by
 obtain ⟨h1,h2⟩:=h
 refine ⟨h1,?_⟩
 rcases h2 with h2 | ⟨g,cap,cur,rfl,a,b⟩
 ·exact .inl h2
 ·exact .inr ⟨g,cap,cur,rfl,Nat.le_trans hb a,b⟩
theorem Uu {w w' : World} {s : Option Addr} {n : Nat} {P : Nat -> Po} {X : Nat} {cs : Array Value} (h : dP w s n P) (hX : ak w X cs 49) (hcs : cs.size = 3) (ho : Only (λk=>k = X) w w') : dP w' s n P:=by
 rcases h with h | ⟨b,off,e,hl,hc⟩
 ·exact .inl h
 ·by_cases hn : n = 0
  ·exact .inl hn
  ·refine .inr ⟨b,off,e,Nat.lt_of_lt_of_le hl ho.size,λi hi=>?_⟩
   have hbX : b ≠ X:=by
    rintro rfl
    have h0:=(hc 0 (by omega)).2.2.2.2.2
    rw [hX.cell,Array.getElem?_eq_none (by omega)] at h0
    cases h0
   have hh : ∀ o,w'.cell? ⟨b,o,none⟩ = w.cell? ⟨b,o,none⟩:=λo=>by
    simp only [World.cell?];rw [ho.block b hl hbX]
   have:=hc i hi
   unfold kY at this ⊢
   simp only [hh];exact this
def LZ (w2 : World) (ss : List Sn) (n0 : Nat) (E0 : Int) (P0 : Nat -> Po) : List Value -> World -> Prop
 | [],W=>aN w2 W
 | [v],W=>aN w2 W /\ ∃ ks,kR W w2.heap.size v ks /\ ks.map (·.sn) = ss
 | [_,u],W=>aN w2 W /\ ∃ s cp,u = .tuple #[.slice s n0 cp,.int .i64 E0] /\ dP W s n0 P0
 | [_,_,u],W=>aN w2 W /\ ∃ s cp,u = .tuple #[.slice s n0 cp,.int .i64 E0] /\ dP W s n0 P0
 | [_,_,_,u],W=>aN w2 W /\ ∃ s cp,u = .slice s n0 cp /\ dP W s n0 P0
 | [_,_,_,_,u],W=>aN w2 W /\ ∃ s cp,u = .slice s n0 cp /\ dP W s n0 P0
 | _,_=>False
theorem LZ.calm {w2 : World} {ss : List Sn} {n0 : Nat} {E0 : Int} {P0 : Nat -> Po} : ∀ {b : List Value} {W : World},LZ w2 ss n0 E0 P0 b W -> aN w2 W
 | [],_,h=>h
 | [_],_,h=>h.1
 | [_,_],_,h=>h.1
 | [_,_,_],_,h=>h.1
 | [_,_,_,_],_,h=>h.1
 | [_,_,_,_,_],_,h=>h.1
 | _ :: _ :: _ :: _ :: _ :: _ :: _,_,h=>h.elim
theorem Nb (b : Nat) (c : aP) (hc : fE c = 0) (s : CS) (x : Int) (S : Nat -> Prop) (w : World) (h : tq w b c s S) (hL : s.L = []) :
 Calls Tryz.prog 42 #[.pointer (some ⟨b,0,none⟩),.int .i64 x] w λe w'=>e = .returned (.tuple #[.int .i64 0,.bool false]) /\ w = w':=by
 have co:=Jo b c s S w h
 rw [hL,show bY c.window.toNat [] = [] by simp [bY],show decide (([] : List Int) ≠ []) = false from rfl] at co
 generalize dX [] = m at *
 go_enter Tryz.func42,Tryz.ntmps42
 go_wp2_with fail
 refine co.mono ?_;rintro e w' ⟨rfl,rfl⟩
 go_wp2
 go_ret2
 exact ⟨rfl,rfl⟩
theorem abI (C : Nat) (c : aP) (hc : fE c = 0) (x : iU) (S : Nat -> Prop) (loc : Int) (w : World) (h : gQ w C c x S) (hL : x.cs.L = []) :
 Calls Tryz.prog 15 #[.pointer (some ⟨C,0,none⟩),.int .i64 loc] w λe w'=>e = .returned (.agg #[.bool false,.int .i64 0,.slice none 0 0]) /\ gQ w' C c x S /\ Only (λk=>S k /\ nT w k) w w':=by
 obtain ⟨T,R,K,l,fr,SS,SK,hP,hK⟩:=h
 have abJ:=hP.blk.cell 12;simp at abJ
 obtain ⟨w0,hw0⟩ : ∃ w0,w.alloc (.cells #[.bool false,.int .i64 0,.slice none 0 0] 49) = w0:=⟨_,rfl⟩
 have hB0 : Below w.heap.size w w0:=by rw [← hw0];exact ajL
 have hX0 : ak w0 w.heap.size #[.bool false,.int .i64 0,.slice none 0 0] 49:=by rw [← hw0];exact ak.new _ _ _
 have L6:=hP.lt C hP.sub.1
 have pY:=hP.only (Only.of_below (S:=λ_=>False) hB0) (λ_ _ h=>h)
 have hC0:=pY.blk;have c13:=hC0.cell 13;have f13:=hC0.free 13;simp at c13
 have hset : ∀ v,LK (w0.setCell ⟨C,13,none⟩ (.int .i64 v)) C c T R K l x.floor x.gone x.cs v S SS SK:=λv=>by
  have ho : Only (λk=>k = C) w0 (w0.setCell ⟨C,13,none⟩ (.int .i64 v)):=Only.setCell (S:=λk=>k = C) (p:=⟨C,13,none⟩) (Only.refl _ _) (.inl rfl) _
  exact ⟨by simpa using hC0.set 13 (.int .i64 v),pY.st.only ho (λk hk e=>pY.nC.1 (e ▸ hk)),pY.room,pY.ck.only ho (λk hk e=>pY.nC.2 (e ▸ hk)),pY.pX,pY.nC,pY.sub,λk hk=>by have:=pY.lt k hk;simpa [World.setCell] using this⟩
 have hX1 : ∀ v,ak (w0.setCell ⟨C,13,none⟩ (.int .i64 v)) w.heap.size #[.bool false,.int .i64 0,.slice none 0 0] 49:=λv=>hX0.far (p:=⟨C,13,none⟩) (by show w.heap.size ≠ C;omega) _
 have Uv : nT w C:=EO hP.blk (by intro v hv;simp at hv)
 have nu : ∀ v,Only (λk=>S k /\ nT w k) w (w0.setCell ⟨C,13,none⟩ (.int .i64 v)):=λv=>(Only.of_below (S:=λk=>S k /\ nT w k) hB0).setCell (p:=⟨C,13,none⟩) (.inl ⟨hP.sub.1,Uv⟩) _
 obtain ⟨xY,hfr⟩ : ∃ v,wrap64 (fr + 1) = v:=⟨_,rfl⟩
 obtain ⟨w1,hw1⟩ : ∃ u,w0.setCell ⟨C,13,none⟩ (.int .i64 xY) = u:=⟨_,rfl⟩
 have hP1:=hset xY;have zP:=hX1 xY;have zq:=nu xY
 rw [hw1] at hP1 zP zq
 have cf:=Nb K c hc x.cs loc SK w1 hP1.ck hL;have c12:=hP1.blk.cell 12;simp at c12;have f0:=zP.free 0;have f1:=zP.free 1;have f2:=zP.free 2;have x0:=zP.cell 0;have x1:=zP.cell 1;have x2:=zP.cell 2;simp at x0 x1 x2
 have hNS : ¬ S w.heap.size:=λh=>by have:=hP.lt _ h;omega
 have fQ:=jy (v0:=.bool false) (v1:=.int .i64 0) (v2:=.slice none 0 0) zP
 obtain ⟨u3,hu3⟩ : ∃ u,((w1.setCell ⟨w.heap.size,0,none⟩ (.bool false)).setCell ⟨w.heap.size,1,none⟩ (.int .i64 0)).setCell ⟨w.heap.size,2,none⟩ (.slice none 0 0) = u:=⟨_,rfl⟩
 have Ju : Only (λk=>k = w.heap.size) w1 u3:=by rw [← hu3];exact rE (Only.refl _ _) (.inl rfl)
 rw [hu3] at fQ
 have HF : Hid (gQ u3 C c x S /\ Only (λk=>S k /\ nT w k) w u3):=ajK ⟨gQ.only ⟨T,R,K,l,xY,SS,SK,hP1,hK⟩ Ju (λk hk e=>hNS (e ▸ hk)),zq.bM Ju (λi hi e=>by omega)⟩
 have g0:=fQ.cell 0;have g1:=fQ.cell 1;have g2:=fQ.cell 2;simp at g0 g1 g2
 have HNS : Hid (¬ S w.heap.size):=ajK (λh=>by have:=hP.lt _ h;omega)
 clear Uv hP pY hC0 hset hX1 nu hP1 zP zq hK hX0 hB0 L6 fQ Ju hNS hL abJ
 go_enter Tryz.func15,Tryz.ntmps15
 go_wp2_with fail
 refine cf.mono ?_
 rintro e w2 ⟨rfl,rfl⟩
 clear cf
 go_wp2_with fail
 exact bodyPost_ret (v:=.agg #[.bool false,.int .i64 0,.slice none 0 0]) (by simp [results,Tryz.results15,go_sem,g0,g1,g2]) rfl ⟨rfl,HF.out⟩
set_option maxHeartbeats 4000000 in
theorem qd (C : Nat) (c : aP) (Ou : c.Ok) (hc : fE c = 0) (x : iU) (S : Nat -> Prop) (loc : Int) (hloc : aA loc) (w : World) (h : gQ w C c x S) (hL : x.cs.L ≠ []) :
 Calls Tryz.prog 15 #[.pointer (some ⟨C,0,none⟩),.int .i64 loc] w λe w'=>∃ s cp,e = .returned (.agg #[.bool true,.int .i64 (jo c x.cs loc).au,.slice s (tF c (jo c x.cs loc).au x.ss) cp]) /\ dP w' s (tF c (jo c x.cs loc).au x.ss) (zk c (jo c x.cs loc).au x.ss) /\ gQ w' C c { x with cs:=jo c x.cs loc } S /\ Only (λk=>S k /\ nT w k) w w':=by
 obtain ⟨T,R,K,l,fr,SS,SK,hP,hK⟩:=h
 have Hu:=abu hK.cs hloc (c:=c)
 obtain ⟨w0,hw0⟩ : ∃ w0,w.alloc (.cells #[.bool false,.int .i64 0,.slice none 0 0] 49) = w0:=⟨_,rfl⟩
 have hB0 : Below w.heap.size w w0:=by rw [← hw0];exact ajL
 have hX0 : ak w0 w.heap.size #[.bool false,.int .i64 0,.slice none 0 0] 49:=by rw [← hw0];exact ak.new _ _ _
 have L6:=hP.lt C hP.sub.1
 have pY:=hP.only (Only.of_below (S:=λ_=>False) hB0) (λ_ _ h=>h)
 have hC0:=pY.blk;have c13:=hC0.cell 13;have f13:=hC0.free 13;simp at c13
 have hset : ∀ v,LK (w0.setCell ⟨C,13,none⟩ (.int .i64 v)) C c T R K l x.floor x.gone x.cs v S SS SK:=λv=>by
  have ho : Only (λk=>k = C) w0 (w0.setCell ⟨C,13,none⟩ (.int .i64 v)):=Only.setCell (S:=λk=>k = C) (p:=⟨C,13,none⟩) (Only.refl _ _) (.inl rfl) _
  exact ⟨by simpa using hC0.set 13 (.int .i64 v),pY.st.only ho (λk hk e=>pY.nC.1 (e ▸ hk)),pY.room,pY.ck.only ho (λk hk e=>pY.nC.2 (e ▸ hk)),pY.pX,pY.nC,pY.sub,λk hk=>by have:=pY.lt k hk;simpa [World.setCell] using this⟩
 have hX1 : ∀ v,ak (w0.setCell ⟨C,13,none⟩ (.int .i64 v)) w.heap.size #[.bool false,.int .i64 0,.slice none 0 0] 49:=λv=>hX0.far (p:=⟨C,13,none⟩) (by show w.heap.size ≠ C;omega) _
 have Uv : nT w C:=EO hP.blk (by intro v hv;simp at hv)
 have nu : ∀ v,Only (λk=>S k /\ nT w k) w (w0.setCell ⟨C,13,none⟩ (.int .i64 v)):=λv=>(Only.of_below (S:=λk=>S k /\ nT w k) hB0).setCell (p:=⟨C,13,none⟩) (.inl ⟨hP.sub.1,Uv⟩) _
 obtain ⟨xY,hfr⟩ : ∃ v,wrap64 (fr + 1) = v:=⟨_,rfl⟩
 obtain ⟨w1,hw1⟩ : ∃ u,w0.setCell ⟨C,13,none⟩ (.int .i64 xY) = u:=⟨_,rfl⟩
 have hP1:=hset xY;have zP:=hX1 xY;have zq:=nu xY
 rw [hw1] at hP1 zP zq
 have vV:=ajK hP1;have gN:=ajK zP;have pq:=ajK zq;have HK:=ajK hK;have WK:=ajK Hu;have cf:=WQ K c hc x.cs hK.cs loc hloc SK w1 hP1.ck hL
 have hsame : ∀ k,k < w.heap.size -> k ≠ C -> w1.heap[k]? = w.heap[k]?:=λk hk hne=>by
  rw [← hw1,Below.heap_setCell _ _ _ _ (show k ≠ (⟨C,13,none⟩ : Addr).block from hne)]
  exact hB0.block k hk
 have mR:=ajK hsame;clear hsame;have HAT:=ajK Hu.au;have c12:=hP1.blk.cell 12;simp at c12;have HCl:=ajK L6
 have HNS : Hid (¬ S w.heap.size):=ajK (λh=>by have:=hP.lt _ h;omega)
 clear Uv hP pY hC0 hset hX1 nu hP1 zP zq hK Hu hX0 hB0 L6
 generalize hfm : jo c x.cs loc = cs2 at *
 have HT : Hid (∀ s ∈ x.ss,aA s.time):=ajK (λs hs=>by have:=(gq.1 (HK.out.Ov s hs)).time;exact ⟨by omega,by omega⟩)
 have psh:=λa cap ks hm hl W h=>Zi c Ou cs2.au HAT.out a cap ks x.ss hm HT.out hl W h
 generalize tF c cs2.au x.ss = n0 at *
 generalize zk c cs2.au x.ss = P0 at *
 generalize abH c cs2.au x.ss = E0 at *
 have HPS:=ajK psh
 unfold aT at HPS
 clear psh
 go_enter Tryz.func15,Tryz.ntmps15
 go_wp2_with fail
 clear hw0 hw1 c13 f13 hfr
 refine cf.mono ?_
 rintro e w2 ⟨rfl,Uo,hO2⟩
 have Qo : Only SK w1 w2:=hO2.weaken (λk _ hk=>hk.1)
 have hP2 : LK w2 C c T R K l x.floor x.gone cs2 xY S SS SK:=⟨Qo.blk vV.out.blk vV.out.nC.2,vV.out.st.only Qo vV.out.pX,vV.out.room,Uo,vV.out.pX,vV.out.nC,vV.out.sub,λk hk=>Nat.lt_of_lt_of_le (vV.out.lt k hk) hO2.size⟩
 have zA : Hid (gQ w2 C c { x with cs:=cs2 } S):=ajK ⟨T,R,K,l,xY,SS,SK,hP2,HK.out.map,HK.out.key,HK.out.Ov,WK.out⟩
 have iM:=ajK (Qo.blk gN.out (λh=>HNS.out (vV.out.sub.2.2 _ h)))
 have bQ : Hid (Only (λk=>S k /\ nT w k) w w2):=ajK (pq.out.bM hO2 (λi hi hk=>⟨vV.out.sub.2.2 i hk.1,λo v hh=>by
  have hne : i ≠ C:=λe=>vV.out.nC.2 (e ▸ hk.1)
  refine hk.2 o v ?_
  simp only [World.cell?] at hh ⊢
  rw [mR.out i hi hne];exact hh⟩))
 obtain ⟨c0,c1,c2,c3,c4,c5,c6,c7,c8,c9,c10⟩ : w2.cell? ⟨C,0,none⟩ = some (.int .i64 c.ring) /\ w2.cell? ⟨C,1,none⟩ = some (.int .i64 c.window) /\ w2.cell? ⟨C,2,none⟩ = some (.int .i64 c.base) /\ w2.cell? ⟨C,3,none⟩ = some (.int .i64 c.gain) /\ w2.cell? ⟨C,4,none⟩ = some (.int .i64 c.least) /\ w2.cell? ⟨C,5,none⟩ = some (.int .i64 c.most) /\ w2.cell? ⟨C,6,none⟩ = some (.int .i64 c.aD) /\ w2.cell? ⟨C,7,none⟩ = some (.int .i64 c.num) /\ w2.cell? ⟨C,8,none⟩ = some (.int .i64 c.den) /\ w2.cell? ⟨C,9,none⟩ = some (.int .i64 c.extra) /\ w2.cell? ⟨C,10,none⟩ = some (.bool c.aC):=by
  have h:=hP2.blk;have e0:=h.cell 0;have e1:=h.cell 1;have e2:=h.cell 2;have e3:=h.cell 3;have e4:=h.cell 4;have e5:=h.cell 5;have e6:=h.cell 6;have e7:=h.cell 7;have e8:=h.cell 8;have e9:=h.cell 9;have e10:=h.cell 10;simp at e0 e1 e2 e3 e4 e5 e6 e7 e8 e9 e10
  exact ⟨e0,e1,e2,e3,e4,e5,e6,e7,e8,e9,e10⟩
 have afY : Hid (x.ss.length <= 64):=ajK zA.out.ok.2.2
 clear Uo hO2 Qo cf c12 hP2
 have HI : Hid (LZ w2 x.ss n0 E0 P0 [] w2.drew):=ajK (show aN w2 w2.drew from below_drewN ajM 1)
 go_wp2_with fail
 apply xH 12 [6,7,8,9,11] (LZ w2 x.ss n0 E0 P0)
 case hm=>kernel_rfl
 case hB=>kernel_rfl
 case hp=>kernel_rfl
 case hI=>exact HI.out
 simp only [List.take_succ_cons,List.take_zero,List.drop_succ_cons,List.drop_zero]
 repeat (apply bR;(next=>rfl);(next=>(intro b W hW K hK;have hb:=LZ.calm hW;have y0:=hb.cell c0;have y1:=hb.cell c1;have y2:=hb.cell c2;have y3:=hb.cell c3;have y4:=hb.cell c4;have y5:=hb.cell c5;have y6:=hb.cell c6;have y7:=hb.cell c7;have y8:=hb.cell c8;have y9:=hb.cell c9;have Iy:=hb.cell c10;go_simp;first | exact ⟨hW,hK⟩ | exact hK));(next=>exact ⟨_,HI.out⟩);(try go_simp))
 apply bU (s:=λ_=>True)
 case hk=>rfl
 case hne=>exact ⟨undef,trivial⟩
 case hw=>rfl
 case h =>
  intro W hW
  have hb : Below w2.heap.size w2 W:=hW
  have sn:=LW C c { x with cs:=cs2 } S W (zA.out.below hb);clear hW
  go_simp
  refine sn.mono ?_
  rintro e w3 ⟨v,ks,rfl,hO,hm,hB⟩
  first | refine ⟨_,rfl,?_⟩ | refine ⟨_,rfl,trivial,?_⟩
  exact ⟨hb.trans (hB.mono hb.size),ks,⟨WS hO.row hb.size,λk hk=>⟨aM.base (hO.ents k hk).1 hb.size,(hO.ents k hk).2⟩⟩,hm⟩
 intro v1 _
 apply bU (s:=λu=>∃ s cp,u = .tuple #[.slice s n0 cp,.int .i64 E0])
 case hk=>rfl
 case hne=>exact ⟨_,none,0,rfl⟩
 case hw=>rfl
 case h =>
  intro W hW
  obtain ⟨hb,ks,hO,hm⟩:=hW
  obtain ⟨a,cp,rfl,hS,_,_⟩:=hO.sns
  have hl : ks.length <= 1000:=by have:=congrArg List.length hm;rw [List.length_map] at this;have:=afY.out;omega
  have ps:=HPS.out a cp ks hm hl W hS
  have L8 : Hid (aN w2 W):=ajK hb
  clear hb hO hS hm hl
  unfold rQ at ps
  go_simp
  refine ps.mono ?_
  rintro e w3 ⟨s,cp2,rfl,X0,hB⟩
  refine ⟨_,rfl,by first | exact ⟨s,cp2,rfl⟩ | simp,?_⟩
  exact ⟨Below.trans L8.out (hB.mono (Below.size L8.out)),s,cp2,rfl,X0⟩
 intro v2 hv2
 obtain ⟨s2,cp2,rfl⟩:=hv2
 try go_simp
 apply bU (s:=λu=>∃ s cp,u = .tuple #[.slice s n0 cp,.int .i64 E0])
 case hk=>rfl
 case hne=>exact ⟨_,none,0,rfl⟩
 case hw=>rfl
 case h =>
  intro W hW
  have HW:=ajK hW;clear hW
  go_simp
  first | exact HW.out | exact ⟨⟨_,_,rfl⟩,HW.out⟩ | exact ⟨by simp,HW.out⟩
 intro v3 hv3
 obtain ⟨s3,cp3,rfl⟩:=hv3
 try go_simp
 apply bU (s:=λu=>∃ s cp,u = .slice s n0 cp)
 case hk=>rfl
 case hne=>exact ⟨_,none,0,rfl⟩
 case hw=>rfl
 case h =>
  intro W hW
  obtain ⟨hb,s',cp',he,hp⟩:=hW
  have HW : Hid (LZ w2 x.ss n0 E0 P0 [undef,undef,undef,.slice s3 n0 cp3] W):=ajK (by
   injection he with he
   have h2:=congrArg (λq : Array Value=>q[0]?) he
   simp at h2
   obtain ⟨h3,h4⟩:=h2
   exact ⟨hb,s3,cp3,rfl,by rw [h3];exact hp⟩)
  clear hb he hp
  go_simp
  first | exact HW.out | exact ⟨⟨_,_,rfl⟩,HW.out⟩ | exact ⟨by simp,HW.out⟩
 intro v4 hv4
 obtain ⟨s4,cp4,rfl⟩:=hv4
 try go_simp
 repeat (apply bR;(next=>rfl);(next=>(intro b W hW K hK;have hb:=LZ.calm hW;have y0:=hb.cell c0;have y1:=hb.cell c1;have y2:=hb.cell c2;have y3:=hb.cell c3;have y4:=hb.cell c4;have y5:=hb.cell c5;have y6:=hb.cell c6;have y7:=hb.cell c7;have y8:=hb.cell c8;have y9:=hb.cell c9;have Iy:=hb.cell c10;go_simp;first | exact ⟨hW,hK⟩ | exact hK));(next=>exact ⟨_,HI.out⟩);(try go_simp))
 apply bU (s:=λu=>∃ s cp,u = .slice s n0 cp)
 case hk=>rfl
 case hne=>exact ⟨_,none,0,rfl⟩
 case hw=>rfl
 case h =>
  intro W hW
  have HW:=ajK hW;clear hW
  go_simp
  first | exact HW.out | exact ⟨⟨_,_,rfl⟩,HW.out⟩ | exact ⟨by simp,HW.out⟩
 intro v5 hv5
 refine jR ?_
 intro W hW
 obtain ⟨hb,s5,X3,rfl,X0⟩:=hW
 have bN : Below w2.heap.size w2 W:=hb
 have hX:=iM.out.below bN iM.out.lt;have f0:=hX.free 0;have f1:=hX.free 1;have f2:=hX.free 2;have x0:=hX.cell 0;have x1:=hX.cell 1;have x2:=hX.cell 2;simp at x0 x1 x2;have fQ:=jy (v0:=.bool true) (v1:=.int .i64 cs2.au) (v2:=.slice s5 n0 X3) hX
 obtain ⟨u3,hu3⟩ : ∃ u,((W.setCell ⟨w.heap.size,0,none⟩ (.bool true)).setCell ⟨w.heap.size,1,none⟩ (.int .i64 cs2.au)).setCell ⟨w.heap.size,2,none⟩ (.slice s5 n0 X3) = u:=⟨_,rfl⟩
 have Ju : Only (λk=>k = w.heap.size) W u3:=by rw [← hu3];exact rE (Only.refl _ _) (.inl rfl)
 rw [hu3] at fQ
 have HF : Hid (dP u3 s5 n0 P0 /\ gQ u3 C c { x with cs:=cs2 } S /\ Only (λk=>S k /\ nT w k) w u3):=ajK ⟨Uu X0 hX rfl Ju,(zA.out.below bN).only Ju (λk hk e=>HNS.out (e ▸ hk)),(bQ.out.fK bN).bM Ju (λi hi e=>by omega)⟩
 have g0:=fQ.cell 0;have g1:=fQ.cell 1;have g2:=fQ.cell 2;simp at g0 g1 g2;clear hb X0 bN hX fQ Ju c0 c1 c2 c3 c4 c5 c6 c7 c8 c9 c10
 go_wp2_with fail
 exact bodyPost_ret (v:=.agg #[.bool true,.int .i64 cs2.au,.slice s5 n0 X3]) (by simp [results,Tryz.results15,go_sem,g0,g1,g2]) rfl ⟨s5,X3,rfl,HF.out⟩
end Go.Proofs.YtklkooeimkedgaaGreat
namespace Go.Proofs.YtklkooeimkedgaaGreat
open Go.RowKit
def jN (x : ay) : Rec:=⟨0,x.id,x.px,x.py,x.pz,x.vx,x.vy,x.vz,x.aG⟩
theorem Gl : ∀ (es : List ay) (out : List Rec),(∀ e ∈ es,e.gen = 0) -> dL [] out es = some ([],out ++ es.map jN)
 | [],out,_=>by simp [dL]
 | x :: es,out,h=>by
   have h1 : lH [] out x = some ([],out ++ [jN x]):=by
    unfold lH
    simp only [aI,List.find?_nil]
    rw [if_pos (h x (List.mem_cons_self ..))]
    rfl
   rw [dL,h1]
   simp only
   rw [Gl es _ (λe he=>h e (List.mem_cons_of_mem _ he))]
   simp
theorem yO : ∀ (es : List ay) (out : List Rec),¬ (∀ e ∈ es,e.gen = 0) -> dL [] out es = none
 | [],out,h=>absurd (by simp) h
 | x :: es,out,h=>by
   by_cases hx : x.gen = 0
   ·have h1 : lH [] out x = some ([],out ++ [jN x]):=by
     unfold lH
     simp only [aI,List.find?_nil]
     rw [if_pos hx]
     rfl
    rw [dL,h1]
    exact yO es _ (λhh=>h (λe he=>by
     rcases List.mem_cons.1 he with rfl | he
     ·exact hx
     ·exact hh e he))
   ·have h1 : lH [] out x = none:=by
     unfold lH
     simp only [aI,List.find?_nil]
     rw [if_neg hx]
    rw [dL,h1]
theorem WT (es : List ay) : (es.map jN).map (·.id) = es.map (·.id):=by rw [List.map_map];rfl
theorem Qp {es : List ay} (h : es.Pairwise (λa b=>a.id < b.id)) : dY ([],es.map jN) = es.map jN:=by
 unfold dY
 simp only [List.map_nil,List.append_nil]
 refine (Ol (List.Perm.refl _) ?_ ?_).symm
 ·exact List.pairwise_map.2 (h.imp (λh=>by show _ <= _;exact Int.le_of_lt h))
 ·rw [WT];exact pV h
theorem EP {s : Sn} (h : lX s) (hg : ∀ e ∈ s.ents,e.gen = 0) : dN s = (⟨s.tick,s.time,-1,s.ents.map jN⟩,0):=by
 unfold dN
 rw [if_neg (by rw [gq.2 h];simp),Gl _ _ hg]
 simp only [List.nil_append]
 rw [Qp h.up]
theorem Gm : ∀ (es l : List ay),(∀ e ∈ es,e.gen = 0) -> ((l ++ es).map (·.id)).Nodup -> kr l (es.map jN) = some (l ++ es)
 | [],l,_,_=>by simp [kr]
 | x :: es,l,hg,hn=>by
   have hx : aI l x.id = none:=by
    unfold aI
    rw [List.find?_eq_none]
    intro e he hh
    have heq : e.id = x.id:=by simpa using hh
    rw [List.map_append,List.map_cons] at hn
    exact (List.nodup_append.1 hn).2.2 e.id (List.mem_map_of_mem he) x.id (List.mem_cons_self ..) heq
   have h1 : iP l (jN x) = some (l ++ [x]):=by
    have hp : eB l ⟨x.id,x.px,x.py,x.pz,x.vx,x.vy,x.vz,x.aG,0⟩ = l ++ [x]:=by
     unfold eB
     simp only [hx]
     have:=hg x (List.mem_cons_self ..)
     obtain ⟨a,b,c,d,e,f,g,i,j⟩:=x
     simp only at this
     subst this
     simp
    unfold iP
    show (match aI l x.id with | some y=>_ | none=>_) = _
    rw [hx]
    simp only [jN]
    rw [if_pos trivial,hp]
   rw [List.map_cons,kr,h1]
   simp only
   rw [Gm es (l ++ [x]) (λe he=>hg e (List.mem_cons_of_mem _ he)) (by simpa using hn)]
   simp
theorem Uw {es : List ay} (h : es.Pairwise (λa b=>a.id < b.id)) : qN es = es :=
 (He (List.Perm.refl _) (h.imp (λh=>Int.le_of_lt h)) (pV h)).symm
def gG (s : Sn) : List Int:=if eP (dN s).1 = 0 then jQ (dN s).1 else []
structure gu (s : Sn) : Prop where
 good : lX s
 gen : ∀ e ∈ s.ents,e.gen = 0
 ok : ∀ e ∈ s.ents,e.Ok
 wr : eP (dN s).1 = 0
theorem gu.rd {s : Sn} (h : gu s) : bA (gG s) = (⟨s.tick,s.time,-1,s.ents.map jN⟩,0):=by
 have hw:=h.wr
 unfold gG
 rw [if_pos hw]
 rw [EP h.good h.gen] at hw ⊢
 refine YL hw (λr hr=>?_)
 obtain ⟨e,he,rfl⟩:=List.mem_map.1 hr
 have ho:=h.ok e he
 exact ⟨⟨aU,ho.id,ho.px,ho.py,ho.pz,ho.vx,ho.vy,ho.vz,ho.aG⟩,by simp [jN]⟩
theorem gu.ap {s : Sn} (h : gu s) (a : Sn) : jw a ⟨s.tick,s.time,-1,s.ents.map jN⟩ = (s,0):=by
 have hw:=h.wr
 rw [EP h.good h.gen] at hw
 have hb : cO ⟨s.tick,s.time,-1,s.ents.map jN⟩ = 0:=by
  unfold eP at hw
  split at hw
  ·rename_i hh;exact absurd hw hh
  ·rename_i hh;exact Decidable.of_not_not hh
 unfold jw
 rw [if_neg (by simpa using hb),if_neg (by simp)]
 unfold fT
 simp only
 rw [Gm s.ents [] h.gen (by simpa using pV h.good.up)]
 simp only [List.nil_append]
 rw [if_neg (by have:=h.good.len;omega),Uw h.good.up]
theorem gu.snap {s : Sn} (h : gu s) (most : Int) (r : Rg) : fM most r (gG s) =
 if fF (r.ss.map gy) s.tick = true then (fu,12) else if gP (r.ss.map gy) most r.floor r.gone s.tick = true then (fu,13) else (s,if fO (r.ss.map gy) s.tick s.time = false then 16 else 0):=by
 unfold fM eu
 rw [h.rd]
 simp only [ne_eq,not_true_eq_false,if_false]
 rw [h.ap]
 unfold qO
 by_cases h1 : fF (r.ss.map gy) s.tick = true
 ·simp [h1]
 ·by_cases h2 : gP (r.ss.map gy) most r.floor r.gone s.tick = true
  ·simp [h1,h2]
  ·simp [h1,h2]
theorem ER {ss : List Sn} {key : Int} (h : ∀ s ∈ ss,s.tick < key) : eD (ss.map gy) key = ss.length:=by
 have:=Lg (l:=ss.map gy) (key:=key) (λk hk=>by
  obtain ⟨s,hs,rfl⟩:=List.mem_map.1 hk
  exact h s hs)
 rwa [List.length_map] at this
theorem Av {ss : List Sn} {key : Int} (h : ∀ s ∈ ss,s.tick < key) : fF (ss.map gy) key = false :=
 V8 (λk hk=>by
  obtain ⟨s,hs,rfl⟩:=List.mem_map.1 hk
  exact h s hs)
theorem gu.WU {s : Sn} (h : gu s) {most : Int} {ss : List Sn} {floor : Int} (h1 : ∀ x ∈ ss,x.tick < s.tick) (h2 : ∀ x ∈ ss,x.time < s.time) (hl : (ss.length : Int) < most) : fM most ⟨ss,floor,false⟩ (gG s) = (s,0):=by
 rw [h.snap]
 have hu : dW (ss.map gy) s.tick = ss.length:=by unfold dW;rw [Av h1,ER h1];simp
 have hs : gP (ss.map gy) most floor false s.tick = false:=by
  unfold gP
  have : ¬ (ss.length : Int) = most:=by omega
  simp [this]
 have ht : fO (ss.map gy) s.tick s.time = true:=by
  unfold fO
  rw [hu]
  have a2 : eG (ss.map gy) (ss.length : Int) = none:=by
   unfold eG
   rw [if_neg (by omega)]
   exact List.getElem?_eq_none (by simp)
  rw [a2]
  simp only [sV]
  by_cases hn : ss.length = 0
  ·have a1 : eG (ss.map gy) ((ss.length : Int) - 1) = none:=by unfold eG;rw [if_pos (by omega)]
   rw [a1];simp [sV]
  ·have hi : ss.length - 1 < ss.length:=by omega
   have a1 : eG (ss.map gy) ((ss.length : Int) - 1) = some (gy ss[ss.length - 1]):=by
    unfold eG
    rw [if_neg (by omega),show ((ss.length : Int) - 1).toNat = ss.length - 1 by omega,List.getElem?_map,List.getElem?_eq_getElem hi];rfl
   rw [a1]
   have:=h2 _ (List.getElem_mem hi)
   simp [sV,om,gy,this]
 simp only
 rw [Av h1,hs,ht]
 simp
theorem Oz {c : aP} {x : iU} {s : Sn} (hc : fE c = 0) (h : gu s) (hg : x.gone = false) (h1 : ∀ y ∈ x.ss,y.tick < s.tick) (h2 : ∀ y ∈ x.ss,y.time < s.time) (hl : (x.ss.length : Int) < c.ring) (loc : Int) :
 uE c x (gG s) = 0 /\ LP c x (gG s) /\ lI c x loc (gG s) = ⟨x.ss ++ [s],x.floor,false,vU c x.cs (aQ loc s.time)⟩:=by
 have hs : fM c.ring x.rg (gG s) = (s,0):=by
  have:=h.WU (most:=c.ring) (ss:=x.ss) (floor:=x.floor) h1 h2 hl
  rw [← hg] at this
  exact this
 refine ⟨by unfold uE;rw [hs],tC hc (Int.le_of_lt hl),?_⟩
 unfold lI
 rw [hs,if_pos rfl]
 have hin : jk x.ss s = x.ss ++ [s]:=EF h1
 have hle : ((jk x.ss s).length : Int) <= c.ring:=by rw [hin];simp;omega
 unfold fV
 simp only [iU.rg]
 rw [if_pos hle,hin,hg]
theorem CX {tick time : Int} {e : ay} (h1 : 0 <= tick /\ tick <= 4294967295) (h2 : -2305843009213693952 <= time /\ time <= 2305843009213693952) (hi : 0 <= e.id /\ e.id <= 65535) (ho : e.Ok) (hg : e.gen = 0) : gu ⟨tick,time,[e]⟩:=by
 have good : lX ⟨tick,time,[e]⟩:=⟨h1,h2,by simp,λx hx=>by simp at hx;subst hx;exact hi,List.pairwise_singleton _ _⟩
 have gen : ∀ x ∈ (⟨tick,time,[e]⟩ : Sn).ents,x.gen = 0:=λx hx=>by simp at hx;subst hx;exact hg
 refine ⟨good,gen,λx hx=>by simp at hx;subst hx;exact ho,?_⟩
 rw [EP good gen]
 have hr : (jN e).Ok:=⟨aU,ho.id,ho.px,ho.py,ho.pz,ho.vx,ho.vy,ho.vz,ho.aG⟩
 have hw : gV (jN e) (-1) = 0:=by
  have hc : dG (jN e) = 0:=by
   unfold dG jN
   simp only
   rw [if_neg (by omega),if_neg (by omega),if_neg (by simp)]
  unfold gV
  rw [if_neg (by rw [hc];simp),if_neg (by omega),if_neg (by simp [jN];omega)]
 have hh : gZ tick time (-1) 1 = 0:=by
  unfold gZ
  rw [if_neg (by omega),if_neg (by omega),if_neg (by omega)]
 have hb : cO ⟨tick,time,-1,[jN e]⟩ = 0:=by
  unfold cO
  simp only [List.length_singleton]
  rw [if_neg (by simpa using hh)]
  unfold lG
  rw [if_neg (by rw [hw];simp)]
  rfl
 have hlen : (gM ⟨tick,time,-1,[jN e]⟩).length <= 124:=by
  unfold gM
  have a:=IE tick time (-1) 1 hh;have b:=FQ hr hw
  rw [List.length_append]
  simp only [List.length_singleton,iq,List.append_nil]
  omega
 simp only [List.map_cons,List.map_nil]
 unfold eP
 rw [if_neg (by rw [hb];simp),if_neg (by omega)]
end Go.Proofs.YtklkooeimkedgaaGreat
namespace Go.Proofs.YtklkooeimkedgaaGreat
open Go.RowKit
structure ain (ss : List Sn) : Prop where
 good : ∀ s ∈ ss,lX s
 time : ss.Pairwise (λa b=>a.time < b.time)
section
variable {ss : List Sn}
end
end Go.Proofs.YtklkooeimkedgaaGreat
namespace Go.Proofs.YtklkooeimkedgaaGreat
open Go.RowKit
def Aw (ss : List Sn) : Prop:=ss.Pairwise (λa b=>a.tick < b.tick)
theorem Qq {ss : List Sn} (h : Aw ss) : qW (ss.map gy):=List.pairwise_map.2 h
structure aiB (own : List Sn) : Prop where
 tell : ∀ s ∈ own,gu s
 up : own.Pairwise (λa b=>a.tick < b.tick /\ a.time < b.time)
 len : own.length <= 8
theorem Gn {s : Sn} (h : (dN s).2 = 0) : lX s /\ ∀ e ∈ s.ents,e.gen = 0:=by
 unfold dN at h
 split at h
 ·rename_i hn;exact absurd h hn
 ·rename_i hn
  refine ⟨gq.1 (Decidable.of_not_not hn),?_⟩
  by_cases hg : ∀ e ∈ s.ents,e.gen = 0
  ·exact hg
  ·rw [yO _ _ hg] at h
   cases h
theorem Ej {s : Sn} (h1 : (dN s).2 = 0) (h2 : eP (dN s).1 = 0) (hok : ∀ e ∈ s.ents,e.Ok) : gu s:=⟨(Gn h1).1,(Gn h1).2,hok,h2⟩
structure aiC (own : List Sn) : Prop where
 tell : ∀ s ∈ own,gu s
 up : own.Pairwise (λa b=>a.tick < b.tick /\ a.time < b.time)
theorem Zj {c : aP} {au : Int} {ss : List Sn} (h : ∀ s ∈ ss,s.ents.length <= 64) : tF c au ss <= 64:=by
 unfold tF Gj
 split
 ·unfold Oy
  simp only [List.getD]
  cases hx : ss[dB (CV ss) au ss.length]? with
  | none=>simp [fu]
  | some s=>exact h s (List.mem_of_getElem? hx)
 ·omega
end Go.Proofs.YtklkooeimkedgaaGreat
namespace Go.Proofs.YtklkooeimkedgaaGreat
open Go.RowKit
set_option maxRecDepth 100000
theorem Zl : (Tryz.prog.info? 2).map (λi=>(i.zero,i.size,i.bytes)) = some (some (.int .i64 0),1,8):=by kernel_rfl
theorem Ng {w : World} {base : Nat} {v : Value} {ks : List aH} (hr : w.ownsRow base 36 3 v ks.length (ks.flatMap Ar)) {i : Nat} {x : aH} (hx : ks[i]? = some x) :
 ∃ g c,v = .slice (some ⟨g,0,none⟩) ks.length c /\ g < w.heap.size /\ w.cell? ⟨g,i * 3,none⟩ = some (.int .i64 x.sn.tick) /\ w.cell? ⟨g,i * 3 + 1,none⟩ = some (.int .i64 x.sn.time) /\ w.cell? ⟨g,i * 3 + 2,none⟩ = some (fZ x):=by
 have hi : i < ks.length:=(List.getElem?_eq_some_iff.1 hx).1
 have hc:=λg hg=>hr.cells (g:=g) hg
 obtain ⟨_,⟨rfl,hn⟩ | ⟨g,cap,cur,rfl,a,b,c,d⟩⟩:=hr
 ·omega
 ·have hf:=LV ks i x hx
  have ha : ∀ o,(⟨g,0,none⟩ : Addr).add o = ⟨g,o,none⟩:=λo=>by unfold Addr.add;split <;> simp_all
  have cell : ∀ j u,j < 3 -> (Ar x)[j]? = some u -> w.cell? ⟨g,i * 3 + j,none⟩ = some u:=λj u hj hu=>by
   rw [← ha];exact hc g rfl _ _ (by rw [hf j hj];exact hu)
  exact ⟨g,cap,rfl,(Array.getElem?_eq_some_iff.1 b).1,cell 0 _ (by decide) rfl,cell 1 _ (by decide) rfl,cell 2 _ (by decide) rfl⟩
theorem kR.cells {w : World} {base : Nat} {v : Value} {ks : List aH} (h : kR w base v ks) {i : Nat} {x : aH} (hx : ks[i]? = some x) :
 ∃ g c,v = .slice (some ⟨g,0,none⟩) ks.length c /\ g < w.heap.size /\ w.cell? ⟨g,i * 3,none⟩ = some (.int .i64 x.sn.tick) /\ w.cell? ⟨g,i * 3 + 1,none⟩ = some (.int .i64 x.sn.time) /\ w.cell? ⟨g,i * 3 + 2,none⟩ = some (fZ x):=Ng h.row hx
theorem UC {w : World} {base base' k n : Nat} {e : TypeId} {v : Value} {xs : List Value} (h : w.ownsRow base e k v n xs) (hb : base' <= base) : w.ownsRow base' e k v n xs:=by
 obtain ⟨h1,h2⟩:=h
 refine ⟨h1,?_⟩
 rcases h2 with h2 | ⟨g,cap,cur,rfl,a,b⟩
 ·exact .inl h2
 ·exact .inr ⟨g,cap,cur,rfl,Nat.le_trans hb a,b⟩
def tkV (s : Sn) : Value:=.int .i64 s.tick
def uF (w : World) (base : Nat) (v : Value) (ss : List Sn) : Prop:=w.ownsRow base 2 1 v ss.length (ss.map tkV)
theorem uF.below {w w' : World} {base : Nat} {v : Value} {ss : List Sn} (h : uF w base v ss) (hb : Below w.heap.size w w') : uF w' base v ss:=pQ h (Only.of_below (S:=λ_=>False) hb) (λ_ _ h=>h)
theorem uF.base {w : World} {base base' : Nat} {v : Value} {ss : List Sn} (h : uF w base v ss) (hb : base' <= base) : uF w base' v ss:=UC h hb
theorem uF.cells {w : World} {base : Nat} {v : Value} {ss : List Sn} (h : uF w base v ss) : ∃ a c,v = .slice a ss.length c /\ ∀ (i : Nat) (s : Sn),ss[i]? = some s -> ∃ g,a = some ⟨g,0,none⟩ /\ g < w.heap.size /\ w.cell? ⟨g,i,none⟩ = some (.int .i64 s.tick):=by
 have hc:=λg hg=>World.ownsRow.cells h (g:=g) hg
 obtain ⟨_,⟨rfl,hn⟩ | ⟨g,cap,cur,rfl,a,b,c,d⟩⟩:=h
 ·refine ⟨none,0,by rw [hn],λi s hs=>?_⟩
  have:=(List.getElem?_eq_some_iff.1 hs).1
  omega
 ·refine ⟨_,cap,rfl,λi s hs=>⟨g,rfl,(Array.getElem?_eq_some_iff.1 b).1,?_⟩⟩
  have ha : (⟨g,0,none⟩ : Addr).add i = ⟨g,i,none⟩:=by unfold Addr.add;split <;> simp_all
  rw [← ha]
  exact hc g rfl i _ (by rw [List.getElem?_map,hs];rfl)
set_option maxHeartbeats 2000000 in
theorem Mc (C : Nat) (c : aP) (x : iU) (S : Nat -> Prop) (w : World) (h : gQ w C c x S) :
 Calls Tryz.prog 22 #[.pointer (some ⟨C,0,none⟩)] w λe w'=>∃ v,e = .returned v /\ uF w' w.heap.size v x.ss /\ Below w.heap.size w w':=by
 have sn:=LW C c x S w h;have h64:=h.ok.2.2;clear h
 go_enter Tryz.func22,Tryz.ntmps22
 go_wp2_with fail
 refine sn.mono ?_
 rintro e w1 ⟨v,ks,rfl,hO,hm,hB⟩
 clear sn
 have hkl : ks.length = x.ss.length:=by rw [← hm,List.length_map]
 have HM:=ajK hm;have XZ:=ajK hkl;have HB:=ajK hB;have HO:=ajK hO;have H64:=ajK h64
 obtain ⟨a,cc,rfl,_,_,_⟩:=hO.sns
 have hn : ks.length <= 64:=by omega
 clear hO hB hm h64 hkl
 go_wp2_with fail
 go_loopw [3,11] (λv i wr=>∃ (k : Nat) (u : Value),k <= ks.length /\ i = .int .i64 k /\ u = v /\ uF wr w1.heap.size u (x.ss.take k) /\ Below w1.heap.size w1 wr) (λ_ i _=>ks.length - (intOf i).toNat)
 case atStart=>exact ⟨0,_,Nat.zero_le _,rfl,rfl,World.ownsRow_nil _ _ _ _,Below.refl _ _⟩
 case round =>
  obtain ⟨k,v,hk,rfl,rfl,hT,hb⟩:=hrel
  by_cases hlt : k < ks.length
  ·have hlt' : (k : Int) < ks.length:=by omega
   obtain ⟨y,hy⟩ : ∃ y,ks[k]? = some y:=⟨_,List.getElem?_eq_getElem hlt⟩
   obtain ⟨g,c',e,hg,c0,c1,c2⟩:=HO.out.cells hy
   injection e with e1 e2 e3
   subst e1 e3
   have HY : Hid (x.ss[k]? = some y.sn):=ajK (by rw [← HM.out,List.getElem?_map,hy];rfl)
   have d0:=(hb.cell (p:=⟨g,k * 3,none⟩) hg).trans c0;have d1:=(hb.cell (p:=⟨g,k * 3 + 1,none⟩) hg).trans c1;have d2:=(hb.cell (p:=⟨g,k * 3 + 2,none⟩) hg).trans c2;have fD:=ajK hlt;have HT:=ajK hT;have BQ:=ajK hb
   obtain ⟨yk,⟨tk,tm,es⟩,ya,yc⟩:=y
   simp only at *
   obtain ⟨u1,hu1⟩ : ∃ u,wr.alloc (.cells #[.int .i64 tk,.int .i64 tm,.slice ya es.length yc] 36) = u:=⟨_,rfl⟩
   have hb1 : Below wr.heap.size wr u1:=by rw [← hu1];exact ajL
   have hX1 : ak u1 wr.heap.size #[.int .i64 tk,.int .i64 tm,.slice ya es.length yc] 36:=by rw [← hu1];exact ak.new _ _ _
   have x0:=hX1.cell 0;simp at x0
   obtain ⟨u2,hu2⟩ : ∃ u,u1.alloc (.cells #[.int .i64 tk] 2) = u:=⟨_,rfl⟩
   have hb2 : Below u1.heap.size u1 u2:=by rw [← hu2];exact ajL
   have iM : Hid (ak u2 u1.heap.size #[.int .i64 tk] 2):=ajK (by rw [← hu2];exact ak.new _ _ _)
   have rU : Below wr.heap.size wr u2:=hb1.trans (hb2.mono hb1.size)
   have HT2:=ajK (hT.below rU);have HB2:=ajK (hb.trans (rU.mono hb.size))
   have htl : (x.ss.take k).length = k:=by rw [List.length_take,← XZ.out];omega
   have HTL:=ajK htl;clear hT hb hb1 hb2 rU c0 c1 c2 hX1 hy htl
   go_wp2_with (at_builtin;refine qC _ rfl (.tmp 15) (.tmp 18) 63 2 rfl w1.heap.size (.int .i64 0) 1 8 Tryz.underlying63 Zl rfl (by decide) _ _ _ rfl HT2.out _ _ rfl iM.out rfl (by intro u hu;simp at hu;subst hu;rfl) (by have:=HTL.out;unfold maxLen;omega) (by have:=HTL.out;omega) HB2.out.size ?_)
   intro v' w' hr hg'
   have HF : Hid (uF w' w1.heap.size v' (x.ss.take (k + 1)) /\ Below w1.heap.size w1 w'):=ajK ⟨by
    have e1 : x.ss.take (k + 1) = x.ss.take k ++ [⟨tk,tm,es⟩]:=by rw [List.take_add_one,HY.out];rfl
    unfold uF
    rw [e1,List.map_append,List.length_append,List.map_take]
    rw [List.length_take]
    exact hr,HB2.out.grown hg' HB2.out.size (λj e=>(World.ownsRow.lt HT2.out j e).1)⟩
   have hw : wrap64 ((k : Int) + 1) = (k : Int) + 1:=by unfold wrap64;omega
   clear hr hg'
   go_wp2
   go_roundw
   case rel=>exact ⟨k + 1,_,fD.out,by go_num,rfl,HF.out.1,HF.out.2⟩
   case measure=>show ks.length - ((k : Int) + 1).toNat < ks.length - (k : Int).toNat;have h1:=fD.out;omega
  ·obtain rfl : k = ks.length:=by omega
   have HF : Hid (uF wr w.heap.size v x.ss /\ Below w.heap.size w wr):=ajK ⟨by
    rw [XZ.out,List.take_length] at hT
    exact hT.base HB.out.size,HB.out.trans (hb.mono HB.out.size)⟩
   clear hT hb
   go_wp2
   exact bodyPost_ret (v:=v) (by simp [results,Tryz.results22,go_sem]) rfl ⟨v,rfl,HF.out⟩
end Go.Proofs.YtklkooeimkedgaaGreat
namespace Go.Proofs.YtklkooeimkedgaaGreat
open Go.RowKit
set_option maxRecDepth 100000
def dH : aP:=⟨8,4,0,0,0,0,0,1,1,5,false⟩
theorem su : dH.Ok:=⟨⟨by decide,by decide⟩,⟨by decide,by decide⟩,⟨by decide,by decide⟩,⟨by decide,by decide⟩,⟨by decide,by decide⟩,⟨by decide,by decide⟩,⟨by decide,by decide⟩,⟨by decide,by decide⟩,⟨by decide,by decide⟩,⟨by decide,by decide⟩⟩
theorem lY : fE dH = 0:=by decide
theorem Zm (w : World) : Calls Tryz.prog 10 #[] w λe w'=>e = .returned (aT dH) /\ Below w.heap.size w w':=by
 have HB : Hid (Below w.heap.size w (w.alloc (.cells #[.int .i64 8,.int .i64 4,.int .i64 0,.int .i64 0,.int .i64 0,.int .i64 0,.int .i64 0,.int .i64 1,.int .i64 1,.int .i64 5,.bool false] 29))):=ajK (ajL)
 go_enter Tryz.func10,Tryz.ntmps10
 go_wp2
 exact bodyPost_ret (v:=.agg #[.int .i64 8,.int .i64 4,.int .i64 0,.int .i64 0,.int .i64 0,.int .i64 0,.int .i64 0,.int .i64 1,.int .i64 1,.int .i64 5,.bool false]) (by simp [results,Tryz.results10,go_sem]) rfl ⟨rfl,HB.out⟩
set_option maxHeartbeats 1000000 in
theorem UD (tick time : Int) (ht : aA time) (a : Option Addr) (cap : Nat) (es : List ay) (w : World) (hE : eX w a es) :
 Calls Tryz.prog 14 #[bC tick time a es.length cap] w λe w'=>∃ v,e = .returned v /\ aY w' w.heap.size v (gG ⟨tick,time,es⟩) /\ Below w.heap.size w w':=by
 have fl:=λW h=>Om tick time a cap es W h
 have HT : Hid (aA (dN ⟨tick,time,es⟩).1.time):=ajK (by
  unfold dN
  split
  ·exact aU
  ·split
   ·exact aU
   ·exact ht)
 have HFB : Hid (gG ⟨tick,time,es⟩ = if eP (dN ⟨tick,time,es⟩).1 = 0 then jQ (dN ⟨tick,time,es⟩).1 else []):=ajK rfl
 generalize gG ⟨tick,time,es⟩ = bs at *
 generalize (dN ⟨tick,time,es⟩).2 = er at *
 generalize (dN ⟨tick,time,es⟩).1 = g at *
 obtain ⟨w0,hw0⟩ : ∃ w0,w.alloc (.cells #[.int .i64 tick,.int .i64 time,.slice a es.length cap] 36) = w0:=⟨_,rfl⟩
 have hB0 : Below w.heap.size w w0:=by rw [← hw0];exact ajL
 have hX0 : ak w0 w.heap.size #[.int .i64 tick,.int .i64 time,.slice a es.length cap] 36:=by rw [← hw0];exact ak.new _ _ _
 have x0:=hX0.cell 0;have x1:=hX0.cell 1;have x2:=hX0.cell 2;simp at x0 x1 x2;have fl0:=fl w0 (hE.below hB0);have HB0:=ajK hB0;clear hE hB0 hX0 fl
 unfold bC at *
 go_enter Tryz.func14,Tryz.ntmps14
 go_wp2_with fail
 clear hw0
 refine fl0.mono ?_
 rintro e w1 ⟨v,rfl,hR,hb⟩
 clear fl0 x0 x1 x2
 obtain ⟨ra,rc,rfl,_,_⟩:=hR.recs
 obtain ⟨v1,hv1⟩ : ∃ v,w1.alloc (.cells #[.int .i64 0,.int .i64 0,.int .i64 0,.slice none 0 0] 39) = v:=⟨_,rfl⟩
 have vC : Below w1.heap.size w1 v1:=by rw [← hv1];exact ajL
 have aV : ak v1 w1.heap.size #[.int .i64 0,.int .i64 0,.int .i64 0,.slice none 0 0] 39:=by rw [← hv1];exact ak.new _ _ _
 have f0:=aV.free 0;have f1:=aV.free 1;have f2:=aV.free 2;have f3:=aV.free 3;have q0:=aV.cell 0;have q1:=aV.cell 1;have q2:=aV.cell 2;have q3:=aV.cell 3;simp at q0 q1 q2 q3;have hG:=qM (v0:=.int .i64 g.tick) (v1:=.int .i64 g.time) (v2:=.int .i64 g.base) (v3:=.slice ra g.recs.length rc) aV;have hb4:=wY (v0:=.int .i64 g.tick) (v1:=.int .i64 g.time) (v2:=.int .i64 g.base) (v3:=.slice ra g.recs.length rc) vC (Nat.le_refl _)
 obtain ⟨u0,hu0⟩ : ∃ u,((((v1.setCell ⟨w1.heap.size,0,none⟩ (.int .i64 g.tick)).setCell ⟨w1.heap.size,1,none⟩ (.int .i64 g.time)).setCell ⟨w1.heap.size,2,none⟩ (.int .i64 g.base)).setCell ⟨w1.heap.size,3,none⟩ (.slice ra g.recs.length rc)) = u:=⟨_,rfl⟩
 rw [hu0] at hG hb4
 have hR0:=hR.below hb4 (λj e=>(hR.1.lt j e).2)
 have wB : lu u0 ra g.recs:=by
  obtain ⟨a',c',e,h,_⟩:=hR0.recs
  injection e with e1
  rw [e1];exact h
 have wr:=wU g.tick g.time g.base HT.out ra rc g.recs u0 wB;have HB1:=ajK (HB0.out.trans ((hb.trans (hb4.mono hb.size)).mono HB0.out.size));have y0:=hG.cell 0;have y1:=hG.cell 1;have y2:=hG.cell 2;have y3:=hG.cell 3;simp at y0 y1 y2 y3
 rw [show (⟨g.tick,g.time,g.base,g.recs⟩ : Gr) = g from rfl] at wr
 rw [← HFB.out] at wr
 generalize eP g = we at *
 unfold vP at wr
 clear hR hb vC aV hG hb4 hR0 wB
 go_wp2_with fail
 clear hv1 hu0 f0 f1 f2 f3 q0 q1 q2 q3 y0 y1 y2 y3
 refine wr.mono ?_
 rintro e w3 ⟨v,rfl,hO,hb⟩
 have HF : Hid (aY w3 w.heap.size v bs /\ Below w.heap.size w w3):=ajK ⟨aY.base hO HB1.out.size,HB1.out.trans (hb.mono HB1.out.size)⟩
 clear hO hb wr
 go_wp2_with fail
 exact bodyPost_ret (v:=v) (by simp [results,Tryz.results14,go_sem]) rfl ⟨v,rfl,HF.out⟩
end Go.Proofs.YtklkooeimkedgaaGreat
namespace Go.Proofs.YtklkooeimkedgaaGreat
open Go.RowKit
set_option maxRecDepth 100000
def UE : ay:=⟨1,0,0,0,65536,0,0,0,0⟩
def UF : ay:=⟨1,10,0,0,65536,0,0,0,0⟩
def vG : Sn:=⟨1,0,[UE]⟩
def xI : Sn:=⟨2,10,[UF]⟩
theorem UG : UE.Ok:=⟨⟨by decide,by decide⟩,⟨by decide,by decide⟩,⟨by decide,by decide⟩,⟨by decide,by decide⟩,⟨by decide,by decide⟩,⟨by decide,by decide⟩,⟨by decide,by decide⟩,⟨by decide,by decide⟩,⟨by decide,by decide⟩⟩
theorem UH : UF.Ok:=⟨⟨by decide,by decide⟩,⟨by decide,by decide⟩,⟨by decide,by decide⟩,⟨by decide,by decide⟩,⟨by decide,by decide⟩,⟨by decide,by decide⟩,⟨by decide,by decide⟩,⟨by decide,by decide⟩,⟨by decide,by decide⟩⟩
theorem Xa : gu vG:=CX (by decide) (by decide) (by decide) UG rfl
theorem Xb : gu xI:=CX (by decide) (by decide) (by decide) UH rfl
def uG : iU:=⟨[vG,xI],0,false,vU dH (vU dH (cs0 dH) (aQ 100 0)) (aQ 110 10)⟩
def Hw : CS:=jo dH uG.cs 104
def Hy : CS:=jo dH Hw 113
def afZ : CS:=jo dH Hy 900
theorem af0 : Hw.au = 4:=by kernel_rfl
theorem af2 : Hy.au = 13:=by kernel_rfl
theorem af3 : afZ.au = 800:=by kernel_rfl
theorem ac1 : tF dH 4 [vG,xI] = 1:=by kernel_rfl
theorem ac4 : tF dH 13 [vG,xI] = 1:=by kernel_rfl
theorem ac5 : tF dH 800 [vG,xI] = 1:=by kernel_rfl
theorem ac6 : zk dH 4 [vG,xI] 0 = ⟨1,4,0,0,0,1⟩:=by kernel_rfl
theorem ac7 : zk dH 13 [vG,xI] 0 = ⟨1,13,0,0,0,3⟩:=by kernel_rfl
theorem ac8 : zk dH 800 [vG,xI] 0 = ⟨1,15,0,0,0,4⟩:=by kernel_rfl
end Go.Proofs.YtklkooeimkedgaaGreat
namespace Go.Proofs.YtklkooeimkedgaaGreat
open Go.RowKit
set_option maxRecDepth 100000
theorem Jy (s : Sn) : ((gG s).length : Int) <= 140737488355000:=by
 unfold gG
 split
 ·rename_i h
  have hz : (uT (iZ (gM (dN s).1))).length = 4:=rfl
  unfold eP at h
  split at h
  ·rename_i hh;exact absurd h hh
  split at h
  ·cases h
  ·unfold jQ
   rw [List.length_append,hz];omega
 ·simp
theorem OB {w : World} {b : Nat} {e : ay} (h : ak w b (bL e) 33) (ho : e.Ok) : eX w (some ⟨b,0,none⟩) [e]:=by
 refine ⟨λi hi=>?_,.inr ⟨b,0,rfl,h.lt,λi hi=>?_⟩⟩
 ·obtain rfl : i = 0:=by simp at hi;exact hi
  exact ho
 ·obtain rfl : i = 0:=by simp at hi;exact hi
  unfold dF
  refine ⟨?_,?_,?_,?_,?_,?_,?_,?_,?_⟩ <;> (rw [h.cell];rfl)
theorem Ay {w : World} {s : Option Addr} {P : Nat -> Po} {p : Po} (h : dP w s 1 P) (hp : P 0 = p) : ∃ b o,s = some ⟨b,o,none⟩ /\ b < w.heap.size /\ kY w b o p:=by
 rcases h with h | ⟨b,o,e,hb,hc⟩
 ·cases h
 ·exact ⟨b,o,e,hb,by have:=hc 0 (by decide);rw [hp] at this;simpa using this⟩
set_option maxHeartbeats 4000000 in
theorem Zn (w : World) : Calls Tryz.prog 8 #[] w λe w'=>e = .returned (.bool true) /\ Below w.heap.size w w':=by
 obtain ⟨w0,hw0⟩ : ∃ w0,(((w.alloc (.cells #[.int .i64 1,.int .i64 0,.int .i64 0,.int .i64 0,.int .i64 65536,.int .i64 0,.int .i64 0,.int .u16 0,.int .u8 0] 33)).alloc (.cells #[.int .i64 1,.int .i64 0,.slice (some ⟨w.heap.size,0,none⟩) 1 1] 36)).alloc (.cells #[.int .i64 1,.int .i64 10,.int .i64 0,.int .i64 0,.int .i64 65536,.int .i64 0,.int .i64 0,.int .u16 0,.int .u8 0] 33)).alloc (.cells #[.int .i64 2,.int .i64 10,.slice (some ⟨w.heap.size + 1 + 1,0,none⟩) 1 1] 36) = w0:=⟨_,rfl⟩
 have hB0 : Below w.heap.size w w0:=by rw [← hw0];exact (((ajL).alloc (by simp) _).alloc (by simp;omega) _).alloc (by simp;omega) _
 have hs0 : w0.heap.size = w.heap.size + 4:=by rw [← hw0];simp
 have hE1 : ak w0 w.heap.size #[.int .i64 1,.int .i64 0,.int .i64 0,.int .i64 0,.int .i64 65536,.int .i64 0,.int .i64 0,.int .u16 0,.int .u8 0] 33:=by rw [← hw0];exact (((ak.new _ _ _).alloc _).alloc _).alloc _
 have hA : ak w0 (w.heap.size + 1) #[.int .i64 1,.int .i64 0,.slice (some ⟨w.heap.size,0,none⟩) 1 1] 36:=by
  rw [← hw0]
  have:=((ak.new (w.alloc (.cells #[.int .i64 1,.int .i64 0,.int .i64 0,.int .i64 0,.int .i64 65536,.int .i64 0,.int .i64 0,.int .u16 0,.int .u8 0] 33)) #[.int .i64 1,.int .i64 0,.slice (some ⟨w.heap.size,0,none⟩) 1 1] 36).alloc (.cells #[.int .i64 1,.int .i64 10,.int .i64 0,.int .i64 0,.int .i64 65536,.int .i64 0,.int .i64 0,.int .u16 0,.int .u8 0] 33)).alloc (.cells #[.int .i64 2,.int .i64 10,.slice (some ⟨w.heap.size + 1 + 1,0,none⟩) 1 1] 36)
  simpa using this
 have hE2 : ak w0 (w.heap.size + 1 + 1) #[.int .i64 1,.int .i64 10,.int .i64 0,.int .i64 0,.int .i64 65536,.int .i64 0,.int .i64 0,.int .u16 0,.int .u8 0] 33:=by
  rw [← hw0]
  have:=(ak.new ((w.alloc (.cells #[.int .i64 1,.int .i64 0,.int .i64 0,.int .i64 0,.int .i64 65536,.int .i64 0,.int .i64 0,.int .u16 0,.int .u8 0] 33)).alloc (.cells #[.int .i64 1,.int .i64 0,.slice (some ⟨w.heap.size,0,none⟩) 1 1] 36)) #[.int .i64 1,.int .i64 10,.int .i64 0,.int .i64 0,.int .i64 65536,.int .i64 0,.int .i64 0,.int .u16 0,.int .u8 0] 33).alloc (.cells #[.int .i64 2,.int .i64 10,.slice (some ⟨w.heap.size + 1 + 1,0,none⟩) 1 1] 36)
  simpa using this
 have hBb : ak w0 (w.heap.size + 1 + 1 + 1) #[.int .i64 2,.int .i64 10,.slice (some ⟨w.heap.size + 1 + 1,0,none⟩) 1 1] 36:=by
  rw [← hw0]
  have:=ak.new (((w.alloc (.cells #[.int .i64 1,.int .i64 0,.int .i64 0,.int .i64 0,.int .i64 65536,.int .i64 0,.int .i64 0,.int .u16 0,.int .u8 0] 33)).alloc (.cells #[.int .i64 1,.int .i64 0,.slice (some ⟨w.heap.size,0,none⟩) 1 1] 36)).alloc (.cells #[.int .i64 1,.int .i64 10,.int .i64 0,.int .i64 0,.int .i64 65536,.int .i64 0,.int .i64 0,.int .u16 0,.int .u8 0] 33)) #[.int .i64 2,.int .i64 10,.slice (some ⟨w.heap.size + 1 + 1,0,none⟩) 1 1] 36
  simpa using this
 have pf:=λW=>Zm W
 have nw:=λW=>LM dH su lY W
 have fa : ∀ W,eX W (some ⟨w.heap.size,0,none⟩) [UE] -> Calls Tryz.prog 14 #[.agg #[.int .i64 1,.int .i64 0,.slice (some ⟨w.heap.size,0,none⟩) 1 1]] W λe w'=>∃ v,e = .returned v /\ aY w' W.heap.size v (gG vG) /\ Below W.heap.size W w':=λW h=>UD 1 0 ⟨by decide,by decide⟩ _ 1 [UE] W h
 have fb : ∀ W,eX W (some ⟨w.heap.size + 1 + 1,0,none⟩) [UF] -> Calls Tryz.prog 14 #[.agg #[.int .i64 2,.int .i64 10,.slice (some ⟨w.heap.size + 1 + 1,0,none⟩) 1 1]] W λe w'=>∃ v,e = .returned v /\ aY w' W.heap.size v (gG xI) /\ Below W.heap.size W w':=λW h=>UD 2 10 ⟨by decide,by decide⟩ _ 1 [UF] W h
 have zL:=ajK (OB (e:=UE) hE1 UG);have HE2:=ajK (OB (e:=UF) hE2 UH);have HA:=ajK hA;have HBb:=ajK hBb;have HB0:=ajK hB0;have zJ:=ajK hs0;clear hE1 hE2 hA hBb hB0 hs0
 go_enter Tryz.func8,Tryz.ntmps8
 go_wp2_with fail
 clear hw0
 refine (pf w0).mono ?_
 rintro e w1 ⟨rfl,hb1⟩
 have HW1 : Hid (Below w0.heap.size w0 w1):=ajK hb1
 clear hb1 pf
 go_wp2_with fail
 refine (nw w1).mono ?_
 rintro e w2 ⟨C,S,rfl,L6,hS,hb2⟩
 have rU : Below w0.heap.size w0 w2:=HW1.out.trans (hb2.mono HW1.out.size)
 have iF : Hid (∀ k,S k -> w.heap.size + 4 <= k):=ajK (λk hk=>by have:=hS k hk;have:=HW1.out.size;have:=zJ.out;omega)
 have qJ:=ajK L6;have hA2:=HA.out.below rU HA.out.lt;have abN:=ajK (zL.out.below rU);have abO:=ajK (HE2.out.below rU);have HA2:=ajK hA2;have HB2:=ajK (HBb.out.below rU HBb.out.lt)
 have abP : Hid (Below w.heap.size w w2):=ajK (HB0.out.trans (rU.mono HB0.out.size))
 have WJ : Hid (w.heap.size + 4 <= w2.heap.size):=ajK (by have:=rU.size;have:=zJ.out;omega)
 have a0:=hA2.cell 0;have a1:=hA2.cell 1;have a2:=hA2.cell 2;simp at a0 a1 a2;clear L6 hS hb2 rU nw hA2 zL HE2 HA HBb HB0 HW1
 go_wp2_with fail
 refine (fa w2 abN.out).mono ?_
 rintro e w3 ⟨v,rfl,hO,hb⟩
 obtain ⟨va,vc,rfl,CZ,C9,hvl,_⟩:=hO.cap
 have hC3:=qJ.out.below hb
 have ar:=Oz (c:=dH) (x:=qX dH) lY Xa rfl (by simp [qX]) (by simp [qX]) (by decide) 100
 have ac:=sj C dH su lY (qX dH) S 100 ⟨by decide,by decide⟩ va (gG vG).length vc (gG vG) w3 hC3 CZ C9 hvl (Jy vG) (by decide) ar.2.1
 rw [ar.1,ar.2.2] at ac
 have yA:=ajK (HA2.out.below hb HA2.out.lt);have HB3:=ajK (HB2.out.below hb HB2.out.lt);have vD:=ajK (abO.out.below hb)
 have abQ : Hid (Below w.heap.size w w3):=ajK (abP.out.trans (hb.mono abP.out.size))
 have Qm : Hid (w.heap.size + 4 <= w3.heap.size):=ajK (Nat.le_trans WJ.out hb.size)
 clear hO hb CZ C9 hvl hC3 ar fa a0 a1 a2 HA2 HB2 abO abN
 go_wp2_with fail
 refine ac.mono ?_
 rintro e w4 ⟨rfl,hC4,hO4⟩
 have hnS : ∀ k,k < w.heap.size + 4 -> ¬ S k:=λk hk h=>by have:=iF.out k h;omega
 have hB4:=hO4.blk HB3.out (hnS _ (by omega))
 have HC4:=ajK hC4;have iK:=ajK hB4
 have N7:=ajK (vD.out.only hO4 (λx hx=>by cases hx;exact hnS _ (show w.heap.size + 1 + 1 < w.heap.size + 4 by omega)))
 have abS : Hid (Below w.heap.size w w4):=ajK (abQ.out.trans (hO4.below abQ.out.size (λk hk=>by have:=iF.out k hk;omega)))
 have af4 : Hid (w3.heap.size <= w4.heap.size):=ajK hO4.size
 have b0:=hB4.cell 0;have b1:=hB4.cell 1;have b2:=hB4.cell 2;simp at b0 b1 b2
 have KQ : Hid (∀ k,Grow S w3 w4 k -> w.heap.size + 4 <= k):=ajK (λk hk=>by
  rcases hk.1 with h | h
  ·exact iF.out k h
  ·have:=Qm.out;omega)
 clear hC4 hO4 ac hB4 yA HB3 vD qJ hnS
 go_wp2_with fail
 refine (fb w4 N7.out).mono ?_
 rintro e w5 ⟨v,rfl,hO,hb⟩
 obtain ⟨va,vc,rfl,CZ,C9,hvl,_⟩:=hO.cap
 have hC5:=HC4.out.below hb
 have ar:=Oz (c:=dH) (x:=⟨(qX dH).ss ++ [vG],(qX dH).floor,false,vU dH (qX dH).cs (aQ 100 vG.time)⟩) lY Xb rfl (by intro y hy;simp [qX] at hy;subst hy;decide) (by intro y hy;simp [qX] at hy;subst hy;decide) (by decide) 110
 have ac:=sj C dH su lY _ _ 110 ⟨by decide,by decide⟩ va (gG xI).length vc (gG xI) w5 hC5 CZ C9 hvl (Jy xI) (by decide) ar.2.1
 rw [ar.1,ar.2.2] at ac
 have abT : Hid (Below w.heap.size w w5):=ajK (abS.out.trans (hb.mono abS.out.size))
 have af5 : Hid (w.heap.size + 4 <= w5.heap.size):=ajK (by have:=hb.size;have:=af4.out;have:=Qm.out;omega)
 clear hO hb CZ C9 hvl hC5 ar fb b0 b1 b2 iK N7
 go_wp2_with fail
 refine ac.mono ?_
 rintro e w6 ⟨rfl,hC6,gJ⟩
 generalize hS6 : Grow (Grow S w3 w4) w5 w6 = S6 at hC6
 have HC6 : Hid (gQ w6 C dH uG S6):=ajK hC6
 have HG6 : Hid (∀ k,S6 k -> w.heap.size + 4 <= k):=ajK (λk hk=>by
  rw [← hS6] at hk
  rcases hk.1 with h | h
  ·exact KQ.out k h
  ·have:=af5.out;omega)
 have abW : Hid (Below w.heap.size w w6):=ajK (abT.out.trans (gJ.below abT.out.size (λk hk=>by have:=KQ.out k hk;omega)))
 clear hC6 gJ ac hS6 HC4
 go_wp2_with fail
 have f1:=qd C dH su lY uG S6 104 ⟨by decide,by decide⟩ w6 HC6.out (by decide)
 rw [show (jo dH uG.cs 104).au = 4 from af0,show uG.ss = [vG,xI] from rfl,ac1] at f1
 refine f1.mono ?_
 rintro e w7 ⟨s7,c7,rfl,hP7,hC7,tX⟩
 have HC7 : Hid (gQ w7 C dH { uG with cs:=Hw } S6):=ajK hC7
 have HP7:=ajK hP7
 have abX : Hid (Below w.heap.size w w7):=ajK (abW.out.trans (tX.below abW.out.size (λk hk=>by have:=HG6.out k hk.1;omega)))
 clear f1 hP7 hC7 tX HC6
 go_wp2_with fail
 have f1:=qd C dH su lY { uG with cs:=Hw } S6 113 ⟨by decide,by decide⟩ w7 HC7.out (by decide)
 rw [show (jo dH ({ uG with cs:=Hw } : iU).cs 113).au = 13 from af2,show ({ uG with cs:=Hw } : iU).ss = [vG,xI] from rfl,ac4] at f1
 refine f1.mono ?_
 rintro e w8 ⟨s8,c8,rfl,hP8,hC8,xJ⟩
 have HC8 : Hid (gQ w8 C dH { uG with cs:=Hy } S6):=ajK hC8
 have HP8:=ajK hP8
 have abY:=ajK (Au HP7.out xJ (λk hk _=>hk.2))
 have abZ : Hid (Below w.heap.size w w8):=ajK (abX.out.trans (xJ.below abX.out.size (λk hk=>by have:=HG6.out k hk.1;omega)))
 clear f1 hP8 hC8 xJ HC7 HP7
 go_wp2_with fail
 have f1:=qd C dH su lY { uG with cs:=Hy } S6 900 ⟨by decide,by decide⟩ w8 HC8.out (by decide)
 rw [show (jo dH ({ uG with cs:=Hy } : iU).cs 900).au = 800 from af3,show ({ uG with cs:=Hy } : iU).ss = [vG,xI] from rfl,ac5] at f1
 refine f1.mono ?_
 rintro e w9 ⟨s9,c9,rfl,hP9,hC9,dQ⟩
 have ab0:=Au abY.out dQ (λk hk _=>hk.2)
 have ab1:=Au HP8.out dQ (λk hk _=>hk.2)
 have ab2 : Hid (Below w.heap.size w w9):=ajK (abZ.out.trans (dQ.below abZ.out.size (λk hk=>by have:=HG6.out k hk.1;omega)))
 clear f1 hC9 dQ HC8 abY HP8
 obtain ⟨b7,o7,rfl,l7,p7'⟩:=Ay ab0 ac6
 obtain ⟨b8,o8,rfl,l8,p8'⟩:=Ay ab1 ac7
 obtain ⟨b9,o9,rfl,l9,p9'⟩:=Ay hP9 ac8
 obtain ⟨kT,Qs⟩ : ∃ u,((w9.alloc (.cells #[.bool true,.int .i64 4,.slice (some ⟨b7,o7,none⟩) 1 c7] 49)).alloc (.cells #[.bool true,.int .i64 13,.slice (some ⟨b8,o8,none⟩) 1 c8] 49)).alloc (.cells #[.bool true,.int .i64 800,.slice (some ⟨b9,o9,none⟩) 1 c9] 49) = u:=⟨_,rfl⟩
 have Md : Below w9.heap.size w9 kT:=by rw [← Qs];exact (((ajL).alloc (by simp) _).alloc (by simp;omega) _)
 have hX7 : ak kT w9.heap.size #[.bool true,.int .i64 4,.slice (some ⟨b7,o7,none⟩) 1 c7] 49:=by rw [← Qs];exact ((ak.new _ _ _).alloc _).alloc _
 have A8 : ak kT (w9.heap.size + 1) #[.bool true,.int .i64 13,.slice (some ⟨b8,o8,none⟩) 1 c8] 49:=by
  rw [← Qs]
  have:=(ak.new (w9.alloc (.cells #[.bool true,.int .i64 4,.slice (some ⟨b7,o7,none⟩) 1 c7] 49)) #[.bool true,.int .i64 13,.slice (some ⟨b8,o8,none⟩) 1 c8] 49).alloc (.cells #[.bool true,.int .i64 800,.slice (some ⟨b9,o9,none⟩) 1 c9] 49)
  simpa using this
 have hX9 : ak kT (w9.heap.size + 1 + 1) #[.bool true,.int .i64 800,.slice (some ⟨b9,o9,none⟩) 1 c9] 49:=by
  rw [← Qs]
  have:=ak.new ((w9.alloc (.cells #[.bool true,.int .i64 4,.slice (some ⟨b7,o7,none⟩) 1 c7] 49)).alloc (.cells #[.bool true,.int .i64 13,.slice (some ⟨b8,o8,none⟩) 1 c8] 49)) #[.bool true,.int .i64 800,.slice (some ⟨b9,o9,none⟩) 1 c9] 49
  simpa using this
 have s7:=hX7.cell 2;have s8:=A8.cell 2;have s9:=hX9.cell 2;simp at s7 s8 s9;have p7:=p7'.below Md l7;have p8:=p8'.below Md l8;have p9:=p9'.below Md l9;clear p7' p8' p9' hX7 A8 hX9
 unfold kY at p7 p8 p9
 simp only at p7 p8 p9
 obtain ⟨p70,p71,p72,p73,p74,p75⟩:=p7
 obtain ⟨p80,p81,p82,p83,p84,p85⟩:=p8
 obtain ⟨p90,p91,p92,p93,p94,p95⟩:=p9
 have q7:=λW=>GR 1 4 0 0 0 1 1 4 0 0 0 1 W
 have q8:=λW=>GR 1 13 0 0 0 3 1 13 0 0 0 3 W
 have q9:=λW=>GR 1 15 0 0 0 4 1 15 0 0 0 4 W
 simp at q7 q8 q9
 have HF : Hid (Below w.heap.size w kT):=ajK (ab2.out.trans (Md.mono ab2.out.size))
 clear Md;clear ab0 ab1 hP9
 go_wp2
 exact bodyPost_ret (v:=.bool true) (by simp [results,Tryz.results8,go_sem]) rfl ⟨rfl,HF.out⟩
end Go.Proofs.YtklkooeimkedgaaGreat
namespace Go.Proofs.YtklkooeimkedgaaGreat
open Go.RowKit
set_option maxRecDepth 100000
def Mg (w : World) (a : Option Addr) (ks : List aH) : Prop:=∀ (i : Nat) (y : aH),ks[i]? = some y -> (eX w y.a y.sn.ents /\ aA y.sn.tick /\ aA y.sn.time) /\
 ∃ b off,a = some ⟨b,off,none⟩ /\ b < w.heap.size /\ w.cell? ⟨b,off + i * 3,none⟩ = some (.int .i64 y.sn.tick) /\ w.cell? ⟨b,off + i * 3 + 1,none⟩ = some (.int .i64 y.sn.time) /\ w.cell? ⟨b,off + i * 3 + 2,none⟩ = some (fZ y)
theorem Mg.below {w w' : World} {a : Option Addr} {ks : List aH} (h : Mg w a ks) (hb : Below w.heap.size w w') : Mg w' a ks:=by
 intro i y hy
 obtain ⟨⟨h1,h2⟩,b,off,rfl,hl,c0,c1,c2⟩:=h i y hy
 exact ⟨⟨h1.below hb,h2⟩,b,off,rfl,Nat.lt_of_lt_of_le hl hb.size,(hb.cell (p:=⟨b,_,none⟩) hl).trans c0,(hb.cell (p:=⟨b,_,none⟩) hl).trans c1,(hb.cell (p:=⟨b,_,none⟩) hl).trans c2⟩
def Xd (K T : Nat -> Int) (E : Nat -> Option Addr × Nat × Nat) (EE : Nat -> Nat -> ay) (i : Nat) : aH:=⟨K i,⟨K i,T i,(List.range (E i).2.1).map (EE i)⟩,(E i).1,(E i).2.2⟩
theorem Zo {w : World} {a : Option Addr} {len : Nat} {K T : Nat -> Int} {E : Nat -> Option Addr × Nat × Nat} {EE : Nat -> Nat -> ay} (hS : jI w a len K T E) (hx : ∀ i,i < len -> aA (K i) /\ aA (T i) /\ bV w (E i).1 (E i).2.1 (EE i)) :
 Mg w a ((List.range len).map (Xd K T E EE)):=by
 intro i y hy
 rw [List.getElem?_map] at hy
 obtain ⟨j,hj,rfl⟩:=Option.map_eq_some_iff.1 hy
 obtain ⟨hl,hji⟩:=List.getElem?_eq_some_iff.1 hj
 rw [List.length_range] at hl
 rw [List.getElem_range] at hji
 subst hji
 obtain ⟨x1,x2,x3,x4⟩:=hx i hl
 have hlen : ((List.range (E i).2.1).map (EE i)).length = (E i).2.1:=by rw [List.length_map,List.length_range]
 have hget : ∀ j,j < (E i).2.1 -> ((List.range (E i).2.1).map (EE i)).getD j bP = EE i j:=λj hj=>by
  simp [List.getD,List.getElem?_map,List.getElem?_range hj]
 have hE : eX w (E i).1 ((List.range (E i).2.1).map (EE i)):=by
  unfold eX
  refine ⟨λj hj=>?_,?_⟩
  ·rw [hlen] at hj;show (((List.range (E i).2.1).map (EE i)).getD j bP).Ok;rw [hget j hj];exact x3 j hj
  ·rcases x4 with h | ⟨b,o,e,hb,hc⟩
   ·exact .inl (by rw [hlen];exact h)
   ·exact .inr ⟨b,o,e,hb,λj hj=>by rw [hlen] at hj;show dF w b (o + j * 9) (((List.range (E i).2.1).map (EE i)).getD j bP);rw [hget j hj];exact hc j hj⟩
 refine ⟨⟨hE,x1,x2⟩,?_⟩
 rcases hS with h | ⟨b,o,e,hb,hc⟩
 ·omega
 ·obtain ⟨c0,c1,c2⟩:=hc i hl
  refine ⟨b,o,e,hb,c0,c1,?_⟩
  show _ = some (Value.slice (E i).1 ((List.range (E i).2.1).map (EE i)).length (E i).2.2)
  rw [hlen];exact c2
end Go.Proofs.YtklkooeimkedgaaGreat
