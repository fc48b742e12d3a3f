/- Walk of TopBeyond. -/
import Derived.Test.YtklkooeimkedgaaGreatB44
import Derived.Test.YtklkooeimkedgaaGreatB50
set_option linter.unusedVariables false
set_option linter.unusedSimpArgs false
namespace Go.Proofs.YtklkooeimkedgaaGreat
open Go.RowKit
set_option maxRecDepth 100000
structure KD (w : World) (C : Nat) (c : aO) (T R K : Nat) (l : List aG) (floor : Int) (gone : Bool) (cs : CS) (fr : Int) (S SS SK : Nat -> Prop) : Prop where
 blk : ak w C #[.int .i64 c.ring,.int .i64 c.window,.int .i64 c.base,.int .i64 c.gain,.int .i64 c.least,.int .i64 c.most,.int .i64 c.aD,.int .i64 c.num,.int .i64 c.den,.int .i64 c.extra,.bool c.aC,.pointer (some ⟨T,0,none⟩),.pointer (some ⟨K,0,none⟩),.int .i64 fr] 86
 st : gG w T R l c.ring floor gone SS
 room : (l.length : Int) <= c.ring
 ck : su w K c cs SK
 Fz : ∀ k,SS k -> ¬ SK k
 nC : ¬ SS C /\ ¬ SK C
 sub : S C /\ (∀ k,SS k -> S k) /\ ∀ k,SK k -> S k
 lt : ∀ k,S k -> k < w.heap.size
structure iq where
 ss : List Sn
 floor : Int
 gone : Bool
 cs : CS
structure ae9 (c : aO) (l : List aG) (x : iq) : Prop where
 map : l.map (·.sn) = x.ss
 key : ∀ k ∈ l,k.key = k.sn.tick
 KE : ∀ s ∈ x.ss,fZ s = 0
 cs : x.cs.Ok c
def dG (w : World) (C : Nat) (c : aO) (x : iq) (S : Nat -> Prop) : Prop:=∃ T R K l fr SS SK,KD w C c T R K l x.floor x.gone x.cs fr S SS SK /\ ae9 c l x
theorem KD.only {w w' : World} {C : Nat} {c : aO} {T R K : Nat} {l : List aG} {floor : Int} {gone : Bool} {cs : CS} {fr : Int} {S SS SK U : Nat -> Prop} (h : KD w C c T R K l floor gone cs fr S SS SK) (ho : Only U w w') (hd : ∀ k,S k -> ¬ U k) : KD w' C c T R K l floor gone cs fr S SS SK :=
 ⟨ho.blk h.blk (hd _ h.sub.1),h.st.only ho (λk hk=>hd k (h.sub.2.1 k hk)),h.room,h.ck.only ho (λk hk=>hd k (h.sub.2.2 k hk)),h.Fz,h.nC,h.sub,λk hk=>Nat.lt_of_lt_of_le (h.lt k hk) ho.size⟩
theorem dG.only {w w' : World} {C : Nat} {c : aO} {x : iq} {S U : Nat -> Prop} (h : dG w C c x S) (ho : Only U w w') (hd : ∀ k,S k -> ¬ U k) : dG w' C c x S:=by
 obtain ⟨T,R,K,l,fr,SS,SK,h1,h2⟩:=h
 exact ⟨T,R,K,l,fr,SS,SK,h1.only ho hd,h2⟩
theorem dG.below {w w' : World} {C : Nat} {c : aO} {x : iq} {S : Nat -> Prop} (h : dG w C c x S) (hb : Below w.heap.size w w') : dG w' C c x S :=
 h.only (Only.of_below (S:=λ_=>False) hb) (λ_ _ h=>h)
theorem dG.lt {w : World} {C : Nat} {c : aO} {x : iq} {S : Nat -> Prop} (h : dG w C c x S) : ∀ k,S k -> k < w.heap.size:=by
 obtain ⟨T,R,K,l,fr,SS,SK,h1,h2⟩:=h
 exact h1.lt
theorem dG.ok {w : World} {C : Nat} {c : aO} {x : iq} {S : Nat -> Prop} (h : dG w C c x S) : (∀ s ∈ x.ss,fZ s = 0) /\ x.cs.Ok c /\ x.ss.length <= 64:=by
 obtain ⟨T,R,K,l,fr,SS,SK,h1,h2⟩:=h
 refine ⟨h2.KE,h2.cs,?_⟩
 obtain ⟨v,hp⟩:=h1.st.ring
 have:=hp.len
 rw [← h2.map,List.length_map]
 omega
def uM (c : aO) : iq:=⟨[],0,false,cs0 c⟩
theorem Ii {c : aO} (h : dB c = 0) : 1 <= c.ring /\ c.ring <= 64:=by
 obtain ⟨h1,_,_⟩:=vH h
 have:=rz.1 h1
 omega
theorem Sm (c : aO) (hc : dB c ≠ 0) (w : World) :
 Calls Tryz.prog 9 #[aZ c] w λe w'=>e = .returned (.tuple #[.pointer none,.int .i64 (dB c)]) /\ Below w.heap.size w w':=by
 have cn:=Va c hc
 have h0' : (dB c != 0) = true:=by simpa using hc
 clear hc
 generalize dB c = k at *
 unfold aZ at cn ⊢
 go_enter Tryz.func9,Tryz.ntmps9
 go_wp2_with fail
 refine (cn _).mono ?_;rintro e w1 ⟨rfl,hb1⟩
 have HB:=aiS (((Below.refl w.heap.size w).alloc (Nat.le_refl _) (.cells #[.int .i64 c.ring,.int .i64 c.window,.int .i64 c.base,.int .i64 c.gain,.int .i64 c.least,.int .i64 c.most,.int .i64 c.aD,.int .i64 c.num,.int .i64 c.den,.int .i64 c.extra,.bool c.aC] 29)).trans (hb1.mono (by simp)))
 clear cn hb1
 go_wp2_with fail
 exact bodyPost_ret (v:=.tuple #[.pointer none,.int .i64 k]) (by simp [results,Tryz.results9,go_sem]) rfl ⟨rfl,HB.out⟩
theorem aal {c : aO} (hc : dB c = 0) : (cs0 c).Ok c :=
 ⟨λx hx=>by simp [cs0] at hx,by simp [cs0],⟨by simp [cs0],by simp [cs0]⟩,AO (vH hc).2.1 0,⟨by simp [cs0],by simp [cs0]⟩,⟨by simp [cs0],by simp [cs0]⟩,.inl rfl⟩
set_option maxHeartbeats 1000000 in
theorem KF (c : aO) (ok : c.Ok) (hc : dB c = 0) (w : World) :
 Calls Tryz.prog 9 #[aZ c] w λe w'=>∃ C S,e = .returned (.tuple #[.pointer (some ⟨C,0,none⟩),.int .i64 0]) /\ dG w' C c (uM c) S /\ (∀ k,S k -> w.heap.size <= k) /\ Below w.heap.size w w':=by
 have cn:=Yd c ok hc
 obtain ⟨r1,r2⟩:=Ii hc
 have sn:=UU c.ring r1 r2;have HCO:=aiS (aal hc);have ZH:=aiS r1;clear r1 r2
 obtain ⟨w0,hw0⟩ : ∃ w0,w.alloc (.cells #[.int .i64 c.ring,.int .i64 c.window,.int .i64 c.base,.int .i64 c.gain,.int .i64 c.least,.int .i64 c.most,.int .i64 c.aD,.int .i64 c.num,.int .i64 c.den,.int .i64 c.extra,.bool c.aC] 29) = w0:=⟨_,rfl⟩
 have hB0 : Below w.heap.size w w0:=by rw [← hw0];exact aiT
 have hX0 : ak w0 w.heap.size #[.int .i64 c.ring,.int .i64 c.window,.int .i64 c.base,.int .i64 c.gain,.int .i64 c.least,.int .i64 c.most,.int .i64 c.aD,.int .i64 c.num,.int .i64 c.den,.int .i64 c.extra,.bool c.aC] 29:=by rw [← hw0];exact ak.new _ _ _
 have HX0:=aiS hX0;have HB0:=aiS hB0
 obtain ⟨q0,q1,q2,q3,q4,q5,q6,q7,q8,q9,kr⟩:=eu hX0
 have hsz0 : w.heap.size <= w0.heap.size:=hB0.size
 clear hB0 hX0
 unfold aZ at cn ⊢
 go_enter Tryz.func9,Tryz.ntmps9
 go_wp2_with fail
 clear hw0
 refine (cn w0).mono ?_
 rintro e w1 ⟨K,SK,rfl,Sq,hSK,hb1⟩
 have HCk:=aiS Sq;have HSK:=aiS hSK;have HB1:=aiS (HB0.out.trans (hb1.mono hsz0));have fu:=aiS (HX0.out.below hb1 HX0.out.lt)
 have hsz1 : w0.heap.size <= w1.heap.size:=hb1.size
 clear q0 q1 q2 q3 q4 q5 q6 q7 q8 q9 kr cn Sq hSK hb1
 obtain ⟨q0,q1,q2,q3,q4,q5,q6,q7,q8,q9,kr⟩:=eu fu.out
 go_wp2_with fail
 refine (sn w1).mono ?_
 rintro e w2 ⟨T,rfl,hSt,hb2,hT1,hT2⟩
 have dU:=aiS (fu.out.below hb2 fu.out.lt);clear q0 q1 q2 q3 q4 q5 q6 q7 q8 q9 kr sn
 obtain ⟨q0,q1,q2,q3,q4,q5,q6,q7,q8,q9,kr⟩:=eu dU.out
 have HF : Hid (dG (w2.alloc (.cells #[.int .i64 c.ring,.int .i64 c.window,.int .i64 c.base,.int .i64 c.gain,.int .i64 c.least,.int .i64 c.most,.int .i64 c.aD,.int .i64 c.num,.int .i64 c.den,.int .i64 c.extra,.bool c.aC,.pointer (some ⟨T,0,none⟩),.pointer (some ⟨K,0,none⟩),.int .i64 0] 86)) w2.heap.size c (uM c) (λk=>w.heap.size <= k /\ k < w2.heap.size + 1) /\
  Below w.heap.size w (w2.alloc (.cells #[.int .i64 c.ring,.int .i64 c.window,.int .i64 c.base,.int .i64 c.gain,.int .i64 c.least,.int .i64 c.most,.int .i64 c.aD,.int .i64 c.num,.int .i64 c.den,.int .i64 c.extra,.bool c.aC,.pointer (some ⟨T,0,none⟩),.pointer (some ⟨K,0,none⟩),.int .i64 0] 86))):=aiS (by
  have hsz2:=hb2.size
  have hA : Below w2.heap.size w2 (w2.alloc (.cells #[.int .i64 c.ring,.int .i64 c.window,.int .i64 c.base,.int .i64 c.gain,.int .i64 c.least,.int .i64 c.most,.int .i64 c.aD,.int .i64 c.num,.int .i64 c.den,.int .i64 c.extra,.bool c.aC,.pointer (some ⟨T,0,none⟩),.pointer (some ⟨K,0,none⟩),.int .i64 0] 86)):=aiT
  have Vb:=HCk.out.only (Only.of_below (S:=λ_=>False) hb2) (λ_ _ h=>h)
  have hB:=HB1.out.trans (hb2.mono (by omega))
  refine ⟨⟨T,w1.heap.size,K,[],0,_,SK,⟨ak.new _ _ _,hSt.below hA,by have:=ZH.out;simp;omega,Vb.only (Only.of_below (S:=λ_=>False) hA) (λ_ _ h=>h),λk hk hk2=>?_,⟨?_,?_⟩,⟨⟨by omega,by omega⟩,λk hk=>⟨by omega,by omega⟩,λk hk=>⟨by have:=HSK.out k hk;omega,?_⟩⟩,λk hk=>by simp;exact hk.2⟩,⟨rfl,by simp,by simp [uM],HCO.out⟩⟩,hB.alloc hB.size _⟩
  ·have:=HCk.out.lt k hk2;omega
  ·intro hh;omega
  ·intro hh;have:=Vb.lt _ hh;omega
  ·have:=Vb.lt k hk;omega)
 clear hSt hb2
 go_wp2_with fail
 exact bodyPost_ret (v:=.tuple #[.pointer (some ⟨w2.heap.size,0,none⟩),.int .i64 0]) (by simp [results,Tryz.results9,go_sem]) rfl ⟨_,_,rfl,HF.out.1,λk hk=>hk.1,HF.out.2⟩
set_option maxRecDepth 100000
theorem DK {l : List aG} (hu : qF l) {k : aG} (hk : k ∈ l) : eG l k.key = some k:=by
 obtain ⟨i,hi,rfl⟩:=List.mem_iff_getElem.1 hk
 have h1 : dX l (l[i]).key = i:=by
  have a:=CQ (key:=(l[i]).key) hu (List.getElem?_eq_getElem hi);have b:=zm l (l[i]).key
  rcases Nat.lt_trichotomy (dX l (l[i]).key) i with h | h | h
  ·have hj : dX l (l[i]).key < l.length:=by omega
   have c:=CQ (key:=(l[i]).key) hu (List.getElem?_eq_getElem hj);have d:=List.pairwise_iff_getElem.1 hu _ i hj hi h
   omega
  ·exact h
  ·omega
 have h2 : l[dX l (l[i]).key]? = some (l[i]):=by rw [h1];exact List.getElem?_eq_getElem hi
 have h3 : eF l (l[i]).key = true:=by unfold eF;rw [h2];simp
 unfold eG
 rw [if_pos h3,h2]
theorem Ej (ss : List Sn) (x : Sn) : (jg ss x).length = ss.length + 1:=by
 unfold jg
 have:=List.takeWhile_append_dropWhile (p:=λs : Sn=>decide (s.tick < x.tick)) (l:=ss)
 have h2:=congrArg List.length this
 rw [List.length_append] at h2
 simp only [List.length_append,List.length_cons]
 omega
theorem KG (ss : List Sn) (key : Int) : dX (ss.map iP) key = (ss.takeWhile (λs=>decide (s.tick < key))).length:=by
 induction ss with
 | nil=>rfl
 | cons y ss ih =>
   unfold dX at *
   rw [List.map_cons]
   by_cases hy : y.tick < key
   ·have h1 : decide ((iP y).key < key) = true:=decide_eq_true hy
    have h2 : decide (y.tick < key) = true:=decide_eq_true hy
    simp only [List.takeWhile_cons,h1,h2,if_true,List.length_cons,ih]
   ·have h1 : decide ((iP y).key < key) = false:=decide_eq_false hy
    have h2 : decide (y.tick < key) = false:=decide_eq_false hy
    simp [List.takeWhile_cons,h1,h2]
theorem Vf {most : Int} {r : Rg} {x : Sn} (hl : (r.ss.length : Int) <= most) (hh : eF (r.ss.map iP) x.tick = false) (hs : iI (r.ss.map iP) most r.floor r.gone x.tick = false) : x ∈ (jA most r x).ss:=by
 unfold jA
 split
 ·simp [jg]
 ·rename_i hn
  rw [Ej] at hn
  have hfull : (r.ss.length : Int) = most:=by omega
  have hu : eB (r.ss.map iP) x.tick ≠ 0:=by
   intro hu
   unfold iI at hs
   simp [hu,hfull] at hs
  unfold eB at hu
  rw [hh] at hu
  simp only [Bool.false_eq_true,if_false] at hu
  rw [KG] at hu
  simp only [jg]
  cases ht : r.ss.takeWhile (λs=>decide (s.tick < x.tick)) with
  | nil=>rw [ht] at hu;simp at hu
  | cons y l=>simp
theorem Ci {l : List aG} {most floor : Int} {gone : Bool} {tick base : Int} (h : rZ l most floor gone tick base = 0) : eF l tick = false /\ iI l most floor gone tick = false:=by
 unfold rZ at h
 split at h
 ·cases h
 rename_i h1
 split at h
 ·cases h
 rename_i h2
 exact ⟨by simpa using h1,by simpa using h2⟩
abbrev iq.rg (x : iq) : Rg:=⟨x.ss,x.floor,x.gone⟩
def El (c : aO) (x : iq) (zs : List Int) : Int:=(fT c.ring x.rg zs).2
def wM (c : aO) (x : iq) (loc : Int) (zs : List Int) : iq :=
 if (fT c.ring x.rg zs).2 = 0 then ⟨(jA c.ring x.rg (fT c.ring x.rg zs).1).ss,(jA c.ring x.rg (fT c.ring x.rg zs).1).floor,(jA c.ring x.rg (fT c.ring x.rg zs).1).gone,vw c x.cs (aK loc (fT c.ring x.rg zs).1.time)⟩ else x
def KH (c : aO) (x : iq) (zs : List Int) : Prop:=(fT c.ring x.rg zs).2 = 0 -> ∀ l : List aG,l.map (·.sn) = x.ss -> (∀ k ∈ l,k.key = k.sn.tick) -> Kv l c.ring x.floor x.gone (fT c.ring x.rg zs).1
theorem Il {most : Int} {r : Rg} {x s : Sn} (h : s ∈ (jA most r x).ss) : s = x \/ s ∈ r.ss:=by
 have hi : ∀ s ∈ jg r.ss x,s = x \/ s ∈ r.ss:=by
  intro s hs
  unfold jg at hs
  rcases List.mem_append.1 hs with h | h
  ·exact .inr ((List.takeWhile_sublist _).mem h)
  ·rcases List.mem_cons.1 h with h | h
   ·exact .inl h
   ·exact .inr ((List.dropWhile_sublist _).mem h)
 unfold jA at h
 split at h
 ·exact hi s h
 ·exact hi s (List.mem_of_mem_drop h)
set_option maxHeartbeats 4000000 in
theorem Cj (C : Nat) (c : aO) (zn : c.Ok) (hcc : dB c = 0) (x : iq) (S : Nat -> Prop) (loc : Int) (hloc : ay loc) (a : Option Addr) (len cap : Nat) (zs : List Int) (w : World) (h : dG w C c x S)
 (hz : BytesAt w a len zs) (hc : a = none -> cap = 0) (hlc : len <= cap) (hl : (len : Int) <= 140737488355000) (hL : x.cs.L.length < 1000) (Ky : KH c x zs) :
 Calls Tryz.prog 13 #[.pointer (some ⟨C,0,none⟩),.int .i64 loc,.slice a len cap] w λe w'=>e = .returned (.int .i64 (El c x zs)) /\ dG w' C c (wM c x loc zs) (Grow S w w') /\ Only S w w':=by
 obtain ⟨T,R,K,l,fr,SS,SK,hP,hK⟩:=h
 have iO : Al l (x.ss.map iP):=by rw [← hK.map];exact RV hK.key
 have hzz : dS l c.ring x.floor x.gone zs = fT c.ring x.rg zs:=iO.snap _ _ _ _
 have jE : ∀ k ∈ l,(∀ e ∈ k.sn.ents,e.Ok) /\ k.sn.ents.length <= 64:=λk hk=>by
  refine ⟨?_,(jI.1 (hK.KE _ (by rw [← hK.map];exact List.mem_map_of_mem hk))).len⟩
  obtain ⟨v,hp⟩:=hP.st.ring
  exact (hp.ents k hk).2
 have ac:=Ov T R l c.ring x.floor x.gone SS a len cap zs w hP.st (λk hk=>(jE k hk).2) hz hc hlc hl (λh=>by rw [hzz] at h ⊢;exact Ky h l hK.map hK.key) (Oy hz.u8 (λk hk=>(jE k hk).1)) SF (SE _ _ _ _ _)
 have hgood:=λh=>FC (l:=l) (most:=c.ring) (floor:=x.floor) (gone:=x.gone) (zs:=zs) h
 have Vg:=λh=>(xY (l:=l) (most:=c.ring) (floor:=x.floor) (gone:=x.gone) (zs:=zs) h)
 rw [hzz] at ac hgood Vg
 have Vh : (fT c.ring x.rg zs).2 = 0 -> eF (x.ss.map iP) (fT c.ring x.rg zs).1.tick = false /\ iI (x.ss.map iP) c.ring x.floor x.gone (fT c.ring x.rg zs).1.tick = false:=λh0=>by
  have h1:=Vg h0;have h2:=Ci h1.2.1
  have h3 : (fT c.ring x.rg zs).1.tick = (bD zs).1.tick:=by rw [h1.2.2.2.1];exact (zR h1.2.2.1).2.1
  rw [h3,← iO.has,← iO.stale];exact h2
 have hmem : (fT c.ring x.rg zs).2 = 0 -> (fT c.ring x.rg zs).1 ∈ (jA c.ring x.rg (fT c.ring x.rg zs).1).ss:=λh0 =>
  Vf (r:=x.rg) (by
   obtain ⟨v,hp⟩:=hP.st.ring
   show (x.ss.length : Int) <= c.ring
   rw [← hK.map,List.length_map]
   exact hP.room) (Vh h0).1 (Vh h0).2
 have HAX : Hid (wM c x loc zs = if (fT c.ring x.rg zs).2 = 0 then ⟨(jA c.ring x.rg (fT c.ring x.rg zs).1).ss,(jA c.ring x.rg (fT c.ring x.rg zs).1).floor,(jA c.ring x.rg (fT c.ring x.rg zs).1).gone,vw c x.cs (aK loc (fT c.ring x.rg zs).1.time)⟩ else x):=aiS rfl
 have HP:=aiS hP;have HK:=aiS hK;have HG:=aiS hgood;have HM:=aiS hmem
 unfold El
 generalize wM c x loc zs = ax at *
 generalize fT c.ring x.rg zs = z at *
 obtain ⟨sn,er⟩:=z
 simp only at *
 have c11:=hP.blk.cell 11;simp at c11;clear hP hK hgood hmem Vh Vg jE iO hzz Ky hz
 go_enter Tryz.func13,Tryz.ntmps13
 go_wp2_with fail
 refine ac.mono ?_
 rintro e w1 ⟨rfl,⟨l',fl,g,hS1,hR⟩,hO⟩
 clear ac;have SG:=hO.blk HP.out.blk HP.out.nC.1
 have Oz:=HP.out.ck.only hO (λk hk hh=>HP.out.Fz k hh hk)
 have aan:=hO.size
 by_cases her : er = 0
 ·subst her
  obtain rfl : ax = _:=HAX.out.trans (if_pos rfl)
  rcases hR with ⟨h,_⟩ | ⟨_,kx,hk1,hk2,Hz⟩
  ·exact absurd rfl h
  have hgd : pq sn:=HG.out rfl
  have hl2 : ∀ k ∈ l',k.key = k.sn.tick:=λk hk=>by
   rcases Hz.2 k hk with rfl | hk
   ·rw [hk1];exact hk2
   ·exact HK.out.key k hk
  have hlm : l'.map (·.sn) = (jA c.ring x.rg sn).ss /\ fl = (jA c.ring x.rg sn).floor /\ g = (jA c.ring x.rg sn).gone:=by
   have:=Hz.1
   rw [HK.out.map,hk1] at this
   rw [← show _ = jA c.ring x.rg sn from this]
   exact ⟨rfl,rfl,rfl⟩
  have Vi : ∀ s ∈ (jA c.ring x.rg sn).ss,fZ s = 0:=λs hs=>by
   rcases Il hs with rfl | hs
   ·exact jI.2 hgd
   ·exact HK.out.KE s hs
  have SH : ∀ k ∈ l',k.sn.ents.length <= 64:=λk hk=>(jI.1 (Vi _ (by rw [← hlm.1];exact List.mem_map_of_mem hk))).len
  have hget : ∃ k,eG l' sn.tick = some k /\ k.sn = sn:=by
   have h1 : sn ∈ l'.map (·.sn):=by rw [hlm.1];exact HM.out rfl
   obtain ⟨k,hk,hks⟩:=List.mem_map.1 h1
   obtain ⟨v,hp⟩:=hS1.ring
   refine ⟨k,?_,hks⟩
   rw [← hks,← hl2 k hk]
   exact DK hp.up hk
  obtain ⟨kk,hkk,hks⟩:=hget
  have gt:=MV T R l' c.ring fl g _ sn.tick w1 hS1 SH
  rw [hkk] at gt
  have hM : mX (some kk) = sn.time:=by show kk.sn.time = _;rw [hks]
  rw [hM] at gt
  generalize eF l' sn.tick = hv at *
  generalize vo (some kk) = st at *
  generalize (gT (some kk)) = se at *
  have HRM : Hid ((jA c.ring x.rg sn).ss.length <= c.ring):=aiS (by
   unfold jA
   split
   ·assumption
   ·rename_i hh
    rw [Ej] at hh
    have h1:=HP.out.room
    have h2 : x.ss.length = l.length:=by have:=congrArg List.length HK.out.map;rw [List.length_map] at this;exact this.symm
    show ((List.drop 1 (jg x.rg.ss sn)).length : Int) <= c.ring
    rw [List.length_drop,Ej,show x.rg.ss.length = l.length from h2]
    omega)
  have gL:=aiS hS1;have Ko:=aiS SG;have afa:=aiS Oz;have oK:=aiS hO;have WB:=aiS hlm;have HL2:=aiS hl2;have iN:=aiS Vi;have HGD:=aiS hgd;have Kz:=aiS aan;have c11':=SG.cell 11;simp at c11';clear hS1 SG Oz hO hlm hl2 Vi hgd aan Hz SH hkk hM c11 HAX
  go_wp2_with fail
  refine gt.mono ?_
  rintro e w2 ⟨ga,gc,rfl,hE,hB⟩
  clear hE gt
  obtain ⟨v2,hv2⟩ : ∃ v,w2.alloc (.cells #[.int .i64 0,.int .i64 0,.slice none 0 0] 36) = v:=⟨_,rfl⟩
  have hBb : Below w2.heap.size w2 v2:=by rw [← hv2];exact aiT
  have bE : ak v2 w2.heap.size #[.int .i64 0,.int .i64 0,.slice none 0 0] 36:=by rw [← hv2];exact ak.new _ _ _
  have f0:=bE.free 0;have f1:=bE.free 1;have f2:=bE.free 2;have q0:=bE.cell 0;have q1:=bE.cell 1;have q2:=bE.cell 2;simp at q0 q1 q2;have hX:=fB (v0:=.int .i64 st) (v1:=.int .i64 sn.time) (v2:=.slice ga se.length gc) bE;have hbx:=dz (v0:=.int .i64 st) (v1:=.int .i64 sn.time) (v2:=.slice ga se.length gc) hBb (Nat.le_refl _)
  obtain ⟨u2,hu2⟩ : ∃ u,((v2.setCell ⟨w2.heap.size,0,none⟩ (.int .i64 st)).setCell ⟨w2.heap.size,1,none⟩ (.int .i64 sn.time)).setCell ⟨w2.heap.size,2,none⟩ (.slice ga se.length gc) = u:=⟨_,rfl⟩
  rw [hu2] at hX hbx
  clear hBb bE
  have Gi : Below w1.heap.size w1 u2:=hB.trans (hbx.mono hB.size)
  have hC2:=Ko.out.below Gi Ko.out.lt;have qd:=aiS hC2;have HS2:=aiS (gL.out.below Gi)
  have afb:=aiS (afa.out.only (Only.of_below (S:=λ_=>False) Gi) (λ_ _ h=>h))
  have bQ:=aiS (oK.out.eX Gi)
  have Vj : Hid (w1.heap.size <= u2.heap.size):=aiS Gi.size
  have x1:=hX.cell 1;have c12:=hC2.cell 12;simp at x1 c12;clear hB hbx Gi hC2 hX c11'
  go_wp2_with fail
  clear hv2 hu2 f0 f1 f2 q0 q1 q2
  refine aQ 7 (by kernel_rfl) (by kernel_rfl) ?_
  simp only [List.take_succ_cons,List.take_zero,List.drop_succ_cons,List.drop_zero]
  repeat (apply aA;(next=>(intro W hW K hK;have y0:=hW.cell x1;have y1:=hW.cell c12;go_simp;first | exact ⟨hW,hK⟩ | exact hK));(next=>exact aH.self _);(try go_simp))
  refine aT ?_
  intro WC aP
  have bP : Below u2.heap.size u2 WC:=aP
  have HC3:=aiS (qd.out.below bP qd.out.lt);have WI:=aiS (HS2.out.below bP)
  have aao:=afb.out.only (Only.of_below (S:=λ_=>False) bP) (λ_ _ h=>h)
  have fK:=aiS (bQ.out.eX bP)
  have OA : Hid (w1.heap.size <= WC.heap.size):=aiS (Nat.le_trans Vj.out bP.size)
  have sm:=Sl K c zn hcc x.cs HK.out.cs hL loc sn.time hloc ⟨by have:=HGD.out.time;omega,by have:=HGD.out.time;omega⟩ SK WC aao
  have Gj : (vw c x.cs (aK loc sn.time)).Ok c:=Sk HK.out.cs (vH hcc).2.1 (jq _ _) hL
  have Vk:=aiS Gj;clear aP bP aao x1 c12 Gj
  go_wp2_with fail
  refine sm.mono ?_
  rintro e w4 ⟨rfl,aap,hO4⟩
  have HF : Hid (dG w4 C c ⟨(jA c.ring x.rg sn).ss,(jA c.ring x.rg sn).floor,(jA c.ring x.rg sn).gone,vw c x.cs (aK loc sn.time)⟩ (Grow S w w4) /\ Only S w w4):=aiS (by
   have hs4:=hO4.size;have hs3:=OA.out;have hsw:=Kz.out;have hsub:=HP.out.sub;have hlt:=HP.out.lt
   have hst:=WI.out.only hO4 (λk hk hh=>by
    rcases hk with hk | hk
    ·exact HP.out.Fz k hk hh
    ·have:=hlt k (hsub.2.2 k hh);omega)
   refine ⟨⟨T,R,K,l',fr,_,_,⟨hO4.blk HC3.out HP.out.nC.2,by rw [← WB.out.2.1,← WB.out.2.2];exact hst,?_,aap,λk hk hh=>?_,⟨λhh=>?_,λhh=>?_⟩,⟨⟨.inl hsub.1,?_⟩,λk hk=>⟨?_,?_⟩,λk hk=>⟨?_,hk.2⟩⟩,λk hk=>hk.2⟩,⟨WB.out.1,HL2.out,iN.out,Vk.out⟩⟩,?_⟩
   ·have h1:=HRM.out
    rw [← WB.out.1,List.length_map] at h1
    exact h1
   ·rcases hk with hk | hk
    ·rcases hh.1 with h5 | h5
     ·exact HP.out.Fz k hk h5
     ·have:=hlt k (hsub.2.1 k hk);omega
    ·rcases hh.1 with h5 | h5
     ·have:=hlt k (hsub.2.2 k h5);omega
     ·omega
   ·rcases hh with hh | hh
    ·exact HP.out.nC.1 hh
    ·have:=hlt C hsub.1;omega
   ·rcases hh.1 with hh | hh
    ·exact HP.out.nC.2 hh
    ·have:=hlt C hsub.1;omega
   ·have:=hlt C hsub.1;omega
   ·rcases hk with hk | hk
    ·exact .inl (hsub.2.1 k hk)
    ·exact .inr hk.1
   ·rcases hk with hk | hk
    ·have:=hlt k (hsub.2.1 k hk);omega
    ·omega
   ·rcases hk.1 with hk | hk
    ·exact .inl (hsub.2.2 k hk)
    ·exact .inr (by omega)
   ·exact (fK.out.weaken (λk _ hk=>hsub.2.1 k hk)).aW hO4 (λi hi hh=>hsub.2.2 i hh))
  clear aap hO4 sm
  go_wp2_with fail
  exact bodyPost_ret (v:=.int .i64 0) (by simp [results,Tryz.results13,go_sem]) rfl ⟨rfl,HF.out⟩
 ·obtain rfl : ax = x:=HAX.out.trans (if_neg her)
  have hen : (er != 0) = true:=by simpa using her
  rcases hR with ⟨_,rfl,rfl,rfl⟩ | ⟨h,_⟩
  ·have HF : Hid (dG w1 C c ax (Grow S w w1) /\ Only S w w1):=aiS (by
    have hsub:=HP.out.sub;have hlt:=HP.out.lt
    refine ⟨⟨T,R,K,l',fr,_,SK,⟨SG,hS1,HP.out.room,Oz,λk hk hh=>?_,⟨λhh=>?_,HP.out.nC.2⟩,⟨⟨.inl hsub.1,?_⟩,λk hk=>⟨?_,?_⟩,λk hk=>⟨.inl (hsub.2.2 k hk),?_⟩⟩,λk hk=>hk.2⟩,HK.out⟩,hO.weaken (λk _ hk=>hsub.2.1 k hk)⟩
    ·rcases hk with hk | hk
     ·exact HP.out.Fz k hk hh
     ·have:=hlt k (hsub.2.2 k hh);omega
    ·rcases hh with hh | hh
     ·exact HP.out.nC.1 hh
     ·have:=hlt C hsub.1;omega
    ·have:=hlt C hsub.1;omega
    ·rcases hk with hk | hk
     ·exact .inl (hsub.2.1 k hk)
     ·exact .inr hk.1
    ·rcases hk with hk | hk
     ·have:=hlt k (hsub.2.1 k hk);omega
     ·omega
    ·have:=hlt k (hsub.2.2 k hk);omega)
   clear SG Oz hS1 hO her
   go_wp2_with fail
   exact bodyPost_ret (v:=.int .i64 er) (by simp [results,Tryz.results13,go_sem]) rfl ⟨rfl,HF.out⟩
  ·exact absurd h her
set_option maxRecDepth 100000
theorem Yf {l : List aG} {x : aG} (hk : ∀ k ∈ l,k.key = k.sn.tick) (hx : x.key = x.sn.tick) : (nU l x).map (·.sn) = jg (l.map (·.sn)) x.sn:=by
 induction l with
 | nil=>rfl
 | cons y l ih =>
   have h1:=ih (λk h=>hk k (List.mem_cons_of_mem _ h))
   have hy:=hk y (List.mem_cons_self ..)
   by_cases h : y.key < x.key
   ·have h2 : decide (y.sn.tick < x.sn.tick) = true:=by rw [← hy,← hx];exact decide_eq_true h
    rw [MN h]
    unfold jg at h1 ⊢
    simp only [List.map_cons,List.takeWhile_cons,List.dropWhile_cons,h2,if_true,h1,List.cons_append]
   ·have h2 : decide (y.sn.tick < x.sn.tick) = false:=by rw [← hy,← hx];exact decide_eq_false h
    rw [MO h]
    unfold jg
    simp [List.takeWhile_cons,List.dropWhile_cons,h2]
theorem OB {l : List aG} {most floor : Int} {gone : Bool} {sn : Sn} (hkey : ∀ k ∈ l,k.key = k.sn.tick) (hhas : eF l sn.tick = false) (hst : iI l most floor gone sn.tick = false) (hroom : (l.length : Int) <= most) (Wi : most <= 64) : Kv l most floor gone sn:=by
 intro R S x w hx hk hR hO hok hS
 have hk' : x.key = x.sn.tick:=by rw [hk,hx]
 have hin:=Yf hkey hk'
 rw [← hk] at hhas hst
 have hfl : gone = true -> floor < x.key:=λhg=>by
  unfold iI at hst
  rw [hg] at hst
  simp at hst
  exact hst.1
 have Oh : (l.length : Int) = most -> 0 < dX l x.key:=λhe=>by
  unfold iI eB at hst
  rw [hhas] at hst
  simp [he] at hst
  omega
 refine (ZF R l most floor gone S x w hR hO hok hS hhas hroom Wi hfl Oh).mono ?_
 have hmem : ∀ k ∈ nU l x,k = x \/ k ∈ l:=λk hk=>D9 hk
 have hlen : (jg (l.map (·.sn)) x.sn).length = (nU l x).length:=by rw [← hin,List.length_map]
 rintro e w' (⟨h1,rfl,h2,h3⟩ | ⟨h1,k0,h0,rfl,h2,h3⟩)
 ·refine ⟨nU l x,floor,gone,?_,h2,h3,?_,hmem⟩
  ·unfold Ku;rw [if_pos (by rw [hlen];exact h1)]
  ·unfold jA;rw [if_pos (by rw [hlen];exact h1),hin]
 ·have hk0 : k0.key = k0.sn.tick:=by
   rcases hmem k0 (List.mem_of_getElem? h0) with rfl | h
   ·exact hk'
   ·exact hkey _ h
  have hhd : (jg (l.map (·.sn)) x.sn).headD dD = k0.sn:=by
   rw [← hin]
   cases hl : nU l x with
   | nil=>rw [hl] at h0;cases h0
   | cons y r=>rw [hl] at h0;cases h0;rfl
  have aaq : ¬ (((jg (l.map (·.sn)) x.sn).length : Nat) : Int) <= most:=by rw [hlen];omega
  refine ⟨(nU l x).drop 1,k0.key,true,?_,h2,h3,?_,λk hk=>hmem k (List.mem_of_mem_drop hk)⟩
  ·unfold Ku;rw [if_neg aaq];show _ = Ending.returned (.tuple #[.int .i64 ((jg (l.map (·.sn)) x.sn).headD dD).tick,_,_]);rw [hhd,hk0]
  ·unfold jA;rw [if_neg aaq];show (⟨_,_,_⟩ : Rg) = ⟨(jg (l.map (·.sn)) x.sn).drop 1,((jg (l.map (·.sn)) x.sn).headD dD).tick,true⟩;rw [hhd,hk0,← hin,List.map_drop]
theorem FE {c : aO} {x : iq} {zs : List Int} (hc : dB c = 0) (hlen : (x.ss.length : Int) <= c.ring) : KH c x zs:=by
 intro h0 l hl hk
 have iO : Al l (x.ss.map iP):=by rw [← hl];exact RV hk
 have hll : l.length = x.ss.length:=by rw [← hl,List.length_map]
 have h1:=xY (l:=x.ss.map iP) (most:=c.ring) (floor:=x.floor) (gone:=x.gone) (zs:=zs) h0;have h2:=Ci h1.2.1
 have h3 : (fT c.ring x.rg zs).1.tick = (bD zs).1.tick:=by
  have:=(zR h1.2.2.1).2.1
  unfold fT
  rw [h1.2.2.2.1];exact this
 refine OB hk ?_ ?_ (by rw [hll];exact hlen) (Ii hc).2
 ·rw [h3,iO.has];exact h2.1
 ·rw [h3,iO.stale];exact h2.2
theorem dG.room {w : World} {C : Nat} {c : aO} {x : iq} {S : Nat -> Prop} (h : dG w C c x S) : (x.ss.length : Int) <= c.ring:=by
 obtain ⟨T,R,K,l,fr,SS,SK,h1,h2⟩:=h
 rw [← h2.map,List.length_map];exact h1.room
def zU (k : aG) : List Value:=[.int .i64 k.sn.tick,.int .i64 k.sn.time,fQ k]
def mZ : aG:=⟨0,dD,none,0⟩
def Vl (w : World) (a : Option Addr) (ks : List aG) : Prop :=
 qI w a ks.length (λi=>(ks.getD i mZ).sn.tick) (λi=>(ks.getD i mZ).sn.time) (λi=>((ks.getD i mZ).a,(ks.getD i mZ).sn.ents.length,(ks.getD i mZ).cap)) (λi j=>(ks.getD i mZ).sn.ents.getD j bK)
theorem Yg : (Tryz.prog.info? 36).map (λi=>(i.zero,i.size,i.bytes)) = some (some (.agg #[.int .i64 0,.int .i64 0,.slice none 0 0]),3,40):=by kernel_rfl
structure gH (w : World) (base : Nat) (v : Value) (ks : List aG) : Prop where
 row : w.ownsRow base 36 3 v ks.length (ks.flatMap zU)
 ents : ∀ k ∈ ks,aM w base (fQ k) k.sn.ents /\ (∀ e ∈ k.sn.ents,e.Ok) /\ k.sn.ents.length <= 64
theorem gH.nil (w : World) (base : Nat) : gH w base (.slice none 0 0) []:=⟨World.ownsRow_nil _ _ _ _,by simp⟩
theorem gH.below {w w' : World} {base : Nat} {v : Value} {ks : List aG} (h : gH w base v ks) (hb : Below w.heap.size w w') : gH w' base v ks :=
 ⟨oU h.row (Only.of_below (S:=λ_=>False) hb) (λ_ _ h=>h),λk hk=>⟨(h.ents k hk).1.below hb,(h.ents k hk).2⟩⟩
theorem KI : ∀ (d : List aG) (i : Nat) (x : aG),d[i]? = some x -> ∀ j,j < 3 -> (d.flatMap zU)[i * 3 + j]? = (zU x)[j]?
 | [],i,r,h,_,_=>by simp at h
 | y :: d,0,x,h,j,hj=>by
   simp at h;subst h
   rw [List.flatMap_cons,List.getElem?_append_left (by show _ < 3;omega)]
   congr 1;omega
 | y :: d,i + 1,x,h,j,hj=>by
   have h' : d[i]? = some x:=by simpa using h
   rw [List.flatMap_cons,List.getElem?_append_right (by show 3 <= _;omega),show (zU y).length = 3 from rfl,show (i + 1) * 3 + j - 3 = i * 3 + j by omega]
   exact KI d i x h' j hj
theorem gH.sns {w : World} {base : Nat} {v : Value} {ks : List aG} (h : gH w base v ks) : ∃ a c,v = .slice a ks.length c /\ Vl w a ks /\ (a = none -> c = 0) /\ ks.length <= c:=by
 have hc:=λg hg=>h.row.cells (g:=g) hg
 obtain ⟨hr,he⟩:=h
 have jE : ∀ i,i < ks.length -> dw w (ks.getD i mZ).a (ks.getD i mZ).sn.ents.length (λj=>(ks.getD i mZ).sn.ents.getD j bK) /\ ((ks.getD i mZ).sn.ents.length : Int) <= 4611686018427387904:=λi hi=>by
  have hk : ks.getD i mZ = ks[i]:=by simp [List.getD,hi]
  rw [hk]
  obtain ⟨h1,h2,h3⟩:=he _ (List.getElem_mem hi)
  obtain ⟨a,c,e,h4,_⟩:=h1.ents h2
  injection e with e1
  rw [← e1] at h4
  exact ⟨h4,by omega⟩
 obtain ⟨_,⟨rfl,hn⟩ | ⟨g,cap,cur,rfl,a,b,c,d⟩⟩:=hr
 ·refine ⟨none,0,by rw [hn],⟨.inl hn,jE⟩,λ_=>rfl,by omega⟩
 ·refine ⟨_,_,rfl,⟨.inr ⟨g,0,rfl,(Array.getElem?_eq_some_iff.1 b).1,λi hi=>?_⟩,jE⟩,λh=>(by cases h),c⟩
  have hx : ks[i]? = some (ks.getD i mZ):=by simp [List.getD,hi]
  have hf:=KI ks i _ hx
  have ha : ∀ o,(⟨g,0,none⟩ : Addr).add o = ⟨g,o,none⟩:=λo=>by unfold Addr.add;split <;> simp_all
  have cell : ∀ j u,j < 3 -> (zU (ks.getD i mZ))[j]? = some u -> w.cell? ⟨g,i * 3 + j,none⟩ = some u:=λj u hj hu=>by
   rw [← ha];exact hc g rfl _ _ (by rw [hf j hj];exact hu)
  rw [Nat.zero_add]
  exact ⟨cell 0 _ (by decide) rfl,cell 1 _ (by decide) rfl,cell 2 _ (by decide) rfl⟩
theorem gH.app {ops : Array Oper} {rest : List Oper} {o : Oper} {a : Act} {Q : Exit -> Act -> World -> Prop} (w : World) (hgd : o.guard = none) (s x : Operand)
 (ho : o.op = .call { callee:=.builtin .append,args:=#[s,x],argTypes:=#[54,54] })
 (base : Nat) (v : Value) (ks : List aG) (hs : a.eval s = v) (hown : gH w base v ks) (g : Nat) (k : aG) (hx : a.eval x = .slice (some ⟨g,0,none⟩) 1 1) (hb : ak w g #[.int .i64 k.sn.tick,.int .i64 k.sn.time,.slice k.a k.sn.ents.length k.cap] 36)
 (hk : aM w base (fQ k) k.sn.ents /\ (∀ e ∈ k.sn.ents,e.Ok) /\ k.sn.ents.length <= 64) (hl : ks.length <= 1000000) (hbase : base <= w.heap.size)
 (h : ∀ v' w',gH w' base v' (ks ++ [k]) -> w.grownBy w' v.ownBlock -> wpList Tryz.prog ops Q rest (a.put o.dst v') w') : wpList Tryz.prog ops Q (o :: rest) a w:=by
 refine pU w hgd s x 54 36 ho base _ 3 40 Tryz.underlying54 Yg rfl (by decide) v ks.length (ks.flatMap zU) hs hown.row g _ hx hb rfl (by intro u hu;simp at hu;rcases hu with rfl | rfl | rfl <;> rfl) (by unfold maxLen;omega) (by omega) hbase (λv' w' h1 h2=>h v' w' ⟨?_,?_⟩ h2)
 ·rw [List.length_append,List.flatMap_append]
  simpa [zU,fQ] using h1
 ·intro k' hk'
  have hold : aM w base (fQ k') k'.sn.ents /\ (∀ e ∈ k'.sn.ents,e.Ok) /\ k'.sn.ents.length <= 64:=by
   rcases List.mem_append.1 hk' with h | h
   ·exact hown.ents k' h
   ·simp at h;subst h;exact hk
  exact ⟨hold.1.only (jc h2) (λj hj hv=>Hg hown.row hold.1 (by decide) hv hj),hold.2⟩
set_option maxHeartbeats 2000000 in
theorem KJ (C : Nat) (c : aO) (x : iq) (S : Nat -> Prop) (w : World) (h : dG w C c x S) :
 Calls Tryz.prog 43 #[.pointer (some ⟨C,0,none⟩)] w λe w'=>∃ v ks,e = .returned v /\ gH w' w.heap.size v ks /\ ks.map (·.sn) = x.ss /\ Below w.heap.size w w':=by
 obtain ⟨T,R,K,l,fr,SS,SK,hP,hK⟩:=h
 have jE : ∀ k ∈ l,(∀ e ∈ k.sn.ents,e.Ok) /\ k.sn.ents.length <= 64:=λk hk=>by
  refine ⟨?_,(jI.1 (hK.KE _ (by rw [← hK.map];exact List.mem_map_of_mem hk))).len⟩
  obtain ⟨v,hp⟩:=hP.st.ring
  exact (hp.ents k hk).2
 have ln:=λW h=>XY T R l c.ring x.floor x.gone SS W h
 have at_:=λ(i : Int) W h=>Z6 T R l c.ring x.floor x.gone SS i W h (λk hk=>(jE k hk).2)
 have c11:=hP.blk.cell 11;simp at c11;have HC:=aiS hP.blk;have HS:=aiS hP.st;have HM:=aiS hK.map;have HE:=aiS jE
 have h64 : l.length <= 64:=by obtain ⟨v,hp⟩:=hP.st.ring;have:=hp.len;omega
 have H64:=aiS h64;clear hP hK jE h64
 go_enter Tryz.func43,Tryz.ntmps43
 go_wp2_with fail
 refine (ln w HS.out).mono ?_
 rintro e w1 ⟨rfl,rfl⟩
 clear ln;have afc:=c11
 go_wp2_with fail
 go_loopw [3,12] (λv i wr=>∃ (k : Nat) (u : Value) (ks : List aG),k <= l.length /\ i = .int .i64 k /\ u = v /\ ks.map (·.sn) = (l.map (·.sn)).take k /\ gH wr w.heap.size u ks /\ Below w.heap.size w wr) (λ_ i _=>l.length - (intOf i).toNat)
 case atStart=>exact ⟨0,_,[],Nat.zero_le _,rfl,rfl,by simp,gH.nil _ _,Below.refl _ _⟩
 case round =>
  obtain ⟨k,v,ks,hk,rfl,rfl,hm,hO,hB⟩:=hrel
  clear c11 afc
  by_cases hlt : k < l.length
  ·have hlt' : (k : Int) < l.length:=by omega
   obtain ⟨y,hy⟩ : ∃ y,l[k]? = some y:=⟨_,List.getElem?_eq_getElem hlt⟩
   have hak : fA l (k : Int) = some y:=by unfold fA;rw [if_neg (by omega)];simpa using hy
   have hst:=HS.out.below hB;have Jt:=at_ k wr hst
   rw [hak] at Jt
   have hye:=HE.out y (List.mem_of_getElem? hy);have hcb:=HC.out.below hB HC.out.lt;have c11:=hcb.cell 11;simp at c11;have HY:=aiS hy;have dI:=aiS hlt;have HYE:=aiS hye;have HMK:=aiS hm;have HO:=aiS hO;have HB:=aiS hB
   have hkl : ks.length = k:=by have:=congrArg List.length hm;simp at this;omega
   have MX:=aiS hkl
   simp only [vo,mX,gT,sQ] at Jt
   obtain ⟨yk,⟨tk,tm,es⟩,ya,yc⟩:=y
   simp only at *
   clear hy hye hm hO hB hst hcb hkl hak at_
   go_wp2_with fail
   refine Jt.mono ?_
   rintro e w1 ⟨a1,c1,rfl,hE,hB⟩
   have HB0:=HB.out;have aau:=HB0.size
   obtain ⟨v1,hv1⟩ : ∃ v,w1.alloc (.cells #[.int .i64 0,.int .i64 0,.slice none 0 0] 36) = v:=⟨_,rfl⟩
   have hBb : Below w1.heap.size w1 v1:=by rw [← hv1];exact aiT
   have bE : ak v1 w1.heap.size #[.int .i64 0,.int .i64 0,.slice none 0 0] 36:=by rw [← hv1];exact ak.new _ _ _
   have f0:=bE.free 0;have f1:=bE.free 1;have f2:=bE.free 2;have q0:=bE.cell 0;have q1:=bE.cell 1;have q2:=bE.cell 2;simp at q0 q1 q2;have hX:=fB (v0:=.int .i64 tk) (v1:=.int .i64 tm) (v2:=.slice a1 es.length c1) bE;have hbx:=dz (v0:=.int .i64 tk) (v1:=.int .i64 tm) (v2:=.slice a1 es.length c1) hBb (Nat.le_refl _)
   obtain ⟨u1,hu1⟩ : ∃ u,((v1.setCell ⟨w1.heap.size,0,none⟩ (.int .i64 tk)).setCell ⟨w1.heap.size,1,none⟩ (.int .i64 tm)).setCell ⟨w1.heap.size,2,none⟩ (.slice a1 es.length c1) = u:=⟨_,rfl⟩
   rw [hu1] at hX hbx
   clear hBb bE
   have Em : Below wr.heap.size wr u1:=hB.trans (hbx.mono hB.size)
   have hE1 : aM u1 w.heap.size (.slice a1 es.length c1) es:=(aM.base hE aau).below hbx
   obtain ⟨u2,hu2⟩ : ∃ v,u1.alloc (.cells #[.int .i64 tk,.int .i64 tm,.slice a1 es.length c1] 36) = v:=⟨_,rfl⟩
   have hb2 : Below u1.heap.size u1 u2:=by rw [← hu2];exact aiT
   have dU : Hid (ak u2 u1.heap.size #[.int .i64 tk,.int .i64 tm,.slice a1 es.length c1] 36):=aiS (by rw [← hu2];exact ak.new _ _ _)
   have HE2:=aiS (hE1.below hb2)
   have gU : Below wr.heap.size wr u2:=Em.trans (hb2.mono Em.size)
   have bQ:=aiS (HO.out.below gU);have HB2:=aiS (HB0.trans (gU.mono HB0.size));have x0:=hX.cell 0;have x1:=hX.cell 1;have x2:=hX.cell 2;simp at x0 x1 x2;clear hB hE hbx Em hE1 hb2 gU hX HB0 aau Jt
   go_wp2_with (at_builtin;refine gH.app _ rfl (.tmp 24) (.tmp 26) rfl w.heap.size _ ks rfl bQ.out _ ⟨tk,⟨tk,tm,es⟩,a1,c1⟩ rfl dU.out ⟨HE2.out,HYE.out.1,HYE.out.2⟩ (by have:=MX.out;have:=H64.out;omega) HB2.out.size ?_)
   intro v' w' hr hg
   have HF : Hid (gH w' w.heap.size v' (ks ++ [⟨tk,⟨tk,tm,es⟩,a1,c1⟩]) /\ Below w.heap.size w w' /\ (ks ++ [(⟨tk,⟨tk,tm,es⟩,a1,c1⟩ : aG)]).map (·.sn) = (l.map (·.sn)).take (k + 1)):=aiS ⟨hr,HB2.out.grown hg HB2.out.size (λj e=>(bQ.out.row.lt j e).1),by
    rw [List.map_append,HMK.out,List.take_add_one,List.getElem?_map,HY.out];rfl⟩
   have hw : wrap64 ((k : Int) + 1) = (k : Int) + 1:=by have:=H64.out;unfold wrap64;omega
   clear hr hg
   go_wp2
   go_roundw
   case rel=>exact ⟨k + 1,_,_,by have:=dI.out;omega,by go_num,rfl,HF.out.2.2,HF.out.1,HF.out.2.1⟩
   case measure=>rw [hw];show l.length - ((k : Int) + 1).toNat < l.length - (k : Int).toNat;have h1:=dI.out;omega
  ·obtain rfl : k = l.length:=by omega
   have HF : Hid (gH wr w.heap.size v ks /\ ks.map (·.sn) = x.ss /\ Below w.heap.size w wr):=aiS ⟨hO,by rw [hm,← List.length_map (f:=λk : aG=>k.sn),List.take_length];exact HM.out,hB⟩
   clear hO hm hB at_
   go_wp2
   exact bodyPost_ret (v:=v) (by simp [results,Tryz.results43,go_sem]) rfl ⟨v,ks,rfl,HF.out⟩
set_option maxRecDepth 100000
theorem Yh : (Tryz.prog.info? 2).map (λi=>(i.zero,i.size,i.bytes)) = some (some (.int .i64 0),1,8):=by kernel_rfl
theorem LH {w : World} {base : Nat} {v : Value} {ks : List aG} (hr : w.ownsRow base 36 3 v ks.length (ks.flatMap zU)) {i : Nat} {x : aG} (hx : ks[i]? = some x) :
 ∃ g c,v = .slice (some ⟨g,0,none⟩) ks.length c /\ g < w.heap.size /\ w.cell? ⟨g,i * 3,none⟩ = some (.int .i64 x.sn.tick) /\ w.cell? ⟨g,i * 3 + 1,none⟩ = some (.int .i64 x.sn.time) /\ w.cell? ⟨g,i * 3 + 2,none⟩ = some (fQ x):=by
 have hi : i < ks.length:=(List.getElem?_eq_some_iff.1 hx).1
 have hc:=λg hg=>hr.cells (g:=g) hg
 obtain ⟨_,⟨rfl,hn⟩ | ⟨g,cap,cur,rfl,a,b,c,d⟩⟩:=hr
 ·omega
 ·have hf:=KI ks i x hx
  have ha : ∀ o,(⟨g,0,none⟩ : Addr).add o = ⟨g,o,none⟩:=λo=>by unfold Addr.add;split <;> simp_all
  have cell : ∀ j u,j < 3 -> (zU x)[j]? = some u -> w.cell? ⟨g,i * 3 + j,none⟩ = some u:=λj u hj hu=>by
   rw [← ha];exact hc g rfl _ _ (by rw [hf j hj];exact hu)
  exact ⟨g,cap,rfl,(Array.getElem?_eq_some_iff.1 b).1,cell 0 _ (by decide) rfl,cell 1 _ (by decide) rfl,cell 2 _ (by decide) rfl⟩
theorem gH.cells {w : World} {base : Nat} {v : Value} {ks : List aG} (h : gH w base v ks) {i : Nat} {x : aG} (hx : ks[i]? = some x) :
 ∃ g c,v = .slice (some ⟨g,0,none⟩) ks.length c /\ g < w.heap.size /\ w.cell? ⟨g,i * 3,none⟩ = some (.int .i64 x.sn.tick) /\ w.cell? ⟨g,i * 3 + 1,none⟩ = some (.int .i64 x.sn.time) /\ w.cell? ⟨g,i * 3 + 2,none⟩ = some (fQ x):=LH h.row hx
theorem Im {w : World} {base base' k n : Nat} {e : TypeId} {v : Value} {xs : List Value} (h : w.ownsRow base e k v n xs) (hb : base' <= base) : w.ownsRow base' e k v n xs:=by
 obtain ⟨h1,h2⟩:=h
 refine ⟨h1,?_⟩
 rcases h2 with h2 | ⟨g,cap,cur,rfl,a,b⟩
 ·exact .inl h2
 ·exact .inr ⟨g,cap,cur,rfl,Nat.le_trans hb a,b⟩
def tkV (s : Sn) : Value:=.int .i64 s.tick
def tL (w : World) (base : Nat) (v : Value) (ss : List Sn) : Prop:=w.ownsRow base 2 1 v ss.length (ss.map tkV)
theorem tL.below {w w' : World} {base : Nat} {v : Value} {ss : List Sn} (h : tL w base v ss) (hb : Below w.heap.size w w') : tL w' base v ss:=oU h (Only.of_below (S:=λ_=>False) hb) (λ_ _ h=>h)
theorem tL.base {w : World} {base base' : Nat} {v : Value} {ss : List Sn} (h : tL w base v ss) (hb : base' <= base) : tL w base' v ss:=Im h hb
theorem tL.cells {w : World} {base : Nat} {v : Value} {ss : List Sn} (h : tL w base v ss) : ∃ a c,v = .slice a ss.length c /\ ∀ (i : Nat) (s : Sn),ss[i]? = some s -> ∃ g,a = some ⟨g,0,none⟩ /\ g < w.heap.size /\ w.cell? ⟨g,i,none⟩ = some (.int .i64 s.tick):=by
 have hc:=λg hg=>World.ownsRow.cells h (g:=g) hg
 obtain ⟨_,⟨rfl,hn⟩ | ⟨g,cap,cur,rfl,a,b,c,d⟩⟩:=h
 ·refine ⟨none,0,by rw [hn],λi s hs=>?_⟩
  have:=(List.getElem?_eq_some_iff.1 hs).1
  omega
 ·refine ⟨_,cap,rfl,λi s hs=>⟨g,rfl,(Array.getElem?_eq_some_iff.1 b).1,?_⟩⟩
  have ha : (⟨g,0,none⟩ : Addr).add i = ⟨g,i,none⟩:=by unfold Addr.add;split <;> simp_all
  rw [← ha]
  exact hc g rfl i _ (by rw [List.getElem?_map,hs];rfl)
set_option maxHeartbeats 2000000 in
theorem Vm (C : Nat) (c : aO) (x : iq) (S : Nat -> Prop) (w : World) (h : dG w C c x S) :
 Calls Tryz.prog 22 #[.pointer (some ⟨C,0,none⟩)] w λe w'=>∃ v,e = .returned v /\ tL w' w.heap.size v x.ss /\ Below w.heap.size w w':=by
 have sn:=KJ C c x S w h;have h64:=h.ok.2.2;clear h
 go_enter Tryz.func22,Tryz.ntmps22
 go_wp2_with fail
 refine sn.mono ?_
 rintro e w1 ⟨v,ks,rfl,hO,hm,hB⟩
 clear sn
 have hkl : ks.length = x.ss.length:=by rw [← hm,List.length_map]
 have HM:=aiS hm;have MX:=aiS hkl;have HB:=aiS hB;have HO:=aiS hO;have H64:=aiS h64
 obtain ⟨a,cc,rfl,_,_,_⟩:=hO.sns
 have hn : ks.length <= 64:=by omega
 clear hO hB hm h64 hkl
 go_wp2_with fail
 go_loopw [3,11] (λv i wr=>∃ (k : Nat) (u : Value),k <= ks.length /\ i = .int .i64 k /\ u = v /\ tL wr w1.heap.size u (x.ss.take k) /\ Below w1.heap.size w1 wr) (λ_ i _=>ks.length - (intOf i).toNat)
 case atStart=>exact ⟨0,_,Nat.zero_le _,rfl,rfl,World.ownsRow_nil _ _ _ _,Below.refl _ _⟩
 case round =>
  obtain ⟨k,v,hk,rfl,rfl,hT,hb⟩:=hrel
  by_cases hlt : k < ks.length
  ·have hlt' : (k : Int) < ks.length:=by omega
   obtain ⟨y,hy⟩ : ∃ y,ks[k]? = some y:=⟨_,List.getElem?_eq_getElem hlt⟩
   obtain ⟨g,c',e,hg,c0,c1,c2⟩:=HO.out.cells hy
   injection e with e1 e2 e3
   subst e1 e3
   have HY : Hid (x.ss[k]? = some y.sn):=aiS (by rw [← HM.out,List.getElem?_map,hy];rfl)
   have d0:=(hb.cell (p:=⟨g,k * 3,none⟩) hg).trans c0;have d1:=(hb.cell (p:=⟨g,k * 3 + 1,none⟩) hg).trans c1;have d2:=(hb.cell (p:=⟨g,k * 3 + 2,none⟩) hg).trans c2;have dI:=aiS hlt;have HT:=aiS hT;have uZ:=aiS hb
   obtain ⟨yk,⟨tk,tm,es⟩,ya,yc⟩:=y
   simp only at *
   obtain ⟨u1,hu1⟩ : ∃ u,wr.alloc (.cells #[.int .i64 tk,.int .i64 tm,.slice ya es.length yc] 36) = u:=⟨_,rfl⟩
   have hb1 : Below wr.heap.size wr u1:=by rw [← hu1];exact aiT
   have hX1 : ak u1 wr.heap.size #[.int .i64 tk,.int .i64 tm,.slice ya es.length yc] 36:=by rw [← hu1];exact ak.new _ _ _
   have x0:=hX1.cell 0;simp at x0
   obtain ⟨u2,hu2⟩ : ∃ u,u1.alloc (.cells #[.int .i64 tk] 2) = u:=⟨_,rfl⟩
   have hb2 : Below u1.heap.size u1 u2:=by rw [← hu2];exact aiT
   have dU : Hid (ak u2 u1.heap.size #[.int .i64 tk] 2):=aiS (by rw [← hu2];exact ak.new _ _ _)
   have gU : Below wr.heap.size wr u2:=hb1.trans (hb2.mono hb1.size)
   have HT2:=aiS (hT.below gU);have HB2:=aiS (hb.trans (gU.mono hb.size))
   have htl : (x.ss.take k).length = k:=by rw [List.length_take,← MX.out];omega
   have HTL:=aiS htl;clear hT hb hb1 hb2 gU c0 c1 c2 hX1 hy htl
   go_wp2_with (at_builtin;refine pU _ rfl (.tmp 15) (.tmp 18) 63 2 rfl w1.heap.size (.int .i64 0) 1 8 Tryz.underlying63 Yh rfl (by decide) _ _ _ rfl HT2.out _ _ rfl dU.out rfl (by intro u hu;simp at hu;subst hu;rfl) (by have:=HTL.out;unfold maxLen;omega) (by have:=HTL.out;omega) HB2.out.size ?_)
   intro v' w' hr hg'
   have HF : Hid (tL w' w1.heap.size v' (x.ss.take (k + 1)) /\ Below w1.heap.size w1 w'):=aiS ⟨by
    have e1 : x.ss.take (k + 1) = x.ss.take k ++ [⟨tk,tm,es⟩]:=by rw [List.take_add_one,HY.out];rfl
    unfold tL
    rw [e1,List.map_append,List.length_append,List.map_take]
    rw [List.length_take]
    exact hr,HB2.out.grown hg' HB2.out.size (λj e=>(World.ownsRow.lt HT2.out j e).1)⟩
   have hw : wrap64 ((k : Int) + 1) = (k : Int) + 1:=by unfold wrap64;omega
   clear hr hg'
   go_wp2
   go_roundw
   case rel=>exact ⟨k + 1,_,dI.out,by go_num,rfl,HF.out.1,HF.out.2⟩
   case measure=>show ks.length - ((k : Int) + 1).toNat < ks.length - (k : Int).toNat;have h1:=dI.out;omega
  ·obtain rfl : k = ks.length:=by omega
   have HF : Hid (tL wr w.heap.size v x.ss /\ Below w.heap.size w wr):=aiS ⟨by
    rw [MX.out,List.take_length] at hT
    exact hT.base HB.out.size,HB.out.trans (hb.mono HB.out.size)⟩
   clear hT hb
   go_wp2
   exact bodyPost_ret (v:=v) (by simp [results,Tryz.results22,go_sem]) rfl ⟨v,rfl,HF.out⟩
set_option maxHeartbeats 2000000 in
theorem Vn (C : Nat) (c : aO) (x : iq) (S : Nat -> Prop) (s : Sn) (hs : s ∈ x.ss) (w : World) (h : dG w C c x S) :
 Calls Tryz.prog 44 #[.pointer (some ⟨C,0,none⟩),.int .i64 s.tick] w λe w'=>∃ a cp,e = .returned (.tuple #[.agg #[.int .i64 s.tick,.int .i64 s.time,.slice a s.ents.length cp],.bool true]) /\ aM w' w.heap.size (.slice a s.ents.length cp) s.ents /\ (∀ e ∈ s.ents,e.Ok) /\ s.ents.length <= 64 /\ Below w.heap.size w w':=by
 obtain ⟨w0,hw0⟩ : ∃ w0,w.alloc (.cells #[.int .i64 0,.int .i64 0,.slice none 0 0] 36) = w0:=⟨_,rfl⟩
 have hB0 : Below w.heap.size w w0:=by rw [← hw0];exact aiT
 have HX0 : Hid (ak w0 w.heap.size #[.int .i64 0,.int .i64 0,.slice none 0 0] 36):=aiS (by rw [← hw0];exact ak.new _ _ _)
 have HZ0 : Hid (w0.heap.size = w.heap.size + 1):=aiS (by rw [← hw0];simp)
 have HB0:=aiS hB0
 obtain ⟨T,R,K,l,fr,SS,SK,hP,hK⟩:=h.below hB0
 have jE : ∀ k ∈ l,(∀ e ∈ k.sn.ents,e.Ok) /\ k.sn.ents.length <= 64:=λk hk=>by
  refine ⟨?_,(jI.1 (hK.KE _ (by rw [← hK.map];exact List.mem_map_of_mem hk))).len⟩
  obtain ⟨v,hp⟩:=hP.st.ring
  exact (hp.ents k hk).2
 obtain ⟨k,hk,hks⟩ : ∃ k ∈ l,k.sn = s:=by
  rw [← hK.map] at hs
  obtain ⟨k,hk,e⟩:=List.mem_map.1 hs
  exact ⟨k,hk,e⟩
 have hup : qF l:=by obtain ⟨v,hp⟩:=hP.st.ring;exact hp.up
 have hget : eG l s.tick = some k:=by rw [← hks,← hK.key k hk];exact DK hup hk
 have hhas : eF l s.tick = true:=by
  unfold eG at hget
  split at hget
  ·assumption
  ·cases hget
 have gt:=MV T R l c.ring x.floor x.gone SS s.tick w0 hP.st (λk hk=>(jE k hk).2)
 rw [hget,hhas] at gt
 have hse:=jE k hk
 rw [hks] at hse
 simp only [vo,mX,gT,hks] at gt
 have c11:=hP.blk.cell 11;simp at c11;have HSE:=aiS hse;clear hget hhas hup hk hks jE hP hK h hs hB0 hse
 go_enter Tryz.func44,Tryz.ntmps44
 go_wp2_with fail
 clear hw0
 refine gt.mono ?_
 rintro e w2 ⟨a2,c2,rfl,hO,hB⟩
 have hX2:=HX0.out.below hB HX0.out.lt;have f0:=hX2.free 0;have f1:=hX2.free 1;have f2:=hX2.free 2;have q0:=hX2.cell 0;have q1:=hX2.cell 1;have q2:=hX2.cell 2;simp at q0 q1 q2
 obtain ⟨tick,time,ents⟩:=s
 simp only at *
 have aS:=fB (v0:=.int .i64 tick) (v1:=.int .i64 time) (v2:=.slice a2 ents.length c2) hX2
 have HF : Hid (aM (((w2.setCell ⟨w.heap.size,0,none⟩ (.int .i64 tick)).setCell ⟨w.heap.size,1,none⟩ (.int .i64 time)).setCell ⟨w.heap.size,2,none⟩ (.slice a2 ents.length c2)) w.heap.size (.slice a2 ents.length c2) ents /\
  Below w.heap.size w (((w2.setCell ⟨w.heap.size,0,none⟩ (.int .i64 tick)).setCell ⟨w.heap.size,1,none⟩ (.int .i64 time)).setCell ⟨w.heap.size,2,none⟩ (.slice a2 ents.length c2))):=aiS
  ⟨(aM.base hO (by have:=HZ0.out;omega)).only (kS (S:=λk=>k = w.heap.size) (Only.refl _ _) (.inl rfl)) (λj hj hk=>by have:=(hO.lt j hj).1;have:=HZ0.out;omega),dz (HB0.out.trans (hB.mono HB0.out.size)) (Nat.le_refl _)⟩
 obtain ⟨u3,hu3⟩ : ∃ u,((w2.setCell ⟨w.heap.size,0,none⟩ (.int .i64 tick)).setCell ⟨w.heap.size,1,none⟩ (.int .i64 time)).setCell ⟨w.heap.size,2,none⟩ (.slice a2 ents.length c2) = u:=⟨_,rfl⟩
 rw [hu3] at HF aS
 have g0:=aS.cell 0;have g1:=aS.cell 1;have g2:=aS.cell 2;simp at g0 g1 g2;clear hO hB hX2 aS gt HX0 HB0
 go_wp2_with fail
 exact bodyPost_ret (v:=.tuple #[.agg #[.int .i64 tick,.int .i64 time,.slice a2 ents.length c2],.bool true]) (by simp [results,Tryz.results44,go_sem,g0,g1,g2]) rfl ⟨a2,c2,rfl,HF.out.1,HSE.out.1,HSE.out.2,HF.out.2⟩
set_option maxHeartbeats 2000000 in
theorem aav (C : Nat) (c : aO) (x : iq) (S : Nat -> Prop) (w : World) (h : dG w C c x S) :
 Calls Tryz.prog 17 #[.pointer (some ⟨C,0,none⟩)] w λe w'=>∃ v ks,e = .returned v /\ gH w' w.heap.size v ks /\ ks.map (·.sn) = x.ss /\ Below w.heap.size w w':=by
 have kp:=Vm C c x S w h;have HC:=aiS h;have h64:=h.ok.2.2
 have sp:=λs hs W hW=>Vn C c x S s hs W hW
 clear h
 go_enter Tryz.func17,Tryz.ntmps17
 go_wp2_with fail
 refine kp.mono ?_
 rintro e w1 ⟨v,rfl,hT,hB⟩
 clear kp
 obtain ⟨a,cc,rfl,hcell⟩:=hT.cells
 have ED:=aiS hcell;have HB:=aiS hB;have Ko:=aiS (HC.out.below hB);clear hT hB hcell
 generalize hn : x.ss.length = n at *
 have HN:=aiS hn;clear hn
 go_wp2_with fail
 go_loopw [3,11] (λv i wr=>∃ (k : Nat) (u : Value) (ks : List aG),k <= n /\ i = .int .i64 k /\ u = v /\ ks.map (·.sn) = x.ss.take k /\ gH wr w1.heap.size u ks /\ Below w1.heap.size w1 wr) (λ_ i _=>n - (intOf i).toNat)
 case atStart=>exact ⟨0,_,[],Nat.zero_le _,rfl,rfl,by simp,gH.nil _ _,Below.refl _ _⟩
 case round =>
  obtain ⟨k,v,ks,hk,rfl,rfl,hm,hO,hb⟩:=hrel
  by_cases hlt : k < n
  ·have hlt' : (k : Int) < n:=by omega
   obtain ⟨y,hy⟩ : ∃ y,x.ss[k]? = some y:=⟨_,List.getElem?_eq_getElem (by rw [HN.out];exact hlt)⟩
   obtain ⟨g,rfl,hg,c0⟩:=ED.out k y hy
   have d0:=(hb.cell (p:=⟨g,k,none⟩) hg).trans c0;have sp1:=sp y (List.mem_of_getElem? hy) wr (Ko.out.below hb);have HY:=aiS hy;have dI:=aiS hlt;have HMK:=aiS hm;have HO:=aiS hO;have uZ:=aiS hb
   have hkl : ks.length = k:=by have:=congrArg List.length hm;simp at this;rw [HN.out] at this;omega
   have MX:=aiS hkl
   obtain ⟨tk,tm,es⟩:=y
   simp only at *
   clear hy hm hO hb c0 hkl sp
   go_wp2_with fail
   refine sp1.mono ?_
   rintro e w2 ⟨a1,c1,rfl,hE,hok,hle,hB⟩
   have hs2 : w1.heap.size <= w2.heap.size:=Nat.le_trans uZ.out.size hB.size
   obtain ⟨v1,hv1⟩ : ∃ v,w2.alloc (.cells #[.int .i64 0,.int .i64 0,.slice none 0 0] 36) = v:=⟨_,rfl⟩
   have hBb : Below w2.heap.size w2 v1:=by rw [← hv1];exact aiT
   have bE : ak v1 w2.heap.size #[.int .i64 0,.int .i64 0,.slice none 0 0] 36:=by rw [← hv1];exact ak.new _ _ _
   have f0:=bE.free 0;have f1:=bE.free 1;have f2:=bE.free 2;have q0:=bE.cell 0;have q1:=bE.cell 1;have q2:=bE.cell 2;simp at q0 q1 q2;have hX:=fB (v0:=.int .i64 tk) (v1:=.int .i64 tm) (v2:=.slice a1 es.length c1) bE;have hbx:=dz (v0:=.int .i64 tk) (v1:=.int .i64 tm) (v2:=.slice a1 es.length c1) hBb (Nat.le_refl _)
   obtain ⟨u1,hu1⟩ : ∃ u,((v1.setCell ⟨w2.heap.size,0,none⟩ (.int .i64 tk)).setCell ⟨w2.heap.size,1,none⟩ (.int .i64 tm)).setCell ⟨w2.heap.size,2,none⟩ (.slice a1 es.length c1) = u:=⟨_,rfl⟩
   rw [hu1] at hX hbx
   clear hBb bE
   have Em : Below wr.heap.size wr u1:=hB.trans (hbx.mono hB.size)
   have hE1 : aM u1 w1.heap.size (.slice a1 es.length c1) es:=(aM.base hE uZ.out.size).below hbx
   obtain ⟨u2,hu2⟩ : ∃ v,u1.alloc (.cells #[.int .i64 tk,.int .i64 tm,.slice a1 es.length c1] 36) = v:=⟨_,rfl⟩
   have hb2 : Below u1.heap.size u1 u2:=by rw [← hu2];exact aiT
   have dU : Hid (ak u2 u1.heap.size #[.int .i64 tk,.int .i64 tm,.slice a1 es.length c1] 36):=aiS (by rw [← hu2];exact ak.new _ _ _)
   have HE2:=aiS (And.intro (hE1.below hb2) (And.intro hok hle))
   have gU : Below wr.heap.size wr u2:=Em.trans (hb2.mono Em.size)
   have bQ:=aiS (HO.out.below gU);have HB2:=aiS (uZ.out.trans (gU.mono uZ.out.size));have x0:=hX.cell 0;have x1:=hX.cell 1;have x2:=hX.cell 2;simp at x0 x1 x2;clear hB hE hbx Em hE1 hb2 gU hX hs2 sp1 hok hle
   go_wp2_with (at_builtin;refine gH.app _ rfl (.tmp 22) (.tmp 24) rfl w1.heap.size _ ks rfl bQ.out _ ⟨tk,⟨tk,tm,es⟩,a1,c1⟩ rfl dU.out HE2.out (by have:=MX.out;omega) HB2.out.size ?_)
   intro v' w' hr hg
   have HF : Hid (gH w' w1.heap.size v' (ks ++ [⟨tk,⟨tk,tm,es⟩,a1,c1⟩]) /\ Below w1.heap.size w1 w' /\ (ks ++ [(⟨tk,⟨tk,tm,es⟩,a1,c1⟩ : aG)]).map (·.sn) = x.ss.take (k + 1)):=aiS ⟨hr,HB2.out.grown hg HB2.out.size (λj e=>(bQ.out.row.lt j e).1),by
    rw [List.map_append,HMK.out,List.take_add_one,HY.out];rfl⟩
   have hw : wrap64 ((k : Int) + 1) = (k : Int) + 1:=by have:=dI.out;unfold wrap64;omega
   clear hr hg
   go_wp2
   go_roundw
   case rel=>exact ⟨k + 1,_,_,by have:=dI.out;omega,by go_num,rfl,HF.out.2.2,HF.out.1,HF.out.2.1⟩
   case measure=>show n - ((k : Int) + 1).toNat < n - (k : Int).toNat;have h1:=dI.out;omega
  ·obtain rfl : k = n:=by omega
   have HF : Hid (gH wr w.heap.size v ks /\ ks.map (·.sn) = x.ss /\ Below w.heap.size w wr):=aiS ⟨⟨Im hO.row HB.out.size,λk hk=>⟨aM.base (hO.ents k hk).1 HB.out.size,(hO.ents k hk).2⟩⟩,by rw [hm,← HN.out,List.take_length],HB.out.trans (hb.mono HB.out.size)⟩
   clear hO hm hb sp
   go_wp2
   exact bodyPost_ret (v:=v) (by simp [results,Tryz.results17,go_sem]) rfl ⟨v,ks,rfl,HF.out⟩
set_option maxRecDepth 100000
theorem Ct {k n : Nat} (hk : k < n) (hn : n <= 1000) : wrap64 ((k : Int) + 1) = (k : Int) + 1:=by unfold wrap64;omega
theorem wS {n k : Nat} (h : k < n) : n - ((k : Int) + 1).toNat < n - (k : Int).toNat:=by omega
theorem FM {k : Nat} (hw : wrap64 ((k : Int) + 1) = (k : Int) + 1) : Value.int .i64 (wrap64 ((k : Int) + 1)) = .int .i64 ((k + 1 : Nat) : Int):=by rw [hw];rfl
end Go.Proofs.YtklkooeimkedgaaGreat
