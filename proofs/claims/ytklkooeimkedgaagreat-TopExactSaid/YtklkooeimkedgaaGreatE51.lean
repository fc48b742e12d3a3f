/- Walk of TopExact. -/
import Derived.Test.YtklkooeimkedgaaGreatE44
import Derived.Test.YtklkooeimkedgaaGreatE50
set_option linter.unusedVariables false
set_option linter.unusedSimpArgs false
namespace Go.Proofs.YtklkooeimkedgaaGreat
open Go.RowKit
set_option maxRecDepth 100000
structure Kz (w : World) (C : Nat) (c : aN) (T R K : Nat) (l : List aG) (floor : Int) (gone : Bool) (cs : CS) (fr : Int) (S SS SK : Nat -> Prop) : Prop where
 blk : ak w C #[.int .i64 c.ring,.int .i64 c.window,.int .i64 c.base,.int .i64 c.gain,.int .i64 c.least,.int .i64 c.most,.int .i64 c.aC,.int .i64 c.num,.int .i64 c.den,.int .i64 c.extra,.bool c.aB,.pointer (some ⟨T,0,none⟩),.pointer (some ⟨K,0,none⟩),.int .i64 fr] 86
 st : gG w T R l c.ring floor gone SS
 room : (l.length : Int) <= c.ring
 ck : su w K c cs SK
 Fq : ∀ k,SS k -> ¬ SK k
 nC : ¬ SS C /\ ¬ SK C
 sub : S C /\ (∀ k,SS k -> S k) /\ ∀ k,SK k -> S k
 lt : ∀ k,S k -> k < w.heap.size
structure iA where
 ss : List Sn
 floor : Int
 gone : Bool
 cs : CS
structure aer (c : aN) (l : List aG) (x : iA) : Prop where
 map : l.map (·.sn) = x.ss
 key : ∀ k ∈ l,k.key = k.sn.tick
 KA : ∀ s ∈ x.ss,fV s = 0
 cs : x.cs.Ok c
def dH (w : World) (C : Nat) (c : aN) (x : iA) (S : Nat -> Prop) : Prop:=∃ T R K l fr SS SK,Kz w C c T R K l x.floor x.gone x.cs fr S SS SK /\ aer c l x
theorem Kz.only {w w' : World} {C : Nat} {c : aN} {T R K : Nat} {l : List aG} {floor : Int} {gone : Bool} {cs : CS} {fr : Int} {S SS SK U : Nat -> Prop} (h : Kz w C c T R K l floor gone cs fr S SS SK) (ho : Only U w w') (hd : ∀ k,S k -> ¬ U k) : Kz w' C c T R K l floor gone cs fr S SS SK :=
 ⟨ho.blk h.blk (hd _ h.sub.1),h.st.only ho (λk hk=>hd k (h.sub.2.1 k hk)),h.room,h.ck.only ho (λk hk=>hd k (h.sub.2.2 k hk)),h.Fq,h.nC,h.sub,λk hk=>Nat.lt_of_lt_of_le (h.lt k hk) ho.size⟩
theorem dH.only {w w' : World} {C : Nat} {c : aN} {x : iA} {S U : Nat -> Prop} (h : dH w C c x S) (ho : Only U w w') (hd : ∀ k,S k -> ¬ U k) : dH w' C c x S:=by
 obtain ⟨T,R,K,l,fr,SS,SK,h1,h2⟩:=h
 exact ⟨T,R,K,l,fr,SS,SK,h1.only ho hd,h2⟩
theorem dH.below {w w' : World} {C : Nat} {c : aN} {x : iA} {S : Nat -> Prop} (h : dH w C c x S) (hb : Below w.heap.size w w') : dH w' C c x S :=
 h.only (Only.of_below (S:=λ_=>False) hb) (λ_ _ h=>h)
theorem dH.lt {w : World} {C : Nat} {c : aN} {x : iA} {S : Nat -> Prop} (h : dH w C c x S) : ∀ k,S k -> k < w.heap.size:=by
 obtain ⟨T,R,K,l,fr,SS,SK,h1,h2⟩:=h
 exact h1.lt
theorem dH.ok {w : World} {C : Nat} {c : aN} {x : iA} {S : Nat -> Prop} (h : dH w C c x S) : (∀ s ∈ x.ss,fV s = 0) /\ x.cs.Ok c /\ x.ss.length <= 64:=by
 obtain ⟨T,R,K,l,fr,SS,SK,h1,h2⟩:=h
 refine ⟨h2.KA,h2.cs,?_⟩
 obtain ⟨v,hp⟩:=h1.st.ring
 have:=hp.len
 rw [← h2.map,List.length_map]
 omega
def uI (c : aN) : iA:=⟨[],0,false,cs0 c⟩
theorem Ib {c : aN} (h : dF c = 0) : 1 <= c.ring /\ c.ring <= 64:=by
 obtain ⟨h1,_,_⟩:=vE h
 have:=qX.1 h1
 omega
theorem RU (c : aN) (hc : dF c ≠ 0) (w : World) :
 Calls Tryz.prog 9 #[aY c] w λe w'=>e = .returned (.tuple #[.pointer none,.int .i64 (dF c)]) /\ Below w.heap.size w w':=by
 have cn:=UL c hc
 have h0' : (dF c != 0) = true:=by simpa using hc
 clear hc
 generalize dF c = k at *
 unfold aY at cn ⊢
 go_enter Tryz.func9,Tryz.ntmps9
 go_wp2_with fail
 refine (cn _).mono ?_;rintro e w1 ⟨rfl,hb1⟩
 have HB:=ah6 (((Below.refl w.heap.size w).alloc (Nat.le_refl _) (.cells #[.int .i64 c.ring,.int .i64 c.window,.int .i64 c.base,.int .i64 c.gain,.int .i64 c.least,.int .i64 c.most,.int .i64 c.aC,.int .i64 c.num,.int .i64 c.den,.int .i64 c.extra,.bool c.aB] 29)).trans (hb1.mono (by simp)))
 clear cn hb1
 go_wp2_with fail
 exact bodyPost_ret (v:=.tuple #[.pointer none,.int .i64 k]) (by simp [results,Tryz.results9,go_sem]) rfl ⟨rfl,HB.out⟩
theorem ZI {c : aN} (hc : dF c = 0) : (cs0 c).Ok c :=
 ⟨λx hx=>by simp [cs0] at hx,by simp [cs0],⟨by simp [cs0],by simp [cs0]⟩,AO (vE hc).2.1 0,⟨by simp [cs0],by simp [cs0]⟩,⟨by simp [cs0],by simp [cs0]⟩,.inl rfl⟩
set_option maxHeartbeats 1000000 in
theorem KC (c : aN) (ok : c.Ok) (hc : dF c = 0) (w : World) :
 Calls Tryz.prog 9 #[aY c] w λe w'=>∃ C S,e = .returned (.tuple #[.pointer (some ⟨C,0,none⟩),.int .i64 0]) /\ dH w' C c (uI c) S /\ (∀ k,S k -> w.heap.size <= k) /\ Below w.heap.size w w':=by
 have cn:=Xw c ok hc
 obtain ⟨r1,r2⟩:=Ib hc
 have sn:=Uw c.ring r1 r2;have HCO:=ah6 (ZI hc);have Za:=ah6 r1;clear r1 r2
 obtain ⟨w0,hw0⟩ : ∃ w0,w.alloc (.cells #[.int .i64 c.ring,.int .i64 c.window,.int .i64 c.base,.int .i64 c.gain,.int .i64 c.least,.int .i64 c.most,.int .i64 c.aC,.int .i64 c.num,.int .i64 c.den,.int .i64 c.extra,.bool c.aB] 29) = w0:=⟨_,rfl⟩
 have hB0 : Below w.heap.size w w0:=by rw [← hw0];exact ah7
 have hX0 : ak w0 w.heap.size #[.int .i64 c.ring,.int .i64 c.window,.int .i64 c.base,.int .i64 c.gain,.int .i64 c.least,.int .i64 c.most,.int .i64 c.aC,.int .i64 c.num,.int .i64 c.den,.int .i64 c.extra,.bool c.aB] 29:=by rw [← hw0];exact ak.new _ _ _
 have HX0:=ah6 hX0;have HB0:=ah6 hB0
 obtain ⟨q0,q1,q2,q3,q4,q5,q6,q7,q8,q9,ku⟩:=eH hX0
 have hsz0 : w.heap.size <= w0.heap.size:=hB0.size
 clear hB0 hX0
 unfold aY at cn ⊢
 go_enter Tryz.func9,Tryz.ntmps9
 go_wp2_with fail
 clear hw0
 refine (cn w0).mono ?_
 rintro e w1 ⟨K,SK,rfl,RV,hSK,hb1⟩
 have HCk:=ah6 RV;have HSK:=ah6 hSK;have HB1:=ah6 (HB0.out.trans (hb1.mono hsz0));have fq:=ah6 (HX0.out.below hb1 HX0.out.lt)
 have hsz1 : w0.heap.size <= w1.heap.size:=hb1.size
 clear q0 q1 q2 q3 q4 q5 q6 q7 q8 q9 ku cn RV hSK hb1
 obtain ⟨q0,q1,q2,q3,q4,q5,q6,q7,q8,q9,ku⟩:=eH fq.out
 go_wp2_with fail
 refine (sn w1).mono ?_
 rintro e w2 ⟨T,rfl,hSt,hb2,hT1,hT2⟩
 have dR:=ah6 (fq.out.below hb2 fq.out.lt);clear q0 q1 q2 q3 q4 q5 q6 q7 q8 q9 ku sn
 obtain ⟨q0,q1,q2,q3,q4,q5,q6,q7,q8,q9,ku⟩:=eH dR.out
 have HF : Hid (dH (w2.alloc (.cells #[.int .i64 c.ring,.int .i64 c.window,.int .i64 c.base,.int .i64 c.gain,.int .i64 c.least,.int .i64 c.most,.int .i64 c.aC,.int .i64 c.num,.int .i64 c.den,.int .i64 c.extra,.bool c.aB,.pointer (some ⟨T,0,none⟩),.pointer (some ⟨K,0,none⟩),.int .i64 0] 86)) w2.heap.size c (uI c) (λk=>w.heap.size <= k /\ k < w2.heap.size + 1) /\
  Below w.heap.size w (w2.alloc (.cells #[.int .i64 c.ring,.int .i64 c.window,.int .i64 c.base,.int .i64 c.gain,.int .i64 c.least,.int .i64 c.most,.int .i64 c.aC,.int .i64 c.num,.int .i64 c.den,.int .i64 c.extra,.bool c.aB,.pointer (some ⟨T,0,none⟩),.pointer (some ⟨K,0,none⟩),.int .i64 0] 86))):=ah6 (by
  have hsz2:=hb2.size
  have hA : Below w2.heap.size w2 (w2.alloc (.cells #[.int .i64 c.ring,.int .i64 c.window,.int .i64 c.base,.int .i64 c.gain,.int .i64 c.least,.int .i64 c.most,.int .i64 c.aC,.int .i64 c.num,.int .i64 c.den,.int .i64 c.extra,.bool c.aB,.pointer (some ⟨T,0,none⟩),.pointer (some ⟨K,0,none⟩),.int .i64 0] 86)):=ah7
  have UM:=HCk.out.only (Only.of_below (S:=λ_=>False) hb2) (λ_ _ h=>h)
  have hB:=HB1.out.trans (hb2.mono (by omega))
  refine ⟨⟨T,w1.heap.size,K,[],0,_,SK,⟨ak.new _ _ _,hSt.below hA,by have:=Za.out;simp;omega,UM.only (Only.of_below (S:=λ_=>False) hA) (λ_ _ h=>h),λk hk hk2=>?_,⟨?_,?_⟩,⟨⟨by omega,by omega⟩,λk hk=>⟨by omega,by omega⟩,λk hk=>⟨by have:=HSK.out k hk;omega,?_⟩⟩,λk hk=>by simp;exact hk.2⟩,⟨rfl,by simp,by simp [uI],HCO.out⟩⟩,hB.alloc hB.size _⟩
  ·have:=HCk.out.lt k hk2;omega
  ·intro hh;omega
  ·intro hh;have:=UM.lt _ hh;omega
  ·have:=UM.lt k hk;omega)
 clear hSt hb2
 go_wp2_with fail
 exact bodyPost_ret (v:=.tuple #[.pointer (some ⟨w2.heap.size,0,none⟩),.int .i64 0]) (by simp [results,Tryz.results9,go_sem]) rfl ⟨_,_,rfl,HF.out.1,λk hk=>hk.1,HF.out.2⟩
set_option maxRecDepth 100000
theorem Dw {l : List aG} (hu : qD l) {k : aG} (hk : k ∈ l) : eD l k.key = some k:=by
 obtain ⟨i,hi,rfl⟩:=List.mem_iff_getElem.1 hk
 have h1 : dW l (l[i]).key = i:=by
  have a:=Cz (key:=(l[i]).key) hu (List.getElem?_eq_getElem hi);have b:=zk l (l[i]).key
  rcases Nat.lt_trichotomy (dW l (l[i]).key) i with h | h | h
  ·have hj : dW l (l[i]).key < l.length:=by omega
   have c:=Cz (key:=(l[i]).key) hu (List.getElem?_eq_getElem hj);have d:=List.pairwise_iff_getElem.1 hu _ i hj hi h
   omega
  ·exact h
  ·omega
 have h2 : l[dW l (l[i]).key]? = some (l[i]):=by rw [h1];exact List.getElem?_eq_getElem hi
 have h3 : eB l (l[i]).key = true:=by unfold eB;rw [h2];simp
 unfold eD
 rw [if_pos h3,h2]
theorem Ec (ss : List Sn) (x : Sn) : (ji ss x).length = ss.length + 1:=by
 unfold ji
 have:=List.takeWhile_append_dropWhile (p:=λs : Sn=>decide (s.tick < x.tick)) (l:=ss)
 have h2:=congrArg List.length this
 rw [List.length_append] at h2
 simp only [List.length_append,List.length_cons]
 omega
theorem KD (ss : List Sn) (key : Int) : dW (ss.map iR) key = (ss.takeWhile (λs=>decide (s.tick < key))).length:=by
 induction ss with
 | nil=>rfl
 | cons y ss ih =>
   unfold dW at *
   rw [List.map_cons]
   by_cases hy : y.tick < key
   ·have h1 : decide ((iR y).key < key) = true:=decide_eq_true hy
    have h2 : decide (y.tick < key) = true:=decide_eq_true hy
    simp only [List.takeWhile_cons,h1,h2,if_true,List.length_cons,ih]
   ·have h1 : decide ((iR y).key < key) = false:=decide_eq_false hy
    have h2 : decide (y.tick < key) = false:=decide_eq_false hy
    simp [List.takeWhile_cons,h1,h2]
theorem UQ {most : Int} {r : Rg} {x : Sn} (hl : (r.ss.length : Int) <= most) (hh : eB (r.ss.map iR) x.tick = false) (hs : iK (r.ss.map iR) most r.floor r.gone x.tick = false) : x ∈ (jD most r x).ss:=by
 unfold jD
 split
 ·simp [ji]
 ·rename_i hn
  rw [Ec] at hn
  have hfull : (r.ss.length : Int) = most:=by omega
  have hu : d9 (r.ss.map iR) x.tick ≠ 0:=by
   intro hu
   unfold iK at hs
   simp [hu,hfull] at hs
  unfold d9 at hu
  rw [hh] at hu
  simp only [Bool.false_eq_true,if_false] at hu
  rw [KD] at hu
  simp only [ji]
  cases ht : r.ss.takeWhile (λs=>decide (s.tick < x.tick)) with
  | nil=>rw [ht] at hu;simp at hu
  | cons y l=>simp
theorem Ce {l : List aG} {most floor : Int} {gone : Bool} {tick base : Int} (h : rZ l most floor gone tick base = 0) : eB l tick = false /\ iK l most floor gone tick = false:=by
 unfold rZ at h
 split at h
 ·cases h
 rename_i h1
 split at h
 ·cases h
 rename_i h2
 exact ⟨by simpa using h1,by simpa using h2⟩
abbrev iA.rg (x : iA) : Rg:=⟨x.ss,x.floor,x.gone⟩
def Ed (c : aN) (x : iA) (zs : List Int) : Int:=(fQ c.ring x.rg zs).2
def wJ (c : aN) (x : iA) (loc : Int) (zs : List Int) : iA :=
 if (fQ c.ring x.rg zs).2 = 0 then ⟨(jD c.ring x.rg (fQ c.ring x.rg zs).1).ss,(jD c.ring x.rg (fQ c.ring x.rg zs).1).floor,(jD c.ring x.rg (fQ c.ring x.rg zs).1).gone,uY c x.cs (aM loc (fQ c.ring x.rg zs).1.time)⟩ else x
def KE (c : aN) (x : iA) (zs : List Int) : Prop:=(fQ c.ring x.rg zs).2 = 0 -> ∀ l : List aG,l.map (·.sn) = x.ss -> (∀ k ∈ l,k.key = k.sn.tick) -> Kr l c.ring x.floor x.gone (fQ c.ring x.rg zs).1
theorem Ig {most : Int} {r : Rg} {x s : Sn} (h : s ∈ (jD most r x).ss) : s = x \/ s ∈ r.ss:=by
 have hi : ∀ s ∈ ji r.ss x,s = x \/ s ∈ r.ss:=by
  intro s hs
  unfold ji at hs
  rcases List.mem_append.1 hs with h | h
  ·exact .inr ((List.takeWhile_sublist _).mem h)
  ·rcases List.mem_cons.1 h with h | h
   ·exact .inl h
   ·exact .inr ((List.dropWhile_sublist _).mem h)
 unfold jD at h
 split at h
 ·exact hi s h
 ·exact hi s (List.mem_of_mem_drop h)
set_option maxHeartbeats 4000000 in
theorem Cg (C : Nat) (c : aN) (zl : c.Ok) (hcc : dF c = 0) (x : iA) (S : Nat -> Prop) (loc : Int) (hloc : ay loc) (a : Option Addr) (len cap : Nat) (zs : List Int) (w : World) (h : dH w C c x S)
 (hz : BytesAt w a len zs) (hc : a = none -> cap = 0) (hlc : len <= cap) (hl : (len : Int) <= 140737488355000) (hL : x.cs.L.length < 1000) (Ku : KE c x zs) :
 Calls Tryz.prog 13 #[.pointer (some ⟨C,0,none⟩),.int .i64 loc,.slice a len cap] w λe w'=>e = .returned (.int .i64 (Ed c x zs)) /\ dH w' C c (wJ c x loc zs) (Grow S w w') /\ Only S w w':=by
 obtain ⟨T,R,K,l,fr,SS,SK,hP,hK⟩:=h
 have iQ : Al l (x.ss.map iR):=by rw [← hK.map];exact Rx hK.key
 have hzz : dQ l c.ring x.floor x.gone zs = fQ c.ring x.rg zs:=iQ.snap _ _ _ _
 have jH : ∀ k ∈ l,(∀ e ∈ k.sn.ents,e.Ok) /\ k.sn.ents.length <= 64:=λk hk=>by
  refine ⟨?_,(jL.1 (hK.KA _ (by rw [← hK.map];exact List.mem_map_of_mem hk))).len⟩
  obtain ⟨v,hp⟩:=hP.st.ring
  exact (hp.ents k hk).2
 have ac:=Od T R l c.ring x.floor x.gone SS a len cap zs w hP.st (λk hk=>(jH k hk).2) hz hc hlc hl (λh=>by rw [hzz] at h ⊢;exact Ku h l hK.map hK.key) (Oh hz.u8 (λk hk=>(jH k hk).1)) Sb (R9 _ _ _ _ _)
 have hgood:=λh=>Fv (l:=l) (most:=c.ring) (floor:=x.floor) (gone:=x.gone) (zs:=zs) h
 have UR:=λh=>(xW (l:=l) (most:=c.ring) (floor:=x.floor) (gone:=x.gone) (zs:=zs) h)
 rw [hzz] at ac hgood UR
 have UU : (fQ c.ring x.rg zs).2 = 0 -> eB (x.ss.map iR) (fQ c.ring x.rg zs).1.tick = false /\ iK (x.ss.map iR) c.ring x.floor x.gone (fQ c.ring x.rg zs).1.tick = false:=λh0=>by
  have h1:=UR h0;have h2:=Ce h1.2.1
  have h3 : (fQ c.ring x.rg zs).1.tick = (bD zs).1.tick:=by rw [h1.2.2.2.1];exact (zR h1.2.2.1).2.1
  rw [h3,← iQ.has,← iQ.stale];exact h2
 have hmem : (fQ c.ring x.rg zs).2 = 0 -> (fQ c.ring x.rg zs).1 ∈ (jD c.ring x.rg (fQ c.ring x.rg zs).1).ss:=λh0 =>
  UQ (r:=x.rg) (by
   obtain ⟨v,hp⟩:=hP.st.ring
   show (x.ss.length : Int) <= c.ring
   rw [← hK.map,List.length_map]
   exact hP.room) (UU h0).1 (UU h0).2
 have ZJ : Hid (wJ c x loc zs = if (fQ c.ring x.rg zs).2 = 0 then ⟨(jD c.ring x.rg (fQ c.ring x.rg zs).1).ss,(jD c.ring x.rg (fQ c.ring x.rg zs).1).floor,(jD c.ring x.rg (fQ c.ring x.rg zs).1).gone,uY c x.cs (aM loc (fQ c.ring x.rg zs).1.time)⟩ else x):=ah6 rfl
 have HP:=ah6 hP;have HK:=ah6 hK;have HG:=ah6 hgood;have HM:=ah6 hmem
 unfold Ed
 generalize wJ c x loc zs = ax at *
 generalize fQ c.ring x.rg zs = z at *
 obtain ⟨sn,er⟩:=z
 simp only at *
 have c11:=hP.blk.cell 11;simp at c11;clear hP hK hgood hmem UU UR jH iQ hzz Ku hz
 go_enter Tryz.func13,Tryz.ntmps13
 go_wp2_with fail
 refine ac.mono ?_
 rintro e w1 ⟨rfl,⟨l',fl,g,hS1,hR⟩,hO⟩
 clear ac;have Sc:=hO.blk HP.out.blk HP.out.nC.1
 have Oi:=HP.out.ck.only hO (λk hk hh=>HP.out.Fq k hh hk)
 have ZK:=hO.size
 by_cases her : er = 0
 ·subst her
  obtain rfl : ax = _:=ZJ.out.trans (if_pos rfl)
  rcases hR with ⟨h,_⟩ | ⟨_,kx,hk1,hk2,Hr⟩
  ·exact absurd rfl h
  have hgd : oZ sn:=HG.out rfl
  have hl2 : ∀ k ∈ l',k.key = k.sn.tick:=λk hk=>by
   rcases Hr.2 k hk with rfl | hk
   ·rw [hk1];exact hk2
   ·exact HK.out.key k hk
  have hlm : l'.map (·.sn) = (jD c.ring x.rg sn).ss /\ fl = (jD c.ring x.rg sn).floor /\ g = (jD c.ring x.rg sn).gone:=by
   have:=Hr.1
   rw [HK.out.map,hk1] at this
   rw [← show _ = jD c.ring x.rg sn from this]
   exact ⟨rfl,rfl,rfl⟩
  have UW : ∀ s ∈ (jD c.ring x.rg sn).ss,fV s = 0:=λs hs=>by
   rcases Ig hs with rfl | hs
   ·exact jL.2 hgd
   ·exact HK.out.KA s hs
  have Sd : ∀ k ∈ l',k.sn.ents.length <= 64:=λk hk=>(jL.1 (UW _ (by rw [← hlm.1];exact List.mem_map_of_mem hk))).len
  have hget : ∃ k,eD l' sn.tick = some k /\ k.sn = sn:=by
   have h1 : sn ∈ l'.map (·.sn):=by rw [hlm.1];exact HM.out rfl
   obtain ⟨k,hk,hks⟩:=List.mem_map.1 h1
   obtain ⟨v,hp⟩:=hS1.ring
   refine ⟨k,?_,hks⟩
   rw [← hks,← hl2 k hk]
   exact Dw hp.up hk
  obtain ⟨kk,hkk,hks⟩:=hget
  have gt:=MN T R l' c.ring fl g _ sn.tick w1 hS1 Sd
  rw [hkk] at gt
  have hM : mX (some kk) = sn.time:=by show kk.sn.time = _;rw [hks]
  rw [hM] at gt
  generalize eB l' sn.tick = hv at *
  generalize uX (some kk) = st at *
  generalize (gV (some kk)) = se at *
  have HRM : Hid ((jD c.ring x.rg sn).ss.length <= c.ring):=ah6 (by
   unfold jD
   split
   ·assumption
   ·rename_i hh
    rw [Ec] at hh
    have h1:=HP.out.room
    have h2 : x.ss.length = l.length:=by have:=congrArg List.length HK.out.map;rw [List.length_map] at this;exact this.symm
    show ((List.drop 1 (ji x.rg.ss sn)).length : Int) <= c.ring
    rw [List.length_drop,Ec,show x.rg.ss.length = l.length from h2]
    omega)
  have fZ:=ah6 hS1;have Kl:=ah6 Sc;have aes:=ah6 Oi;have oJ:=ah6 hO;have VW:=ah6 hlm;have HL2:=ah6 hl2;have iP:=ah6 UW;have HGD:=ah6 hgd;have Kv:=ah6 ZK;have c11':=Sc.cell 11;simp at c11';clear hS1 Sc Oi hO hlm hl2 UW hgd ZK Hr Sd hkk hM c11 ZJ
  go_wp2_with fail
  refine gt.mono ?_
  rintro e w2 ⟨ga,gc,rfl,hE,hB⟩
  clear hE gt
  obtain ⟨v2,hv2⟩ : ∃ v,w2.alloc (.cells #[.int .i64 0,.int .i64 0,.slice none 0 0] 36) = v:=⟨_,rfl⟩
  have hBb : Below w2.heap.size w2 v2:=by rw [← hv2];exact ah7
  have bC : ak v2 w2.heap.size #[.int .i64 0,.int .i64 0,.slice none 0 0] 36:=by rw [← hv2];exact ak.new _ _ _
  have f0:=bC.free 0;have f1:=bC.free 1;have f2:=bC.free 2;have q0:=bC.cell 0;have q1:=bC.cell 1;have q2:=bC.cell 2;simp at q0 q1 q2;have hX:=fA (v0:=.int .i64 st) (v1:=.int .i64 sn.time) (v2:=.slice ga se.length gc) bC;have hbx:=dB (v0:=.int .i64 st) (v1:=.int .i64 sn.time) (v2:=.slice ga se.length gc) hBb (Nat.le_refl _)
  obtain ⟨u2,hu2⟩ : ∃ u,((v2.setCell ⟨w2.heap.size,0,none⟩ (.int .i64 st)).setCell ⟨w2.heap.size,1,none⟩ (.int .i64 sn.time)).setCell ⟨w2.heap.size,2,none⟩ (.slice ga se.length gc) = u:=⟨_,rfl⟩
  rw [hu2] at hX hbx
  clear hBb bC
  have Gc : Below w1.heap.size w1 u2:=hB.trans (hbx.mono hB.size)
  have hC2:=Kl.out.below Gc Kl.out.lt;have pY:=ah6 hC2;have HS2:=ah6 (fZ.out.below Gc)
  have aeu:=ah6 (aes.out.only (Only.of_below (S:=λ_=>False) Gc) (λ_ _ h=>h))
  have bR:=ah6 (oJ.out.eT Gc)
  have UY : Hid (w1.heap.size <= u2.heap.size):=ah6 Gc.size
  have x1:=hX.cell 1;have c12:=hC2.cell 12;simp at x1 c12;clear hB hbx Gc hC2 hX c11'
  go_wp2_with fail
  clear hv2 hu2 f0 f1 f2 q0 q1 q2
  refine aR 7 (by kernel_rfl) (by kernel_rfl) ?_
  simp only [List.take_succ_cons,List.take_zero,List.drop_succ_cons,List.drop_zero]
  repeat (apply aF;(next=>(intro W hW K hK;have y0:=hW.cell x1;have y1:=hW.cell c12;go_simp;first | exact ⟨hW,hK⟩ | exact hK));(next=>exact aO.self _);(try go_simp))
  refine aV ?_
  intro WC aL
  have bQ : Below u2.heap.size u2 WC:=aL
  have HC3:=ah6 (pY.out.below bQ pY.out.lt);have VX:=ah6 (HS2.out.below bQ)
  have ZL:=aeu.out.only (Only.of_below (S:=λ_=>False) bQ) (λ_ _ h=>h)
  have fJ:=ah6 (bR.out.eT bQ)
  have Oj : Hid (w1.heap.size <= WC.heap.size):=ah6 (Nat.le_trans UY.out bQ.size)
  have sm:=RQ K c zl hcc x.cs HK.out.cs hL loc sn.time hloc ⟨by have:=HGD.out.time;omega,by have:=HGD.out.time;omega⟩ SK WC ZL
  have Gd : (uY c x.cs (aM loc sn.time)).Ok c:=RP HK.out.cs (vE hcc).2.1 (jw _ _) hL
  have UZ:=ah6 Gd;clear aL bQ ZL x1 c12 Gd
  go_wp2_with fail
  refine sm.mono ?_
  rintro e w4 ⟨rfl,ZM,hO4⟩
  have HF : Hid (dH w4 C c ⟨(jD c.ring x.rg sn).ss,(jD c.ring x.rg sn).floor,(jD c.ring x.rg sn).gone,uY c x.cs (aM loc sn.time)⟩ (Grow S w w4) /\ Only S w w4):=ah6 (by
   have hs4:=hO4.size;have hs3:=Oj.out;have hsw:=Kv.out;have hsub:=HP.out.sub;have hlt:=HP.out.lt
   have hst:=VX.out.only hO4 (λk hk hh=>by
    rcases hk with hk | hk
    ·exact HP.out.Fq k hk hh
    ·have:=hlt k (hsub.2.2 k hh);omega)
   refine ⟨⟨T,R,K,l',fr,_,_,⟨hO4.blk HC3.out HP.out.nC.2,by rw [← VW.out.2.1,← VW.out.2.2];exact hst,?_,ZM,λk hk hh=>?_,⟨λhh=>?_,λhh=>?_⟩,⟨⟨.inl hsub.1,?_⟩,λk hk=>⟨?_,?_⟩,λk hk=>⟨?_,hk.2⟩⟩,λk hk=>hk.2⟩,⟨VW.out.1,HL2.out,iP.out,UZ.out⟩⟩,?_⟩
   ·have h1:=HRM.out
    rw [← VW.out.1,List.length_map] at h1
    exact h1
   ·rcases hk with hk | hk
    ·rcases hh.1 with h5 | h5
     ·exact HP.out.Fq k hk h5
     ·have:=hlt k (hsub.2.1 k hk);omega
    ·rcases hh.1 with h5 | h5
     ·have:=hlt k (hsub.2.2 k h5);omega
     ·omega
   ·rcases hh with hh | hh
    ·exact HP.out.nC.1 hh
    ·have:=hlt C hsub.1;omega
   ·rcases hh.1 with hh | hh
    ·exact HP.out.nC.2 hh
    ·have:=hlt C hsub.1;omega
   ·have:=hlt C hsub.1;omega
   ·rcases hk with hk | hk
    ·exact .inl (hsub.2.1 k hk)
    ·exact .inr hk.1
   ·rcases hk with hk | hk
    ·have:=hlt k (hsub.2.1 k hk);omega
    ·omega
   ·rcases hk.1 with hk | hk
    ·exact .inl (hsub.2.2 k hk)
    ·exact .inr (by omega)
   ·exact (fJ.out.weaken (λk _ hk=>hsub.2.1 k hk)).aU hO4 (λi hi hh=>hsub.2.2 i hh))
  clear ZM hO4 sm
  go_wp2_with fail
  exact bodyPost_ret (v:=.int .i64 0) (by simp [results,Tryz.results13,go_sem]) rfl ⟨rfl,HF.out⟩
 ·obtain rfl : ax = x:=ZJ.out.trans (if_neg her)
  have hen : (er != 0) = true:=by simpa using her
  rcases hR with ⟨_,rfl,rfl,rfl⟩ | ⟨h,_⟩
  ·have HF : Hid (dH w1 C c ax (Grow S w w1) /\ Only S w w1):=ah6 (by
    have hsub:=HP.out.sub;have hlt:=HP.out.lt
    refine ⟨⟨T,R,K,l',fr,_,SK,⟨Sc,hS1,HP.out.room,Oi,λk hk hh=>?_,⟨λhh=>?_,HP.out.nC.2⟩,⟨⟨.inl hsub.1,?_⟩,λk hk=>⟨?_,?_⟩,λk hk=>⟨.inl (hsub.2.2 k hk),?_⟩⟩,λk hk=>hk.2⟩,HK.out⟩,hO.weaken (λk _ hk=>hsub.2.1 k hk)⟩
    ·rcases hk with hk | hk
     ·exact HP.out.Fq k hk hh
     ·have:=hlt k (hsub.2.2 k hh);omega
    ·rcases hh with hh | hh
     ·exact HP.out.nC.1 hh
     ·have:=hlt C hsub.1;omega
    ·have:=hlt C hsub.1;omega
    ·rcases hk with hk | hk
     ·exact .inl (hsub.2.1 k hk)
     ·exact .inr hk.1
    ·rcases hk with hk | hk
     ·have:=hlt k (hsub.2.1 k hk);omega
     ·omega
    ·have:=hlt k (hsub.2.2 k hk);omega)
   clear Sc Oi hS1 hO her
   go_wp2_with fail
   exact bodyPost_ret (v:=.int .i64 er) (by simp [results,Tryz.results13,go_sem]) rfl ⟨rfl,HF.out⟩
  ·exact absurd h her
set_option maxRecDepth 100000
theorem Xy {l : List aG} {x : aG} (hk : ∀ k ∈ l,k.key = k.sn.tick) (hx : x.key = x.sn.tick) : (nU l x).map (·.sn) = ji (l.map (·.sn)) x.sn:=by
 induction l with
 | nil=>rfl
 | cons y l ih =>
   have h1:=ih (λk h=>hk k (List.mem_cons_of_mem _ h))
   have hy:=hk y (List.mem_cons_self ..)
   by_cases h : y.key < x.key
   ·have h2 : decide (y.sn.tick < x.sn.tick) = true:=by rw [← hy,← hx];exact decide_eq_true h
    rw [MF h]
    unfold ji at h1 ⊢
    simp only [List.map_cons,List.takeWhile_cons,List.dropWhile_cons,h2,if_true,h1,List.cons_append]
   ·have h2 : decide (y.sn.tick < x.sn.tick) = false:=by rw [← hy,← hx];exact decide_eq_false h
    rw [MG h]
    unfold ji
    simp [List.takeWhile_cons,List.dropWhile_cons,h2]
theorem Ol {l : List aG} {most floor : Int} {gone : Bool} {sn : Sn} (hkey : ∀ k ∈ l,k.key = k.sn.tick) (hhas : eB l sn.tick = false) (hst : iK l most floor gone sn.tick = false) (hroom : (l.length : Int) <= most) (VD : most <= 64) : Kr l most floor gone sn:=by
 intro R S x w hx hk hR hO hok hS
 have hk' : x.key = x.sn.tick:=by rw [hk,hx]
 have hin:=Xy hkey hk'
 rw [← hk] at hhas hst
 have hfl : gone = true -> floor < x.key:=λhg=>by
  unfold iK at hst
  rw [hg] at hst
  simp at hst
  exact hst.1
 have NW : (l.length : Int) = most -> 0 < dW l x.key:=λhe=>by
  unfold iK d9 at hst
  rw [hhas] at hst
  simp [he] at hst
  omega
 refine (Y5 R l most floor gone S x w hR hO hok hS hhas hroom VD hfl NW).mono ?_
 have hmem : ∀ k ∈ nU l x,k = x \/ k ∈ l:=λk hk=>DY hk
 have hlen : (ji (l.map (·.sn)) x.sn).length = (nU l x).length:=by rw [← hin,List.length_map]
 rintro e w' (⟨h1,rfl,h2,h3⟩ | ⟨h1,k0,h0,rfl,h2,h3⟩)
 ·refine ⟨nU l x,floor,gone,?_,h2,h3,?_,hmem⟩
  ·unfold Kq;rw [if_pos (by rw [hlen];exact h1)]
  ·unfold jD;rw [if_pos (by rw [hlen];exact h1),hin]
 ·have hk0 : k0.key = k0.sn.tick:=by
   rcases hmem k0 (List.mem_of_getElem? h0) with rfl | h
   ·exact hk'
   ·exact hkey _ h
  have hhd : (ji (l.map (·.sn)) x.sn).headD dI = k0.sn:=by
   rw [← hin]
   cases hl : nU l x with
   | nil=>rw [hl] at h0;cases h0
   | cons y r=>rw [hl] at h0;cases h0;rfl
  have ZN : ¬ (((ji (l.map (·.sn)) x.sn).length : Nat) : Int) <= most:=by rw [hlen];omega
  refine ⟨(nU l x).drop 1,k0.key,true,?_,h2,h3,?_,λk hk=>hmem k (List.mem_of_mem_drop hk)⟩
  ·unfold Kq;rw [if_neg ZN];show _ = Ending.returned (.tuple #[.int .i64 ((ji (l.map (·.sn)) x.sn).headD dI).tick,_,_]);rw [hhd,hk0]
  ·unfold jD;rw [if_neg ZN];show (⟨_,_,_⟩ : Rg) = ⟨(ji (l.map (·.sn)) x.sn).drop 1,((ji (l.map (·.sn)) x.sn).headD dI).tick,true⟩;rw [hhd,hk0,← hin,List.map_drop]
theorem Fw {c : aN} {x : iA} {zs : List Int} (hc : dF c = 0) (hlen : (x.ss.length : Int) <= c.ring) : KE c x zs:=by
 intro h0 l hl hk
 have iQ : Al l (x.ss.map iR):=by rw [← hl];exact Rx hk
 have hll : l.length = x.ss.length:=by rw [← hl,List.length_map]
 have h1:=xW (l:=x.ss.map iR) (most:=c.ring) (floor:=x.floor) (gone:=x.gone) (zs:=zs) h0;have h2:=Ce h1.2.1
 have h3 : (fQ c.ring x.rg zs).1.tick = (bD zs).1.tick:=by
  have:=(zR h1.2.2.1).2.1
  unfold fQ
  rw [h1.2.2.2.1];exact this
 refine Ol hk ?_ ?_ (by rw [hll];exact hlen) (Ib hc).2
 ·rw [h3,iQ.has];exact h2.1
 ·rw [h3,iQ.stale];exact h2.2
theorem dH.room {w : World} {C : Nat} {c : aN} {x : iA} {S : Nat -> Prop} (h : dH w C c x S) : (x.ss.length : Int) <= c.ring:=by
 obtain ⟨T,R,K,l,fr,SS,SK,h1,h2⟩:=h
 rw [← h2.map,List.length_map];exact h1.room
def zU (k : aG) : List Value:=[.int .i64 k.sn.tick,.int .i64 k.sn.time,fP k]
def mO : aG:=⟨0,dI,none,0⟩
def U0 (w : World) (a : Option Addr) (ks : List aG) : Prop :=
 qE w a ks.length (λi=>(ks.getD i mO).sn.tick) (λi=>(ks.getD i mO).sn.time) (λi=>((ks.getD i mO).a,(ks.getD i mO).sn.ents.length,(ks.getD i mO).cap)) (λi j=>(ks.getD i mO).sn.ents.getD j bK)
theorem Xz : (Tryz.prog.info? 36).map (λi=>(i.zero,i.size,i.bytes)) = some (some (.agg #[.int .i64 0,.int .i64 0,.slice none 0 0]),3,40):=by kernel_rfl
structure gH (w : World) (base : Nat) (v : Value) (ks : List aG) : Prop where
 row : w.ownsRow base 36 3 v ks.length (ks.flatMap zU)
 ents : ∀ k ∈ ks,aK w base (fP k) k.sn.ents /\ (∀ e ∈ k.sn.ents,e.Ok) /\ k.sn.ents.length <= 64
theorem gH.nil (w : World) (base : Nat) : gH w base (.slice none 0 0) []:=⟨World.ownsRow_nil _ _ _ _,by simp⟩
theorem gH.below {w w' : World} {base : Nat} {v : Value} {ks : List aG} (h : gH w base v ks) (hb : Below w.heap.size w w') : gH w' base v ks :=
 ⟨oQ h.row (Only.of_below (S:=λ_=>False) hb) (λ_ _ h=>h),λk hk=>⟨(h.ents k hk).1.below hb,(h.ents k hk).2⟩⟩
theorem KF : ∀ (d : List aG) (i : Nat) (x : aG),d[i]? = some x -> ∀ j,j < 3 -> (d.flatMap zU)[i * 3 + j]? = (zU x)[j]?
 | [],i,r,h,_,_=>by simp at h
 | y :: d,0,x,h,j,hj=>by
   simp at h;subst h
   rw [List.flatMap_cons,List.getElem?_append_left (by show _ < 3;omega)]
   congr 1;omega
 | y :: d,i + 1,x,h,j,hj=>by
   have h' : d[i]? = some x:=by simpa using h
   rw [List.flatMap_cons,List.getElem?_append_right (by show 3 <= _;omega),show (zU y).length = 3 from rfl,show (i + 1) * 3 + j - 3 = i * 3 + j by omega]
   exact KF d i x h' j hj
theorem gH.VY {w : World} {base : Nat} {v : Value} {ks : List aG} (h : gH w base v ks) : ∃ a c,v = .slice a ks.length c /\ U0 w a ks /\ (a = none -> c = 0) /\ ks.length <= c:=by
 have hc:=λg hg=>h.row.cells (g:=g) hg
 obtain ⟨hr,he⟩:=h
 have jH : ∀ i,i < ks.length -> dx w (ks.getD i mO).a (ks.getD i mO).sn.ents.length (λj=>(ks.getD i mO).sn.ents.getD j bK) /\ ((ks.getD i mO).sn.ents.length : Int) <= 4611686018427387904:=λi hi=>by
  have hk : ks.getD i mO = ks[i]:=by simp [List.getD,hi]
  rw [hk]
  obtain ⟨h1,h2,h3⟩:=he _ (List.getElem_mem hi)
  obtain ⟨a,c,e,h4,_⟩:=h1.ents h2
  injection e with e1
  rw [← e1] at h4
  exact ⟨h4,by omega⟩
 obtain ⟨_,⟨rfl,hn⟩ | ⟨g,cap,cur,rfl,a,b,c,d⟩⟩:=hr
 ·refine ⟨none,0,by rw [hn],⟨.inl hn,jH⟩,λ_=>rfl,by omega⟩
 ·refine ⟨_,_,rfl,⟨.inr ⟨g,0,rfl,(Array.getElem?_eq_some_iff.1 b).1,λi hi=>?_⟩,jH⟩,λh=>(by cases h),c⟩
  have hx : ks[i]? = some (ks.getD i mO):=by simp [List.getD,hi]
  have hf:=KF ks i _ hx
  have ha : ∀ o,(⟨g,0,none⟩ : Addr).add o = ⟨g,o,none⟩:=λo=>by unfold Addr.add;split <;> simp_all
  have cell : ∀ j u,j < 3 -> (zU (ks.getD i mO))[j]? = some u -> w.cell? ⟨g,i * 3 + j,none⟩ = some u:=λj u hj hu=>by
   rw [← ha];exact hc g rfl _ _ (by rw [hf j hj];exact hu)
  rw [Nat.zero_add]
  exact ⟨cell 0 _ (by decide) rfl,cell 1 _ (by decide) rfl,cell 2 _ (by decide) rfl⟩
theorem gH.app {ops : Array Oper} {rest : List Oper} {o : Oper} {a : Act} {Q : Exit -> Act -> World -> Prop} (w : World) (hgd : o.guard = none) (s x : Operand)
 (ho : o.op = .call { callee:=.builtin .append,args:=#[s,x],argTypes:=#[54,54] })
 (base : Nat) (v : Value) (ks : List aG) (hs : a.eval s = v) (hown : gH w base v ks) (g : Nat) (k : aG) (hx : a.eval x = .slice (some ⟨g,0,none⟩) 1 1) (hb : ak w g #[.int .i64 k.sn.tick,.int .i64 k.sn.time,.slice k.a k.sn.ents.length k.cap] 36)
 (hk : aK w base (fP k) k.sn.ents /\ (∀ e ∈ k.sn.ents,e.Ok) /\ k.sn.ents.length <= 64) (hl : ks.length <= 1000000) (hbase : base <= w.heap.size)
 (h : ∀ v' w',gH w' base v' (ks ++ [k]) -> w.grownBy w' v.ownBlock -> wpList Tryz.prog ops Q rest (a.put o.dst v') w') : wpList Tryz.prog ops Q (o :: rest) a w:=by
 refine pQ w hgd s x 54 36 ho base _ 3 40 Tryz.underlying54 Xz rfl (by decide) v ks.length (ks.flatMap zU) hs hown.row g _ hx hb rfl (by intro u hu;simp at hu;rcases hu with rfl | rfl | rfl <;> rfl) (by unfold maxLen;omega) (by omega) hbase (λv' w' h1 h2=>h v' w' ⟨?_,?_⟩ h2)
 ·rw [List.length_append,List.flatMap_append]
  simpa [zU,fP] using h1
 ·intro k' hk'
  have hold : aK w base (fP k') k'.sn.ents /\ (∀ e ∈ k'.sn.ents,e.Ok) /\ k'.sn.ents.length <= 64:=by
   rcases List.mem_append.1 hk' with h | h
   ·exact hown.ents k' h
   ·simp at h;subst h;exact hk
  exact ⟨hold.1.only (jf h2) (λj hj hv=>GZ hown.row hold.1 (by decide) hv hj),hold.2⟩
set_option maxHeartbeats 2000000 in
theorem KG (C : Nat) (c : aN) (x : iA) (S : Nat -> Prop) (w : World) (h : dH w C c x S) :
 Calls Tryz.prog 43 #[.pointer (some ⟨C,0,none⟩)] w λe w'=>∃ v ks,e = .returned v /\ gH w' w.heap.size v ks /\ ks.map (·.sn) = x.ss /\ Below w.heap.size w w':=by
 obtain ⟨T,R,K,l,fr,SS,SK,hP,hK⟩:=h
 have jH : ∀ k ∈ l,(∀ e ∈ k.sn.ents,e.Ok) /\ k.sn.ents.length <= 64:=λk hk=>by
  refine ⟨?_,(jL.1 (hK.KA _ (by rw [← hK.map];exact List.mem_map_of_mem hk))).len⟩
  obtain ⟨v,hp⟩:=hP.st.ring
  exact (hp.ents k hk).2
 have ln:=λW h=>Xn T R l c.ring x.floor x.gone SS W h
 have at_:=λ(i : Int) W h=>Zv T R l c.ring x.floor x.gone SS i W h (λk hk=>(jH k hk).2)
 have c11:=hP.blk.cell 11;simp at c11;have HC:=ah6 hP.blk;have HS:=ah6 hP.st;have HM:=ah6 hK.map;have HE:=ah6 jH
 have h64 : l.length <= 64:=by obtain ⟨v,hp⟩:=hP.st.ring;have:=hp.len;omega
 have ZO:=ah6 h64;clear hP hK jH h64
 go_enter Tryz.func43,Tryz.ntmps43
 go_wp2_with fail
 refine (ln w HS.out).mono ?_
 rintro e w1 ⟨rfl,rfl⟩
 clear ln;have aev:=c11
 go_wp2_with fail
 go_loopw [3,12] (λv i wr=>∃ (k : Nat) (u : Value) (ks : List aG),k <= l.length /\ i = .int .i64 k /\ u = v /\ ks.map (·.sn) = (l.map (·.sn)).take k /\ gH wr w.heap.size u ks /\ Below w.heap.size w wr) (λ_ i _=>l.length - (intOf i).toNat)
 case atStart=>exact ⟨0,_,[],Nat.zero_le _,rfl,rfl,by simp,gH.nil _ _,Below.refl _ _⟩
 case round =>
  obtain ⟨k,v,ks,hk,rfl,rfl,hm,hO,hB⟩:=hrel
  clear c11 aev
  by_cases hlt : k < l.length
  ·have hlt' : (k : Int) < l.length:=by omega
   obtain ⟨y,hy⟩ : ∃ y,l[k]? = some y:=⟨_,List.getElem?_eq_getElem hlt⟩
   have hak : fu l (k : Int) = some y:=by unfold fu;rw [if_neg (by omega)];simpa using hy
   have hst:=HS.out.below hB;have Jp:=at_ k wr hst
   rw [hak] at Jp
   have hye:=HE.out y (List.mem_of_getElem? hy);have hcb:=HC.out.below hB HC.out.lt;have c11:=hcb.cell 11;simp at c11;have HY:=ah6 hy;have dz:=ah6 hlt;have HYE:=ah6 hye;have ZP:=ah6 hm;have HO:=ah6 hO;have HB:=ah6 hB
   have hkl : ks.length = k:=by have:=congrArg List.length hm;simp at this;omega
   have MP:=ah6 hkl
   simp only [uX,mX,gV,sQ] at Jp
   obtain ⟨yk,⟨tk,tm,es⟩,ya,yc⟩:=y
   simp only at *
   clear hy hye hm hO hB hst hcb hkl hak at_
   go_wp2_with fail
   refine Jp.mono ?_
   rintro e w1 ⟨a1,c1,rfl,hE,hB⟩
   have HB0:=HB.out;have ZQ:=HB0.size
   obtain ⟨v1,hv1⟩ : ∃ v,w1.alloc (.cells #[.int .i64 0,.int .i64 0,.slice none 0 0] 36) = v:=⟨_,rfl⟩
   have hBb : Below w1.heap.size w1 v1:=by rw [← hv1];exact ah7
   have bC : ak v1 w1.heap.size #[.int .i64 0,.int .i64 0,.slice none 0 0] 36:=by rw [← hv1];exact ak.new _ _ _
   have f0:=bC.free 0;have f1:=bC.free 1;have f2:=bC.free 2;have q0:=bC.cell 0;have q1:=bC.cell 1;have q2:=bC.cell 2;simp at q0 q1 q2;have hX:=fA (v0:=.int .i64 tk) (v1:=.int .i64 tm) (v2:=.slice a1 es.length c1) bC;have hbx:=dB (v0:=.int .i64 tk) (v1:=.int .i64 tm) (v2:=.slice a1 es.length c1) hBb (Nat.le_refl _)
   obtain ⟨u1,hu1⟩ : ∃ u,((v1.setCell ⟨w1.heap.size,0,none⟩ (.int .i64 tk)).setCell ⟨w1.heap.size,1,none⟩ (.int .i64 tm)).setCell ⟨w1.heap.size,2,none⟩ (.slice a1 es.length c1) = u:=⟨_,rfl⟩
   rw [hu1] at hX hbx
   clear hBb bC
   have Ee : Below wr.heap.size wr u1:=hB.trans (hbx.mono hB.size)
   have hE1 : aK u1 w.heap.size (.slice a1 es.length c1) es:=(aK.base hE ZQ).below hbx
   obtain ⟨u2,hu2⟩ : ∃ v,u1.alloc (.cells #[.int .i64 tk,.int .i64 tm,.slice a1 es.length c1] 36) = v:=⟨_,rfl⟩
   have hb2 : Below u1.heap.size u1 u2:=by rw [← hu2];exact ah7
   have dR : Hid (ak u2 u1.heap.size #[.int .i64 tk,.int .i64 tm,.slice a1 es.length c1] 36):=ah6 (by rw [← hu2];exact ak.new _ _ _)
   have HE2:=ah6 (hE1.below hb2)
   have gW : Below wr.heap.size wr u2:=Ee.trans (hb2.mono Ee.size)
   have bR:=ah6 (HO.out.below gW);have HB2:=ah6 (HB0.trans (gW.mono HB0.size));have x0:=hX.cell 0;have x1:=hX.cell 1;have x2:=hX.cell 2;simp at x0 x1 x2;clear hB hE hbx Ee hE1 hb2 gW hX HB0 ZQ Jp
   go_wp2_with (at_builtin;refine gH.app _ rfl (.tmp 24) (.tmp 26) rfl w.heap.size _ ks rfl bR.out _ ⟨tk,⟨tk,tm,es⟩,a1,c1⟩ rfl dR.out ⟨HE2.out,HYE.out.1,HYE.out.2⟩ (by have:=MP.out;have:=ZO.out;omega) HB2.out.size ?_)
   intro v' w' hr hg
   have HF : Hid (gH w' w.heap.size v' (ks ++ [⟨tk,⟨tk,tm,es⟩,a1,c1⟩]) /\ Below w.heap.size w w' /\ (ks ++ [(⟨tk,⟨tk,tm,es⟩,a1,c1⟩ : aG)]).map (·.sn) = (l.map (·.sn)).take (k + 1)):=ah6 ⟨hr,HB2.out.grown hg HB2.out.size (λj e=>(bR.out.row.lt j e).1),by
    rw [List.map_append,ZP.out,List.take_add_one,List.getElem?_map,HY.out];rfl⟩
   have hw : wrap64 ((k : Int) + 1) = (k : Int) + 1:=by have:=ZO.out;unfold wrap64;omega
   clear hr hg
   go_wp2
   go_roundw
   case rel=>exact ⟨k + 1,_,_,by have:=dz.out;omega,by go_num,rfl,HF.out.2.2,HF.out.1,HF.out.2.1⟩
   case measure=>rw [hw];show l.length - ((k : Int) + 1).toNat < l.length - (k : Int).toNat;have h1:=dz.out;omega
  ·obtain rfl : k = l.length:=by omega
   have HF : Hid (gH wr w.heap.size v ks /\ ks.map (·.sn) = x.ss /\ Below w.heap.size w wr):=ah6 ⟨hO,by rw [hm,← List.length_map (f:=λk : aG=>k.sn),List.take_length];exact HM.out,hB⟩
   clear hO hm hB at_
   go_wp2
   exact bodyPost_ret (v:=v) (by simp [results,Tryz.results43,go_sem]) rfl ⟨v,ks,rfl,HF.out⟩
set_option maxRecDepth 100000
theorem XC : (Tryz.prog.info? 2).map (λi=>(i.zero,i.size,i.bytes)) = some (some (.int .i64 0),1,8):=by kernel_rfl
theorem LA {w : World} {base : Nat} {v : Value} {ks : List aG} (hr : w.ownsRow base 36 3 v ks.length (ks.flatMap zU)) {i : Nat} {x : aG} (hx : ks[i]? = some x) :
 ∃ g c,v = .slice (some ⟨g,0,none⟩) ks.length c /\ g < w.heap.size /\ w.cell? ⟨g,i * 3,none⟩ = some (.int .i64 x.sn.tick) /\ w.cell? ⟨g,i * 3 + 1,none⟩ = some (.int .i64 x.sn.time) /\ w.cell? ⟨g,i * 3 + 2,none⟩ = some (fP x):=by
 have hi : i < ks.length:=(List.getElem?_eq_some_iff.1 hx).1
 have hc:=λg hg=>hr.cells (g:=g) hg
 obtain ⟨_,⟨rfl,hn⟩ | ⟨g,cap,cur,rfl,a,b,c,d⟩⟩:=hr
 ·omega
 ·have hf:=KF ks i x hx
  have ha : ∀ o,(⟨g,0,none⟩ : Addr).add o = ⟨g,o,none⟩:=λo=>by unfold Addr.add;split <;> simp_all
  have cell : ∀ j u,j < 3 -> (zU x)[j]? = some u -> w.cell? ⟨g,i * 3 + j,none⟩ = some u:=λj u hj hu=>by
   rw [← ha];exact hc g rfl _ _ (by rw [hf j hj];exact hu)
  exact ⟨g,cap,rfl,(Array.getElem?_eq_some_iff.1 b).1,cell 0 _ (by decide) rfl,cell 1 _ (by decide) rfl,cell 2 _ (by decide) rfl⟩
theorem gH.cells {w : World} {base : Nat} {v : Value} {ks : List aG} (h : gH w base v ks) {i : Nat} {x : aG} (hx : ks[i]? = some x) :
 ∃ g c,v = .slice (some ⟨g,0,none⟩) ks.length c /\ g < w.heap.size /\ w.cell? ⟨g,i * 3,none⟩ = some (.int .i64 x.sn.tick) /\ w.cell? ⟨g,i * 3 + 1,none⟩ = some (.int .i64 x.sn.time) /\ w.cell? ⟨g,i * 3 + 2,none⟩ = some (fP x):=LA h.row hx
theorem Ih {w : World} {base base' k n : Nat} {e : TypeId} {v : Value} {xs : List Value} (h : w.ownsRow base e k v n xs) (hb : base' <= base) : w.ownsRow base' e k v n xs:=by
 obtain ⟨h1,h2⟩:=h
 refine ⟨h1,?_⟩
 rcases h2 with h2 | ⟨g,cap,cur,rfl,a,b⟩
 ·exact .inl h2
 ·exact .inr ⟨g,cap,cur,rfl,Nat.le_trans hb a,b⟩
def tkV (s : Sn) : Value:=.int .i64 s.tick
def tK (w : World) (base : Nat) (v : Value) (ss : List Sn) : Prop:=w.ownsRow base 2 1 v ss.length (ss.map tkV)
theorem tK.below {w w' : World} {base : Nat} {v : Value} {ss : List Sn} (h : tK w base v ss) (hb : Below w.heap.size w w') : tK w' base v ss:=oQ h (Only.of_below (S:=λ_=>False) hb) (λ_ _ h=>h)
theorem tK.base {w : World} {base base' : Nat} {v : Value} {ss : List Sn} (h : tK w base v ss) (hb : base' <= base) : tK w base' v ss:=Ih h hb
theorem tK.cells {w : World} {base : Nat} {v : Value} {ss : List Sn} (h : tK w base v ss) : ∃ a c,v = .slice a ss.length c /\ ∀ (i : Nat) (s : Sn),ss[i]? = some s -> ∃ g,a = some ⟨g,0,none⟩ /\ g < w.heap.size /\ w.cell? ⟨g,i,none⟩ = some (.int .i64 s.tick):=by
 have hc:=λg hg=>World.ownsRow.cells h (g:=g) hg
 obtain ⟨_,⟨rfl,hn⟩ | ⟨g,cap,cur,rfl,a,b,c,d⟩⟩:=h
 ·refine ⟨none,0,by rw [hn],λi s hs=>?_⟩
  have:=(List.getElem?_eq_some_iff.1 hs).1
  omega
 ·refine ⟨_,cap,rfl,λi s hs=>⟨g,rfl,(Array.getElem?_eq_some_iff.1 b).1,?_⟩⟩
  have ha : (⟨g,0,none⟩ : Addr).add i = ⟨g,i,none⟩:=by unfold Addr.add;split <;> simp_all
  rw [← ha]
  exact hc g rfl i _ (by rw [List.getElem?_map,hs];rfl)
set_option maxHeartbeats 2000000 in
theorem U1 (C : Nat) (c : aN) (x : iA) (S : Nat -> Prop) (w : World) (h : dH w C c x S) :
 Calls Tryz.prog 22 #[.pointer (some ⟨C,0,none⟩)] w λe w'=>∃ v,e = .returned v /\ tK w' w.heap.size v x.ss /\ Below w.heap.size w w':=by
 have sn:=KG C c x S w h;have h64:=h.ok.2.2;clear h
 go_enter Tryz.func22,Tryz.ntmps22
 go_wp2_with fail
 refine sn.mono ?_
 rintro e w1 ⟨v,ks,rfl,hO,hm,hB⟩
 clear sn
 have hkl : ks.length = x.ss.length:=by rw [← hm,List.length_map]
 have HM:=ah6 hm;have MP:=ah6 hkl;have HB:=ah6 hB;have HO:=ah6 hO;have ZO:=ah6 h64
 obtain ⟨a,cc,rfl,_,_,_⟩:=hO.VY
 have hn : ks.length <= 64:=by omega
 clear hO hB hm h64 hkl
 go_wp2_with fail
 go_loopw [3,11] (λv i wr=>∃ (k : Nat) (u : Value),k <= ks.length /\ i = .int .i64 k /\ u = v /\ tK wr w1.heap.size u (x.ss.take k) /\ Below w1.heap.size w1 wr) (λ_ i _=>ks.length - (intOf i).toNat)
 case atStart=>exact ⟨0,_,Nat.zero_le _,rfl,rfl,World.ownsRow_nil _ _ _ _,Below.refl _ _⟩
 case round =>
  obtain ⟨k,v,hk,rfl,rfl,hT,hb⟩:=hrel
  by_cases hlt : k < ks.length
  ·have hlt' : (k : Int) < ks.length:=by omega
   obtain ⟨y,hy⟩ : ∃ y,ks[k]? = some y:=⟨_,List.getElem?_eq_getElem hlt⟩
   obtain ⟨g,c',e,hg,c0,c1,c2⟩:=HO.out.cells hy
   injection e with e1 e2 e3
   subst e1 e3
   have HY : Hid (x.ss[k]? = some y.sn):=ah6 (by rw [← HM.out,List.getElem?_map,hy];rfl)
   have d0:=(hb.cell (p:=⟨g,k * 3,none⟩) hg).trans c0;have d1:=(hb.cell (p:=⟨g,k * 3 + 1,none⟩) hg).trans c1;have d2:=(hb.cell (p:=⟨g,k * 3 + 2,none⟩) hg).trans c2;have dz:=ah6 hlt;have HT:=ah6 hT;have uV:=ah6 hb
   obtain ⟨yk,⟨tk,tm,es⟩,ya,yc⟩:=y
   simp only at *
   obtain ⟨u1,hu1⟩ : ∃ u,wr.alloc (.cells #[.int .i64 tk,.int .i64 tm,.slice ya es.length yc] 36) = u:=⟨_,rfl⟩
   have hb1 : Below wr.heap.size wr u1:=by rw [← hu1];exact ah7
   have hX1 : ak u1 wr.heap.size #[.int .i64 tk,.int .i64 tm,.slice ya es.length yc] 36:=by rw [← hu1];exact ak.new _ _ _
   have x0:=hX1.cell 0;simp at x0
   obtain ⟨u2,hu2⟩ : ∃ u,u1.alloc (.cells #[.int .i64 tk] 2) = u:=⟨_,rfl⟩
   have hb2 : Below u1.heap.size u1 u2:=by rw [← hu2];exact ah7
   have dR : Hid (ak u2 u1.heap.size #[.int .i64 tk] 2):=ah6 (by rw [← hu2];exact ak.new _ _ _)
   have gW : Below wr.heap.size wr u2:=hb1.trans (hb2.mono hb1.size)
   have HT2:=ah6 (hT.below gW);have HB2:=ah6 (hb.trans (gW.mono hb.size))
   have htl : (x.ss.take k).length = k:=by rw [List.length_take,← MP.out];omega
   have HTL:=ah6 htl;clear hT hb hb1 hb2 gW c0 c1 c2 hX1 hy htl
   go_wp2_with (at_builtin;refine pQ _ rfl (.tmp 15) (.tmp 18) 63 2 rfl w1.heap.size (.int .i64 0) 1 8 Tryz.underlying63 XC rfl (by decide) _ _ _ rfl HT2.out _ _ rfl dR.out rfl (by intro u hu;simp at hu;subst hu;rfl) (by have:=HTL.out;unfold maxLen;omega) (by have:=HTL.out;omega) HB2.out.size ?_)
   intro v' w' hr hg'
   have HF : Hid (tK w' w1.heap.size v' (x.ss.take (k + 1)) /\ Below w1.heap.size w1 w'):=ah6 ⟨by
    have e1 : x.ss.take (k + 1) = x.ss.take k ++ [⟨tk,tm,es⟩]:=by rw [List.take_add_one,HY.out];rfl
    unfold tK
    rw [e1,List.map_append,List.length_append,List.map_take]
    rw [List.length_take]
    exact hr,HB2.out.grown hg' HB2.out.size (λj e=>(World.ownsRow.lt HT2.out j e).1)⟩
   have hw : wrap64 ((k : Int) + 1) = (k : Int) + 1:=by unfold wrap64;omega
   clear hr hg'
   go_wp2
   go_roundw
   case rel=>exact ⟨k + 1,_,dz.out,by go_num,rfl,HF.out.1,HF.out.2⟩
   case measure=>show ks.length - ((k : Int) + 1).toNat < ks.length - (k : Int).toNat;have h1:=dz.out;omega
  ·obtain rfl : k = ks.length:=by omega
   have HF : Hid (tK wr w.heap.size v x.ss /\ Below w.heap.size w wr):=ah6 ⟨by
    rw [MP.out,List.take_length] at hT
    exact hT.base HB.out.size,HB.out.trans (hb.mono HB.out.size)⟩
   clear hT hb
   go_wp2
   exact bodyPost_ret (v:=v) (by simp [results,Tryz.results22,go_sem]) rfl ⟨v,rfl,HF.out⟩
set_option maxHeartbeats 2000000 in
theorem U2 (C : Nat) (c : aN) (x : iA) (S : Nat -> Prop) (s : Sn) (hs : s ∈ x.ss) (w : World) (h : dH w C c x S) :
 Calls Tryz.prog 44 #[.pointer (some ⟨C,0,none⟩),.int .i64 s.tick] w λe w'=>∃ a cp,e = .returned (.tuple #[.agg #[.int .i64 s.tick,.int .i64 s.time,.slice a s.ents.length cp],.bool true]) /\ aK w' w.heap.size (.slice a s.ents.length cp) s.ents /\ (∀ e ∈ s.ents,e.Ok) /\ s.ents.length <= 64 /\ Below w.heap.size w w':=by
 obtain ⟨w0,hw0⟩ : ∃ w0,w.alloc (.cells #[.int .i64 0,.int .i64 0,.slice none 0 0] 36) = w0:=⟨_,rfl⟩
 have hB0 : Below w.heap.size w w0:=by rw [← hw0];exact ah7
 have HX0 : Hid (ak w0 w.heap.size #[.int .i64 0,.int .i64 0,.slice none 0 0] 36):=ah6 (by rw [← hw0];exact ak.new _ _ _)
 have HZ0 : Hid (w0.heap.size = w.heap.size + 1):=ah6 (by rw [← hw0];simp)
 have HB0:=ah6 hB0
 obtain ⟨T,R,K,l,fr,SS,SK,hP,hK⟩:=h.below hB0
 have jH : ∀ k ∈ l,(∀ e ∈ k.sn.ents,e.Ok) /\ k.sn.ents.length <= 64:=λk hk=>by
  refine ⟨?_,(jL.1 (hK.KA _ (by rw [← hK.map];exact List.mem_map_of_mem hk))).len⟩
  obtain ⟨v,hp⟩:=hP.st.ring
  exact (hp.ents k hk).2
 obtain ⟨k,hk,hks⟩ : ∃ k ∈ l,k.sn = s:=by
  rw [← hK.map] at hs
  obtain ⟨k,hk,e⟩:=List.mem_map.1 hs
  exact ⟨k,hk,e⟩
 have hup : qD l:=by obtain ⟨v,hp⟩:=hP.st.ring;exact hp.up
 have hget : eD l s.tick = some k:=by rw [← hks,← hK.key k hk];exact Dw hup hk
 have hhas : eB l s.tick = true:=by
  unfold eD at hget
  split at hget
  ·assumption
  ·cases hget
 have gt:=MN T R l c.ring x.floor x.gone SS s.tick w0 hP.st (λk hk=>(jH k hk).2)
 rw [hget,hhas] at gt
 have hse:=jH k hk
 rw [hks] at hse
 simp only [uX,mX,gV,hks] at gt
 have c11:=hP.blk.cell 11;simp at c11;have HSE:=ah6 hse;clear hget hhas hup hk hks jH hP hK h hs hB0 hse
 go_enter Tryz.func44,Tryz.ntmps44
 go_wp2_with fail
 clear hw0
 refine gt.mono ?_
 rintro e w2 ⟨a2,c2,rfl,hO,hB⟩
 have hX2:=HX0.out.below hB HX0.out.lt;have f0:=hX2.free 0;have f1:=hX2.free 1;have f2:=hX2.free 2;have q0:=hX2.cell 0;have q1:=hX2.cell 1;have q2:=hX2.cell 2;simp at q0 q1 q2
 obtain ⟨tick,time,ents⟩:=s
 simp only at *
 have aS:=fA (v0:=.int .i64 tick) (v1:=.int .i64 time) (v2:=.slice a2 ents.length c2) hX2
 have HF : Hid (aK (((w2.setCell ⟨w.heap.size,0,none⟩ (.int .i64 tick)).setCell ⟨w.heap.size,1,none⟩ (.int .i64 time)).setCell ⟨w.heap.size,2,none⟩ (.slice a2 ents.length c2)) w.heap.size (.slice a2 ents.length c2) ents /\
  Below w.heap.size w (((w2.setCell ⟨w.heap.size,0,none⟩ (.int .i64 tick)).setCell ⟨w.heap.size,1,none⟩ (.int .i64 time)).setCell ⟨w.heap.size,2,none⟩ (.slice a2 ents.length c2))):=ah6
  ⟨(aK.base hO (by have:=HZ0.out;omega)).only (kT (S:=λk=>k = w.heap.size) (Only.refl _ _) (.inl rfl)) (λj hj hk=>by have:=(hO.lt j hj).1;have:=HZ0.out;omega),dB (HB0.out.trans (hB.mono HB0.out.size)) (Nat.le_refl _)⟩
 obtain ⟨u3,hu3⟩ : ∃ u,((w2.setCell ⟨w.heap.size,0,none⟩ (.int .i64 tick)).setCell ⟨w.heap.size,1,none⟩ (.int .i64 time)).setCell ⟨w.heap.size,2,none⟩ (.slice a2 ents.length c2) = u:=⟨_,rfl⟩
 rw [hu3] at HF aS
 have g0:=aS.cell 0;have g1:=aS.cell 1;have g2:=aS.cell 2;simp at g0 g1 g2;clear hO hB hX2 aS gt HX0 HB0
 go_wp2_with fail
 exact bodyPost_ret (v:=.tuple #[.agg #[.int .i64 tick,.int .i64 time,.slice a2 ents.length c2],.bool true]) (by simp [results,Tryz.results44,go_sem,g0,g1,g2]) rfl ⟨a2,c2,rfl,HF.out.1,HSE.out.1,HSE.out.2,HF.out.2⟩
set_option maxHeartbeats 2000000 in
theorem ZR (C : Nat) (c : aN) (x : iA) (S : Nat -> Prop) (w : World) (h : dH w C c x S) :
 Calls Tryz.prog 17 #[.pointer (some ⟨C,0,none⟩)] w λe w'=>∃ v ks,e = .returned v /\ gH w' w.heap.size v ks /\ ks.map (·.sn) = x.ss /\ Below w.heap.size w w':=by
 have kp:=U1 C c x S w h;have HC:=ah6 h;have h64:=h.ok.2.2
 have sp:=λs hs W hW=>U2 C c x S s hs W hW
 clear h
 go_enter Tryz.func17,Tryz.ntmps17
 go_wp2_with fail
 refine kp.mono ?_
 rintro e w1 ⟨v,rfl,hT,hB⟩
 clear kp
 obtain ⟨a,cc,rfl,hcell⟩:=hT.cells
 have Ew:=ah6 hcell;have HB:=ah6 hB;have Kl:=ah6 (HC.out.below hB);clear hT hB hcell
 generalize hn : x.ss.length = n at *
 have HN:=ah6 hn;clear hn
 go_wp2_with fail
 go_loopw [3,11] (λv i wr=>∃ (k : Nat) (u : Value) (ks : List aG),k <= n /\ i = .int .i64 k /\ u = v /\ ks.map (·.sn) = x.ss.take k /\ gH wr w1.heap.size u ks /\ Below w1.heap.size w1 wr) (λ_ i _=>n - (intOf i).toNat)
 case atStart=>exact ⟨0,_,[],Nat.zero_le _,rfl,rfl,by simp,gH.nil _ _,Below.refl _ _⟩
 case round =>
  obtain ⟨k,v,ks,hk,rfl,rfl,hm,hO,hb⟩:=hrel
  by_cases hlt : k < n
  ·have hlt' : (k : Int) < n:=by omega
   obtain ⟨y,hy⟩ : ∃ y,x.ss[k]? = some y:=⟨_,List.getElem?_eq_getElem (by rw [HN.out];exact hlt)⟩
   obtain ⟨g,rfl,hg,c0⟩:=Ew.out k y hy
   have d0:=(hb.cell (p:=⟨g,k,none⟩) hg).trans c0;have sp1:=sp y (List.mem_of_getElem? hy) wr (Kl.out.below hb);have HY:=ah6 hy;have dz:=ah6 hlt;have ZP:=ah6 hm;have HO:=ah6 hO;have uV:=ah6 hb
   have hkl : ks.length = k:=by have:=congrArg List.length hm;simp at this;rw [HN.out] at this;omega
   have MP:=ah6 hkl
   obtain ⟨tk,tm,es⟩:=y
   simp only at *
   clear hy hm hO hb c0 hkl sp
   go_wp2_with fail
   refine sp1.mono ?_
   rintro e w2 ⟨a1,c1,rfl,hE,hok,hle,hB⟩
   have hs2 : w1.heap.size <= w2.heap.size:=Nat.le_trans uV.out.size hB.size
   obtain ⟨v1,hv1⟩ : ∃ v,w2.alloc (.cells #[.int .i64 0,.int .i64 0,.slice none 0 0] 36) = v:=⟨_,rfl⟩
   have hBb : Below w2.heap.size w2 v1:=by rw [← hv1];exact ah7
   have bC : ak v1 w2.heap.size #[.int .i64 0,.int .i64 0,.slice none 0 0] 36:=by rw [← hv1];exact ak.new _ _ _
   have f0:=bC.free 0;have f1:=bC.free 1;have f2:=bC.free 2;have q0:=bC.cell 0;have q1:=bC.cell 1;have q2:=bC.cell 2;simp at q0 q1 q2;have hX:=fA (v0:=.int .i64 tk) (v1:=.int .i64 tm) (v2:=.slice a1 es.length c1) bC;have hbx:=dB (v0:=.int .i64 tk) (v1:=.int .i64 tm) (v2:=.slice a1 es.length c1) hBb (Nat.le_refl _)
   obtain ⟨u1,hu1⟩ : ∃ u,((v1.setCell ⟨w2.heap.size,0,none⟩ (.int .i64 tk)).setCell ⟨w2.heap.size,1,none⟩ (.int .i64 tm)).setCell ⟨w2.heap.size,2,none⟩ (.slice a1 es.length c1) = u:=⟨_,rfl⟩
   rw [hu1] at hX hbx
   clear hBb bC
   have Ee : Below wr.heap.size wr u1:=hB.trans (hbx.mono hB.size)
   have hE1 : aK u1 w1.heap.size (.slice a1 es.length c1) es:=(aK.base hE uV.out.size).below hbx
   obtain ⟨u2,hu2⟩ : ∃ v,u1.alloc (.cells #[.int .i64 tk,.int .i64 tm,.slice a1 es.length c1] 36) = v:=⟨_,rfl⟩
   have hb2 : Below u1.heap.size u1 u2:=by rw [← hu2];exact ah7
   have dR : Hid (ak u2 u1.heap.size #[.int .i64 tk,.int .i64 tm,.slice a1 es.length c1] 36):=ah6 (by rw [← hu2];exact ak.new _ _ _)
   have HE2:=ah6 (And.intro (hE1.below hb2) (And.intro hok hle))
   have gW : Below wr.heap.size wr u2:=Ee.trans (hb2.mono Ee.size)
   have bR:=ah6 (HO.out.below gW);have HB2:=ah6 (uV.out.trans (gW.mono uV.out.size));have x0:=hX.cell 0;have x1:=hX.cell 1;have x2:=hX.cell 2;simp at x0 x1 x2;clear hB hE hbx Ee hE1 hb2 gW hX hs2 sp1 hok hle
   go_wp2_with (at_builtin;refine gH.app _ rfl (.tmp 22) (.tmp 24) rfl w1.heap.size _ ks rfl bR.out _ ⟨tk,⟨tk,tm,es⟩,a1,c1⟩ rfl dR.out HE2.out (by have:=MP.out;omega) HB2.out.size ?_)
   intro v' w' hr hg
   have HF : Hid (gH w' w1.heap.size v' (ks ++ [⟨tk,⟨tk,tm,es⟩,a1,c1⟩]) /\ Below w1.heap.size w1 w' /\ (ks ++ [(⟨tk,⟨tk,tm,es⟩,a1,c1⟩ : aG)]).map (·.sn) = x.ss.take (k + 1)):=ah6 ⟨hr,HB2.out.grown hg HB2.out.size (λj e=>(bR.out.row.lt j e).1),by
    rw [List.map_append,ZP.out,List.take_add_one,HY.out];rfl⟩
   have hw : wrap64 ((k : Int) + 1) = (k : Int) + 1:=by have:=dz.out;unfold wrap64;omega
   clear hr hg
   go_wp2
   go_roundw
   case rel=>exact ⟨k + 1,_,_,by have:=dz.out;omega,by go_num,rfl,HF.out.2.2,HF.out.1,HF.out.2.1⟩
   case measure=>show n - ((k : Int) + 1).toNat < n - (k : Int).toNat;have h1:=dz.out;omega
  ·obtain rfl : k = n:=by omega
   have HF : Hid (gH wr w.heap.size v ks /\ ks.map (·.sn) = x.ss /\ Below w.heap.size w wr):=ah6 ⟨⟨Ih hO.row HB.out.size,λk hk=>⟨aK.base (hO.ents k hk).1 HB.out.size,(hO.ents k hk).2⟩⟩,by rw [hm,← HN.out,List.take_length],HB.out.trans (hb.mono HB.out.size)⟩
   clear hO hm hb sp
   go_wp2
   exact bodyPost_ret (v:=v) (by simp [results,Tryz.results17,go_sem]) rfl ⟨v,ks,rfl,HF.out⟩
set_option maxRecDepth 100000
theorem Gm {k n : Nat} (hk : k < n) (hn : n <= 1000) : wrap64 ((k : Int) + 1) = (k : Int) + 1:=by unfold wrap64;omega
theorem qQ {n k : Nat} (h : k < n) : n - ((k : Int) + 1).toNat < n - (k : Int).toNat:=by omega
theorem SY {k : Nat} (hw : wrap64 ((k : Int) + 1) = (k : Int) + 1) : Value.int .i64 (wrap64 ((k : Int) + 1)) = .int .i64 ((k + 1 : Nat) : Int):=by rw [hw];rfl
end Go.Proofs.YtklkooeimkedgaaGreat
