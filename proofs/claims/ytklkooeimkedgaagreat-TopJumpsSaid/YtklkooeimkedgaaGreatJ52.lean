/- Parts of the walk of TopJumps: Client1, Client2, Client3, Client4, Top0, ShowP. -/
import Derived.Test.YtklkooeimkedgaaGreatJ26
import Derived.Test.YtklkooeimkedgaaGreatJ27
import Derived.Test.YtklkooeimkedgaaGreatJ44
import Derived.Test.YtklkooeimkedgaaGreatJ50
import Derived.Test.YtklkooeimkedgaaGreatJ51
set_option linter.unusedVariables false
set_option linter.unusedSimpArgs false
namespace Go.Proofs.YtklkooeimkedgaaGreat
open Go.RowKit
set_option maxRecDepth 100000
structure ClP (w : World) (C : Nat) (c : Cfg) (T R K : Nat) (l : List Kpt) (floor : Int) (gone : Bool) (cs : CS) (fr : Int) (S SS SK : Nat → Prop) : Prop where
 blk : Blk w C #[.int .i64 c.ring,.int .i64 c.window,.int .i64 c.base,.int .i64 c.gain,.int .i64 c.least,.int .i64 c.most,.int .i64 c.slack,.int .i64 c.num,.int .i64 c.den,.int .i64 c.extra,.bool c.curved,.pointer (some ⟨T,0,none⟩),.pointer (some ⟨K,0,none⟩),.int .i64 fr] 86
 st : StAt w T R l c.ring floor gone SS
 room : (l.length : Int) ≤ c.ring
 ck : CkAt w K c cs SK
 dis : ∀ k,SS k → ¬ SK k
 nC : ¬ SS C ∧ ¬ SK C
 sub : S C ∧ (∀ k,SS k → S k) ∧ ∀ k,SK k → S k
 lt : ∀ k,S k → k < w.heap.size
structure Cst where
 ss : List Sn
 floor : Int
 gone : Bool
 cs : CS
structure ClKs (c : Cfg) (l : List Kpt) (x : Cst) : Prop where
 map : l.map (·.sn) = x.ss
 key : ∀ k ∈ l,k.key = k.sn.tick
 chk : ∀ s ∈ x.ss,snChk s = 0
 cs : x.cs.Ok c
def ClAt (w : World) (C : Nat) (c : Cfg) (x : Cst) (S : Nat → Prop) : Prop:=∃ T R K l fr SS SK,ClP w C c T R K l x.floor x.gone x.cs fr S SS SK ∧ ClKs c l x
theorem ClP.only {w w' : World} {C : Nat} {c : Cfg} {T R K : Nat} {l : List Kpt} {floor : Int} {gone : Bool} {cs : CS} {fr : Int} {S SS SK U : Nat → Prop} (h : ClP w C c T R K l floor gone cs fr S SS SK) (ho : Only U w w') (hd : ∀ k,S k → ¬ U k) : ClP w' C c T R K l floor gone cs fr S SS SK :=
 ⟨ho.blk h.blk (hd _ h.sub.1),h.st.only ho (fun k hk=>hd k (h.sub.2.1 k hk)),h.room,h.ck.only ho (fun k hk=>hd k (h.sub.2.2 k hk)),h.dis,h.nC,h.sub,fun k hk=>Nat.lt_of_lt_of_le (h.lt k hk) ho.size⟩
theorem ClAt.only {w w' : World} {C : Nat} {c : Cfg} {x : Cst} {S U : Nat → Prop} (h : ClAt w C c x S) (ho : Only U w w') (hd : ∀ k,S k → ¬ U k) : ClAt w' C c x S:=by
 obtain ⟨T,R,K,l,fr,SS,SK,h1,h2⟩:=h
 exact ⟨T,R,K,l,fr,SS,SK,h1.only ho hd,h2⟩
theorem ClAt.below {w w' : World} {C : Nat} {c : Cfg} {x : Cst} {S : Nat → Prop} (h : ClAt w C c x S) (hb : Below w.heap.size w w') : ClAt w' C c x S :=
 h.only (Only.of_below (S:=fun _=>False) hb) (fun _ _ h=>h)
theorem ClAt.lt {w : World} {C : Nat} {c : Cfg} {x : Cst} {S : Nat → Prop} (h : ClAt w C c x S) : ∀ k,S k → k < w.heap.size:=by
 obtain ⟨T,R,K,l,fr,SS,SK,h1,h2⟩:=h
 exact h1.lt
theorem ClAt.ok {w : World} {C : Nat} {c : Cfg} {x : Cst} {S : Nat → Prop} (h : ClAt w C c x S) : (∀ s ∈ x.ss,snChk s = 0) ∧ x.cs.Ok c ∧ x.ss.length ≤ 64:=by
 obtain ⟨T,R,K,l,fr,SS,SK,h1,h2⟩:=h
 refine ⟨h2.chk,h2.cs,?_⟩
 obtain ⟨v,hp⟩:=h1.st.ring
 have:=hp.len
 rw [← h2.map,List.length_map]
 omega
def cl0 (c : Cfg) : Cst:=⟨[],0,false,cs0 c⟩
theorem cchk_ring {c : Cfg} (h : cchk c = 0) : 1 ≤ c.ring ∧ c.ring ≤ 64:=by
 obtain ⟨h1,_,_⟩:=cchk_ok h
 have:=winOk_iff.1 h1
 omega
theorem cs0_ok {c : Cfg} (hc : cchk c = 0) : (cs0 c).Ok c :=
 ⟨fun x hx=>by simp [cs0] at hx,by simp [cs0],⟨by simp [cs0],by simp [cs0]⟩,targF_lim (cchk_ok hc).2.1 0,⟨by simp [cs0],by simp [cs0]⟩,⟨by simp [cs0],by simp [cs0]⟩,.inl rfl⟩
set_option maxHeartbeats 1000000 in
theorem clnew_ok (c : Cfg) (ok : c.Ok) (hc : cchk c = 0) (w : World) :
  Calls Tryz.prog 9 #[cfgV c] w fun e w'=>∃ C S,e = .returned (.tuple #[.pointer (some ⟨C,0,none⟩),.int .i64 0]) ∧ ClAt w' C c (cl0 c) S ∧ (∀ k,S k → w.heap.size ≤ k) ∧ Below w.heap.size w w':=by
 have cn:=cnew_ok c ok hc
 obtain ⟨r1,r2⟩:=cchk_ring hc
 have sn:=stnew_ok c.ring r1 r2
 have HCO:=Lib.hid (cs0_ok hc)
 have HRG:=Lib.hid r1
 clear r1 r2
 obtain ⟨w0,hw0⟩ : ∃ w0,w.alloc (.cells #[.int .i64 c.ring,.int .i64 c.window,.int .i64 c.base,.int .i64 c.gain,.int .i64 c.least,.int .i64 c.most,.int .i64 c.slack,.int .i64 c.num,.int .i64 c.den,.int .i64 c.extra,.bool c.curved] 29) = w0:=⟨_,rfl⟩
 have hB0 : Below w.heap.size w w0:=by rw [← hw0];exact (Below.refl _ _).alloc (Nat.le_refl _) _
 have hX0 : Blk w0 w.heap.size #[.int .i64 c.ring,.int .i64 c.window,.int .i64 c.base,.int .i64 c.gain,.int .i64 c.least,.int .i64 c.most,.int .i64 c.slack,.int .i64 c.num,.int .i64 c.den,.int .i64 c.extra,.bool c.curved] 29:=by rw [← hw0];exact Blk.new _ _ _
 have HX0:=Lib.hid hX0
 have HB0:=Lib.hid hB0
 obtain ⟨q0,q1,q2,q3,q4,q5,q6,q7,q8,q9,q10⟩:=cfg_cells hX0
 have hsz0 : w.heap.size ≤ w0.heap.size:=hB0.size
 clear hB0 hX0
 unfold cfgV at cn ⊢
 go_enter Tryz.func9,Tryz.ntmps9
 go_wp2_with fail
 clear hw0
 refine (cn w0).mono ?_
 rintro e w1 ⟨K,SK,rfl,hCk,hSK,hb1⟩
 have HCk:=Lib.hid hCk
 have HSK:=Lib.hid hSK
 have HB1:=Lib.hid (HB0.out.trans (hb1.mono hsz0))
 have HX1:=Lib.hid (HX0.out.below hb1 HX0.out.lt)
 have hsz1 : w0.heap.size ≤ w1.heap.size:=hb1.size
 clear q0 q1 q2 q3 q4 q5 q6 q7 q8 q9 q10 cn hCk hSK hb1
 obtain ⟨q0,q1,q2,q3,q4,q5,q6,q7,q8,q9,q10⟩:=cfg_cells HX1.out
 go_wp2_with fail
 refine (sn w1).mono ?_
 rintro e w2 ⟨T,rfl,hSt,hb2,hT1,hT2⟩
 have HX2:=Lib.hid (HX1.out.below hb2 HX1.out.lt)
 clear q0 q1 q2 q3 q4 q5 q6 q7 q8 q9 q10 sn
 obtain ⟨q0,q1,q2,q3,q4,q5,q6,q7,q8,q9,q10⟩:=cfg_cells HX2.out
 have HF : Hid (ClAt (w2.alloc (.cells #[.int .i64 c.ring,.int .i64 c.window,.int .i64 c.base,.int .i64 c.gain,.int .i64 c.least,.int .i64 c.most,.int .i64 c.slack,.int .i64 c.num,.int .i64 c.den,.int .i64 c.extra,.bool c.curved,.pointer (some ⟨T,0,none⟩),.pointer (some ⟨K,0,none⟩),.int .i64 0] 86)) w2.heap.size c (cl0 c) (fun k=>w.heap.size ≤ k ∧ k < w2.heap.size + 1) ∧
   Below w.heap.size w (w2.alloc (.cells #[.int .i64 c.ring,.int .i64 c.window,.int .i64 c.base,.int .i64 c.gain,.int .i64 c.least,.int .i64 c.most,.int .i64 c.slack,.int .i64 c.num,.int .i64 c.den,.int .i64 c.extra,.bool c.curved,.pointer (some ⟨T,0,none⟩),.pointer (some ⟨K,0,none⟩),.int .i64 0] 86))):=Lib.hid (by
  have hsz2:=hb2.size
  have hA : Below w2.heap.size w2 (w2.alloc (.cells #[.int .i64 c.ring,.int .i64 c.window,.int .i64 c.base,.int .i64 c.gain,.int .i64 c.least,.int .i64 c.most,.int .i64 c.slack,.int .i64 c.num,.int .i64 c.den,.int .i64 c.extra,.bool c.curved,.pointer (some ⟨T,0,none⟩),.pointer (some ⟨K,0,none⟩),.int .i64 0] 86)):=(Below.refl _ _).alloc (Nat.le_refl _) _
  have hck2:=HCk.out.only (Only.of_below (S:=fun _=>False) hb2) (fun _ _ h=>h)
  have hB:=HB1.out.trans (hb2.mono (by omega))
  refine ⟨⟨T,w1.heap.size,K,[],0,_,SK,⟨Blk.new _ _ _,hSt.below hA,by have:=HRG.out;simp;omega,hck2.only (Only.of_below (S:=fun _=>False) hA) (fun _ _ h=>h),fun k hk hk2=>?_,⟨?_,?_⟩,⟨⟨by omega,by omega⟩,fun k hk=>⟨by omega,by omega⟩,fun k hk=>⟨by have:=HSK.out k hk;omega,?_⟩⟩,fun k hk=>by simp;exact hk.2⟩,⟨rfl,by simp,by simp [cl0],HCO.out⟩⟩,hB.alloc hB.size _⟩
  ·have:=HCk.out.lt k hk2;omega
  ·intro hh;omega
  ·intro hh;have:=hck2.lt _ hh;omega
  ·have:=hck2.lt k hk;omega)
 clear hSt hb2
 go_wp2_with fail
 exact bodyPost_ret (v:=.tuple #[.pointer (some ⟨w2.heap.size,0,none⟩),.int .i64 0]) (by simp [results,Tryz.results9,go_sem]) rfl ⟨_,_,rfl,HF.out.1,fun k hk=>hk.1,HF.out.2⟩
end Go.Proofs.YtklkooeimkedgaaGreat
namespace Go.Proofs.YtklkooeimkedgaaGreat
open Go.RowKit
set_option maxRecDepth 100000
theorem getK_of_mem {l : List Kpt} (hu : keysUp l) {k : Kpt} (hk : k ∈ l) : getK l k.key = some k:=by
 obtain ⟨i,hi,rfl⟩:=List.mem_iff_getElem.1 hk
 have h1 : cntK l (l[i]).key = i:=by
  have a:=cntK_lt (key:=(l[i]).key) hu (List.getElem?_eq_getElem hi)
  have b:=cntK_le l (l[i]).key
  rcases Nat.lt_trichotomy (cntK l (l[i]).key) i with h | h | h
  ·have hj : cntK l (l[i]).key < l.length:=by omega
   have c:=cntK_lt (key:=(l[i]).key) hu (List.getElem?_eq_getElem hj)
   have d:=List.pairwise_iff_getElem.1 hu _ i hj hi h
   omega
  ·exact h
  ·omega
 have h2 : l[cntK l (l[i]).key]? = some (l[i]):=by rw [h1];exact List.getElem?_eq_getElem hi
 have h3 : hasK l (l[i]).key = true:=by unfold hasK;rw [h2];simp
 unfold getK
 rw [if_pos h3,h2]
theorem insS_len (ss : List Sn) (x : Sn) : (insS ss x).length = ss.length + 1:=by
 unfold insS
 have:=List.takeWhile_append_dropWhile (p:=fun s : Sn=>decide (s.tick < x.tick)) (l:=ss)
 have h2:=congrArg List.length this
 rw [List.length_append] at h2
 simp only [List.length_append,List.length_cons]
 omega
theorem cntK_toK (ss : List Sn) (key : Int) : cntK (ss.map toK) key = (ss.takeWhile (fun s=>decide (s.tick < key))).length:=by
 induction ss with
 | nil=>rfl
 | cons y ss ih =>
  unfold cntK at *
  rw [List.map_cons]
  by_cases hy : y.tick < key
  ·have h1 : decide ((toK y).key < key) = true:=decide_eq_true hy
   have h2 : decide (y.tick < key) = true:=decide_eq_true hy
   simp only [List.takeWhile_cons,h1,h2,if_true,List.length_cons,ih]
  ·have h1 : decide ((toK y).key < key) = false:=decide_eq_false hy
   have h2 : decide (y.tick < key) = false:=decide_eq_false hy
   simp [List.takeWhile_cons,h1,h2]
theorem layS_mem {most : Int} {r : Rg} {x : Sn} (hl : (r.ss.length : Int) ≤ most) (hh : hasK (r.ss.map toK) x.tick = false) (hs : staleF (r.ss.map toK) most r.floor r.gone x.tick = false) : x ∈ (layS most r x).ss:=by
 unfold layS
 split
 ·simp [insS]
 ·rename_i hn
  rw [insS_len] at hn
  have hfull : (r.ss.length : Int) = most:=by omega
  have hu : untK (r.ss.map toK) x.tick ≠ 0:=by
   intro hu
   unfold staleF at hs
   simp [hu,hfull] at hs
  unfold untK at hu
  rw [hh] at hu
  simp only [Bool.false_eq_true,if_false] at hu
  rw [cntK_toK] at hu
  simp only [insS]
  cases ht : r.ss.takeWhile (fun s=>decide (s.tick < x.tick)) with
  | nil=>rw [ht] at hu;simp at hu
  | cons y l=>simp
theorem snpE_zero {l : List Kpt} {most floor : Int} {gone : Bool} {tick base : Int} (h : snpE l most floor gone tick base = 0) : hasK l tick = false ∧ staleF l most floor gone tick = false:=by
 unfold snpE at h
 split at h
 ·cases h
 rename_i h1
 split at h
 ·cases h
 rename_i h2
 exact ⟨by simpa using h1,by simpa using h2⟩
abbrev Cst.rg (x : Cst) : Rg:=⟨x.ss,x.floor,x.gone⟩
def arrE (c : Cfg) (x : Cst) (zs : List Int) : Int:=(snapS c.ring x.rg zs).2
def arrX (c : Cfg) (x : Cst) (loc : Int) (zs : List Int) : Cst :=
 if (snapS c.ring x.rg zs).2 = 0 then ⟨(layS c.ring x.rg (snapS c.ring x.rg zs).1).ss,(layS c.ring x.rg (snapS c.ring x.rg zs).1).floor,(layS c.ring x.rg (snapS c.ring x.rg zs).1).gone,smp c x.cs (subF loc (snapS c.ring x.rg zs).1.time)⟩ else x
def ArrHyp (c : Cfg) (x : Cst) (zs : List Int) : Prop:=(snapS c.ring x.rg zs).2 = 0 → ∀ l : List Kpt,l.map (·.sn) = x.ss → (∀ k ∈ l,k.key = k.sn.tick) → LayHyp l c.ring x.floor x.gone (snapS c.ring x.rg zs).1
theorem layS_mem2 {most : Int} {r : Rg} {x s : Sn} (h : s ∈ (layS most r x).ss) : s = x ∨ s ∈ r.ss:=by
 have hi : ∀ s ∈ insS r.ss x,s = x ∨ s ∈ r.ss:=by
  intro s hs
  unfold insS at hs
  rcases List.mem_append.1 hs with h | h
  ·exact .inr ((List.takeWhile_sublist _).mem h)
  ·rcases List.mem_cons.1 h with h | h
   ·exact .inl h
   ·exact .inr ((List.dropWhile_sublist _).mem h)
 unfold layS at h
 split at h
 ·exact hi s h
 ·exact hi s (List.mem_of_mem_drop h)
set_option maxHeartbeats 4000000 in
theorem carrive_f (C : Nat) (c : Cfg) (okc : c.Ok) (hcc : cchk c = 0) (x : Cst) (S : Nat → Prop) (loc : Int) (hloc : I64 loc) (a : Option Addr) (len cap : Nat) (zs : List Int) (w : World) (h : ClAt w C c x S)
  (hz : BytesAt w a len zs) (hc : a = none → cap = 0) (hlc : len ≤ cap) (hl : (len : Int) ≤ 140737488355000) (hL : x.cs.L.length < 1000) (hlay : ArrHyp c x zs) :
  Calls Tryz.prog 13 #[.pointer (some ⟨C,0,none⟩),.int .i64 loc,.slice a len cap] w fun e w'=>e = .returned (.int .i64 (arrE c x zs)) ∧ ClAt w' C c (arrX c x loc zs) (Grow S w w') ∧ Only S w w':=by
 obtain ⟨T,R,K,l,fr,SS,SK,hP,hK⟩:=h
 have hAl : Al l (x.ss.map toK):=by rw [← hK.map];exact al_toK hK.key
 have hzz : snapF l c.ring x.floor x.gone zs = snapS c.ring x.rg zs:=hAl.snap _ _ _ _
 have hents : ∀ k ∈ l,(∀ e ∈ k.sn.ents,e.Ok) ∧ k.sn.ents.length ≤ 64:=fun k hk=>by
  refine ⟨?_,(snChk_iff.1 (hK.chk _ (by rw [← hK.map];exact List.mem_map_of_mem hk))).len⟩
  obtain ⟨v,hp⟩:=hP.st.ring
  exact (hp.ents k hk).2
 have ac:=staccept_f T R l c.ring x.floor x.gone SS a len cap zs w hP.st (fun k hk=>(hents k hk).2) hz hc hlc hl (fun h=>by rw [hzz] at h ⊢;exact hlay h l hK.map hK.key) (snapF_ents hz.u8 (fun k hk=>(hents k hk).1)) snapF_len (snapF_err _ _ _ _ _)
 have hgood:=fun h=>snapF_good (l:=l) (most:=c.ring) (floor:=x.floor) (gone:=x.gone) (zs:=zs) h
 have hsnp:=fun h=>(snapF_apF (l:=l) (most:=c.ring) (floor:=x.floor) (gone:=x.gone) (zs:=zs) h)
 rw [hzz] at ac hgood hsnp
 have hsn2 : (snapS c.ring x.rg zs).2 = 0 → hasK (x.ss.map toK) (snapS c.ring x.rg zs).1.tick = false ∧ staleF (x.ss.map toK) c.ring x.floor x.gone (snapS c.ring x.rg zs).1.tick = false:=fun h0=>by
  have h1:=hsnp h0
  have h2:=snpE_zero h1.2.1
  have h3 : (snapS c.ring x.rg zs).1.tick = (grRd zs).1.tick:=by rw [h1.2.2.2.1];exact (apF_time h1.2.2.1).2.1
  rw [h3,← hAl.has,← hAl.stale];exact h2
 have hmem : (snapS c.ring x.rg zs).2 = 0 → (snapS c.ring x.rg zs).1 ∈ (layS c.ring x.rg (snapS c.ring x.rg zs).1).ss:=fun h0 =>
  layS_mem (r:=x.rg) (by
   obtain ⟨v,hp⟩:=hP.st.ring
   show (x.ss.length : Int) ≤ c.ring
   rw [← hK.map,List.length_map]
   exact hP.room) (hsn2 h0).1 (hsn2 h0).2
 have HAX : Hid (arrX c x loc zs = if (snapS c.ring x.rg zs).2 = 0 then ⟨(layS c.ring x.rg (snapS c.ring x.rg zs).1).ss,(layS c.ring x.rg (snapS c.ring x.rg zs).1).floor,(layS c.ring x.rg (snapS c.ring x.rg zs).1).gone,smp c x.cs (subF loc (snapS c.ring x.rg zs).1.time)⟩ else x):=Lib.hid rfl
 have HP:=Lib.hid hP
 have HK:=Lib.hid hK
 have HG:=Lib.hid hgood
 have HM:=Lib.hid hmem
 unfold arrE
 generalize arrX c x loc zs = ax at *
 generalize snapS c.ring x.rg zs = z at *
 obtain ⟨sn,er⟩:=z
 simp only at *
 have c11:=hP.blk.cell 11
 simp at c11
 clear hP hK hgood hmem hsn2 hsnp hents hAl hzz hlay hz
 go_enter Tryz.func13,Tryz.ntmps13
 go_wp2_with fail
 refine ac.mono ?_
 rintro e w1 ⟨rfl,⟨l',fl,g,hS1,hR⟩,hO⟩
 clear ac
 have hC1:=hO.blk HP.out.blk HP.out.nC.1
 have hCk1:=HP.out.ck.only hO (fun k hk hh=>HP.out.dis k hh hk)
 have hszw:=hO.size
 by_cases her : er = 0
 ·subst her
  obtain rfl : ax = _:=HAX.out.trans (if_pos rfl)
  rcases hR with ⟨h,_⟩ | ⟨_,kx,hk1,hk2,hLR⟩
  ·exact absurd rfl h
  have hgd : SnGood sn:=HG.out rfl
  have hl2 : ∀ k ∈ l',k.key = k.sn.tick:=fun k hk=>by
   rcases hLR.2 k hk with rfl | hk
   ·rw [hk1];exact hk2
   ·exact HK.out.key k hk
  have hlm : l'.map (·.sn) = (layS c.ring x.rg sn).ss ∧ fl = (layS c.ring x.rg sn).floor ∧ g = (layS c.ring x.rg sn).gone:=by
   have:=hLR.1
   rw [HK.out.map,hk1] at this
   rw [← show _ = layS c.ring x.rg sn from this]
   exact ⟨rfl,rfl,rfl⟩
  have hchk : ∀ s ∈ (layS c.ring x.rg sn).ss,snChk s = 0:=fun s hs=>by
   rcases layS_mem2 hs with rfl | hs
   ·exact snChk_iff.2 hgd
   ·exact HK.out.chk s hs
  have hlen64 : ∀ k ∈ l',k.sn.ents.length ≤ 64:=fun k hk=>(snChk_iff.1 (hchk _ (by rw [← hlm.1];exact List.mem_map_of_mem hk))).len
  have hget : ∃ k,getK l' sn.tick = some k ∧ k.sn = sn:=by
   have h1 : sn ∈ l'.map (·.sn):=by rw [hlm.1];exact HM.out rfl
   obtain ⟨k,hk,hks⟩:=List.mem_map.1 h1
   obtain ⟨v,hp⟩:=hS1.ring
   refine ⟨k,?_,hks⟩
   rw [← hks,← hl2 k hk]
   exact getK_of_mem hp.up hk
  obtain ⟨kk,hkk,hks⟩:=hget
  have gt:=stget_f T R l' c.ring fl g _ sn.tick w1 hS1 hlen64
  rw [hkk] at gt
  have hM : snM (some kk) = sn.time:=by show kk.sn.time = _;rw [hks]
  rw [hM] at gt
  generalize hasK l' sn.tick = hv at *
  generalize snT (some kk) = st at *
  generalize (snE (some kk)) = se at *
  have HRM : Hid ((layS c.ring x.rg sn).ss.length ≤ c.ring):=Lib.hid (by
   unfold layS
   split
   ·assumption
   ·rename_i hh
    rw [insS_len] at hh
    have h1:=HP.out.room
    have h2 : x.ss.length = l.length:=by have:=congrArg List.length HK.out.map;rw [List.length_map] at this;exact this.symm
    show ((List.drop 1 (insS x.rg.ss sn)).length : Int) ≤ c.ring
    rw [List.length_drop,insS_len,show x.rg.ss.length = l.length from h2]
    omega)
  have HS1:=Lib.hid hS1
  have HC1:=Lib.hid hC1
  have HCk1:=Lib.hid hCk1
  have HO1:=Lib.hid hO
  have HLM:=Lib.hid hlm
  have HL2:=Lib.hid hl2
  have HCH:=Lib.hid hchk
  have HGD:=Lib.hid hgd
  have HSW:=Lib.hid hszw
  have c11':=hC1.cell 11
  simp at c11'
  clear hS1 hC1 hCk1 hO hlm hl2 hchk hgd hszw hLR hlen64 hkk hM c11 HAX
  go_wp2_with fail
  refine gt.mono ?_
  rintro e w2 ⟨ga,gc,rfl,hE,hB⟩
  clear hE gt
  obtain ⟨v2,hv2⟩ : ∃ v,w2.alloc (.cells #[.int .i64 0,.int .i64 0,.slice none 0 0] 36) = v:=⟨_,rfl⟩
  have hBb : Below w2.heap.size w2 v2:=by rw [← hv2];exact (Below.refl _ _).alloc (Nat.le_refl _) _
  have hXv : Blk v2 w2.heap.size #[.int .i64 0,.int .i64 0,.slice none 0 0] 36:=by rw [← hv2];exact Blk.new _ _ _
  have f0:=hXv.free 0
  have f1:=hXv.free 1
  have f2:=hXv.free 2
  have q0:=hXv.cell 0
  have q1:=hXv.cell 1
  have q2:=hXv.cell 2
  simp at q0 q1 q2
  have hX:=blk3 (v0:=.int .i64 st) (v1:=.int .i64 sn.time) (v2:=.slice ga se.length gc) hXv
  have hbx:=below3 (v0:=.int .i64 st) (v1:=.int .i64 sn.time) (v2:=.slice ga se.length gc) hBb (Nat.le_refl _)
  obtain ⟨u2,hu2⟩ : ∃ u,((v2.setCell ⟨w2.heap.size,0,none⟩ (.int .i64 st)).setCell ⟨w2.heap.size,1,none⟩ (.int .i64 sn.time)).setCell ⟨w2.heap.size,2,none⟩ (.slice ga se.length gc) = u:=⟨_,rfl⟩
  rw [hu2] at hX hbx
  clear hBb hXv
  have hb12 : Below w1.heap.size w1 u2:=hB.trans (hbx.mono hB.size)
  have hC2:=HC1.out.below hb12 HC1.out.lt
  have HC2:=Lib.hid hC2
  have HS2:=Lib.hid (HS1.out.below hb12)
  have HCk2:=Lib.hid (HCk1.out.only (Only.of_below (S:=fun _=>False) hb12) (fun _ _ h=>h))
  have HO2:=Lib.hid (HO1.out.then_below hb12)
  have HSZ2 : Hid (w1.heap.size ≤ u2.heap.size):=Lib.hid hb12.size
  have x1:=hX.cell 1
  have c12:=hC2.cell 12
  simp at x1 c12
  clear hB hbx hb12 hC2 hX c11'
  go_wp2_with fail
  clear hv2 hu2 f0 f1 f2 q0 q1 q2
  refine wp_region_calm 7 (by kernel_rfl) (by kernel_rfl) ?_
  simp only [List.take_succ_cons,List.take_zero,List.drop_succ_cons,List.drop_zero]
  repeat (apply wpCalm_step;(next=>(intro W hW K hK;have y0:=hW.cell x1;have y1:=hW.cell c12;go_simp;first | exact ⟨hW,hK⟩ | exact hK));(next=>exact CalmI.self _);(try go_simp))
  refine wpCalm_nil ?_
  intro WC hWC
  have hWB : Below u2.heap.size u2 WC:=hWC
  have HC3:=Lib.hid (HC2.out.below hWB HC2.out.lt)
  have HS3:=Lib.hid (HS2.out.below hWB)
  have hCk3:=HCk2.out.only (Only.of_below (S:=fun _=>False) hWB) (fun _ _ h=>h)
  have HO3:=Lib.hid (HO2.out.then_below hWB)
  have HSZ3 : Hid (w1.heap.size ≤ WC.heap.size):=Lib.hid (Nat.le_trans HSZ2.out hWB.size)
  have sm:=csample_f K c okc hcc x.cs HK.out.cs hL loc sn.time hloc ⟨by have:=HGD.out.time;omega,by have:=HGD.out.time;omega⟩ SK WC hCk3
  have hokn : (smp c x.cs (subF loc sn.time)).Ok c:=smp_ok HK.out.cs (cchk_ok hcc).2.1 (subF_i64 _ _) hL
  have HOKN:=Lib.hid hokn
  clear hWC hWB hCk3 x1 c12 hokn
  go_wp2_with fail
  refine sm.mono ?_
  rintro e w4 ⟨rfl,hCk4,hO4⟩
  have HF : Hid (ClAt w4 C c ⟨(layS c.ring x.rg sn).ss,(layS c.ring x.rg sn).floor,(layS c.ring x.rg sn).gone,smp c x.cs (subF loc sn.time)⟩ (Grow S w w4) ∧ Only S w w4):=Lib.hid (by
   have hs4:=hO4.size
   have hs3:=HSZ3.out
   have hsw:=HSW.out
   have hsub:=HP.out.sub
   have hlt:=HP.out.lt
   have hst:=HS3.out.only hO4 (fun k hk hh=>by
    rcases hk with hk | hk
    ·exact HP.out.dis k hk hh
    ·have:=hlt k (hsub.2.2 k hh);omega)
   refine ⟨⟨T,R,K,l',fr,_,_,⟨hO4.blk HC3.out HP.out.nC.2,by rw [← HLM.out.2.1,← HLM.out.2.2];exact hst,?_,hCk4,fun k hk hh=>?_,⟨fun hh=>?_,fun hh=>?_⟩,⟨⟨.inl hsub.1,?_⟩,fun k hk=>⟨?_,?_⟩,fun k hk=>⟨?_,hk.2⟩⟩,fun k hk=>hk.2⟩,⟨HLM.out.1,HL2.out,HCH.out,HOKN.out⟩⟩,?_⟩
   ·have h1:=HRM.out
    rw [← HLM.out.1,List.length_map] at h1
    exact h1
   ·rcases hk with hk | hk
    ·rcases hh.1 with h5 | h5
     ·exact HP.out.dis k hk h5
     ·have:=hlt k (hsub.2.1 k hk);omega
    ·rcases hh.1 with h5 | h5
     ·have:=hlt k (hsub.2.2 k h5);omega
     ·omega
   ·rcases hh with hh | hh
    ·exact HP.out.nC.1 hh
    ·have:=hlt C hsub.1;omega
   ·rcases hh.1 with hh | hh
    ·exact HP.out.nC.2 hh
    ·have:=hlt C hsub.1;omega
   ·have:=hlt C hsub.1;omega
   ·rcases hk with hk | hk
    ·exact .inl (hsub.2.1 k hk)
    ·exact .inr hk.1
   ·rcases hk with hk | hk
    ·have:=hlt k (hsub.2.1 k hk);omega
    ·omega
   ·rcases hk.1 with hk | hk
    ·exact .inl (hsub.2.2 k hk)
    ·exact .inr (by omega)
   ·exact (HO3.out.weaken (fun k _ hk=>hsub.2.1 k hk)).trans_new hO4 (fun i hi hh=>hsub.2.2 i hh))
  clear hCk4 hO4 sm
  go_wp2_with fail
  exact bodyPost_ret (v:=.int .i64 0) (by simp [results,Tryz.results13,go_sem]) rfl ⟨rfl,HF.out⟩
 ·obtain rfl : ax = x:=HAX.out.trans (if_neg her)
  have hen : (er != 0) = true:=by simpa using her
  rcases hR with ⟨_,rfl,rfl,rfl⟩ | ⟨h,_⟩
  ·have HF : Hid (ClAt w1 C c ax (Grow S w w1) ∧ Only S w w1):=Lib.hid (by
    have hsub:=HP.out.sub
    have hlt:=HP.out.lt
    refine ⟨⟨T,R,K,l',fr,_,SK,⟨hC1,hS1,HP.out.room,hCk1,fun k hk hh=>?_,⟨fun hh=>?_,HP.out.nC.2⟩,⟨⟨.inl hsub.1,?_⟩,fun k hk=>⟨?_,?_⟩,fun k hk=>⟨.inl (hsub.2.2 k hk),?_⟩⟩,fun k hk=>hk.2⟩,HK.out⟩,hO.weaken (fun k _ hk=>hsub.2.1 k hk)⟩
    ·rcases hk with hk | hk
     ·exact HP.out.dis k hk hh
     ·have:=hlt k (hsub.2.2 k hh);omega
    ·rcases hh with hh | hh
     ·exact HP.out.nC.1 hh
     ·have:=hlt C hsub.1;omega
    ·have:=hlt C hsub.1;omega
    ·rcases hk with hk | hk
     ·exact .inl (hsub.2.1 k hk)
     ·exact .inr hk.1
    ·rcases hk with hk | hk
     ·have:=hlt k (hsub.2.1 k hk);omega
     ·omega
    ·have:=hlt k (hsub.2.2 k hk);omega)
   clear hC1 hCk1 hS1 hO her
   go_wp2_with fail
   exact bodyPost_ret (v:=.int .i64 er) (by simp [results,Tryz.results13,go_sem]) rfl ⟨rfl,HF.out⟩
  ·exact absurd h her
end Go.Proofs.YtklkooeimkedgaaGreat
namespace Go.Proofs.YtklkooeimkedgaaGreat
open Go.RowKit
set_option maxRecDepth 100000
theorem layHyp_end {l : List Kpt} {most floor : Int} {gone : Bool} {sn : Sn} (hkey : ∀ k ∈ l,k.key = k.sn.tick) (hlast : ∀ k ∈ l,k.sn.tick < sn.tick) (hroom : (l.length : Int) < most) (hmost : most ≤ 64) (hfl : gone = true → floor < sn.tick) : LayHyp l most floor gone sn:=by
 intro R S x w hx hk hR hO hok hS
 have hl : ∀ k ∈ l,k.key < x.key:=fun k hk'=>by rw [hkey k hk',hk];exact hlast k hk'
 have h:=rlay_end R l most floor gone S x w hR hO hok hS hl hroom hmost (fun h=>by rw [hk];exact hfl h)
 have hin : insS (l.map (·.sn)) x.sn = l.map (·.sn) ++ [x.sn]:=insS_end (fun s hs=>by
  obtain ⟨k,hk',rfl⟩:=List.mem_map.1 hs
  rw [hx];exact hlast k hk')
 have hle : ((insS (l.map (·.sn)) x.sn).length : Int) ≤ most:=by rw [hin];simp;omega
 unfold LayOk
 refine h.mono ?_
 rintro e w' ⟨rfl,h1,h2⟩
 refine ⟨l ++ [x],floor,gone,?_,h1,h2,?_,?_⟩
 ·unfold layV;rw [if_pos hle]
 ·unfold layS;rw [if_pos hle,hin];simp
 ·intro k hk'
  rcases List.mem_append.1 hk' with h | h
  ·exact .inr h
  ·simp at h;exact .inl h
theorem arrHyp_end {c : Cfg} {x : Cst} {zs : List Int} (hc : cchk c = 0) (h : (snapS c.ring x.rg zs).2 = 0 → (∀ s ∈ x.ss,s.tick < (snapS c.ring x.rg zs).1.tick) ∧ (x.ss.length : Int) < c.ring ∧ (x.gone = true → x.floor < (snapS c.ring x.rg zs).1.tick)) : ArrHyp c x zs:=by
 intro h0 l hl hk
 obtain ⟨h1,h2,h3⟩:=h h0
 refine layHyp_end hk (fun k hk'=>h1 _ (by rw [← hl];exact List.mem_map_of_mem hk')) ?_ (cchk_ring hc).2 h3
 have:=congrArg List.length hl
 rw [List.length_map] at this
 rw [this];exact h2
def snpL (k : Kpt) : List Value:=[.int .i64 k.sn.tick,.int .i64 k.sn.time,kpS k]
def kp0 : Kpt:=⟨0,sn0,none,0⟩
def SnsL (w : World) (a : Option Addr) (ks : List Kpt) : Prop :=
 SnsAt w a ks.length (fun i=>(ks.getD i kp0).sn.tick) (fun i=>(ks.getD i kp0).sn.time) (fun i=>((ks.getD i kp0).a,(ks.getD i kp0).sn.ents.length,(ks.getD i kp0).cap)) (fun i j=>(ks.getD i kp0).sn.ents.getD j ent0)
theorem infoSnp : (Tryz.prog.info? 36).map (fun i=>(i.zero,i.size,i.bytes)) = some (some (.agg #[.int .i64 0,.int .i64 0,.slice none 0 0]),3,40):=by kernel_rfl
structure OwnSn (w : World) (base : Nat) (v : Value) (ks : List Kpt) : Prop where
 row : w.ownsRow base 36 3 v ks.length (ks.flatMap snpL)
 ents : ∀ k ∈ ks,OwnE w base (kpS k) k.sn.ents ∧ (∀ e ∈ k.sn.ents,e.Ok) ∧ k.sn.ents.length ≤ 64
theorem OwnSn.nil (w : World) (base : Nat) : OwnSn w base (.slice none 0 0) []:=⟨World.ownsRow_nil _ _ _ _,by simp⟩
theorem OwnSn.below {w w' : World} {base : Nat} {v : Value} {ks : List Kpt} (h : OwnSn w base v ks) (hb : Below w.heap.size w w') : OwnSn w' base v ks :=
 ⟨ownsOnly h.row (Only.of_below (S:=fun _=>False) hb) (fun _ _ h=>h),fun k hk=>⟨(h.ents k hk).1.below hb,(h.ents k hk).2⟩⟩
theorem flat3s : ∀ (d : List Kpt) (i : Nat) (x : Kpt),d[i]? = some x → ∀ j,j < 3 → (d.flatMap snpL)[i * 3 + j]? = (snpL x)[j]?
 | [],i,r,h,_,_=>by simp at h
 | y :: d,0,x,h,j,hj=>by
  simp at h;subst h
  rw [List.flatMap_cons,List.getElem?_append_left (by show _ < 3;omega)]
  congr 1;omega
 | y :: d,i + 1,x,h,j,hj=>by
  have h' : d[i]? = some x:=by simpa using h
  rw [List.flatMap_cons,List.getElem?_append_right (by show 3 ≤ _;omega),show (snpL y).length = 3 from rfl,show (i + 1) * 3 + j - 3 = i * 3 + j by omega]
  exact flat3s d i x h' j hj
theorem OwnSn.sns {w : World} {base : Nat} {v : Value} {ks : List Kpt} (h : OwnSn w base v ks) : ∃ a c,v = .slice a ks.length c ∧ SnsL w a ks ∧ (a = none → c = 0) ∧ ks.length ≤ c:=by
 have hc:=fun g hg=>h.row.cells (g:=g) hg
 obtain ⟨hr,he⟩:=h
 have hents : ∀ i,i < ks.length → EntsAt w (ks.getD i kp0).a (ks.getD i kp0).sn.ents.length (fun j=>(ks.getD i kp0).sn.ents.getD j ent0) ∧ ((ks.getD i kp0).sn.ents.length : Int) ≤ 4611686018427387904:=fun i hi=>by
  have hk : ks.getD i kp0 = ks[i]:=by simp [List.getD,hi]
  rw [hk]
  obtain ⟨h1,h2,h3⟩:=he _ (List.getElem_mem hi)
  obtain ⟨a,c,e,h4,_⟩:=h1.ents h2
  injection e with e1
  rw [← e1] at h4
  exact ⟨h4,by omega⟩
 obtain ⟨_,⟨rfl,hn⟩ | ⟨g,cap,cur,rfl,a,b,c,d⟩⟩:=hr
 ·refine ⟨none,0,by rw [hn],⟨.inl hn,hents⟩,fun _=>rfl,by omega⟩
 ·refine ⟨_,_,rfl,⟨.inr ⟨g,0,rfl,(Array.getElem?_eq_some_iff.1 b).1,fun i hi=>?_⟩,hents⟩,fun h=>(by cases h),c⟩
  have hx : ks[i]? = some (ks.getD i kp0):=by simp [List.getD,hi]
  have hf:=flat3s ks i _ hx
  have ha : ∀ o,(⟨g,0,none⟩ : Addr).add o = ⟨g,o,none⟩:=fun o=>by unfold Addr.add;split <;> simp_all
  have cell : ∀ j u,j < 3 → (snpL (ks.getD i kp0))[j]? = some u → w.cell? ⟨g,i * 3 + j,none⟩ = some u:=fun j u hj hu=>by
   rw [← ha];exact hc g rfl _ _ (by rw [hf j hj];exact hu)
  rw [Nat.zero_add]
  exact ⟨cell 0 _ (by decide) rfl,cell 1 _ (by decide) rfl,cell 2 _ (by decide) rfl⟩
theorem OwnSn.app {ops : Array Oper} {rest : List Oper} {o : Oper} {a : Act} {Q : Exit → Act → World → Prop} (w : World) (hgd : o.guard = none) (s x : Operand)
  (ho : o.op = .call { callee:=.builtin .append,args:=#[s,x],argTypes:=#[54,54] })
  (base : Nat) (v : Value) (ks : List Kpt) (hs : a.eval s = v) (hown : OwnSn w base v ks) (g : Nat) (k : Kpt) (hx : a.eval x = .slice (some ⟨g,0,none⟩) 1 1) (hb : Blk w g #[.int .i64 k.sn.tick,.int .i64 k.sn.time,.slice k.a k.sn.ents.length k.cap] 36)
  (hk : OwnE w base (kpS k) k.sn.ents ∧ (∀ e ∈ k.sn.ents,e.Ok) ∧ k.sn.ents.length ≤ 64) (hl : ks.length ≤ 1000000) (hbase : base ≤ w.heap.size)
  (h : ∀ v' w',OwnSn w' base v' (ks ++ [k]) → w.grownBy w' v.ownBlock → wpList Tryz.prog ops Q rest (a.put o.dst v') w') : wpList Tryz.prog ops Q (o :: rest) a w:=by
 refine wpList_app_one w hgd s x 54 36 ho base _ 3 40 Tryz.underlying54 infoSnp rfl (by decide) v ks.length (ks.flatMap snpL) hs hown.row g _ hx hb rfl (by intro u hu;simp at hu;rcases hu with rfl | rfl | rfl <;> rfl) (by unfold maxLen;omega) (by omega) hbase (fun v' w' h1 h2=>h v' w' ⟨?_,?_⟩ h2)
 ·rw [List.length_append,List.flatMap_append]
  simpa [snpL,kpS] using h1
 ·intro k' hk'
  have hold : OwnE w base (kpS k') k'.sn.ents ∧ (∀ e ∈ k'.sn.ents,e.Ok) ∧ k'.sn.ents.length ≤ 64:=by
   rcases List.mem_append.1 hk' with h | h
   ·exact hown.ents k' h
   ·simp at h;subst h;exact hk
  exact ⟨hold.1.only (onlyGrown h2) (fun j hj hv=>rowsApart hown.row hold.1 (by decide) hv hj),hold.2⟩
set_option maxHeartbeats 2000000 in
theorem csnaps_f (C : Nat) (c : Cfg) (x : Cst) (S : Nat → Prop) (w : World) (h : ClAt w C c x S) :
  Calls Tryz.prog 43 #[.pointer (some ⟨C,0,none⟩)] w fun e w'=>∃ v ks,e = .returned v ∧ OwnSn w' w.heap.size v ks ∧ ks.map (·.sn) = x.ss ∧ Below w.heap.size w w':=by
 obtain ⟨T,R,K,l,fr,SS,SK,hP,hK⟩:=h
 have hents : ∀ k ∈ l,(∀ e ∈ k.sn.ents,e.Ok) ∧ k.sn.ents.length ≤ 64:=fun k hk=>by
  refine ⟨?_,(snChk_iff.1 (hK.chk _ (by rw [← hK.map];exact List.mem_map_of_mem hk))).len⟩
  obtain ⟨v,hp⟩:=hP.st.ring
  exact (hp.ents k hk).2
 have ln:=fun W h=>stlen_f T R l c.ring x.floor x.gone SS W h
 have at_:=fun (i : Int) W h=>stat_f T R l c.ring x.floor x.gone SS i W h (fun k hk=>(hents k hk).2)
 have c11:=hP.blk.cell 11
 simp at c11
 have HC:=Lib.hid hP.blk
 have HS:=Lib.hid hP.st
 have HM:=Lib.hid hK.map
 have HE:=Lib.hid hents
 have h64 : l.length ≤ 64:=by obtain ⟨v,hp⟩:=hP.st.ring;have:=hp.len;omega
 have H64:=Lib.hid h64
 clear hP hK hents h64
 go_enter Tryz.func43,Tryz.ntmps43
 go_wp2_with fail
 refine (ln w HS.out).mono ?_
 rintro e w1 ⟨rfl,rfl⟩
 clear ln
 have c11w:=c11
 go_wp2_with fail
 go_loopw [3,12] (fun v i wr=>∃ (k : Nat) (u : Value) (ks : List Kpt),k ≤ l.length ∧ i = .int .i64 k ∧ u = v ∧ ks.map (·.sn) = (l.map (·.sn)).take k ∧ OwnSn wr w.heap.size u ks ∧ Below w.heap.size w wr) (fun _ i _=>l.length - (intOf i).toNat)
 case atStart=>exact ⟨0,_,[],Nat.zero_le _,rfl,rfl,by simp,OwnSn.nil _ _,Below.refl _ _⟩
 case round =>
  obtain ⟨k,v,ks,hk,rfl,rfl,hm,hO,hB⟩:=hrel
  clear c11 c11w
  by_cases hlt : k < l.length
  ·have hlt' : (k : Int) < l.length:=by omega
   obtain ⟨y,hy⟩ : ∃ y,l[k]? = some y:=⟨_,List.getElem?_eq_getElem hlt⟩
   have hak : atK l (k : Int) = some y:=by unfold atK;rw [if_neg (by omega)];simpa using hy
   have hst:=HS.out.below hB
   have at1:=at_ k wr hst
   rw [hak] at at1
   have hye:=HE.out y (List.mem_of_getElem? hy)
   have hcb:=HC.out.below hB HC.out.lt
   have c11:=hcb.cell 11
   simp at c11
   have HY:=Lib.hid hy
   have HLT:=Lib.hid hlt
   have HYE:=Lib.hid hye
   have HMK:=Lib.hid hm
   have HO:=Lib.hid hO
   have HB:=Lib.hid hB
   have hkl : ks.length = k:=by have:=congrArg List.length hm;simp at this;omega
   have HKL:=Lib.hid hkl
   simp only [snT,snM,snE,atE] at at1
   obtain ⟨yk,⟨tk,tm,es⟩,ya,yc⟩:=y
   simp only at *
   clear hy hye hm hO hB hst hcb hkl hak at_
   go_wp2_with fail
   refine at1.mono ?_
   rintro e w1 ⟨a1,c1,rfl,hE,hB⟩
   have HB0:=HB.out
   have hw1s:=HB0.size
   obtain ⟨v1,hv1⟩ : ∃ v,w1.alloc (.cells #[.int .i64 0,.int .i64 0,.slice none 0 0] 36) = v:=⟨_,rfl⟩
   have hBb : Below w1.heap.size w1 v1:=by rw [← hv1];exact (Below.refl _ _).alloc (Nat.le_refl _) _
   have hXv : Blk v1 w1.heap.size #[.int .i64 0,.int .i64 0,.slice none 0 0] 36:=by rw [← hv1];exact Blk.new _ _ _
   have f0:=hXv.free 0
   have f1:=hXv.free 1
   have f2:=hXv.free 2
   have q0:=hXv.cell 0
   have q1:=hXv.cell 1
   have q2:=hXv.cell 2
   simp at q0 q1 q2
   have hX:=blk3 (v0:=.int .i64 tk) (v1:=.int .i64 tm) (v2:=.slice a1 es.length c1) hXv
   have hbx:=below3 (v0:=.int .i64 tk) (v1:=.int .i64 tm) (v2:=.slice a1 es.length c1) hBb (Nat.le_refl _)
   obtain ⟨u1,hu1⟩ : ∃ u,((v1.setCell ⟨w1.heap.size,0,none⟩ (.int .i64 tk)).setCell ⟨w1.heap.size,1,none⟩ (.int .i64 tm)).setCell ⟨w1.heap.size,2,none⟩ (.slice a1 es.length c1) = u:=⟨_,rfl⟩
   rw [hu1] at hX hbx
   clear hBb hXv
   have hb01 : Below wr.heap.size wr u1:=hB.trans (hbx.mono hB.size)
   have hE1 : OwnE u1 w.heap.size (.slice a1 es.length c1) es:=(OwnE.base hE hw1s).below hbx
   obtain ⟨u2,hu2⟩ : ∃ v,u1.alloc (.cells #[.int .i64 tk,.int .i64 tm,.slice a1 es.length c1] 36) = v:=⟨_,rfl⟩
   have hb2 : Below u1.heap.size u1 u2:=by rw [← hu2];exact (Below.refl _ _).alloc (Nat.le_refl _) _
   have HX2 : Hid (Blk u2 u1.heap.size #[.int .i64 tk,.int .i64 tm,.slice a1 es.length c1] 36):=Lib.hid (by rw [← hu2];exact Blk.new _ _ _)
   have HE2:=Lib.hid (hE1.below hb2)
   have hb02 : Below wr.heap.size wr u2:=hb01.trans (hb2.mono hb01.size)
   have HO2:=Lib.hid (HO.out.below hb02)
   have HB2:=Lib.hid (HB0.trans (hb02.mono HB0.size))
   have x0:=hX.cell 0
   have x1:=hX.cell 1
   have x2:=hX.cell 2
   simp at x0 x1 x2
   clear hB hE hbx hb01 hE1 hb2 hb02 hX HB0 hw1s at1
   go_wp2_with (at_builtin;refine OwnSn.app _ rfl (.tmp 24) (.tmp 26) rfl w.heap.size _ ks rfl HO2.out _ ⟨tk,⟨tk,tm,es⟩,a1,c1⟩ rfl HX2.out ⟨HE2.out,HYE.out.1,HYE.out.2⟩ (by have:=HKL.out;have:=H64.out;omega) HB2.out.size ?_)
   intro v' w' hr hg
   have HF : Hid (OwnSn w' w.heap.size v' (ks ++ [⟨tk,⟨tk,tm,es⟩,a1,c1⟩]) ∧ Below w.heap.size w w' ∧ (ks ++ [(⟨tk,⟨tk,tm,es⟩,a1,c1⟩ : Kpt)]).map (·.sn) = (l.map (·.sn)).take (k + 1)):=Lib.hid ⟨hr,HB2.out.grown hg HB2.out.size (fun j e=>(HO2.out.row.lt j e).1),by
    rw [List.map_append,HMK.out,List.take_add_one,List.getElem?_map,HY.out];rfl⟩
   have hw : wrap64 ((k : Int) + 1) = (k : Int) + 1:=by have:=H64.out;unfold wrap64;omega
   clear hr hg
   go_wp2
   go_roundw
   case rel=>exact ⟨k + 1,_,_,by have:=HLT.out;omega,by go_num,rfl,HF.out.2.2,HF.out.1,HF.out.2.1⟩
   case measure=>rw [hw];show l.length - ((k : Int) + 1).toNat < l.length - (k : Int).toNat;have h1:=HLT.out;omega
  ·obtain rfl : k = l.length:=by omega
   have HF : Hid (OwnSn wr w.heap.size v ks ∧ ks.map (·.sn) = x.ss ∧ Below w.heap.size w wr):=Lib.hid ⟨hO,by rw [hm,← List.length_map (f:=fun k : Kpt=>k.sn),List.take_length];exact HM.out,hB⟩
   clear hO hm hB at_
   go_wp2
   exact bodyPost_ret (v:=v) (by simp [results,Tryz.results43,go_sem]) rfl ⟨v,ks,rfl,HF.out⟩
end Go.Proofs.YtklkooeimkedgaaGreat
namespace Go.Proofs.YtklkooeimkedgaaGreat
open Go.RowKit
set_option maxRecDepth 100000
theorem chkS_addr {K T : Nat → Int} {E E' : Nat → Option Addr × Nat × Nat} {EE : Nat → Nat → Ent} (h : ∀ i,(E i).2.1 = (E' i).2.1) : ∀ n i,chkS K T E EE n i = chkS K T E' EE n i
 | 0,i=>rfl
 | n + 1,i=>by unfold chkS;rw [h i,chkS_addr h n (i + 1)]
theorem pchk_addr {c : Cfg} {K T : Nat → Int} {E E' : Nat → Option Addr × Nat × Nat} {EE : Nat → Nat → Ent} (h : ∀ i,(E i).2.1 = (E' i).2.1) (n : Nat) : pchk c K T E EE n = pchk c K T E' EE n:=by
 unfold pchk;rw [chkS_addr h]
theorem bydE_addr {c : Cfg} {ka ta : Int} {aa aa' : Option Addr} {la ca ca' : Nat} {A : Nat → Ent} {at0 : Int} : bydE c ka ta aa la ca A at0 = bydE c ka ta aa' la ca' A at0:=by
 have h : pchk c (fun _=>ka) (fun _=>ta) (fun _=>(aa,la,ca)) (fun _=>A) 1 = pchk c (fun _=>ka) (fun _=>ta) (fun _=>(aa',la,ca')) (fun _=>A) 1:=pchk_addr (fun _=>rfl) 1
 unfold bydE chk1;rw [h]
theorem btwE_addr {c : Cfg} {ka ta : Int} {aa aa' : Option Addr} {la ca ca' : Nat} {A : Nat → Ent} {kb tb : Int} {ab ab' : Option Addr} {lb cb cb' : Nat} {B : Nat → Ent} {at0 : Int} : btwE c ka ta aa la ca A kb tb ab lb cb B at0 = btwE c ka ta aa' la ca' A kb tb ab' lb cb' B at0:=by
 unfold btwE chk2
 rw [pchk_addr (E':=two (aa',la,ca') (ab',lb,cb')) (fun i=>by unfold two;split <;> rfl)]
theorem shE_addr {c : Cfg} {at0 : Int} {K T : Nat → Int} {E E' : Nat → Option Addr × Nat × Nat} {EE : Nat → Nat → Ent} {len : Nat} (h : ∀ i,(E i).2.1 = (E' i).2.1) : shE c at0 K T E EE len = shE c at0 K T E' EE len:=by
 unfold shE
 rw [pchk_addr h,bydE_addr (aa':=(E' (shA T at0 len)).1) (ca':=(E' (shA T at0 len)).2.2),btwE_addr (aa':=(E' (shA T at0 len)).1) (ca':=(E' (shA T at0 len)).2.2) (ab':=(E' (shB T at0 len)).1) (cb':=(E' (shB T at0 len)).2.2),h,h]
def kOf (ss : List Sn) (i : Nat) : Int:=(ss.getD i sn0).tick
def tOf (ss : List Sn) (i : Nat) : Int:=(ss.getD i sn0).time
def eOf (ss : List Sn) (i : Nat) : Option Addr × Nat × Nat:=(none,(ss.getD i sn0).ents.length,0)
def eeOf (ss : List Sn) (i j : Nat) : Ent:=(ss.getD i sn0).ents.getD j ent0
def shEs (c : Cfg) (at0 : Int) (ss : List Sn) : Int:=shE c at0 (kOf ss) (tOf ss) (eOf ss) (eeOf ss) ss.length
def shNs (c : Cfg) (at0 : Int) (ss : List Sn) : Nat:=shN c at0 (kOf ss) (tOf ss) (eOf ss) (eeOf ss) ss.length
def shPs (c : Cfg) (at0 : Int) (ss : List Sn) : Nat → Po:=shP c at0 (kOf ss) (tOf ss) (eOf ss) (eeOf ss) ss.length
theorem getD_sn (ks : List Kpt) (i : Nat) : (ks.map (·.sn)).getD i sn0 = (ks.getD i kp0).sn:=by
 simp only [List.getD,List.getElem?_map]
 cases ks[i]? <;> rfl
theorem pshow_f (c : Cfg) (ok : c.Ok) (at0 : Int) (hat : I64 at0) (a : Option Addr) (cap : Nat) (ks : List Kpt) (ss : List Sn) (hm : ks.map (·.sn) = ss) (hT : ∀ s ∈ ss,I64 s.time) (hl : ks.length ≤ 1000) (w : World) (h : SnsL w a ks) :
  Calls Tryz.prog 19 #[cfgV c,.int .i64 at0,.slice a ks.length cap] w (Rets w (shNs c at0 ss) (shEs c at0 ss) (shPs c at0 ss)):=by
 have hK : (fun i=>(ks.getD i kp0).sn.tick) = kOf ss:=by funext i;unfold kOf;rw [← hm,getD_sn]
 have hTT : (fun i=>(ks.getD i kp0).sn.time) = tOf ss:=by funext i;unfold tOf;rw [← hm,getD_sn]
 have hEE : (fun i j=>(ks.getD i kp0).sn.ents.getD j ent0) = eeOf ss:=by funext i j;unfold eeOf;rw [← hm,getD_sn]
 have hE : ∀ i,((fun i=>((ks.getD i kp0).a,(ks.getD i kp0).sn.ents.length,(ks.getD i kp0).cap)) i : Option Addr × Nat × Nat).2.1 = (eOf ss i).2.1:=fun i=>by unfold eOf;rw [← hm,getD_sn]
 have hlen : ks.length = ss.length:=by rw [← hm,List.length_map]
 unfold SnsL at h
 rw [hK,hTT,hEE] at h
 have hTi : ∀ i,i < ks.length → I64 (tOf ss i):=fun i hi=>by
  unfold tOf
  have : i < ss.length:=by omega
  simp only [List.getD,List.getElem?_eq_getElem this,Option.getD_some]
  exact hT _ (List.getElem_mem this)
 have:=psh_f c ok at0 hat a ks.length cap _ _ _ _ w h hTi (by omega)
 have e1:=shE_addr (c:=c) (at0:=at0) (K:=kOf ss) (T:=tOf ss) (EE:=eeOf ss) (len:=ks.length) hE
 have e2 : shN c at0 (kOf ss) (tOf ss) (fun i=>((ks.getD i kp0).a,(ks.getD i kp0).sn.ents.length,(ks.getD i kp0).cap)) (eeOf ss) ks.length = shNs c at0 ss:=by
  unfold shNs shN;rw [e1,hE,hlen]
 have e3 : shP c at0 (kOf ss) (tOf ss) (fun i=>((ks.getD i kp0).a,(ks.getD i kp0).sn.ents.length,(ks.getD i kp0).cap)) (eeOf ss) ks.length = shPs c at0 ss:=by
  unfold shPs shP;rw [hE,hlen]
 rw [e2,e3,e1,hlen] at this
 rw [hlen]
 exact this
theorem ownsBase {w : World} {base base' k n : Nat} {e : TypeId} {v : Value} {xs : List Value} (h : w.ownsRow base e k v n xs) (hb : base' ≤ base) : w.ownsRow base' e k v n xs:=by
 obtain ⟨h1,h2⟩:=h
 refine ⟨h1,?_⟩
 rcases h2 with h2 | ⟨g,cap,cur,rfl,a,b⟩
 ·exact .inl h2
 ·exact .inr ⟨g,cap,cur,rfl,Nat.le_trans hb a,b⟩
theorem posesOnly {w w' : World} {s : Option Addr} {n : Nat} {P : Nat → Po} {X : Nat} {cs : Array Value} (h : PosesAt w s n P) (hX : Blk w X cs 49) (hcs : cs.size = 3) (ho : Only (fun k=>k = X) w w') : PosesAt w' s n P:=by
 rcases h with h | ⟨b,off,e,hl,hc⟩
 ·exact .inl h
 ·by_cases hn : n = 0
  ·exact .inl hn
  ·refine .inr ⟨b,off,e,Nat.lt_of_lt_of_le hl ho.size,fun i hi=>?_⟩
   have hbX : b ≠ X:=by
    rintro rfl
    have h0:=(hc 0 (by omega)).2.2.2.2.2
    rw [hX.cell,Array.getElem?_eq_none (by omega)] at h0
    cases h0
   have hh : ∀ o,w'.cell? ⟨b,o,none⟩ = w.cell? ⟨b,o,none⟩:=fun o=>by
    simp only [World.cell?];rw [ho.block b hl hbX]
   have:=hc i hi
   unfold PoCells at this ⊢
   simp only [hh];exact this
def FrI (w2 : World) (ss : List Sn) (n0 : Nat) (E0 : Int) (P0 : Nat → Po) : List Value → World → Prop
 | [],W=>CalmI w2 W
 | [v],W=>CalmI w2 W ∧ ∃ ks,OwnSn W w2.heap.size v ks ∧ ks.map (·.sn) = ss
 | [_,u],W=>CalmI w2 W ∧ ∃ s cp,u = .tuple #[.slice s n0 cp,.int .i64 E0] ∧ PosesAt W s n0 P0
 | [_,_,u],W=>CalmI w2 W ∧ ∃ s cp,u = .tuple #[.slice s n0 cp,.int .i64 E0] ∧ PosesAt W s n0 P0
 | [_,_,_,u],W=>CalmI w2 W ∧ ∃ s cp,u = .slice s n0 cp ∧ PosesAt W s n0 P0
 | [_,_,_,_,u],W=>CalmI w2 W ∧ ∃ s cp,u = .slice s n0 cp ∧ PosesAt W s n0 P0
 | _,_=>False
theorem FrI.calm {w2 : World} {ss : List Sn} {n0 : Nat} {E0 : Int} {P0 : Nat → Po} : ∀ {b : List Value} {W : World},FrI w2 ss n0 E0 P0 b W → CalmI w2 W
 | [],_,h=>h
 | [_],_,h=>h.1
 | [_,_],_,h=>h.1
 | [_,_,_],_,h=>h.1
 | [_,_,_,_],_,h=>h.1
 | [_,_,_,_,_],_,h=>h.1
 | _ :: _ :: _ :: _ :: _ :: _ :: _,_,h=>h.elim
set_option maxHeartbeats 4000000 in
theorem clframe_f (C : Nat) (c : Cfg) (okc : c.Ok) (hc : cchk c = 0) (x : Cst) (S : Nat → Prop) (loc : Int) (hloc : I64 loc) (w : World) (h : ClAt w C c x S) (hL : x.cs.L ≠ []) :
  Calls Tryz.prog 15 #[.pointer (some ⟨C,0,none⟩),.int .i64 loc] w fun e w'=>∃ s cp,e = .returned (.agg #[.bool true,.int .i64 (frm c x.cs loc).at0,.slice s (shNs c (frm c x.cs loc).at0 x.ss) cp]) ∧ PosesAt w' s (shNs c (frm c x.cs loc).at0 x.ss) (shPs c (frm c x.cs loc).at0 x.ss) ∧ ClAt w' C c { x with cs:=frm c x.cs loc } S ∧ Only (fun k=>S k ∧ NoU16 w k) w w':=by
 obtain ⟨T,R,K,l,fr,SS,SK,hP,hK⟩:=h
 have hokn:=frm_ok hK.cs hloc (c:=c)
 obtain ⟨w0,hw0⟩ : ∃ w0,w.alloc (.cells #[.bool false,.int .i64 0,.slice none 0 0] 49) = w0:=⟨_,rfl⟩
 have hB0 : Below w.heap.size w w0:=by rw [← hw0];exact (Below.refl _ _).alloc (Nat.le_refl _) _
 have hX0 : Blk w0 w.heap.size #[.bool false,.int .i64 0,.slice none 0 0] 49:=by rw [← hw0];exact Blk.new _ _ _
 have hCl:=hP.lt C hP.sub.1
 have hP0:=hP.only (Only.of_below (S:=fun _=>False) hB0) (fun _ _ h=>h)
 have hC0:=hP0.blk
 have c13:=hC0.cell 13
 have f13:=hC0.free 13
 simp at c13
 have hset : ∀ v,ClP (w0.setCell ⟨C,13,none⟩ (.int .i64 v)) C c T R K l x.floor x.gone x.cs v S SS SK:=fun v=>by
  have ho : Only (fun k=>k = C) w0 (w0.setCell ⟨C,13,none⟩ (.int .i64 v)):=Only.setCell (S:=fun k=>k = C) (p:=⟨C,13,none⟩) (Only.refl _ _) (.inl rfl) _
  exact ⟨by simpa using hC0.set 13 (.int .i64 v),hP0.st.only ho (fun k hk e=>hP0.nC.1 (e ▸ hk)),hP0.room,hP0.ck.only ho (fun k hk e=>hP0.nC.2 (e ▸ hk)),hP0.dis,hP0.nC,hP0.sub,fun k hk=>by have:=hP0.lt k hk;simpa [World.setCell] using this⟩
 have hX1 : ∀ v,Blk (w0.setCell ⟨C,13,none⟩ (.int .i64 v)) w.heap.size #[.bool false,.int .i64 0,.slice none 0 0] 49:=fun v=>hX0.far (p:=⟨C,13,none⟩) (by show w.heap.size ≠ C;omega) _
 have hNC : NoU16 w C:=noU16_of hP.blk (by intro v hv;simp at hv)
 have hO1 : ∀ v,Only (fun k=>S k ∧ NoU16 w k) w (w0.setCell ⟨C,13,none⟩ (.int .i64 v)):=fun v=>(Only.of_below (S:=fun k=>S k ∧ NoU16 w k) hB0).setCell (p:=⟨C,13,none⟩) (.inl ⟨hP.sub.1,hNC⟩) _
 obtain ⟨fr2,hfr⟩ : ∃ v,wrap64 (fr + 1) = v:=⟨_,rfl⟩
 obtain ⟨w1,hw1⟩ : ∃ u,w0.setCell ⟨C,13,none⟩ (.int .i64 fr2) = u:=⟨_,rfl⟩
 have hP1:=hset fr2
 have hXX:=hX1 fr2
 have hOO:=hO1 fr2
 rw [hw1] at hP1 hXX hOO
 have HP1:=Lib.hid hP1
 have HX1:=Lib.hid hXX
 have HO1:=Lib.hid hOO
 have HK:=Lib.hid hK
 have HOKN:=Lib.hid hokn
 have cf:=cframe_n K c hc x.cs hK.cs loc hloc SK w1 hP1.ck hL
 have hsame : ∀ k,k < w.heap.size → k ≠ C → w1.heap[k]? = w.heap[k]?:=fun k hk hne=>by
  rw [← hw1,Below.heap_setCell _ _ _ _ (show k ≠ (⟨C,13,none⟩ : Addr).block from hne)]
  exact hB0.block k hk
 have HSM:=Lib.hid hsame
 clear hsame
 have HAT:=Lib.hid hokn.at0
 have c12:=hP1.blk.cell 12
 simp at c12
 have HCl:=Lib.hid hCl
 have HNS : Hid (¬ S w.heap.size):=Lib.hid (fun h=>by have:=hP.lt _ h;omega)
 clear hNC hP hP0 hC0 hset hX1 hO1 hP1 hXX hOO hK hokn hX0 hB0 hCl
 generalize hfm : frm c x.cs loc = cs2 at *
 have HT : Hid (∀ s ∈ x.ss,I64 s.time):=Lib.hid (fun s hs=>by have:=(snChk_iff.1 (HK.out.chk s hs)).time;exact ⟨by omega,by omega⟩)
 have psh:=fun a cap ks hm hl W h=>pshow_f c okc cs2.at0 HAT.out a cap ks x.ss hm HT.out hl W h
 generalize shNs c cs2.at0 x.ss = n0 at *
 generalize shPs c cs2.at0 x.ss = P0 at *
 generalize shEs c cs2.at0 x.ss = E0 at *
 have HPS:=Lib.hid psh
 unfold cfgV at HPS
 clear psh
 go_enter Tryz.func15,Tryz.ntmps15
 go_wp2_with fail
 clear hw0 hw1 c13 f13 hfr
 refine cf.mono ?_
 rintro e w2 ⟨rfl,hCk,hO2⟩
 have hO2' : Only SK w1 w2:=hO2.weaken (fun k _ hk=>hk.1)
 have hP2 : ClP w2 C c T R K l x.floor x.gone cs2 fr2 S SS SK:=⟨hO2'.blk HP1.out.blk HP1.out.nC.2,HP1.out.st.only hO2' HP1.out.dis,HP1.out.room,hCk,HP1.out.dis,HP1.out.nC,HP1.out.sub,fun k hk=>Nat.lt_of_lt_of_le (HP1.out.lt k hk) hO2.size⟩
 have HCA : Hid (ClAt w2 C c { x with cs:=cs2 } S):=Lib.hid ⟨T,R,K,l,fr2,SS,SK,hP2,HK.out.map,HK.out.key,HK.out.chk,HOKN.out⟩
 have HX2:=Lib.hid (hO2'.blk HX1.out (fun h=>HNS.out (HP1.out.sub.2.2 _ h)))
 have HO2 : Hid (Only (fun k=>S k ∧ NoU16 w k) w w2):=Lib.hid (HO1.out.trans_new hO2 (fun i hi hk=>⟨HP1.out.sub.2.2 i hk.1,fun o v hh=>by
  have hne : i ≠ C:=fun e=>HP1.out.nC.2 (e ▸ hk.1)
  refine hk.2 o v ?_
  simp only [World.cell?] at hh ⊢
  rw [HSM.out i hi hne];exact hh⟩))
 obtain ⟨c0,c1,c2,c3,c4,c5,c6,c7,c8,c9,c10⟩ : w2.cell? ⟨C,0,none⟩ = some (.int .i64 c.ring) ∧ w2.cell? ⟨C,1,none⟩ = some (.int .i64 c.window) ∧ w2.cell? ⟨C,2,none⟩ = some (.int .i64 c.base) ∧ w2.cell? ⟨C,3,none⟩ = some (.int .i64 c.gain) ∧ w2.cell? ⟨C,4,none⟩ = some (.int .i64 c.least) ∧ w2.cell? ⟨C,5,none⟩ = some (.int .i64 c.most) ∧ w2.cell? ⟨C,6,none⟩ = some (.int .i64 c.slack) ∧ w2.cell? ⟨C,7,none⟩ = some (.int .i64 c.num) ∧ w2.cell? ⟨C,8,none⟩ = some (.int .i64 c.den) ∧ w2.cell? ⟨C,9,none⟩ = some (.int .i64 c.extra) ∧ w2.cell? ⟨C,10,none⟩ = some (.bool c.curved):=by
  have h:=hP2.blk
  have e0:=h.cell 0
  have e1:=h.cell 1
  have e2:=h.cell 2
  have e3:=h.cell 3
  have e4:=h.cell 4
  have e5:=h.cell 5
  have e6:=h.cell 6
  have e7:=h.cell 7
  have e8:=h.cell 8
  have e9:=h.cell 9
  have e10:=h.cell 10
  simp at e0 e1 e2 e3 e4 e5 e6 e7 e8 e9 e10
  exact ⟨e0,e1,e2,e3,e4,e5,e6,e7,e8,e9,e10⟩
 have HL64 : Hid (x.ss.length ≤ 64):=Lib.hid HCA.out.ok.2.2
 clear hCk hO2 hO2' cf c12 hP2
 have HI : Hid (FrI w2 x.ss n0 E0 P0 [] w2.drew):=Lib.hid (show CalmI w2 w2.drew from below_drewN (Below.refl _ _) 1)
 go_wp2_with fail
 apply wp_region_chainT 12 [6,7,8,9,11] (FrI w2 x.ss n0 E0 P0)
 case hm=>kernel_rfl
 case hB=>kernel_rfl
 case hp=>kernel_rfl
 case hI=>exact HI.out
 simp only [List.take_succ_cons,List.take_zero,List.drop_succ_cons,List.drop_zero]
 repeat (apply wpChain_fix;(next=>rfl);(next=>(intro b W hW K hK;have hb:=FrI.calm hW;have y0:=hb.cell c0;have y1:=hb.cell c1;have y2:=hb.cell c2;have y3:=hb.cell c3;have y4:=hb.cell c4;have y5:=hb.cell c5;have y6:=hb.cell c6;have y7:=hb.cell c7;have y8:=hb.cell c8;have y9:=hb.cell c9;have y10:=hb.cell c10;go_simp;first | exact ⟨hW,hK⟩ | exact hK));(next=>exact ⟨_,HI.out⟩);(try go_simp))
 apply wpChain_one (s:=fun _=>True)
 case hk=>rfl
 case hne=>exact ⟨undef,trivial⟩
 case hw=>rfl
 case h =>
  intro W hW
  have hb : Below w2.heap.size w2 W:=hW
  have sn:=csnaps_f C c { x with cs:=cs2 } S W (HCA.out.below hb)
  clear hW
  go_simp
  refine sn.mono ?_
  rintro e w3 ⟨v,ks,rfl,hO,hm,hB⟩
  first | refine ⟨_,rfl,?_⟩ | refine ⟨_,rfl,trivial,?_⟩
  exact ⟨hb.trans (hB.mono hb.size),ks,⟨ownsBase hO.row hb.size,fun k hk=>⟨OwnE.base (hO.ents k hk).1 hb.size,(hO.ents k hk).2⟩⟩,hm⟩
 intro v1 _
 apply wpChain_one (s:=fun u=>∃ s cp,u = .tuple #[.slice s n0 cp,.int .i64 E0])
 case hk=>rfl
 case hne=>exact ⟨_,none,0,rfl⟩
 case hw=>rfl
 case h =>
  intro W hW
  obtain ⟨hb,ks,hO,hm⟩:=hW
  obtain ⟨a,cp,rfl,hS,_,_⟩:=hO.sns
  have hl : ks.length ≤ 1000:=by have:=congrArg List.length hm;rw [List.length_map] at this;have:=HL64.out;omega
  have ps:=HPS.out a cp ks hm hl W hS
  have HCB : Hid (CalmI w2 W):=Lib.hid hb
  clear hb hO hS hm hl
  unfold Rets at ps
  go_simp
  refine ps.mono ?_
  rintro e w3 ⟨s,cp2,rfl,hPo,hB⟩
  refine ⟨_,rfl,by first | exact ⟨s,cp2,rfl⟩ | simp,?_⟩
  exact ⟨Below.trans HCB.out (hB.mono (Below.size HCB.out)),s,cp2,rfl,hPo⟩
 intro v2 hv2
 obtain ⟨s2,cp2,rfl⟩:=hv2
 try go_simp
 apply wpChain_one (s:=fun u=>∃ s cp,u = .tuple #[.slice s n0 cp,.int .i64 E0])
 case hk=>rfl
 case hne=>exact ⟨_,none,0,rfl⟩
 case hw=>rfl
 case h =>
  intro W hW
  have HW:=Lib.hid hW
  clear hW
  go_simp
  first | exact HW.out | exact ⟨⟨_,_,rfl⟩,HW.out⟩ | exact ⟨by simp,HW.out⟩
 intro v3 hv3
 obtain ⟨s3,cp3,rfl⟩:=hv3
 try go_simp
 apply wpChain_one (s:=fun u=>∃ s cp,u = .slice s n0 cp)
 case hk=>rfl
 case hne=>exact ⟨_,none,0,rfl⟩
 case hw=>rfl
 case h =>
  intro W hW
  obtain ⟨hb,s',cp',he,hp⟩:=hW
  have HW : Hid (FrI w2 x.ss n0 E0 P0 [undef,undef,undef,.slice s3 n0 cp3] W):=Lib.hid (by
   injection he with he
   have h2:=congrArg (fun q : Array Value=>q[0]?) he
   simp at h2
   obtain ⟨h3,h4⟩:=h2
   exact ⟨hb,s3,cp3,rfl,by rw [h3];exact hp⟩)
  clear hb he hp
  go_simp
  first | exact HW.out | exact ⟨⟨_,_,rfl⟩,HW.out⟩ | exact ⟨by simp,HW.out⟩
 intro v4 hv4
 obtain ⟨s4,cp4,rfl⟩:=hv4
 try go_simp
 repeat (apply wpChain_fix;(next=>rfl);(next=>(intro b W hW K hK;have hb:=FrI.calm hW;have y0:=hb.cell c0;have y1:=hb.cell c1;have y2:=hb.cell c2;have y3:=hb.cell c3;have y4:=hb.cell c4;have y5:=hb.cell c5;have y6:=hb.cell c6;have y7:=hb.cell c7;have y8:=hb.cell c8;have y9:=hb.cell c9;have y10:=hb.cell c10;go_simp;first | exact ⟨hW,hK⟩ | exact hK));(next=>exact ⟨_,HI.out⟩);(try go_simp))
 apply wpChain_one (s:=fun u=>∃ s cp,u = .slice s n0 cp)
 case hk=>rfl
 case hne=>exact ⟨_,none,0,rfl⟩
 case hw=>rfl
 case h =>
  intro W hW
  have HW:=Lib.hid hW
  clear hW
  go_simp
  first | exact HW.out | exact ⟨⟨_,_,rfl⟩,HW.out⟩ | exact ⟨by simp,HW.out⟩
 intro v5 hv5
 refine wpChain_nil ?_
 intro W hW
 obtain ⟨hb,s5,cp5,rfl,hPo⟩:=hW
 have hWB : Below w2.heap.size w2 W:=hb
 have hX:=HX2.out.below hWB HX2.out.lt
 have f0:=hX.free 0
 have f1:=hX.free 1
 have f2:=hX.free 2
 have x0:=hX.cell 0
 have x1:=hX.cell 1
 have x2:=hX.cell 2
 simp at x0 x1 x2
 have hX3:=blk3 (v0:=.bool true) (v1:=.int .i64 cs2.at0) (v2:=.slice s5 n0 cp5) hX
 obtain ⟨u3,hu3⟩ : ∃ u,((W.setCell ⟨w.heap.size,0,none⟩ (.bool true)).setCell ⟨w.heap.size,1,none⟩ (.int .i64 cs2.at0)).setCell ⟨w.heap.size,2,none⟩ (.slice s5 n0 cp5) = u:=⟨_,rfl⟩
 have hOx : Only (fun k=>k = w.heap.size) W u3:=by rw [← hu3];exact only3 (Only.refl _ _) (.inl rfl)
 rw [hu3] at hX3
 have HF : Hid (PosesAt u3 s5 n0 P0 ∧ ClAt u3 C c { x with cs:=cs2 } S ∧ Only (fun k=>S k ∧ NoU16 w k) w u3):=Lib.hid ⟨posesOnly hPo hX rfl hOx,(HCA.out.below hWB).only hOx (fun k hk e=>HNS.out (e ▸ hk)),(HO2.out.then_below hWB).trans_new hOx (fun i hi e=>by omega)⟩
 have g0:=hX3.cell 0
 have g1:=hX3.cell 1
 have g2:=hX3.cell 2
 simp at g0 g1 g2
 clear hb hPo hWB hX hX3 hOx c0 c1 c2 c3 c4 c5 c6 c7 c8 c9 c10
 go_wp2_with fail
 exact bodyPost_ret (v:=.agg #[.bool true,.int .i64 cs2.at0,.slice s5 n0 cp5]) (by simp [results,Tryz.results15,go_sem,g0,g1,g2]) rfl ⟨s5,cp5,rfl,HF.out⟩
end Go.Proofs.YtklkooeimkedgaaGreat
namespace Go.Proofs.YtklkooeimkedgaaGreat
open Go.RowKit
def putR (x : Ent) : Rec:=⟨0,x.id,x.px,x.py,x.pz,x.vx,x.vy,x.vz,x.ang⟩
theorem tlAll_full : ∀ (es : List Ent) (out : List Rec),(∀ e ∈ es,e.gen = 0) → tlAll [] out es = some ([],out ++ es.map putR)
 | [],out,_=>by simp [tlAll]
 | x :: es,out,h=>by
  have h1 : tlOne [] out x = some ([],out ++ [putR x]):=by
   unfold tlOne
   simp only [findE,List.find?_nil]
   rw [if_pos (h x (List.mem_cons_self ..))]
   rfl
  rw [tlAll,h1]
  simp only
  rw [tlAll_full es _ (fun e he=>h e (List.mem_cons_of_mem _ he))]
  simp
theorem putR_ids (es : List Ent) : (es.map putR).map (·.id) = es.map (·.id):=by rw [List.map_map];rfl
theorem tellR_full {es : List Ent} (h : es.Pairwise (fun a b=>a.id < b.id)) : tellR ([],es.map putR) = es.map putR:=by
 unfold tellR
 simp only [List.map_nil,List.append_nil]
 refine (srtR_eq (List.Perm.refl _) ?_ ?_).symm
 ·exact List.pairwise_map.2 (h.imp (fun h=>by show _ ≤ _;exact Int.le_of_lt h))
 ·rw [putR_ids];exact up_nodup h
theorem fullG_ok {s : Sn} (h : SnGood s) (hg : ∀ e ∈ s.ents,e.gen = 0) : fullG s = (⟨s.tick,s.time,-1,s.ents.map putR⟩,0):=by
 unfold fullG
 rw [if_neg (by rw [snChk_iff.2 h];simp),tlAll_full _ _ hg]
 simp only [List.nil_append]
 rw [tellR_full h.up]
theorem apAll_full : ∀ (es l : List Ent),(∀ e ∈ es,e.gen = 0) → ((l ++ es).map (·.id)).Nodup → apAll l (es.map putR) = some (l ++ es)
 | [],l,_,_=>by simp [apAll]
 | x :: es,l,hg,hn=>by
  have hx : findE l x.id = none:=by
   unfold findE
   rw [List.find?_eq_none]
   intro e he hh
   have heq : e.id = x.id:=by simpa using hh
   rw [List.map_append,List.map_cons] at hn
   exact (List.nodup_append.1 hn).2.2 e.id (List.mem_map_of_mem he) x.id (List.mem_cons_self ..) heq
  have h1 : apOne l (putR x) = some (l ++ [x]):=by
   have hp : putE l ⟨x.id,x.px,x.py,x.pz,x.vx,x.vy,x.vz,x.ang,0⟩ = l ++ [x]:=by
    unfold putE
    simp only [hx]
    have:=hg x (List.mem_cons_self ..)
    obtain ⟨a,b,c,d,e,f,g,i,j⟩:=x
    simp only at this
    subst this
    simp
   unfold apOne
   show (match findE l x.id with | some y=>_ | none=>_) = _
   rw [hx]
   simp only [putR]
   rw [if_pos trivial,hp]
  rw [List.map_cons,apAll,h1]
  simp only
  rw [apAll_full es (l ++ [x]) (fun e he=>hg e (List.mem_cons_of_mem _ he)) (by simpa using hn)]
  simp
theorem srtE_self {es : List Ent} (h : es.Pairwise (fun a b=>a.id < b.id)) : srtE es = es :=
 (srtE_eq (List.Perm.refl _) (h.imp (fun h=>Int.le_of_lt h)) (up_nodup h)).symm
def fullB (s : Sn) : List Int:=if grWrE (fullG s).1 = 0 then grWrB (fullG s).1 else []
structure Tellable (s : Sn) : Prop where
 good : SnGood s
 gen : ∀ e ∈ s.ents,e.gen = 0
 ok : ∀ e ∈ s.ents,e.Ok
 wr : grWrE (fullG s).1 = 0
theorem Tellable.rd {s : Sn} (h : Tellable s) : grRd (fullB s) = (⟨s.tick,s.time,-1,s.ents.map putR⟩,0):=by
 have hw:=h.wr
 unfold fullB
 rw [if_pos hw]
 rw [fullG_ok h.good h.gen] at hw ⊢
 refine grRd_wr hw (fun r hr=>?_)
 obtain ⟨e,he,rfl⟩:=List.mem_map.1 hr
 have ho:=h.ok e he
 exact ⟨⟨i64_zero,ho.id,ho.px,ho.py,ho.pz,ho.vx,ho.vy,ho.vz,ho.ang⟩,by simp [putR]⟩
theorem Tellable.ap {s : Sn} (h : Tellable s) (a : Sn) : apF a ⟨s.tick,s.time,-1,s.ents.map putR⟩ = (s,0):=by
 have hw:=h.wr
 rw [fullG_ok h.good h.gen] at hw
 have hb : grBodE ⟨s.tick,s.time,-1,s.ents.map putR⟩ = 0:=by
  unfold grWrE at hw
  split at hw
  ·rename_i hh;exact absurd hw hh
  ·rename_i hh;exact Decidable.of_not_not hh
 unfold apF
 rw [if_neg (by simpa using hb),if_neg (by simp)]
 unfold apFin
 simp only
 rw [apAll_full s.ents [] h.gen (by simpa using up_nodup h.good.up)]
 simp only [List.nil_append]
 rw [if_neg (by have:=h.good.len;omega),srtE_self h.good.up]
theorem Tellable.snap {s : Sn} (h : Tellable s) (most : Int) (r : Rg) : snapS most r (fullB s) =
  if hasK (r.ss.map toK) s.tick = true then (sn0,12) else if staleF (r.ss.map toK) most r.floor r.gone s.tick = true then (sn0,13) else (s,if timelyF (r.ss.map toK) s.tick s.time = false then 16 else 0):=by
 unfold snapS snapF
 rw [h.rd]
 simp only [ne_eq,not_true_eq_false,if_false]
 rw [h.ap]
 unfold snpE
 by_cases h1 : hasK (r.ss.map toK) s.tick = true
 ·simp [h1]
 ·by_cases h2 : staleF (r.ss.map toK) most r.floor r.gone s.tick = true
  ·simp [h1,h2]
  ·simp [h1,h2]
theorem cntK_end {ss : List Sn} {key : Int} (h : ∀ s ∈ ss,s.tick < key) : cntK (ss.map toK) key = ss.length:=by
 have:=cntK_all (l:=ss.map toK) (key:=key) (fun k hk=>by
  obtain ⟨s,hs,rfl⟩:=List.mem_map.1 hk
  exact h s hs)
 rwa [List.length_map] at this
theorem hasK_end {ss : List Sn} {key : Int} (h : ∀ s ∈ ss,s.tick < key) : hasK (ss.map toK) key = false :=
 hasK_all (fun k hk=>by
  obtain ⟨s,hs,rfl⟩:=List.mem_map.1 hk
  exact h s hs)
theorem Tellable.snap_end {s : Sn} (h : Tellable s) {most : Int} {ss : List Sn} {floor : Int} (h1 : ∀ x ∈ ss,x.tick < s.tick) (h2 : ∀ x ∈ ss,x.time < s.time) (hl : (ss.length : Int) < most) : snapS most ⟨ss,floor,false⟩ (fullB s) = (s,0):=by
 rw [h.snap]
 have hu : untK (ss.map toK) s.tick = ss.length:=by unfold untK;rw [hasK_end h1,cntK_end h1];simp
 have hs : staleF (ss.map toK) most floor false s.tick = false:=by
  unfold staleF
  have : ¬ (ss.length : Int) = most:=by omega
  simp [this]
 have ht : timelyF (ss.map toK) s.tick s.time = true:=by
  unfold timelyF
  rw [hu]
  have a2 : atK (ss.map toK) (ss.length : Int) = none:=by
   unfold atK
   rw [if_neg (by omega)]
   exact List.getElem?_eq_none (by simp)
  rw [a2]
  simp only [atE]
  by_cases hn : ss.length = 0
  ·have a1 : atK (ss.map toK) ((ss.length : Int) - 1) = none:=by unfold atK;rw [if_pos (by omega)]
   rw [a1];simp [atE]
  ·have hi : ss.length - 1 < ss.length:=by omega
   have a1 : atK (ss.map toK) ((ss.length : Int) - 1) = some (toK ss[ss.length - 1]):=by
    unfold atK
    rw [if_neg (by omega),show ((ss.length : Int) - 1).toNat = ss.length - 1 by omega,List.getElem?_map,List.getElem?_eq_getElem hi];rfl
   rw [a1]
   have:=h2 _ (List.getElem_mem hi)
   simp [atE,snM,toK,this]
 simp only
 rw [hasK_end h1,hs,ht]
 simp
theorem arr_end {c : Cfg} {x : Cst} {s : Sn} (hc : cchk c = 0) (h : Tellable s) (hg : x.gone = false) (h1 : ∀ y ∈ x.ss,y.tick < s.tick) (h2 : ∀ y ∈ x.ss,y.time < s.time) (hl : (x.ss.length : Int) < c.ring) (loc : Int) :
  arrE c x (fullB s) = 0 ∧ ArrHyp c x (fullB s) ∧ arrX c x loc (fullB s) = ⟨x.ss ++ [s],x.floor,false,smp c x.cs (subF loc s.time)⟩:=by
 have hs : snapS c.ring x.rg (fullB s) = (s,0):=by
  have:=h.snap_end (most:=c.ring) (ss:=x.ss) (floor:=x.floor) h1 h2 hl
  rw [← hg] at this
  exact this
 refine ⟨by unfold arrE;rw [hs],arrHyp_end hc (fun _=>by rw [hs];exact ⟨h1,hl,fun h=>by rw [hg] at h;cases h⟩),?_⟩
 unfold arrX
 rw [hs,if_pos rfl]
 have hin : insS x.ss s = x.ss ++ [s]:=insS_end h1
 have hle : ((insS x.ss s).length : Int) ≤ c.ring:=by rw [hin];simp;omega
 unfold layS
 simp only [Cst.rg]
 rw [if_pos hle,hin,hg]
theorem tellable_one {tick time : Int} {e : Ent} (h1 : 0 ≤ tick ∧ tick ≤ 4294967295) (h2 : -2305843009213693952 ≤ time ∧ time ≤ 2305843009213693952) (hi : 0 ≤ e.id ∧ e.id ≤ 65535) (ho : e.Ok) (hg : e.gen = 0) : Tellable ⟨tick,time,[e]⟩:=by
 have good : SnGood ⟨tick,time,[e]⟩:=⟨h1,h2,by simp,fun x hx=>by simp at hx;subst hx;exact hi,List.pairwise_singleton _ _⟩
 have gen : ∀ x ∈ (⟨tick,time,[e]⟩ : Sn).ents,x.gen = 0:=fun x hx=>by simp at hx;subst hx;exact hg
 refine ⟨good,gen,fun x hx=>by simp at hx;subst hx;exact ho,?_⟩
 rw [fullG_ok good gen]
 have hr : (putR e).Ok:=⟨i64_zero,ho.id,ho.px,ho.py,ho.pz,ho.vx,ho.vy,ho.vz,ho.ang⟩
 have hw : recWrE (putR e) (-1) = 0:=by
  have hc : recChk (putR e) = 0:=by
   unfold recChk putR
   simp only
   rw [if_neg (by omega),if_neg (by omega),if_neg (by simp)]
  unfold recWrE
  rw [if_neg (by rw [hc];simp),if_neg (by omega),if_neg (by simp [putR];omega)]
 have hh : grHdE tick time (-1) 1 = 0:=by
  unfold grHdE
  rw [if_neg (by omega),if_neg (by omega),if_neg (by omega)]
 have hb : grBodE ⟨tick,time,-1,[putR e]⟩ = 0:=by
  unfold grBodE
  simp only [List.length_singleton]
  rw [if_neg (by simpa using hh)]
  unfold recsE
  rw [if_neg (by rw [hw];simp)]
  rfl
 have hlen : (grBodB ⟨tick,time,-1,[putR e]⟩).length ≤ 124:=by
  unfold grBodB
  have a:=grHdB_len tick time (-1) 1 hh
  have b:=recWrB_len hr hw
  rw [List.length_append]
  simp only [List.length_singleton,recsB,List.append_nil]
  omega
 simp only [List.map_cons,List.map_nil]
 unfold grWrE
 rw [if_neg (by rw [hb];simp),if_neg (by omega)]
end Go.Proofs.YtklkooeimkedgaaGreat
namespace Go.Proofs.YtklkooeimkedgaaGreat
open Go.RowKit
structure SsShow (ss : List Sn) : Prop where
 good : ∀ s ∈ ss,SnGood s
 time : ss.Pairwise (fun a b=>a.time < b.time)
theorem chkS_zero {K T : Nat → Int} {E : Nat → Option Addr × Nat × Nat} {EE : Nat → Nat → Ent} : ∀ (n i : Nat),(∀ j,i ≤ j → j < i + n → snapChk (K j) (T j) (E j).2.1 (EE j) = 0) → chkS K T E EE n i = 0
 | 0,_,_=>rfl
 | n + 1,i,h=>by
  unfold chkS
  rw [if_pos (h i (Nat.le_refl _) (by omega))]
  exact chkS_zero n (i + 1) (fun j h1 h2=>h j (by omega) (by omega))
theorem chkFrom_zero {T : Nat → Int} : ∀ (n i : Nat),(∀ j,i ≤ j → j < i + n → (-2305843009213693952 ≤ T j ∧ T j ≤ 2305843009213693952) ∧ (0 < j → T (j - 1) < T j)) → chkFrom T n i = 0
 | 0,_,_=>rfl
 | n + 1,i,h=>by
  have h0:=h i (Nat.le_refl _) (by omega)
  unfold chkFrom
  rw [if_neg (by omega),if_neg (by intro hh;have:=h0.2 hh.1;omega)]
  exact chkFrom_zero n (i + 1) (fun j h1 h2=>h j (by omega) (by omega))
section
variable {ss : List Sn}
theorem getD_lt {i : Nat} (h : i < ss.length) : ss.getD i sn0 = ss[i]:=by simp [List.getD,h]
theorem SsShow.snap (h : SsShow ss) {i : Nat} (hi : i < ss.length) : snapChk (kOf ss i) (tOf ss i) (eOf ss i).2.1 (eeOf ss i) = 0:=by
 have:=snChk_iff.2 (h.good _ (List.getElem_mem hi))
 unfold snChk at this
 unfold kOf tOf eOf eeOf
 rw [getD_lt hi]
 exact this
theorem SsShow.mono (h : SsShow ss) {i j : Nat} (hij : i < j) (hj : j < ss.length) : tOf ss i < tOf ss j:=by
 unfold tOf
 rw [getD_lt hj,getD_lt (show i < ss.length by omega)]
 exact List.pairwise_iff_getElem.1 h.time i j (by omega) hj hij
theorem SsShow.bound (h : SsShow ss) {i : Nat} (hi : i < ss.length) : -2305843009213693952 ≤ tOf ss i ∧ tOf ss i ≤ 2305843009213693952:=by
 unfold tOf
 rw [getD_lt hi]
 exact (h.good _ (List.getElem_mem hi)).time
theorem SsShow.chkT (h : SsShow ss) : chkT (tOf ss) ss.length = 0 :=
 chkFrom_zero _ _ (fun j _ hj=>⟨h.bound (by omega),fun hp=>h.mono (by omega) (by omega)⟩)
theorem SsShow.pchk (h : SsShow ss) {c : Cfg} (hc : cchk c = 0) : pchk c (kOf ss) (tOf ss) (eOf ss) (eeOf ss) ss.length = 0:=by
 unfold Go.Proofs.YtklkooeimkedgaaGreat.pchk
 rw [if_pos hc]
 exact chkS_zero _ _ (fun j _ hj=>h.snap (by omega))
theorem beyE_of {a t : Int} (h : -2305843009213693952 ≤ a ∧ a ≤ 2305843009213693952) : beyE a t = if t < a then 3 else 0:=by
 unfold beyE
 have h0 : Go.Proofs.YtklkooeimkedgaaGreat.chkT (fun _=>a) 1 = 0:=chkFrom_zero _ _ (fun j _ hj=>⟨h,fun hp=>by omega⟩)
 rw [if_pos h0]
theorem pick_idx (h : SsShow ss) {t : Int} (hm : lastLe (tOf ss) t ss.length ≠ 0) : pickE (tOf ss) t ss.length = 0 ∧ shA (tOf ss) t ss.length = lastLe (tOf ss) t ss.length - 1:=by
 constructor
 ·unfold pickE;rw [if_pos h.chkT,if_neg hm]
 ·unfold shA pickA;rw [if_pos h.chkT,if_neg hm];omega
theorem show_last (h : SsShow ss) {c : Cfg} (hc : cchk c = 0) {t : Int} (hm : lastLe (tOf ss) t ss.length ≠ 0) (hl : lastLe (tOf ss) t ss.length = ss.length) :
  shNs c t ss = (ss.getD (ss.length - 1) sn0).ents.length ∧ shPs c t ss = byF (byM c (subF t (tOf ss (ss.length - 1)))) (byD c (subF t (tOf ss (ss.length - 1)))) (eeOf ss (ss.length - 1)):=by
 obtain ⟨hp,ha⟩:=pick_idx h hm
 have hb : pickB (tOf ss) t ss.length = -1:=by unfold pickB;rw [if_pos h.chkT,if_neg hm,if_pos hl]
 rw [hl] at ha
 have hlt : ss.length - 1 < ss.length:=by omega
 have hE : shEs c t ss = 0:=by
  unfold shEs shE
  rw [if_pos (h.pchk hc),if_pos hp,if_pos (by rw [hb];decide),ha]
  have hk:=h.snap hlt
  have h1 : chk1 c (kOf ss (ss.length - 1)) (tOf ss (ss.length - 1)) (eOf ss (ss.length - 1)).1 (eOf ss (ss.length - 1)).2.1 (eOf ss (ss.length - 1)).2.2 (eeOf ss (ss.length - 1)) = 0:=by
   unfold chk1 Go.Proofs.YtklkooeimkedgaaGreat.pchk
   rw [if_pos hc]
   exact chkS_zero _ _ (fun j _ _=>hk)
  unfold bydE
  rw [if_pos h1,beyE_of (h.bound hlt)]
  have:=lastLe_spec hm
  rw [hl] at this
  rw [if_neg (by omega)]
 constructor
 ·unfold shNs shN
  rw [show shE c t (kOf ss) (tOf ss) (eOf ss) (eeOf ss) ss.length = 0 from hE,if_pos rfl,ha]
  rfl
 ·unfold shPs shP
  rw [if_pos (by rw [hb];decide),ha]
theorem show_mid (h : SsShow ss) {c : Cfg} (hc : cchk c = 0) {t : Int} {m : Nat} (hm : lastLe (tOf ss) t ss.length = m + 1) (hl : m + 1 < ss.length) :
  shNs c t ss = (ss.getD m sn0).ents.length ∧ shPs c t ss = btwF c.curved (eeOf ss m) (eeOf ss (m + 1)) (ss.getD (m + 1) sn0).ents.length (t - tOf ss m) (tOf ss (m + 1) - tOf ss m):=by
 have hm0 : lastLe (tOf ss) t ss.length ≠ 0:=by omega
 obtain ⟨hp,ha⟩:=pick_idx h hm0
 have hb : pickB (tOf ss) t ss.length = ((m + 1 : Nat) : Int):=by
  unfold pickB;rw [if_pos h.chkT,if_neg hm0,if_neg (by omega),hm]
 have hbs : shB (tOf ss) t ss.length = m + 1:=by unfold shB;rw [hb];rfl
 rw [hm] at ha
 simp only [Nat.add_sub_cancel] at ha
 have h1 : tOf ss m ≤ t:=by have:=lastLe_spec hm0;rw [hm] at this;simpa using this
 have h2 : t < tOf ss (m + 1):=by
  have key : ∀ n,m + 1 < n → lastLe (tOf ss) t n = m + 1 → t < tOf ss (m + 1):=by
   intro n
   induction n with
   | zero=>intro a;omega
   | succ n ih =>
    intro a b
    rw [lastLe] at b
    split at b
    ·omega
    ·rename_i hh
     by_cases e : n = m + 1
     ·subst e;omega
     ·exact ih (by omega) b
  exact key _ hl hm
 have hE : shEs c t ss = 0:=by
  unfold shEs shE
  rw [if_pos (h.pchk hc),if_pos hp,if_neg (by rw [hb];omega),ha,hbs]
  have hc2 : chk2 c (kOf ss m) (tOf ss m) (eOf ss m).1 (eOf ss m).2.1 (eOf ss m).2.2 (eeOf ss m) (kOf ss (m + 1)) (tOf ss (m + 1)) (eOf ss (m + 1)).1 (eOf ss (m + 1)).2.1 (eOf ss (m + 1)).2.2 (eeOf ss (m + 1)) = 0:=by
   unfold chk2 Go.Proofs.YtklkooeimkedgaaGreat.pchk
   rw [if_pos hc]
   refine chkS_zero _ _ (fun j _ hj=>?_)
   rcases (show j = 0 ∨ j = 1 by omega) with rfl | rfl
   ·exact h.snap (show m < ss.length by omega)
   ·exact h.snap hl
  unfold btwE
  rw [if_pos hc2]
  unfold partE
  have ht2 : Go.Proofs.YtklkooeimkedgaaGreat.chkT (two (tOf ss m) (tOf ss (m + 1))) 2 = 0:=chkFrom_zero _ _ (fun j _ hj=>by
   rcases (show j = 0 ∨ j = 1 by omega) with rfl | rfl
   ·exact ⟨h.bound (show m < ss.length by omega),fun hp=>by omega⟩
   ·exact ⟨h.bound hl,fun _=>h.mono (by omega) hl⟩)
  rw [if_pos ht2,if_neg (by omega)]
 constructor
 ·unfold shNs shN
  rw [show shE c t (kOf ss) (tOf ss) (eOf ss) (eeOf ss) ss.length = 0 from hE,if_pos rfl,ha]
  rfl
 ·unfold shPs shP
  rw [if_neg (by rw [hb];omega),ha,hbs]
  rfl
end
end Go.Proofs.YtklkooeimkedgaaGreat
