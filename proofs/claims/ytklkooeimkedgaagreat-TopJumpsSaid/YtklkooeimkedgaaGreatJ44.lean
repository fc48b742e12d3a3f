/- Parts of the walk of TopJumps: Kals, Plain4, Tell2, Full1, Full2, Store5, Accept1. -/
import Derived.Test.YtklkooeimkedgaaGreatJ27
import Derived.Test.YtklkooeimkedgaaGreatJ36
import Derived.Test.YtklkooeimkedgaaGreatJ40
import Derived.Test.YtklkooeimkedgaaGreatJ43
set_option linter.unusedVariables false
set_option linter.unusedSimpArgs false
namespace Go.Proofs.YtklkooeimkedgaaGreat
open Go.RowKit
def ks2 (k : Kpt) : Int × Sn:=(k.key,k.sn)
def Al (l l' : List Kpt) : Prop:=l.map ks2 = l'.map ks2
def toK (s : Sn) : Kpt:=⟨s.tick,s,none,0⟩
theorem Al.len {l l' : List Kpt} (h : Al l l') : l.length = l'.length:=by
 have:=congrArg List.length h
 simpa using this
theorem Al.nth {l l' : List Kpt} (h : Al l l') (i : Nat) : (l[i]?).map ks2 = (l'[i]?).map ks2:=by
 have:=congrArg (fun m : List (Int × Sn)=>m[i]?) h
 simpa using this
theorem Al.cnt : ∀ {l l' : List Kpt},Al l l' → ∀ key,cntK l key = cntK l' key
 | [],[],_,key=>rfl
 | [],_ :: _,h,key=>by simp [Al] at h
 | _ :: _,[],h,key=>by simp [Al] at h
 | x :: l,y :: l',h,key=>by
  simp only [Al,List.map_cons,List.cons.injEq] at h
  obtain ⟨h1,h2⟩:=h
  have hk : x.key = y.key:=congrArg Prod.fst h1
  have:=Al.cnt (l:=l) (l':=l') h2 key
  unfold cntK at *
  by_cases hx : x.key < key
  ·rw [List.takeWhile_cons_of_pos (by simpa using hx),List.takeWhile_cons_of_pos (by simpa [← hk] using hx),List.length_cons,List.length_cons,this]
  ·rw [List.takeWhile_cons_of_neg (by simpa using hx),List.takeWhile_cons_of_neg (by simpa [← hk] using hx)]
theorem has_ks2 {o o' : Option Kpt} (h : o.map ks2 = o'.map ks2) (key : Int) : o.elim false (fun k=>k.key == key) = o'.elim false (fun k=>k.key == key):=by
 cases o <;> cases o' <;> simp_all [ks2]
theorem Al.has {l l' : List Kpt} (h : Al l l') (key : Int) : hasK l key = hasK l' key:=by
 unfold hasK
 rw [h.cnt key]
 exact has_ks2 (h.nth _) key
theorem Al.unt {l l' : List Kpt} (h : Al l l') (key : Int) : untK l key = untK l' key:=by
 unfold untK;rw [h.has,h.cnt]
theorem Al.get {l l' : List Kpt} (h : Al l l') (key : Int) : (getK l key).map ks2 = (getK l' key).map ks2:=by
 unfold getK
 rw [h.has,h.cnt]
 split
 ·exact h.nth _
 ·rfl
theorem Al.at {l l' : List Kpt} (h : Al l l') (i : Int) : (atK l i).map ks2 = (atK l' i).map ks2:=by
 unfold atK
 split
 ·rfl
 ·exact h.nth _
theorem base_ks2 {o o' : Option Kpt} (h : o.map ks2 = o'.map ks2) : baseSn o = baseSn o':=by
 cases o <;> cases o' <;> simp_all [baseSn,ks2,snT,snM,snE]
theorem atE_ks2 {o o' : Option Kpt} (h : o.map ks2 = o'.map ks2) : atE o = atE o' ∧ snM o = snM o':=by
 cases o <;> cases o' <;> simp_all [ks2,atE,snM]
theorem Al.stale {l l' : List Kpt} (h : Al l l') (most floor : Int) (gone : Bool) (tick : Int) : staleF l most floor gone tick = staleF l' most floor gone tick:=by
 unfold staleF;rw [h.unt,h.len]
theorem Al.timely {l l' : List Kpt} (h : Al l l') (tick time : Int) : timelyF l tick time = timelyF l' tick time:=by
 unfold timelyF
 rw [h.unt,(atE_ks2 (h.at _)).1,(atE_ks2 (h.at _)).2,(atE_ks2 (h.at (untK l' tick))).1,(atE_ks2 (h.at (untK l' tick))).2]
theorem Al.snap {l l' : List Kpt} (h : Al l l') (most floor : Int) (gone : Bool) (zs : List Int) : snapF l most floor gone zs = snapF l' most floor gone zs:=by
 unfold snapF
 rw [show snpE l most floor gone (grRd zs).1.tick (grRd zs).1.base = snpE l' most floor gone (grRd zs).1.tick (grRd zs).1.base by unfold snpE;rw [h.has,h.has,h.stale],base_ks2 (h.get (grRd zs).1.base),h.timely]
theorem al_toK {l : List Kpt} (h : ∀ k ∈ l,k.key = k.sn.tick) : Al l ((l.map (·.sn)).map toK):=by
 unfold Al
 rw [List.map_map,List.map_map]
 refine List.map_congr_left fun k hk=>?_
 simp [ks2,toK,h k hk]
def insS (ss : List Sn) (x : Sn) : List Sn:=ss.takeWhile (fun s=>decide (s.tick < x.tick)) ++ x :: ss.dropWhile (fun s=>decide (s.tick < x.tick))
structure Rg where
 ss : List Sn
 floor : Int
 gone : Bool
def layS (most : Int) (r : Rg) (x : Sn) : Rg :=
 if ((insS r.ss x).length : Int) ≤ most then ⟨insS r.ss x,r.floor,r.gone⟩ else ⟨(insS r.ss x).drop 1,((insS r.ss x).headD sn0).tick,true⟩
def snapS (most : Int) (r : Rg) (zs : List Int) : Sn × Int:=snapF (r.ss.map toK) most r.floor r.gone zs
theorem insS_end : ∀ {ss : List Sn} {x : Sn},(∀ s ∈ ss,s.tick < x.tick) → insS ss x = ss ++ [x]
 | [],x,_=>rfl
 | y :: ss,x,h=>by
  have h1:=insS_end (ss:=ss) (x:=x) (fun s hs=>h s (List.mem_cons_of_mem _ hs))
  have hy:=h y (List.mem_cons_self ..)
  unfold insS at h1 ⊢
  rw [List.takeWhile_cons_of_pos (by simpa using hy),List.dropWhile_cons_of_pos (by simpa using hy),List.cons_append,h1,List.cons_append]
theorem apF_time {a : Sn} {g : Gr} (h : (apF a g).2 = 0) : grBodE g = 0 ∧ (apF a g).1.tick = g.tick ∧ (apF a g).1.time = g.time:=by
 unfold apF at h ⊢
 split at h
 ·rename_i hh;exact absurd h hh
 ·rename_i hh
  rw [if_neg hh]
  refine ⟨by simpa using hh,?_⟩
  have key : ∀ l,(apFin g l).2 = 0 → (apFin g l).1.tick = g.tick ∧ (apFin g l).1.time = g.time:=by
   intro l hl
   unfold apFin at hl ⊢
   cases hx : apAll l g.recs with
   | none=>rw [hx] at hl;cases hl
   | some l' =>
    rw [hx] at hl
    simp only at hl ⊢
    split at hl
    ·cases hl
    ·rename_i hy;rw [if_neg hy];exact ⟨rfl,rfl⟩
  split at h
  ·rename_i hb
   rw [if_pos hb]
   split at h
   ·rename_i hc;exact absurd h hc
   ·rename_i hc
    rw [if_neg hc]
    split at h
    ·cases h
    ·rename_i ht
     rw [if_neg ht]
     exact key _ h
  ·rename_i hb
   rw [if_neg hb]
   exact key _ h
theorem entChk_iff (E : Nat → Ent) : ∀ (n i : Nat),entChk E n i = 0 ↔ ∀ j,i ≤ j → j < i + n → 0 ≤ (E j).id ∧ (E j).id ≤ 65535 ∧ (0 < j → (E (j - 1)).id < (E j).id)
 | 0,i=>⟨fun _ j h1 h2=>by omega,fun _=>rfl⟩
 | n + 1,i=>by
  unfold entChk
  constructor
  ·intro h j h1 h2
   split at h
   ·cases h
   split at h
   ·cases h
   rename_i a b
   by_cases hj : j = i
   ·subst hj;exact ⟨by omega,by omega,fun hp=>by omega⟩
   ·exact (entChk_iff E n (i + 1)).1 h j (by omega) (by omega)
  ·intro h
   have h0:=h i (Nat.le_refl _) (by omega)
   rw [if_neg (by omega),if_neg (by intro hh;have:=h0.2.2 hh.1;omega)]
   exact (entChk_iff E n (i + 1)).2 (fun j h1 h2=>h j (by omega) (by omega))
structure SnGood (s : Sn) : Prop where
 tick : 0 ≤ s.tick ∧ s.tick ≤ 4294967295
 time : -2305843009213693952 ≤ s.time ∧ s.time ≤ 2305843009213693952
 len : s.ents.length ≤ 64
 ids : ∀ e ∈ s.ents,0 ≤ e.id ∧ e.id ≤ 65535
 up : s.ents.Pairwise (fun a b=>a.id < b.id)
theorem getD_get {es : List Ent} {i : Nat} (h : i < es.length) : es.getD i ent0 = es[i]:=by simp [List.getD,h]
theorem pairwise_step : ∀ {es : List Ent},(∀ i,0 < i → (h : i < es.length) → (es[i - 1]).id < (es[i]).id) → es.Pairwise (fun a b=>a.id < b.id)
 | [],_=>List.Pairwise.nil
 | [x],_=>List.pairwise_singleton _ _
 | x :: y :: es,h=>by
  have ih:=pairwise_step (es:=y :: es) (fun i hi hl=>by
   have:=h (i + 1) (by omega) (by simp at hl ⊢;omega)
   obtain ⟨j,rfl⟩ : ∃ j,i = j + 1:=⟨i - 1,by omega⟩
   simpa using this)
  have hxy : x.id < y.id:=h 1 (by omega) (by simp)
  refine List.pairwise_cons.2 ⟨fun z hz=>?_,ih⟩
  rcases List.mem_cons.1 hz with rfl | hz
  ·exact hxy
  ·exact Int.lt_trans hxy ((List.pairwise_cons.1 ih).1 z hz)
theorem snChk_iff {s : Sn} : snChk s = 0 ↔ SnGood s:=by
 unfold snChk snapChk
 constructor
 ·intro h
  split at h
  ·cases h
  split at h
  ·cases h
  rename_i a b
  have h2:=(entChk_iff _ _ _).1 h
  refine ⟨by omega,by omega,by omega,fun e he=>?_,pairwise_step fun i hi hl=>?_⟩
  ·obtain ⟨i,hi,rfl⟩:=List.mem_iff_getElem.1 he
   have:=h2 i (by omega) (by omega)
   rw [getD_get hi] at this
   exact ⟨this.1,this.2.1⟩
  ·have:=(h2 i (by omega) (by omega)).2.2 hi
   rwa [getD_get hl,getD_get (show i - 1 < s.ents.length by omega)] at this
 ·intro h
  rw [if_neg (by have:=h.tick;have:=h.time;omega),if_neg (by have:=h.len;omega)]
  refine (entChk_iff _ _ _).2 fun j _ hj=>?_
  have hj' : j < s.ents.length:=by omega
  have hi:=h.ids _ (List.getElem_mem hj')
  rw [getD_get hj']
  refine ⟨hi.1,hi.2,fun hp=>?_⟩
  rw [getD_get (show j - 1 < s.ents.length by omega)]
  exact List.pairwise_iff_getElem.1 h.up (j - 1) j (by omega) hj' (by omega)
theorem rdRecs_recs : ∀ (n : Nat) {last : Int} {s : RdSt},-1 ≤ last → last ≤ 65535 → AllU8 s.1 → ∀ r ∈ (rdRecs n last s).1,r.Ok
 | 0,last,s,_,_,_,r,hr=>by simp [rdRecs] at hr
 | n + 1,last,s,h1,h2,h,r,hr=>by
  rw [rdRecs] at hr
  split at hr
  ·simp at hr
  ·rename_i hh
   have hk:=recRd_ok h1 h2 h (by simpa using hh)
   rcases List.mem_cons.1 hr with rfl | hr
   ·exact hk.1
   ·exact rdRecs_recs n (by omega) (by omega) hk.2.1 r hr
theorem grRd_recs {zs : List Int} (h : AllU8 zs) : ∀ r ∈ (grRd zs).1.recs,r.Ok:=by
 unfold grRd
 split
 ·simp [gr0]
 split
 ·simp [gr0]
 rename_i x hx
 split
 ·simp [gr0]
 ·exact rdRecs_recs _ (by decide) (by decide) (rdUint_rest (rdUint_rest (by
   unfold rdWhen;simp only;split
   ·exact rdInt_rest (rdUint_rest (rdMust_rest (rdMust_rest (copenF_u8 h hx))))
   ·exact rdInt_rest (rdUint_rest (rdMust_rest (rdMust_rest (copenF_u8 h hx)))))))
theorem apOne_ids {l l' : List Ent} {r : Rec} (h : apOne l r = some l') (hc : recChk r = 0) (hl : ∀ e ∈ l,0 ≤ e.id ∧ e.id ≤ 65535) (hn : (l.map (·.id)).Nodup) : (∀ e ∈ l',0 ≤ e.id ∧ e.id ≤ 65535) ∧ (l'.map (·.id)).Nodup:=by
 have hr : 0 ≤ r.id ∧ r.id ≤ 65535:=by
  unfold recChk at hc
  split at hc
  ·cases hc
  split at hc
  ·cases hc
  omega
 have put : ∀ e : Ent,e.id = r.id → (∀ x ∈ putE l e,0 ≤ x.id ∧ x.id ≤ 65535) ∧ ((putE l e).map (·.id)).Nodup:=fun e he =>
  ⟨fun x hx=>by rcases putE_mem hx with h | h;exact hl x h;subst h;omega,putE_ids hn⟩
 unfold apOne at h
 cases hf : findE l r.id with
 | some x =>
  rw [hf] at h
  simp only at h
  have hx:=findE_mem hf
  split at h
  ·cases h
  rename_i hk
  split at h
  ·cases h
   exact ⟨fun e he=>hl e (List.mem_filter.1 he).1,hn.sublist (List.Sublist.map _ List.filter_sublist)⟩
  ·rename_i hk2
   cases h
   exact put _ (recApl_id hc hx.2 hk hk2)
 | none =>
  rw [hf] at h
  simp only at h
  split at h
  ·cases h;exact put _ rfl
  ·cases h
theorem apAll_ids : ∀ (rs : List Rec) {l l' : List Ent},apAll l rs = some l' → (∀ r ∈ rs,recChk r = 0) → (∀ e ∈ l,0 ≤ e.id ∧ e.id ≤ 65535) → (l.map (·.id)).Nodup → (∀ e ∈ l',0 ≤ e.id ∧ e.id ≤ 65535) ∧ (l'.map (·.id)).Nodup
 | [],l,l',h,_,hl,hn=>by cases h;exact ⟨hl,hn⟩
 | r :: rs,l,l',h,hc,hl,hn=>by
  unfold apAll at h
  cases hx : apOne l r with
  | none=>rw [hx] at h;cases h
  | some l1 =>
   rw [hx] at h
   have h1:=apOne_ids hx (hc r (by simp)) hl hn
   exact apAll_ids rs h (fun r hr=>hc r (by simp [hr])) h1.1 h1.2
theorem byIdF_mem {es : List Ent} : ∀ e ∈ byIdF es,e ∈ es:=by
 have : ∀ (es l : List Ent),∀ e ∈ es.foldl putE l,e ∈ l ∨ e ∈ es:=by
  intro es
  induction es with
  | nil=>intro l e h;exact .inl h
  | cons x es ih =>
   intro l e h
   rcases ih _ e h with h | h
   ·rcases putE_mem h with h | h
    ·exact .inl h
    ·exact .inr (by simp [h])
   ·exact .inr (by simp [h])
 intro e h
 rcases this es [] e h with h | h
 ·simp at h
 ·exact h
theorem byIdF_nodup (es : List Ent) : ((byIdF es).map (·.id)).Nodup:=by
 have : ∀ (es l : List Ent),(l.map (·.id)).Nodup → ((es.foldl putE l).map (·.id)).Nodup:=by
  intro es
  induction es with
  | nil=>intro l h;exact h
  | cons x es ih=>intro l h;exact ih _ (putE_ids h)
 exact this es [] (by simp)
theorem apF_good {a : Sn} {g : Gr} (h : (apF a g).2 = 0) : SnGood (apF a g).1:=by
 have ht:=apF_time h
 have hb:=ht.1
 have hc:=grBodE_chk hb
 have hh : ¬ grHdE g.tick g.time g.base g.recs.length ≠ 0:=by
  intro hn
  unfold grBodE at hb
  rw [if_pos hn] at hb
  exact hn hb
 have hh' : grHdE g.tick g.time g.base g.recs.length = 0:=Decidable.of_not_not hh
 have hr : 0 ≤ g.tick ∧ g.tick ≤ 4294967295 ∧ -2305843009213693952 ≤ g.time ∧ g.time ≤ 2305843009213693952:=by
  unfold grHdE at hh'
  split at hh'
  ·cases hh'
  ·omega
 have key : ∀ l : List Ent,(apFin g l).2 = 0 → (∀ e ∈ l,0 ≤ e.id ∧ e.id ≤ 65535) → (l.map (·.id)).Nodup → SnGood (apFin g l).1:=by
  intro l hl h1 h2
  unfold apFin at hl ⊢
  cases hx : apAll l g.recs with
  | none=>rw [hx] at hl;cases hl
  | some l' =>
   rw [hx] at hl
   simp only at hl ⊢
   split at hl
   ·cases hl
   ·rename_i hy
    rw [if_neg hy]
    have h3:=apAll_ids g.recs hx hc h1 h2
    have hp:=srtE_perm l'
    have hn : ((srtE l').map (·.id)).Nodup:=(hp.map (·.id)).nodup_iff.2 h3.2
    refine ⟨⟨hr.1,hr.2.1⟩,⟨hr.2.2.1,hr.2.2.2⟩,by simp only;rw [hp.length_eq];omega,fun e he=>h3.1 e (hp.mem_iff.1 he),?_⟩
    have hs:=srtE_le l'
    unfold idLe at hs
    have h4 : (srtE l').Pairwise (fun a b=>a.id ≠ b.id):=List.pairwise_map.1 hn
    exact (List.Pairwise.and hs h4).imp (fun ⟨a,b⟩=>by omega)
 unfold apF at h ⊢
 rw [if_neg (by simpa using hb)] at h ⊢
 split at h
 ·rename_i hbs
  rw [if_pos hbs]
  split at h
  ·rename_i hq;exact absurd h hq
  ·rename_i hq
   rw [if_neg hq]
   split at h
   ·cases h
   ·rename_i hq2
    rw [if_neg hq2]
    have ha:=snChk_iff.1 (by simpa using hq : snChk a = 0)
    exact key _ h (fun e he=>ha.ids e (byIdF_mem e he)) (byIdF_nodup _)
 ·rename_i hbs
  rw [if_neg hbs]
  exact key _ h (by simp) (by simp)
theorem apF_ents {a : Sn} {g : Gr} (ha : ∀ e ∈ a.ents,e.Ok) (hg : ∀ r ∈ g.recs,r.Ok) : ∀ e ∈ (apF a g).1.ents,e.Ok:=by
 have key : ∀ l : List Ent,(∀ e ∈ l,e.Ok) → ∀ e ∈ (apFin g l).1.ents,e.Ok:=by
  intro l hl
  unfold apFin
  cases hx : apAll l g.recs with
  | none=>simp [sn0]
  | some l' =>
   simp only
   split
   ·simp [sn0]
   ·exact fun e he=>apAll_ok g.recs hx hl hg e ((srtE_perm l').mem_iff.1 he)
 unfold apF
 split
 ·simp [sn0]
 split
 ·split
  ·simp [sn0]
  split
  ·simp [sn0]
  ·exact key _ (byIdF_ok ha)
 ·exact key _ (by simp)
theorem entChk_err (E : Nat → Ent) : ∀ n i,ErB (entChk E n i)
 | 0,_=>ErB.zero
 | n + 1,i=>by
  unfold entChk
  split
  ·exact ⟨by decide,by decide⟩
  split
  ·exact ⟨by decide,by decide⟩
  ·exact entChk_err E n _
theorem snChk_err (s : Sn) : ErB (snChk s):=by
 unfold snChk snapChk
 split
 ·exact ⟨by decide,by decide⟩
 split
 ·exact ⟨by decide,by decide⟩
 ·exact entChk_err _ _ _
theorem recChk_err (r : Rec) : ErB (recChk r):=by
 unfold recChk
 split
 ·exact ⟨by decide,by decide⟩
 split
 ·exact ⟨by decide,by decide⟩
 split <;> exact ⟨by decide,by decide⟩
theorem recsE_err : ∀ (rs : List Rec) (last : Int),ErB (recsE last rs)
 | [],_=>ErB.zero
 | r :: rs,last=>by
  unfold recsE
  split
  ·unfold recWrE
   split
   ·exact recChk_err r
   split
   ·exact ⟨by decide,by decide⟩
   split <;> exact ⟨by decide,by decide⟩
  ·exact recsE_err rs _
theorem grBodE_err (g : Gr) : ErB (grBodE g):=by
 unfold grBodE
 split
 ·unfold grHdE
  split
  ·exact ⟨by decide,by decide⟩
  split
  ·exact ⟨by decide,by decide⟩
  split <;> exact ⟨by decide,by decide⟩
 ·exact recsE_err _ _
theorem apF_err (a : Sn) (g : Gr) : ErB (apF a g).2:=by
 have key : ∀ l,ErB (apFin g l).2:=by
  intro l
  unfold apFin
  split
  ·exact ⟨by decide,by decide⟩
  ·split
   ·exact (show ErB 4 from ⟨by decide,by decide⟩)
   ·exact ErB.zero
 unfold apF
 split
 ·exact grBodE_err g
 split
 ·split
  ·exact snChk_err a
  split
  ·exact ⟨by decide,by decide⟩
  ·exact key _
 ·exact key _
theorem snapF_err (l : List Kpt) (most floor : Int) (gone : Bool) (zs : List Int) : ErB (snapF l most floor gone zs).2:=by
 unfold snapF
 split
 ·exact grRd_err zs
 split
 ·unfold snpE
  split
  ·exact ⟨by decide,by decide⟩
  split
  ·exact ⟨by decide,by decide⟩
  split <;> exact ⟨by decide,by decide⟩
 ·simp only
  split
  ·exact ⟨by decide,by decide⟩
  ·exact apF_err _ _
theorem snapF_apF {l : List Kpt} {most floor : Int} {gone : Bool} {zs : List Int} (h : (snapF l most floor gone zs).2 = 0) :
  (grRd zs).2 = 0 ∧ snpE l most floor gone (grRd zs).1.tick (grRd zs).1.base = 0 ∧ (apF (baseSn (getK l (grRd zs).1.base)) (grRd zs).1).2 = 0 ∧ (snapF l most floor gone zs).1 = (apF (baseSn (getK l (grRd zs).1.base)) (grRd zs).1).1 ∧
   timelyF l (snapF l most floor gone zs).1.tick (snapF l most floor gone zs).1.time = true:=by
 unfold snapF at h ⊢
 split at h
 ·rename_i hh;exact absurd h hh
 rename_i h1
 rw [if_neg h1]
 split at h
 ·rename_i hh;exact absurd h hh
 rename_i h2
 rw [if_neg h2]
 simp only at h ⊢
 refine ⟨by simpa using h1,by simpa using h2,?_⟩
 split at h
 ·cases h
 ·rename_i h3
  refine ⟨h,trivial,?_⟩
  cases ht : timelyF l (apF (baseSn (getK l (grRd zs).1.base)) (grRd zs).1).1.tick (apF (baseSn (getK l (grRd zs).1.base)) (grRd zs).1).1.time
  ·exact absurd ⟨h,ht⟩ h3
  ·rfl
theorem snapF_good {l : List Kpt} {most floor : Int} {gone : Bool} {zs : List Int} (h : (snapF l most floor gone zs).2 = 0) : SnGood (snapF l most floor gone zs).1:=by
 obtain ⟨_,_,h3,h4,_⟩:=snapF_apF h
 rw [h4];exact apF_good h3
theorem snapF_ents {l : List Kpt} {most floor : Int} {gone : Bool} {zs : List Int} (hz : AllU8 zs) (hl : ∀ k ∈ l,∀ e ∈ k.sn.ents,e.Ok) : ∀ e ∈ (snapF l most floor gone zs).1.ents,e.Ok:=by
 unfold snapF
 split
 ·simp [sn0]
 split
 ·simp [sn0]
 ·refine apF_ents (fun e he=>?_) (grRd_recs hz)
  unfold baseSn at he
  cases hk : getK l (grRd zs).1.base with
  | none=>rw [hk] at he;simp [snE] at he
  | some k=>rw [hk] at he;exact hl k (getK_mem hk) e he
theorem snapF_len {l : List Kpt} {most floor : Int} {gone : Bool} {zs : List Int} : (snapF l most floor gone zs).1.ents.length ≤ 64:=by
 have key : ∀ g l,(apFin g l).1.ents.length ≤ 64:=by
  intro g l
  unfold apFin
  split
  ·simp [sn0]
  ·split
   ·simp [sn0]
   ·simp only;rw [(srtE_perm _).length_eq];omega
 unfold snapF
 split
 ·simp [sn0]
 split
 ·simp [sn0]
 ·simp only
  unfold apF
  split
  ·simp [sn0]
  split
  ·split
   ·simp [sn0]
   split
   ·simp [sn0]
   ·exact key _ _
  ·exact key _ _
theorem i64_1 : I64 1:=⟨by decide,by decide⟩
theorem i64_2 : I64 2:=⟨by decide,by decide⟩
theorem i64_3 : I64 3:=⟨by decide,by decide⟩
theorem wrap_i64_in (n : Int) : I64 (IntKind.i64.wrap n):=by
 rw [IntKind.wrap_i64];exact ⟨by omega,by omega⟩
theorem recDif_id {o x : Ent} (h : (recDif o x).2 = true) : (recDif o x).1.id = x.id:=by
 unfold recDif at h ⊢
 split at h
 ·cases h
 ·rename_i hh
  rw [if_neg hh]
  unfold recDiff
  split <;> rfl
theorem recDif_ok {o x : Ent} (hx : x.Ok) : (recDif o x).1.Ok:=by
 unfold recDif
 split
 ·exact ⟨i64_zero,i64_zero,i64_zero,i64_zero,i64_zero,i64_zero,i64_zero,i64_zero,(show (0:Int) ≤ 0 ∧ (0:Int) ≤ 65535 by decide)⟩
 ·unfold recDiff
  split
  ·exact ⟨i64_1,hx.id,wrap_i64_in _,wrap_i64_in _,wrap_i64_in _,wrap_i64_in _,wrap_i64_in _,wrap_i64_in _,by simp only;rw [IntKind.wrap_u16];omega⟩
  ·exact ⟨i64_3,hx.id,hx.px,hx.py,hx.pz,hx.vx,hx.vy,hx.vz,hx.ang⟩
theorem tlOne_spec {was : List Ent} {out : List Rec} {x : Ent} {q : List Ent × List Rec} (h : tlOne was out x = some q) : q.1 = delE was x.id ∧ (q.2 = out ∨ ∃ r : Rec,q.2 = out ++ [r] ∧ r.id = x.id ∧ (x.Ok → r.Ok)):=by
 unfold tlOne at h
 split at h
 ·split at h
  ·cases h
   exact ⟨rfl,.inr ⟨_,rfl,rfl,fun hx=>⟨i64_zero,hx.id,hx.px,hx.py,hx.pz,hx.vx,hx.vy,hx.vz,hx.ang⟩⟩⟩
  ·cases h
 ·split at h
  ·cases h
  ·cases h
   refine ⟨rfl,?_⟩
   simp only
   split
   ·rename_i o _ hh
    exact .inr ⟨_,rfl,recDif_id hh,fun hx=>recDif_ok hx⟩
   ·exact .inl rfl
theorem delE_not {l : List Ent} {i : Int} {e : Ent} (h : e ∈ delE l i) : e ∈ l ∧ e.id ≠ i:=by
 unfold delE at h
 have:=List.mem_filter.1 h
 exact ⟨this.1,by simpa [bne] using this.2⟩
theorem tlAll_spec : ∀ (es : List Ent) {was : List Ent} {out : List Rec} {q : List Ent × List Rec},tlAll was out es = some q →
  (was.map (·.id)).Nodup → (es.map (·.id)).Nodup → (out.map (·.id)).Nodup → (∀ r ∈ out,r.Ok) → (∀ e ∈ es,e.Ok) → (∀ r ∈ out,r.id ∉ was.map (·.id) ∧ r.id ∉ es.map (·.id)) →
  (q.1.map (·.id)).Nodup ∧ (q.2.map (·.id)).Nodup ∧ (∀ r ∈ q.2,r.Ok) ∧ (∀ r ∈ q.2,r.id ∉ q.1.map (·.id)) ∧ (∀ e ∈ q.1,e ∈ was)
 | [],was,out,q,h,h1,h2,h3,h4,h5,h6=>by cases h;exact ⟨h1,h3,h4,fun r hr=>(h6 r hr).1,fun e he=>he⟩
 | x :: es,was,out,q,h,h1,h2,h3,h4,h5,h6=>by
  rw [tlAll] at h
  cases ho : tlOne was out x with
  | none=>rw [ho] at h;cases h
  | some p =>
   rw [ho] at h
   obtain ⟨s1,s2⟩:=tlOne_spec ho
   rw [List.map_cons,List.nodup_cons] at h2
   have hw : (p.1.map (·.id)).Nodup:=by rw [s1];exact h1.sublist (List.Sublist.map _ List.filter_sublist)
   have hnx : ∀ r : Rec,r.id ∉ was.map (·.id) → r.id ∉ p.1.map (·.id):=fun r hr hh=>by
    obtain ⟨e,he,hid⟩:=List.mem_map.1 hh
    rw [s1] at he
    exact hr (List.mem_map.2 ⟨e,(delE_not he).1,hid⟩)
   have hout : (p.2.map (·.id)).Nodup ∧ (∀ r ∈ p.2,r.Ok) ∧ ∀ r ∈ p.2,r.id ∉ p.1.map (·.id) ∧ r.id ∉ es.map (·.id):=by
    have hold : ∀ r ∈ out,r.id ∉ p.1.map (·.id) ∧ r.id ∉ es.map (·.id):=fun r hr=>⟨hnx r (h6 r hr).1,fun hh=>(h6 r hr).2 (by rw [List.map_cons];exact List.mem_cons_of_mem _ hh)⟩
    rcases s2 with s2 | ⟨r0,s2,hid,hok⟩
    ·rw [s2];exact ⟨h3,h4,hold⟩
    ·rw [s2]
     refine ⟨?_,?_,?_⟩
     ·rw [List.map_append,List.map_singleton]
      refine List.nodup_append.2 ⟨h3,by simp,fun a ha b hb=>?_⟩
      simp at hb
      subst hb
      obtain ⟨r,hr,rfl⟩:=List.mem_map.1 ha
      intro e
      exact (h6 r hr).2 (by rw [List.map_cons];rw [e,hid];exact List.mem_cons_self ..)
     ·intro r hr
      rcases List.mem_append.1 hr with hr | hr
      ·exact h4 r hr
      ·simp at hr;subst hr;exact hok (h5 x (List.mem_cons_self ..))
     ·intro r hr
      rcases List.mem_append.1 hr with hr | hr
      ·exact hold r hr
      ·simp at hr;subst hr
       refine ⟨fun hh=>?_,by rw [hid];exact h2.1⟩
       obtain ⟨e,he,he2⟩:=List.mem_map.1 hh
       rw [s1] at he
       exact (delE_not he).2 (by rw [he2,hid])
   obtain ⟨a1,a2,a3,a4,a5⟩:=tlAll_spec es h hw h2.2 hout.1 hout.2.1 (fun e he=>h5 e (List.mem_cons_of_mem _ he)) hout.2.2
   exact ⟨a1,a2,a3,a4,fun e he=>by have:=a5 e he;rw [s1] at this;exact (delE_not this).1⟩
def srtR (l : List Rec) : List Rec:=l.mergeSort (fun a b=>decide (a.id ≤ b.id))
theorem srtR_perm (l : List Rec) : (srtR l).Perm l:=List.mergeSort_perm _ _
theorem srtR_le (l : List Rec) : (srtR l).Pairwise (fun a b=>a.id ≤ b.id):=by
 have:=List.pairwise_mergeSort (le:=fun a b : Rec=>decide (a.id ≤ b.id)) (fun a b c h1 h2=>by simp at *;omega) (fun a b=>by simp;omega) l
 exact this.imp (fun h=>by simpa using h)
theorem sorted_uniqueR : ∀ (xs ys : List Rec),xs.Perm ys → xs.Pairwise (fun a b=>a.id ≤ b.id) → ys.Pairwise (fun a b=>a.id ≤ b.id) → (xs.map (·.id)).Nodup → xs = ys
 | [],ys,hp,_,_,_=>by simpa using hp.symm
 | x :: xs,[],hp,_,_,_=>by simp at hp
 | x :: xs,y :: ys,hp,hx,hy,hn=>by
  have hxy : x = y:=by
   have h1 : x ∈ y :: ys:=hp.subset (List.mem_cons_self ..)
   have h2 : y ∈ x :: xs:=hp.symm.subset (List.mem_cons_self ..)
   rcases List.mem_cons.1 h1 with h1 | h1
   ·exact h1
   rcases List.mem_cons.1 h2 with h2 | h2
   ·exact h2.symm
   have a:=(List.pairwise_cons.1 hy).1 x h1
   have b:=(List.pairwise_cons.1 hx).1 y h2
   have e : x.id = y.id:=by omega
   rw [List.map_cons,List.nodup_cons] at hn
   exact absurd (List.mem_map.2 ⟨y,h2,e.symm⟩) hn.1
  subst hxy
  rw [List.map_cons,List.nodup_cons] at hn
  rw [sorted_uniqueR xs ys (List.Perm.cons_inv hp) (List.pairwise_cons.1 hx).2 (List.pairwise_cons.1 hy).2 hn.2]
theorem srtR_eq {xs l : List Rec} (hp : xs.Perm l) (hs : xs.Pairwise (fun a b=>a.id ≤ b.id)) (hn : (l.map (·.id)).Nodup) : xs = srtR l :=
 sorted_uniqueR xs (srtR l) (hp.trans (srtR_perm l).symm) hs (srtR_le l) ((hp.map (·.id)).nodup_iff.2 hn)
def tellR (q : List Ent × List Rec) : List Rec:=srtR (q.2 ++ q.1.map rmR)
theorem rmR_ok {e : Ent} (h : e.Ok) : (rmR e).Ok:=⟨i64_2,h.id,i64_zero,i64_zero,i64_zero,i64_zero,i64_zero,i64_zero,(show (0:Int) ≤ 0 ∧ (0:Int) ≤ 65535 by decide)⟩
theorem tellR_spec {was es : List Ent} {q : List Ent × List Rec} (h : tlAll was [] es = some q) (h1 : (was.map (·.id)).Nodup) (h2 : (es.map (·.id)).Nodup) (h3 : ∀ e ∈ es,e.Ok) (h4 : ∀ e ∈ was,e.Ok) :
  ((q.2 ++ q.1.map rmR).map (·.id)).Nodup ∧ ∀ r ∈ tellR q,r.Ok:=by
 obtain ⟨a1,a2,a3,a4,a5⟩:=tlAll_spec es h h1 h2 (by simp) (by simp) h3 (by simp)
 constructor
 ·rw [List.map_append,List.map_map]
  have e : (q.1.map (Rec.id ∘ rmR)) = q.1.map (·.id):=List.map_congr_left (fun _ _=>rfl)
  rw [e]
  refine List.nodup_append.2 ⟨a2,a1,fun a ha b hb hab=>?_⟩
  obtain ⟨r,hr,rfl⟩:=List.mem_map.1 ha
  exact a4 r hr (hab ▸ hb)
 ·intro r hr
  unfold tellR at hr
  rcases List.mem_append.1 ((srtR_perm _).mem_iff.1 hr) with hr | hr
  ·exact a3 r hr
  ·obtain ⟨e,he,rfl⟩:=List.mem_map.1 hr
   exact rmR_ok (h4 e (a5 e he))
theorem up_nodup {es : List Ent} (h : es.Pairwise (fun a b=>a.id < b.id)) : (es.map (·.id)).Nodup :=
 List.pairwise_map.2 (h.imp (fun h=>by omega))
set_option maxRecDepth 100000
def fullG (s : Sn) : Gr × Int:=if snChk s ≠ 0 then (gr0,snChk s) else match tlAll [] [] s.ents with
 | none=>(gr0,15)
 | some q=>(⟨s.tick,s.time,-1,tellR q⟩,0)
theorem onlyBelow {w w1 w2 : World} {M : Nat} (h : Below w.heap.size w w1) (hM : w.heap.size ≤ M) (ho : Only (fun k=>k = M) w1 w2) : Below w.heap.size w w2 :=
 h.trans (ho.below h.size (fun k hk=>by omega))
theorem tell_rows {M : Nat} {was es : List Ent} {q : List Ent × List Rec} {w1 w2 : World} {base : Nat} {e : Ending} (hq : tlAll was [] es = some q) (h1 : (was.map (·.id)).Nodup) (h2 : (es.map (·.id)).Nodup) (h3 : ∀ e ∈ es,e.Ok) (h4 : ∀ e ∈ was,e.Ok) (h : TellPost (some q) base e w2) : ∃ v,e = .returned (.tuple #[v,.int .i64 0]) ∧ OwnR w2 base v (tellR q):=by
 obtain ⟨v,rs,he,hp,hs,ho⟩:=h
 obtain ⟨a1,a2⟩:=tellR_spec hq h1 h2 h3 h4
 have e1 : rs = tellR q:=srtR_eq hp hs a1
 subst e1
 exact ⟨v,he,ho,a2⟩
set_option maxHeartbeats 1000000 in
theorem dfull_f (tick time : Int) (a : Option Addr) (cap : Nat) (es : List Ent) (w : World) (hE : EntsL w a es) (hl : es.length ≤ 1000) :
  Calls Tryz.prog 16 #[snapV tick time a es.length cap] w fun e w'=>∃ v,e = .returned (.tuple #[.agg #[.int .i64 (fullG ⟨tick,time,es⟩).1.tick,.int .i64 (fullG ⟨tick,time,es⟩).1.time,.int .i64 (fullG ⟨tick,time,es⟩).1.base,v],.int .i64 (fullG ⟨tick,time,es⟩).2]) ∧ OwnR w' w.heap.size v (fullG ⟨tick,time,es⟩).1.recs ∧ Below w.heap.size w w':=by
 have HZ : Hid (fullG ⟨tick,time,es⟩ = if snChk ⟨tick,time,es⟩ ≠ 0 then (gr0,snChk ⟨tick,time,es⟩) else match tlAll [] [] es with | none=>(gr0,15) | some q=>(⟨tick,time,-1,tellR q⟩,0)):=Lib.hid rfl
 have HUP : Hid (snChk ⟨tick,time,es⟩ = 0 → (es.map (·.id)).Nodup):=Lib.hid (fun h=>up_nodup (snChk_iff.1 h).up)
 generalize fullG ⟨tick,time,es⟩ = z at *
 obtain ⟨w0,hw0⟩ : ∃ w0,(w.alloc (.cells #[.int .i64 tick,.int .i64 time,.slice a es.length cap] 36)).alloc (.cells #[.int .i64 0,.int .i64 0,.int .i64 0,.slice none 0 0] 39) = w0:=⟨_,rfl⟩
 have hB0 : Below w.heap.size w w0:=by rw [← hw0];exact ((Below.refl _ _).alloc (Nat.le_refl _) _).alloc (by simp) _
 have hX0 : Blk w0 w.heap.size #[.int .i64 tick,.int .i64 time,.slice a es.length cap] 36:=by rw [← hw0];exact (Blk.new _ _ _).alloc _
 have hG0 : Blk w0 (w.heap.size + 1) #[.int .i64 0,.int .i64 0,.int .i64 0,.slice none 0 0] 39:=by
  rw [← hw0]
  have:=Blk.new (w.alloc (.cells #[.int .i64 tick,.int .i64 time,.slice a es.length cap] 36)) #[.int .i64 0,.int .i64 0,.int .i64 0,.slice none 0 0] 39
  simpa using this
 have hsz0 : w.heap.size + 2 ≤ w0.heap.size:=by rw [← hw0];simp
 have ck:=delchk_f tick time a es.length cap (fun i=>es.getD i ent0) w0 (hE.below hB0) (by omega)
 have HE0:=Lib.hid (hE.below hB0)
 have HB0:=Lib.hid hB0
 have HX0:=Lib.hid hX0
 have HG0:=Lib.hid hG0
 have HS0:=Lib.hid hsz0
 have x0:=hX0.cell 0
 have x1:=hX0.cell 1
 have x2:=hX0.cell 2
 simp at x0 x1 x2
 clear hE hB0 hX0 hG0 hsz0
 rw [show snapChk tick time es.length (fun i=>es.getD i ent0) = snChk ⟨tick,time,es⟩ from rfl] at ck
 generalize snChk ⟨tick,time,es⟩ = ce at *
 unfold snapV at *
 go_enter Tryz.func16,Tryz.ntmps16
 go_wp2_with fail
 clear hw0
 refine ck.mono ?_
 rintro e w1 ⟨rfl,hb⟩
 have HB1:=Lib.hid (HB0.out.trans (hb.mono HB0.out.size))
 have HX1:=Lib.hid (HX0.out.below hb HX0.out.lt)
 have HG1:=Lib.hid (HG0.out.below hb HG0.out.lt)
 have HE1:=Lib.hid (HE0.out.below hb)
 have HS1 : Hid (w.heap.size + 2 ≤ w1.heap.size):=Lib.hid (Nat.le_trans HS0.out hb.size)
 have hx1:=HX1.out
 have hs1 : w.heap.size < w1.heap.size:=by have:=HS1.out;omega
 clear ck hb x0 x1 x2
 have x0:=hx1.cell 0
 have x1:=hx1.cell 1
 have x2:=hx1.cell 2
 simp at x0 x1 x2
 clear hx1
 by_cases hce : ce = 0
 ·subst hce
  have HU : Hid ((es.map (·.id)).Nodup):=Lib.hid (HUP.out rfl)
  have HZ2 : Hid (z = match tlAll [] [] es with | none=>(gr0,15) | some q=>(⟨tick,time,-1,tellR q⟩,0)):=Lib.hid (by rw [HZ.out,if_neg (by simp)])
  clear HZ HUP
  have hAl : Below w1.heap.size w1 (w1.alloc (.map #[] 0)):=(Below.refl _ _).alloc (Nat.le_refl _) _
  have tl:=tell_f w1.heap.size [] a cap es (w1.alloc (.map #[] 0)) (MapIs.new w1) (HE1.out.below hAl) hl (by simp)
  have HX2:=Lib.hid (HX1.out.below hAl HX1.out.lt)
  have HG2:=Lib.hid (HG1.out.below hAl HG1.out.lt)
  have HB2:=Lib.hid (HB1.out.trans (hAl.mono HB1.out.size))
  have HOKE:=Lib.hid HE1.out.ok
  cases hz : tlAll [] [] es with
  | none =>
   have HV : Hid (z = (gr0,15)):=Lib.hid (by rw [HZ2.out,hz])
   rw [hz] at tl
   clear HZ2 hz hAl
   go_wp2_with fail
   refine tl.mono ?_
   rintro e w3 ⟨he,hO⟩
   obtain rfl:=he
   have HB3 : Hid (Below w.heap.size w w3):=Lib.hid (onlyBelow HB2.out HB1.out.size hO)
   have HG3:=Lib.hid (hO.blk HG2.out (by have:=HS1.out;omega))
   clear hO tl
   have hG9:=HG3.out
   have f0:=hG9.free 0
   have f1:=hG9.free 1
   have f2:=hG9.free 2
   have f3:=hG9.free 3
   have z0:=hG9.cell 0
   have z1:=hG9.cell 1
   have z2:=hG9.cell 2
   have z3:=hG9.cell 3
   simp at z0 z1 z2 z3
   have hG8:=blk4 (v0:=.int .i64 0) (v1:=.int .i64 0) (v2:=.int .i64 0) (v3:=.slice none 0 0) hG9
   obtain ⟨u9,hu9⟩ : ∃ u,(((w3.setCell ⟨w.heap.size + 1,0,none⟩ (.int .i64 0)).setCell ⟨w.heap.size + 1,1,none⟩ (.int .i64 0)).setCell ⟨w.heap.size + 1,2,none⟩ (.int .i64 0)).setCell ⟨w.heap.size + 1,3,none⟩ (.slice none 0 0) = u:=⟨_,rfl⟩
   have hO9 : Only (fun k=>k = w.heap.size + 1) w3 u9:=by rw [← hu9];exact only4 (Only.refl _ _) (.inl rfl)
   rw [hu9] at hG8
   have HF : Hid (OwnR u9 w.heap.size (.slice none 0 0) [] ∧ Below w.heap.size w u9):=Lib.hid ⟨OwnR.nil _ _,HB3.out.trans (hO9.below HB3.out.size (fun k hk=>by omega))⟩
   have g0:=hG8.cell 0
   have g1:=hG8.cell 1
   have g2:=hG8.cell 2
   have g3:=hG8.cell 3
   simp at g0 g1 g2 g3
   clear hG9 hG8 hO9
   go_wp2_with fail
   exact bodyPost_ret (v:=.tuple #[.agg #[.int .i64 0,.int .i64 0,.int .i64 0,.slice none 0 0],.int .i64 (15)]) (by simp [results,Tryz.results16,go_sem,g0,g1,g2,g3]) rfl ⟨.slice none 0 0,by rw [HV.out];rfl,by rw [HV.out];exact HF.out.1,HF.out.2⟩
  | some q =>
   have HV : Hid (z = (⟨tick,time,-1,tellR q⟩,0)):=Lib.hid (by rw [HZ2.out,hz])
   rw [hz] at tl
   have HQ:=Lib.hid hz
   clear HZ2 hz hAl
   go_wp2_with fail
   refine tl.mono ?_
   rintro e w3 ⟨he,hO⟩
   obtain ⟨v,rfl,hR⟩:=tell_rows (M:=0) (w1:=w1) HQ.out (by simp) HU.out HOKE.out (by simp) he
   obtain ⟨ra,rc,rfl,_⟩:=hR.recs
   have HB3 : Hid (Below w.heap.size w w3):=Lib.hid (onlyBelow HB2.out HB1.out.size hO)
   have HG3:=Lib.hid (hO.blk HG2.out (by have:=HS1.out;omega))
   have hX3:=hO.blk HX2.out (by have:=HS1.out;omega)
   have HR3:=Lib.hid hR
   have y0:=hX3.cell 0
   have y1:=hX3.cell 1
   simp at y0 y1
   clear hO tl hR hX3 he
   have hG9:=HG3.out
   have f0:=hG9.free 0
   have f1:=hG9.free 1
   have f2:=hG9.free 2
   have f3:=hG9.free 3
   have z0:=hG9.cell 0
   have z1:=hG9.cell 1
   have z2:=hG9.cell 2
   have z3:=hG9.cell 3
   simp at z0 z1 z2 z3
   have hG8:=blk4 (v0:=.int .i64 tick) (v1:=.int .i64 time) (v2:=.int .i64 (-1)) (v3:=.slice ra (tellR q).length rc) hG9
   obtain ⟨u9,hu9⟩ : ∃ u,(((w3.setCell ⟨w.heap.size + 1,0,none⟩ (.int .i64 tick)).setCell ⟨w.heap.size + 1,1,none⟩ (.int .i64 time)).setCell ⟨w.heap.size + 1,2,none⟩ (.int .i64 (-1))).setCell ⟨w.heap.size + 1,3,none⟩ (.slice ra (tellR q).length rc) = u:=⟨_,rfl⟩
   have hO9 : Only (fun k=>k = w.heap.size + 1) w3 u9:=by rw [← hu9];exact only4 (Only.refl _ _) (.inl rfl)
   rw [hu9] at hG8
   have HF : Hid (OwnR u9 w.heap.size (.slice ra (tellR q).length rc) (tellR q) ∧ Below w.heap.size w u9):=Lib.hid ⟨(OwnR.base HR3.out (Nat.le_trans HB1.out.size (by simp))).only hO9 (fun j hj hk=>by have:=(HR3.out.1.lt j hj).1;have:=HS1.out;simp at *;omega),HB3.out.trans (hO9.below HB3.out.size (fun k hk=>by omega))⟩
   have g0:=hG8.cell 0
   have g1:=hG8.cell 1
   have g2:=hG8.cell 2
   have g3:=hG8.cell 3
   simp at g0 g1 g2 g3
   clear hG9 hG8 hO9
   go_wp2_with fail
   exact bodyPost_ret (v:=.tuple #[.agg #[.int .i64 tick,.int .i64 time,.int .i64 (-1),.slice ra (tellR q).length rc],.int .i64 (0)]) (by simp [results,Tryz.results16,go_sem,g0,g1,g2,g3]) rfl ⟨.slice ra (tellR q).length rc,by rw [HV.out],by rw [HV.out];exact HF.out.1,HF.out.2⟩
 ·have HV : Hid (z = (gr0,ce)):=Lib.hid (by rw [HZ.out,if_pos hce])
  have hce2 : (ce != 0) = true:=by simpa using hce
  clear HZ HUP hce
  have hG9:=HG1.out
  have f0:=hG9.free 0
  have f1:=hG9.free 1
  have f2:=hG9.free 2
  have f3:=hG9.free 3
  have z0:=hG9.cell 0
  have z1:=hG9.cell 1
  have z2:=hG9.cell 2
  have z3:=hG9.cell 3
  simp at z0 z1 z2 z3
  have hG8:=blk4 (v0:=.int .i64 0) (v1:=.int .i64 0) (v2:=.int .i64 0) (v3:=.slice none 0 0) hG9
  obtain ⟨u9,hu9⟩ : ∃ u,(((w1.setCell ⟨w.heap.size + 1,0,none⟩ (.int .i64 0)).setCell ⟨w.heap.size + 1,1,none⟩ (.int .i64 0)).setCell ⟨w.heap.size + 1,2,none⟩ (.int .i64 0)).setCell ⟨w.heap.size + 1,3,none⟩ (.slice none 0 0) = u:=⟨_,rfl⟩
  have hO9 : Only (fun k=>k = w.heap.size + 1) w1 u9:=by rw [← hu9];exact only4 (Only.refl _ _) (.inl rfl)
  rw [hu9] at hG8
  have HF : Hid (OwnR u9 w.heap.size (.slice none 0 0) [] ∧ Below w.heap.size w u9):=Lib.hid ⟨OwnR.nil _ _,HB1.out.trans (hO9.below HB1.out.size (fun k hk=>by omega))⟩
  have g0:=hG8.cell 0
  have g1:=hG8.cell 1
  have g2:=hG8.cell 2
  have g3:=hG8.cell 3
  simp at g0 g1 g2 g3
  clear hG9 hG8 hO9
  go_wp2_with fail
  exact bodyPost_ret (v:=.tuple #[.agg #[.int .i64 0,.int .i64 0,.int .i64 0,.slice none 0 0],.int .i64 (ce)]) (by simp [results,Tryz.results16,go_sem,g0,g1,g2,g3]) rfl ⟨.slice none 0 0,by rw [HV.out];rfl,by rw [HV.out];exact HF.out.1,HF.out.2⟩
set_option maxRecDepth 100000
def tellFin (ka kb tb : Int) (z : Option (List Ent × List Rec)) : Gr × Int:=match z with
 | none=>(gr0,15)
 | some q=>(⟨kb,tb,ka,tellR q⟩,0)
def tellEr (z : Option (List Ent × List Rec)) : Int:=match z with
 | none=>15
 | some _=>0
def diffG (a b : Sn) : Gr × Int:=if snChk a ≠ 0 then (gr0,snChk a) else if snChk b ≠ 0 then (gr0,snChk b) else if b.tick ≤ a.tick then (gr0,10) else tellFin a.tick b.tick b.time (tlAll (byIdF a.ents) [] b.ents)
theorem byIdF_len (es : List Ent) : (byIdF es).length ≤ es.length:=by
 have h : ∀ (es l : List Ent),(es.foldl putE l).length ≤ l.length + es.length:=by
  intro es
  induction es with
  | nil=>intro l;simp
  | cons x es ih =>
   intro l
   have h1:=ih (putE l x)
   have h2 : (putE l x).length ≤ l.length + 1:=by
    unfold putE;split <;> simp
   simp only [List.foldl_cons,List.length_cons]
   omega
 have:=h es []
 simpa [byIdF] using this
structure DiR (w : World) (sa sb : Array Value) (ss : Array Value) (wr : World) : Prop where
 a : Blk wr w.heap.size sa 36
 b : Blk wr (w.heap.size + 1) sb 36
 g : Blk wr (w.heap.size + 2) #[.int .i64 0,.int .i64 0,.int .i64 0,.slice none 0 0] 39
 s : Blk wr (w.heap.size + 3) ss 36
 bl : Below w.heap.size w wr
 sz : w.heap.size + 4 ≤ wr.heap.size
theorem DiR.below {w : World} {sa sb ss : Array Value} {wr w2 : World} (h : DiR w sa sb ss wr) (hb : Below wr.heap.size wr w2) : DiR w sa sb ss w2 :=
 ⟨h.a.below hb h.a.lt,h.b.below hb h.b.lt,h.g.below hb h.g.lt,h.s.below hb h.s.lt,h.bl.trans (hb.mono h.bl.size),Nat.le_trans h.sz hb.size⟩
def DiI (w1 : World) (was : List Ent) (z : Option (List Ent × List Rec)) (okv : Value → World → Prop) : List Value → World → Prop
 | [],W=>CalmI w1 W
 | [u],W=>CalmI w1 W ∧ ∃ M,u = .map (some M) ∧ w1.heap.size ≤ M ∧ MapIs W M was
 | [_,u],W=>CalmI w1 W ∧ okv u W
 | [_,_,u],W=>CalmI w1 W ∧ okv u W
 | [_,_,_,u],W=>CalmI w1 W ∧ ∃ er,okv (.tuple #[u,er]) W
 | [_,_,_,_,u],W=>CalmI w1 W ∧ ∃ er,okv (.tuple #[u,er]) W
 | _,_=>False
theorem DiI.calm {w1 : World} {was : List Ent} {z : Option (List Ent × List Rec)} {okv : Value → World → Prop} : ∀ {b : List Value} {W : World},DiI w1 was z okv b W → CalmI w1 W
 | [],_,h=>h
 | [_],_,h=>h.1
 | [_,_],_,h=>h.1
 | [_,_,_],_,h=>h.1
 | [_,_,_,_],_,h=>h.1
 | [_,_,_,_,_],_,h=>h.1
 | _ :: _ :: _ :: _ :: _ :: _ :: _,_,h=>h.elim
def TlV (z : Option (List Ent × List Rec)) (base : Nat) (u : Value) (W : World) : Prop:=match z with
 | none=>u = .tuple #[.slice none 0 0,.int .i64 15]
 | some q=>∃ a c,u = .tuple #[.slice a (tellR q).length c,.int .i64 0] ∧ OwnR W base (.slice a (tellR q).length c) (tellR q)
set_option maxHeartbeats 4000000 in
theorem ddiff_f (ka ta : Int) (aa : Option Addr) (ca : Nat) (as_ : List Ent) (kb tb : Int) (ab : Option Addr) (cb : Nat) (bs : List Ent) (w : World) (hA : EntsL w aa as_) (hB : EntsL w ab bs) (hla : as_.length ≤ 1000) (hlb : bs.length ≤ 1000) :
  Calls Tryz.prog 11 #[snapV ka ta aa as_.length ca,snapV kb tb ab bs.length cb] w fun e w'=>∃ v,e = .returned (.tuple #[.agg #[.int .i64 (diffG ⟨ka,ta,as_⟩ ⟨kb,tb,bs⟩).1.tick,.int .i64 (diffG ⟨ka,ta,as_⟩ ⟨kb,tb,bs⟩).1.time,.int .i64 (diffG ⟨ka,ta,as_⟩ ⟨kb,tb,bs⟩).1.base,v],.int .i64 (diffG ⟨ka,ta,as_⟩ ⟨kb,tb,bs⟩).2]) ∧ OwnR w' w.heap.size v (diffG ⟨ka,ta,as_⟩ ⟨kb,tb,bs⟩).1.recs ∧ Below w.heap.size w w':=by
 have HZ : Hid (diffG ⟨ka,ta,as_⟩ ⟨kb,tb,bs⟩ = if snChk ⟨ka,ta,as_⟩ ≠ 0 then (gr0,snChk ⟨ka,ta,as_⟩) else if snChk ⟨kb,tb,bs⟩ ≠ 0 then (gr0,snChk ⟨kb,tb,bs⟩) else if kb ≤ ka then (gr0,10) else tellFin ka kb tb (tlAll (byIdF as_) [] bs)):=Lib.hid rfl
 have HUP : Hid (snChk ⟨kb,tb,bs⟩ = 0 → (bs.map (·.id)).Nodup):=Lib.hid (fun h=>up_nodup (snChk_iff.1 h).up)
 generalize diffG ⟨ka,ta,as_⟩ ⟨kb,tb,bs⟩ = z at *
 have cka:=fun W h=>delchk_f ka ta aa as_.length ca (fun i=>as_.getD i ent0) W h (by omega)
 have ckb:=fun W h=>delchk_f kb tb ab bs.length cb (fun i=>bs.getD i ent0) W h (by omega)
 have e1 : snapChk ka ta as_.length (fun i=>as_.getD i ent0) = snChk ⟨ka,ta,as_⟩:=rfl
 have e2 : snapChk kb tb bs.length (fun i=>bs.getD i ent0) = snChk ⟨kb,tb,bs⟩:=rfl
 rw [e1] at cka
 rw [e2] at ckb
 clear e1 e2
 generalize snChk ⟨ka,ta,as_⟩ = cea at *
 generalize snChk ⟨kb,tb,bs⟩ = ceb at *
 have HD0 : Hid (DiR w #[.int .i64 ka,.int .i64 ta,.slice aa as_.length ca] #[.int .i64 kb,.int .i64 tb,.slice ab bs.length cb] #[.int .i64 ka,.int .i64 ta,.slice aa as_.length ca,.int .i64 kb,.int .i64 tb,.slice ab bs.length cb] ((((w.alloc (.cells #[.int .i64 ka,.int .i64 ta,.slice aa as_.length ca] 36)).alloc (.cells #[.int .i64 kb,.int .i64 tb,.slice ab bs.length cb] 36)).alloc (.cells #[.int .i64 0,.int .i64 0,.int .i64 0,.slice none 0 0] 39)).alloc (.cells #[.int .i64 ka,.int .i64 ta,.slice aa as_.length ca,.int .i64 kb,.int .i64 tb,.slice ab bs.length cb] 36))):=Lib.hid (by
  have b1:=Blk.new (w.alloc (.cells #[.int .i64 ka,.int .i64 ta,.slice aa as_.length ca] 36)) #[.int .i64 kb,.int .i64 tb,.slice ab bs.length cb] 36
  have b2:=Blk.new ((w.alloc (.cells #[.int .i64 ka,.int .i64 ta,.slice aa as_.length ca] 36)).alloc (.cells #[.int .i64 kb,.int .i64 tb,.slice ab bs.length cb] 36)) #[.int .i64 0,.int .i64 0,.int .i64 0,.slice none 0 0] 39
  have b3:=Blk.new (((w.alloc (.cells #[.int .i64 ka,.int .i64 ta,.slice aa as_.length ca] 36)).alloc (.cells #[.int .i64 kb,.int .i64 tb,.slice ab bs.length cb] 36)).alloc (.cells #[.int .i64 0,.int .i64 0,.int .i64 0,.slice none 0 0] 39)) #[.int .i64 ka,.int .i64 ta,.slice aa as_.length ca,.int .i64 kb,.int .i64 tb,.slice ab bs.length cb] 36
  simp only [World.size_alloc] at b1 b2 b3
  exact ⟨(((Blk.new _ _ _).alloc _).alloc _).alloc _,(b1.alloc _).alloc _,b2.alloc _,b3,((((Below.refl _ _).alloc (Nat.le_refl _) _).alloc (by simp) _).alloc (by simp;omega) _).alloc (by simp;omega) _,by simp⟩)
 have HA:=Lib.hid hA
 have HB:=Lib.hid hB
 unfold snapV at *
 clear hA hB
 go_enter Tryz.func11,Tryz.ntmps11
 go_wp2_with fail
 go_loopw [15] (fun i wr=>∃ k : Nat,k ≤ 2 ∧ i = .int .i64 k ∧ (1 ≤ k → cea = 0) ∧ (2 ≤ k → ceb = 0) ∧ DiR w #[.int .i64 ka,.int .i64 ta,.slice aa as_.length ca] #[.int .i64 kb,.int .i64 tb,.slice ab bs.length cb] #[.int .i64 ka,.int .i64 ta,.slice aa as_.length ca,.int .i64 kb,.int .i64 tb,.slice ab bs.length cb] wr) (fun i _=>2 - (intOf i).toNat)
 case atStart=>exact ⟨0,by omega,rfl,fun h=>by omega,fun h=>by omega,by simpa using HD0.out⟩
 case round =>
  obtain ⟨k,hk,rfl,h1,h2,hD⟩:=hrel
  have s0:=hD.s.cell 0
  have s1:=hD.s.cell 1
  have s2:=hD.s.cell 2
  have s3:=hD.s.cell 3
  have s4:=hD.s.cell 4
  have s5:=hD.s.cell 5
  simp at s0 s1 s2 s3 s4 s5
  have HD:=Lib.hid hD
  have HA1:=Lib.hid (HA.out.below hD.bl)
  have HB1:=Lib.hid (HB.out.below hD.bl)
  have hsz:=hD.sz
  rcases (show k = 0 ∨ k = 1 ∨ k = 2 by omega) with rfl | rfl | rfl
  ·clear h1 h2 hD
   have hb1 : Below wr.heap.size wr (wr.alloc (.cells #[.int .i64 ka,.int .i64 ta,.slice aa as_.length ca] 36)):=(Below.refl _ _).alloc (Nat.le_refl _) _
   have HD1:=Lib.hid (HD.out.below hb1)
   have ck:=cka (wr.alloc (.cells #[.int .i64 ka,.int .i64 ta,.slice aa as_.length ca] 36)) (HA1.out.below hb1)
   clear hb1
   go_wp2_with fail
   refine ck.mono ?_
   rintro e w2 ⟨rfl,hb⟩
   have hD2:=HD1.out.below hb
   have HD2:=Lib.hid hD2
   have hsz2:=hD2.sz
   clear hb ck hD2 HD1
   by_cases hce : cea = 0
   ·clear s0 s1 s2 s3 s4 s5
    go_wp2
    go_roundw
    case rel=>exact ⟨1,by omega,by first | rfl | go_num,fun _=>hce,fun h=>by omega,HD2.out⟩
    case measure=>simp [intOf]
   ·have HV : Hid (z = (gr0,cea)):=Lib.hid (by rw [HZ.out,if_pos hce])
    have hce2 : (cea != 0) = true:=by simpa using hce
    clear s0 s1 s2 s3 s4 s5 HZ HUP hce
    have hG9:=HD2.out.g
    have f0:=hG9.free 0
    have f1:=hG9.free 1
    have f2:=hG9.free 2
    have f3:=hG9.free 3
    have z0:=hG9.cell 0
    have z1:=hG9.cell 1
    have z2:=hG9.cell 2
    have z3:=hG9.cell 3
    simp at z0 z1 z2 z3
    have hG8:=blk4 (v0:=.int .i64 0) (v1:=.int .i64 0) (v2:=.int .i64 0) (v3:=.slice none 0 0) hG9
    obtain ⟨u9,hu9⟩ : ∃ u,(((w2.setCell ⟨w.heap.size + 2,0,none⟩ (.int .i64 0)).setCell ⟨w.heap.size + 2,1,none⟩ (.int .i64 0)).setCell ⟨w.heap.size + 2,2,none⟩ (.int .i64 0)).setCell ⟨w.heap.size + 2,3,none⟩ (.slice none 0 0) = u:=⟨_,rfl⟩
    have hO9 : Only (fun k=>k = w.heap.size + 2) w2 u9:=by rw [← hu9];exact only4 (Only.refl _ _) (.inl rfl)
    rw [hu9] at hG8
    have HF : Hid (OwnR u9 w.heap.size (.slice none 0 0) [] ∧ Below w.heap.size w u9):=Lib.hid ⟨OwnR.nil _ _,HD2.out.bl.trans (hO9.below HD2.out.bl.size (fun k hk=>by omega))⟩
    have g0:=hG8.cell 0
    have g1:=hG8.cell 1
    have g2:=hG8.cell 2
    have g3:=hG8.cell 3
    simp at g0 g1 g2 g3
    clear hG9 hG8 hO9
    go_wp2_with fail
    exact bodyPost_ret (v:=.tuple #[.agg #[.int .i64 0,.int .i64 0,.int .i64 0,.slice none 0 0],.int .i64 (cea)]) (by simp [results,Tryz.results11,go_sem,g0,g1,g2,g3]) rfl ⟨.slice none 0 0,by first | (rw [HV.out];done) | (rw [HV.out];rfl),by rw [HV.out];exact HF.out.1,HF.out.2⟩
  ·have hca : cea = 0:=h1 (by omega)
   clear h1 h2 hD
   have hb1 : Below wr.heap.size wr (wr.alloc (.cells #[.int .i64 kb,.int .i64 tb,.slice ab bs.length cb] 36)):=(Below.refl _ _).alloc (Nat.le_refl _) _
   have HD1:=Lib.hid (HD.out.below hb1)
   have ck:=ckb (wr.alloc (.cells #[.int .i64 kb,.int .i64 tb,.slice ab bs.length cb] 36)) (HB1.out.below hb1)
   clear hb1
   go_wp2_with fail
   refine ck.mono ?_
   rintro e w2 ⟨rfl,hb⟩
   have hD2:=HD1.out.below hb
   have HD2:=Lib.hid hD2
   have hsz2:=hD2.sz
   clear hb ck hD2 HD1
   by_cases hce : ceb = 0
   ·clear s0 s1 s2 s3 s4 s5
    go_wp2
    go_roundw
    case rel=>exact ⟨2,by omega,by first | rfl | go_num,fun _=>hca,fun h=>hce,HD2.out⟩
    case measure=>simp [intOf]
   ·have HV : Hid (z = (gr0,ceb)):=Lib.hid (by rw [HZ.out,if_neg (by simpa using hca),if_pos hce])
    have hce2 : (ceb != 0) = true:=by simpa using hce
    clear s0 s1 s2 s3 s4 s5 HZ HUP hce
    have hG9:=HD2.out.g
    have f0:=hG9.free 0
    have f1:=hG9.free 1
    have f2:=hG9.free 2
    have f3:=hG9.free 3
    have z0:=hG9.cell 0
    have z1:=hG9.cell 1
    have z2:=hG9.cell 2
    have z3:=hG9.cell 3
    simp at z0 z1 z2 z3
    have hG8:=blk4 (v0:=.int .i64 0) (v1:=.int .i64 0) (v2:=.int .i64 0) (v3:=.slice none 0 0) hG9
    obtain ⟨u9,hu9⟩ : ∃ u,(((w2.setCell ⟨w.heap.size + 2,0,none⟩ (.int .i64 0)).setCell ⟨w.heap.size + 2,1,none⟩ (.int .i64 0)).setCell ⟨w.heap.size + 2,2,none⟩ (.int .i64 0)).setCell ⟨w.heap.size + 2,3,none⟩ (.slice none 0 0) = u:=⟨_,rfl⟩
    have hO9 : Only (fun k=>k = w.heap.size + 2) w2 u9:=by rw [← hu9];exact only4 (Only.refl _ _) (.inl rfl)
    rw [hu9] at hG8
    have HF : Hid (OwnR u9 w.heap.size (.slice none 0 0) [] ∧ Below w.heap.size w u9):=Lib.hid ⟨OwnR.nil _ _,HD2.out.bl.trans (hO9.below HD2.out.bl.size (fun k hk=>by omega))⟩
    have g0:=hG8.cell 0
    have g1:=hG8.cell 1
    have g2:=hG8.cell 2
    have g3:=hG8.cell 3
    simp at g0 g1 g2 g3
    clear hG9 hG8 hO9
    go_wp2_with fail
    exact bodyPost_ret (v:=.tuple #[.agg #[.int .i64 0,.int .i64 0,.int .i64 0,.slice none 0 0],.int .i64 (ceb)]) (by simp [results,Tryz.results11,go_sem,g0,g1,g2,g3]) rfl ⟨.slice none 0 0,by first | (rw [HV.out];done) | (rw [HV.out];rfl),by rw [HV.out];exact HF.out.1,HF.out.2⟩
  ·have hca : cea = 0:=h1 (by omega)
   have hcb : ceb = 0:=h2 (by omega)
   subst hca hcb
   have HU : Hid ((bs.map (·.id)).Nodup):=Lib.hid (HUP.out rfl)
   have HZ2 : Hid (z = if kb ≤ ka then (gr0,10) else tellFin ka kb tb (tlAll (byIdF as_) [] bs)):=Lib.hid (by rw [HZ.out,if_neg (by simp),if_neg (by simp)])
   clear h1 h2 HZ HUP cka ckb s0 s1 s2 s3 s4 s5
   have a0:=hD.a.cell 0
   have a1:=hD.a.cell 1
   have a2:=hD.a.cell 2
   have b0:=hD.b.cell 0
   have b1:=hD.b.cell 1
   have b2:=hD.b.cell 2
   simp at a0 a1 a2 b0 b1 b2
   have HGR:=Lib.hid hD.g
   have HBL:=Lib.hid hD.bl
   clear hD
   by_cases hkk : kb ≤ ka
   ·have HV : Hid (z = (gr0,10)):=Lib.hid (by rw [HZ2.out,if_pos hkk])
    have hkk' : ka ≥ kb:=hkk
    clear HZ2
    have hG9:=HGR.out
    have f0:=hG9.free 0
    have f1:=hG9.free 1
    have f2:=hG9.free 2
    have f3:=hG9.free 3
    have z0:=hG9.cell 0
    have z1:=hG9.cell 1
    have z2:=hG9.cell 2
    have z3:=hG9.cell 3
    simp at z0 z1 z2 z3
    have hG8:=blk4 (v0:=.int .i64 0) (v1:=.int .i64 0) (v2:=.int .i64 0) (v3:=.slice none 0 0) hG9
    obtain ⟨u9,hu9⟩ : ∃ u,(((wr.setCell ⟨w.heap.size + 2,0,none⟩ (.int .i64 0)).setCell ⟨w.heap.size + 2,1,none⟩ (.int .i64 0)).setCell ⟨w.heap.size + 2,2,none⟩ (.int .i64 0)).setCell ⟨w.heap.size + 2,3,none⟩ (.slice none 0 0) = u:=⟨_,rfl⟩
    have hO9 : Only (fun k=>k = w.heap.size + 2) wr u9:=by rw [← hu9];exact only4 (Only.refl _ _) (.inl rfl)
    rw [hu9] at hG8
    have HF : Hid (OwnR u9 w.heap.size (.slice none 0 0) [] ∧ Below w.heap.size w u9):=Lib.hid ⟨OwnR.nil _ _,HBL.out.trans (hO9.below HBL.out.size (fun k hk=>by omega))⟩
    have g0:=hG8.cell 0
    have g1:=hG8.cell 1
    have g2:=hG8.cell 2
    have g3:=hG8.cell 3
    simp at g0 g1 g2 g3
    clear hG9 hG8 hO9
    go_wp2_with fail
    exact bodyPost_ret (v:=.tuple #[.agg #[.int .i64 0,.int .i64 0,.int .i64 0,.slice none 0 0],.int .i64 (10)]) (by simp [results,Tryz.results11,go_sem,g0,g1,g2,g3]) rfl ⟨.slice none 0 0,by first | (rw [HV.out];done) | (rw [HV.out];rfl),by rw [HV.out];exact HF.out.1,HF.out.2⟩
   ·have hkk' : ¬ kb ≤ ka:=hkk
    have HZ3 : Hid (z = tellFin ka kb tb (tlAll (byIdF as_) [] bs)):=Lib.hid (by rw [HZ2.out,if_neg hkk])
    clear HZ2 hkk
    obtain ⟨zz,hzz⟩ : ∃ q,tlAll (byIdF as_) [] bs = q:=⟨_,rfl⟩
    rw [hzz] at HZ3
    have HQ:=Lib.hid hzz
    have hbyl : (byIdF as_).length ≤ 1000:=Nat.le_trans (byIdF_len as_) hla
    have HBY:=Lib.hid hbyl
    clear hzz hbyl
    obtain ⟨E0,hE0⟩ : ∃ e : Int,tellEr zz = e:=⟨_,rfl⟩
    have HE0:=Lib.hid hE0
    clear hE0
    have HI : Hid (DiI wr (byIdF as_) zz (TlV zz wr.heap.size) [] wr.drew):=Lib.hid (show CalmI wr wr.drew from below_drewN (Below.refl _ _) 1)
    have HLA:=Lib.hid hla
    have HLB:=Lib.hid hlb
    go_wp2_with fail
    apply wp_region_chainT 10 [2,5,6,7,9] (DiI wr (byIdF as_) zz (TlV zz wr.heap.size))
    case hm=>kernel_rfl
    case hB=>kernel_rfl
    case hp=>kernel_rfl
    case hI=>exact HI.out
    simp only [List.take_succ_cons,List.take_zero,List.drop_succ_cons,List.drop_zero]
    repeat (apply wpChain_fix;(next=>rfl);(next=>(intro b W hW K hK;have hb:=DiI.calm hW;have y0:=hb.cell a2;have y1:=hb.cell b2;go_simp;first | exact ⟨hW,hK⟩ | exact hK));(next=>exact ⟨_,HI.out⟩);(try go_simp))
    apply wpChain_one (s:=fun u=>∃ M,u = .map (some M))
    case hk=>rfl
    case hne=>exact ⟨_,0,rfl⟩
    case hw=>rfl
    case h =>
     intro W hW
     have hb : Below wr.heap.size wr W:=hW
     have by_:=byId_f aa ca as_ W (HA1.out.below hb) (by have:=HLA.out;omega)
     clear hW
     go_simp
     refine by_.mono ?_
     rintro e w3 ⟨M,rfl,hM1,hM2,hB2⟩
     refine ⟨_,rfl,by first | exact ⟨M,rfl⟩ | simp,?_⟩
     exact ⟨hb.trans (hB2.mono hb.size),M,rfl,Nat.le_trans hb.size hM1,hM2⟩
    intro v1 hv1
    obtain ⟨M,rfl⟩:=hv1
    try go_simp
    repeat (apply wpChain_fix;(next=>rfl);(next=>(intro b W hW K hK;have hb:=DiI.calm hW;have y0:=hb.cell a2;have y1:=hb.cell b2;go_simp;first | exact ⟨hW,hK⟩ | exact hK));(next=>exact ⟨_,HI.out⟩);(try go_simp))
    apply wpChain_one (s:=fun u=>∃ x : Value,u = .tuple #[x,.int .i64 E0])
    case hk=>rfl
    case hne=>exact ⟨_,undef,rfl⟩
    case hw=>rfl
    case h =>
     intro W hW
     obtain ⟨hb,M',he,hM1,hM2⟩:=hW
     injection he with he
     injection he with he
     subst he
     have hb' : Below wr.heap.size wr W:=hb
     have tl:=tell_f M (byIdF as_) ab cb bs W hM2 (HB1.out.below hb') HLB.out HBY.out
     rw [HQ.out] at tl
     have HH:=Lib.hid (And.intro hb' hM1)
     have HOKB:=Lib.hid HB1.out.ok
     have HOKA:=Lib.hid HA1.out.ok
     clear hb hb' hM1 hM2
     go_simp
     refine tl.mono ?_
     rintro e w3 ⟨he,hO⟩
     have hcalm : CalmI wr w3:=HH.out.1.trans (hO.below HH.out.1.size (fun k hk=>by have:=HH.out.2;omega))
     cases zz with
     | none =>
      obtain rfl:=he
      refine ⟨_,rfl,by rw [← HE0.out];first | exact ⟨_,rfl⟩ | simp [tellEr],?_⟩
      exact ⟨hcalm,rfl⟩
     | some q =>
      obtain ⟨v,rfl,hR⟩:=tell_rows (M:=0) (w1:=wr) HQ.out (byIdF_nodup _) HU.out HOKB.out (byIdF_ok HOKA.out) he
      obtain ⟨ra,rc,rfl,_⟩:=hR.recs
      refine ⟨_,rfl,by rw [← HE0.out];first | exact ⟨_,rfl⟩ | simp [tellEr],?_⟩
      exact ⟨hcalm,ra,rc,rfl,OwnR.base hR HH.out.1.size⟩
    intro v2 hv2
    obtain ⟨x2,rfl⟩:=hv2
    try go_simp
    apply wpChain_one (s:=fun u=>∃ x : Value,u = .tuple #[x,.int .i64 E0])
    case hk=>rfl
    case hne=>exact ⟨_,undef,rfl⟩
    case hw=>rfl
    case h =>
     intro W hW
     have HW:=Lib.hid hW
     clear hW
     go_simp
     first | exact HW.out | exact ⟨⟨_,rfl⟩,HW.out⟩ | exact ⟨by simp,HW.out⟩
    intro v3 hv3
    obtain ⟨x3,rfl⟩:=hv3
    try go_simp
    apply wpChain_one (s:=fun _=>True)
    case hk=>rfl
    case hne=>exact ⟨undef,trivial⟩
    case hw=>rfl
    case h =>
     intro W hW
     have HW : Hid (DiI wr (byIdF as_) zz (TlV zz wr.heap.size) [undef,undef,undef,x3] W):=Lib.hid ⟨hW.1,_,hW.2⟩
     clear hW
     go_simp
     first | exact HW.out | exact ⟨trivial,HW.out⟩
    intro v4 _
    try go_simp
    repeat (apply wpChain_fix;(next=>rfl);(next=>(intro b W hW K hK;have hb:=DiI.calm hW;have y0:=hb.cell a2;have y1:=hb.cell b2;go_simp;first | exact ⟨hW,hK⟩ | exact hK));(next=>exact ⟨_,HI.out⟩);(try go_simp))
    apply wpChain_one (s:=fun _=>True)
    case hk=>rfl
    case hne=>exact ⟨undef,trivial⟩
    case hw=>rfl
    case h =>
     intro W hW
     have HW:=Lib.hid hW
     clear hW
     go_simp
     first | exact HW.out | exact ⟨trivial,HW.out⟩
    intro v5 _
    refine wpChain_nil ?_
    intro W hW
    obtain ⟨hb,er,hV⟩:=hW
    have hWB : Below wr.heap.size wr W:=hb
    have HG3:=Lib.hid (HGR.out.below hWB HGR.out.lt)
    have HB3:=Lib.hid (HBL.out.trans (hWB.mono HBL.out.size))
    have b0':=hb.cell b0
    have b1':=hb.cell b1
    have a0':=hb.cell a0
    have hszr:=hsz
    clear a0 a1 a2 b0 b1 b2 hb hWB
    cases zz with
    | none =>
     have hV' : Value.tuple #[v5,er] = .tuple #[.slice none 0 0,.int .i64 15]:=hV
     injection hV' with hV'
     have h2:=congrArg (fun q : Array Value=>q[0]?) hV'
     simp at h2
     subst h2
     obtain rfl : E0 = 15:=HE0.out.symm
     have HV : Hid (z = (gr0,15)):=Lib.hid HZ3.out
     clear hV hV'
     have hG9:=HG3.out
     have f0:=hG9.free 0
     have f1:=hG9.free 1
     have f2:=hG9.free 2
     have f3:=hG9.free 3
     have z0:=hG9.cell 0
     have z1:=hG9.cell 1
     have z2:=hG9.cell 2
     have z3:=hG9.cell 3
     simp at z0 z1 z2 z3
     have hG8:=blk4 (v0:=.int .i64 0) (v1:=.int .i64 0) (v2:=.int .i64 0) (v3:=.slice none 0 0) hG9
     obtain ⟨u9,hu9⟩ : ∃ u,(((W.setCell ⟨w.heap.size + 2,0,none⟩ (.int .i64 0)).setCell ⟨w.heap.size + 2,1,none⟩ (.int .i64 0)).setCell ⟨w.heap.size + 2,2,none⟩ (.int .i64 0)).setCell ⟨w.heap.size + 2,3,none⟩ (.slice none 0 0) = u:=⟨_,rfl⟩
     have hO9 : Only (fun k=>k = w.heap.size + 2) W u9:=by rw [← hu9];exact only4 (Only.refl _ _) (.inl rfl)
     rw [hu9] at hG8
     have HF : Hid (OwnR u9 w.heap.size (.slice none 0 0) [] ∧ Below w.heap.size w u9):=Lib.hid ⟨OwnR.nil _ _,HB3.out.trans (hO9.below HB3.out.size (fun k hk=>by omega))⟩
     have g0:=hG8.cell 0
     have g1:=hG8.cell 1
     have g2:=hG8.cell 2
     have g3:=hG8.cell 3
     simp at g0 g1 g2 g3
     clear hG9 hG8 hO9
     go_wp2_with fail
     exact bodyPost_ret (v:=.tuple #[.agg #[.int .i64 0,.int .i64 0,.int .i64 0,.slice none 0 0],.int .i64 (15)]) (by simp [results,Tryz.results11,go_sem,g0,g1,g2,g3]) rfl ⟨.slice none 0 0,by first | (rw [HV.out];done) | (rw [HV.out];rfl),by rw [HV.out];exact HF.out.1,HF.out.2⟩
    | some q =>
     obtain ⟨ra,rc,hV',hR⟩:=hV
     injection hV' with hV'
     have h2:=congrArg (fun q : Array Value=>q[0]?) hV'
     simp at h2
     subst h2
     obtain rfl : E0 = 0:=HE0.out.symm
     have HV : Hid (z = (⟨kb,tb,ka,tellR q⟩,0)):=Lib.hid HZ3.out
     have HR3:=Lib.hid hR
     clear hV' hR
     have hG9:=HG3.out
     have f0:=hG9.free 0
     have f1:=hG9.free 1
     have f2:=hG9.free 2
     have f3:=hG9.free 3
     have z0:=hG9.cell 0
     have z1:=hG9.cell 1
     have z2:=hG9.cell 2
     have z3:=hG9.cell 3
     simp at z0 z1 z2 z3
     have hG8:=blk4 (v0:=.int .i64 kb) (v1:=.int .i64 tb) (v2:=.int .i64 ka) (v3:=.slice ra (tellR q).length rc) hG9
     obtain ⟨u9,hu9⟩ : ∃ u,(((W.setCell ⟨w.heap.size + 2,0,none⟩ (.int .i64 kb)).setCell ⟨w.heap.size + 2,1,none⟩ (.int .i64 tb)).setCell ⟨w.heap.size + 2,2,none⟩ (.int .i64 ka)).setCell ⟨w.heap.size + 2,3,none⟩ (.slice ra (tellR q).length rc) = u:=⟨_,rfl⟩
     have hO9 : Only (fun k=>k = w.heap.size + 2) W u9:=by rw [← hu9];exact only4 (Only.refl _ _) (.inl rfl)
     rw [hu9] at hG8
     have HF : Hid (OwnR u9 w.heap.size (.slice ra (tellR q).length rc) (tellR q) ∧ Below w.heap.size w u9):=Lib.hid ⟨(OwnR.base HR3.out (by omega)).only hO9 (fun j hj hk=>by have:=(HR3.out.1.lt j hj).1;omega),HB3.out.trans (hO9.below HB3.out.size (fun k hk=>by omega))⟩
     have g0:=hG8.cell 0
     have g1:=hG8.cell 1
     have g2:=hG8.cell 2
     have g3:=hG8.cell 3
     simp at g0 g1 g2 g3
     clear hG9 hG8 hO9
     go_wp2_with fail
     exact bodyPost_ret (v:=.tuple #[.agg #[.int .i64 kb,.int .i64 tb,.int .i64 ka,.slice ra (tellR q).length rc],.int .i64 (0)]) (by simp [results,Tryz.results11,go_sem,g0,g1,g2,g3]) rfl ⟨.slice ra (tellR q).length rc,by first | (rw [HV.out];done) | (rw [HV.out];rfl),by rw [HV.out];exact HF.out.1,HF.out.2⟩
set_option maxRecDepth 100000
theorem stlen_f (T R : Nat) (l : List Kpt) (most floor : Int) (gone : Bool) (S : Nat → Prop) (w : World) (h : StAt w T R l most floor gone S) :
  Calls Tryz.prog 89 #[.pointer (some ⟨T,0,none⟩)] w fun e w'=>e = .returned (.int .i64 (l.length : Nat)) ∧ w = w':=by
 have ln:=rglen_f R l most floor gone S w h.ring
 obtain ⟨d0,d1⟩:=h.cells
 clear h
 go_enter Tryz.func89,Tryz.ntmps89
 go_wp2_with fail
 refine ln.mono ?_
 rintro e w1 ⟨rfl,rfl⟩
 clear ln
 go_wp2_with fail
 go_ret
 exact ⟨rfl,rfl⟩
set_option maxHeartbeats 1000000 in
theorem stget_f (T R : Nat) (l : List Kpt) (most floor : Int) (gone : Bool) (S : Nat → Prop) (i : Int) (w : World) (h : StAt w T R l most floor gone S) (hk : ∀ k ∈ l,k.sn.ents.length ≤ 64) :
  Calls Tryz.prog 40 #[.pointer (some ⟨T,0,none⟩),.int .i64 i] w fun e w'=>∃ a c,e = .returned (.tuple #[.agg #[.int .i64 (snT (getK l i)),.int .i64 (snM (getK l i)),.slice a (snE (getK l i)).length c],.bool (hasK l i)]) ∧ OwnE w' w.heap.size (.slice a (snE (getK l i)).length c) (snE (getK l i)) ∧ Below w.heap.size w w':=by
 obtain ⟨w0,hw0⟩ : ∃ w0,w.alloc (.cells #[.int .i64 0,.int .i64 0,.slice none 0 0] 36) = w0:=⟨_,rfl⟩
 have hB0 : Below w.heap.size w w0:=by rw [← hw0];exact (Below.refl _ _).alloc (Nat.le_refl _) _
 have HX0 : Hid (Blk w0 w.heap.size #[.int .i64 0,.int .i64 0,.slice none 0 0] 36):=Lib.hid (by rw [← hw0];exact Blk.new _ _ _)
 have HZ0 : Hid (w0.heap.size = w.heap.size + 1):=Lib.hid (by rw [← hw0];simp)
 have h1:=h.below hB0
 have HB0:=Lib.hid hB0
 have gt:=rget_f R l most floor gone S i w0 h1.ring
 rw [snV_eq] at gt
 have HM : Hid (∀ k,(getK l i) = some k → k ∈ l):=Lib.hid (fun k hh=>getK_mem hh)
 obtain ⟨d0,d1⟩:=h1.cells
 have HS:=Lib.hid h1
 have HK:=Lib.hid hk
 clear h h1 hk hB0
 generalize hasK l i = hv at *
 generalize (getK l i) = o at *
 go_enter Tryz.func40,Tryz.ntmps40
 go_wp2_with fail
 clear hw0
 refine gt.mono ?_
 rintro e w1 ⟨rfl,hB⟩
 clear gt d0 d1
 obtain ⟨a1,c1,e1,hE1,hc1,hl1,_⟩:=snS_ents (HS.out.below hB).ring HM.out HK.out
 rw [e1]
 obtain ⟨t1,ht1⟩ : ∃ t,snT o = t:=⟨_,rfl⟩
 obtain ⟨m1,hm1⟩ : ∃ t,snM o = t:=⟨_,rfl⟩
 rw [ht1,hm1]
 have HTM:=Lib.hid (And.intro ht1 hm1)
 obtain ⟨v1,hv1⟩ : ∃ v,w1.alloc (.cells #[.int .i64 0,.int .i64 0,.slice none 0 0] 36) = v:=⟨_,rfl⟩
 have hB1 : Below w1.heap.size w1 v1:=by rw [← hv1];exact (Below.refl _ _).alloc (Nat.le_refl _) _
 have hXv : Blk v1 w1.heap.size #[.int .i64 0,.int .i64 0,.slice none 0 0] 36:=by rw [← hv1];exact Blk.new _ _ _
 have f0:=hXv.free 0
 have f1:=hXv.free 1
 have f2:=hXv.free 2
 have q0:=hXv.cell 0
 have q1:=hXv.cell 1
 have q2:=hXv.cell 2
 simp at q0 q1 q2
 have hX1:=blk3 (v0:=.int .i64 t1) (v1:=.int .i64 m1) (v2:=.slice a1 (snE o).length c1) hXv
 have hb1:=below3 (v0:=.int .i64 t1) (v1:=.int .i64 m1) (v2:=.slice a1 (snE o).length c1) hB1 (Nat.le_refl _)
 obtain ⟨u1,hu1⟩ : ∃ u,((v1.setCell ⟨w1.heap.size,0,none⟩ (.int .i64 t1)).setCell ⟨w1.heap.size,1,none⟩ (.int .i64 m1)).setCell ⟨w1.heap.size,2,none⟩ (.slice a1 (snE o).length c1) = u:=⟨_,rfl⟩
 rw [hu1] at hX1 hb1
 have hB01 : Below w0.heap.size w0 u1:=hB.trans (hb1.mono hB.size)
 have ow:=own_f t1 m1 a1 c1 (snE o) u1 (hE1.below hb1) hc1 (by omega)
 have k0:=hX1.cell 0
 have k1:=hX1.cell 1
 have k2:=hX1.cell 2
 simp at k0 k1 k2
 have HX01:=Lib.hid (HX0.out.below hB01 HX0.out.lt)
 have HB01:=Lib.hid (HB0.out.trans (hB01.mono HB0.out.size))
 have hsz : w.heap.size < u1.heap.size:=Nat.lt_of_lt_of_le (by rw [HZ0.out];omega) hB01.size
 have HSZ:=Lib.hid hsz
 clear hB hE1 hc1 hl1 e1 hB1 hXv hX1 hb1 hB01 hsz HX0 ht1 hm1
 go_wp2_with fail
 clear hv1 hu1 f0 f1 f2 q0 q1 q2 k0 k1 k2
 refine ow.mono ?_
 rintro e w2 ⟨a2,c2,rfl,hO,hB⟩
 have hX2:=HX01.out.below hB HX01.out.lt
 have f0:=hX2.free 0
 have f1:=hX2.free 1
 have f2:=hX2.free 2
 have q0:=hX2.cell 0
 have q1:=hX2.cell 1
 have q2:=hX2.cell 2
 simp at q0 q1 q2
 have hX3:=blk3 (v0:=.int .i64 t1) (v1:=.int .i64 m1) (v2:=.slice a2 (snE o).length c2) hX2
 have HF : Hid (OwnE (((w2.setCell ⟨w.heap.size,0,none⟩ (.int .i64 t1)).setCell ⟨w.heap.size,1,none⟩ (.int .i64 m1)).setCell ⟨w.heap.size,2,none⟩ (.slice a2 (snE o).length c2)) w.heap.size (.slice a2 (snE o).length c2) (snE o) ∧
   Below w.heap.size w (((w2.setCell ⟨w.heap.size,0,none⟩ (.int .i64 t1)).setCell ⟨w.heap.size,1,none⟩ (.int .i64 m1)).setCell ⟨w.heap.size,2,none⟩ (.slice a2 (snE o).length c2))):=Lib.hid
  ⟨(OwnE.base hO (by have:=HSZ.out;omega)).only (only3 (S:=fun k=>k = w.heap.size) (Only.refl _ _) (.inl rfl)) (fun j hj hk=>by have:=(hO.lt j hj).1;have:=HSZ.out;omega),below3 (HB01.out.trans (hB.mono HB01.out.size)) (Nat.le_refl _)⟩
 obtain ⟨u3,hu3⟩ : ∃ u,((w2.setCell ⟨w.heap.size,0,none⟩ (.int .i64 t1)).setCell ⟨w.heap.size,1,none⟩ (.int .i64 m1)).setCell ⟨w.heap.size,2,none⟩ (.slice a2 (snE o).length c2) = u:=⟨_,rfl⟩
 rw [hu3] at HF hX3
 have g0:=hX3.cell 0
 have g1:=hX3.cell 1
 have g2:=hX3.cell 2
 simp at g0 g1 g2
 clear hO hB hX2 hX3 ow HX01
 go_wp2_with fail
 exact bodyPost_ret (v:=.tuple #[.agg #[.int .i64 t1,.int .i64 m1,.slice a2 (snE o).length c2],.bool hv]) (by simp [results,Tryz.results40,go_sem,g0,g1,g2]) rfl ⟨a2,c2,by rw [HTM.out.1,HTM.out.2],HF.out⟩
theorem atK_mem {l : List Kpt} {i : Int} {k : Kpt} (h : atK l i = some k) : k ∈ l:=by
 unfold atK at h
 split at h
 ·cases h
 ·exact List.mem_of_getElem? h
set_option maxHeartbeats 1000000 in
theorem stat_f (T R : Nat) (l : List Kpt) (most floor : Int) (gone : Bool) (S : Nat → Prop) (i : Int) (w : World) (h : StAt w T R l most floor gone S) (hk : ∀ k ∈ l,k.sn.ents.length ≤ 64) :
  Calls Tryz.prog 90 #[.pointer (some ⟨T,0,none⟩),.int .i64 i] w fun e w'=>∃ a c,e = .returned (.tuple #[.agg #[.int .i64 (snT (atK l i)),.int .i64 (snM (atK l i)),.slice a (snE (atK l i)).length c],.int .i64 (atE (atK l i))]) ∧ OwnE w' w.heap.size (.slice a (snE (atK l i)).length c) (snE (atK l i)) ∧ Below w.heap.size w w':=by
 obtain ⟨w0,hw0⟩ : ∃ w0,w.alloc (.cells #[.int .i64 0,.int .i64 0,.slice none 0 0] 36) = w0:=⟨_,rfl⟩
 have hB0 : Below w.heap.size w w0:=by rw [← hw0];exact (Below.refl _ _).alloc (Nat.le_refl _) _
 have HX0 : Hid (Blk w0 w.heap.size #[.int .i64 0,.int .i64 0,.slice none 0 0] 36):=Lib.hid (by rw [← hw0];exact Blk.new _ _ _)
 have HZ0 : Hid (w0.heap.size = w.heap.size + 1):=Lib.hid (by rw [← hw0];simp)
 have h1:=h.below hB0
 have HB0:=Lib.hid hB0
 have gt:=rat_f R l most floor gone S i w0 h1.ring
 skip
 have HM : Hid (∀ k,(atK l i) = some k → k ∈ l):=Lib.hid (fun k hh=>atK_mem hh)
 obtain ⟨d0,d1⟩:=h1.cells
 have HS:=Lib.hid h1
 have HK:=Lib.hid hk
 clear h h1 hk hB0
 generalize atE (atK l i) = ev at *
 generalize atY (atK l i) = yv at *
 generalize (atK l i) = o at *
 go_enter Tryz.func90,Tryz.ntmps90
 go_wp2_with fail
 clear hw0
 refine gt.mono ?_
 rintro e w1 ⟨rfl,hB⟩
 clear gt d0 d1
 obtain ⟨a1,c1,e1,hE1,hc1,hl1,_⟩:=snS_ents (HS.out.below hB).ring HM.out HK.out
 rw [e1]
 obtain ⟨t1,ht1⟩ : ∃ t,snT o = t:=⟨_,rfl⟩
 obtain ⟨m1,hm1⟩ : ∃ t,snM o = t:=⟨_,rfl⟩
 rw [ht1,hm1]
 have HTM:=Lib.hid (And.intro ht1 hm1)
 obtain ⟨v1,hv1⟩ : ∃ v,w1.alloc (.cells #[.int .i64 0,.int .i64 0,.slice none 0 0] 36) = v:=⟨_,rfl⟩
 have hB1 : Below w1.heap.size w1 v1:=by rw [← hv1];exact (Below.refl _ _).alloc (Nat.le_refl _) _
 have hXv : Blk v1 w1.heap.size #[.int .i64 0,.int .i64 0,.slice none 0 0] 36:=by rw [← hv1];exact Blk.new _ _ _
 have f0:=hXv.free 0
 have f1:=hXv.free 1
 have f2:=hXv.free 2
 have q0:=hXv.cell 0
 have q1:=hXv.cell 1
 have q2:=hXv.cell 2
 simp at q0 q1 q2
 have hX1:=blk3 (v0:=.int .i64 t1) (v1:=.int .i64 m1) (v2:=.slice a1 (snE o).length c1) hXv
 have hb1:=below3 (v0:=.int .i64 t1) (v1:=.int .i64 m1) (v2:=.slice a1 (snE o).length c1) hB1 (Nat.le_refl _)
 obtain ⟨u1,hu1⟩ : ∃ u,((v1.setCell ⟨w1.heap.size,0,none⟩ (.int .i64 t1)).setCell ⟨w1.heap.size,1,none⟩ (.int .i64 m1)).setCell ⟨w1.heap.size,2,none⟩ (.slice a1 (snE o).length c1) = u:=⟨_,rfl⟩
 rw [hu1] at hX1 hb1
 have hB01 : Below w0.heap.size w0 u1:=hB.trans (hb1.mono hB.size)
 have ow:=own_f t1 m1 a1 c1 (snE o) u1 (hE1.below hb1) hc1 (by omega)
 have k0:=hX1.cell 0
 have k1:=hX1.cell 1
 have k2:=hX1.cell 2
 simp at k0 k1 k2
 have HX01:=Lib.hid (HX0.out.below hB01 HX0.out.lt)
 have HB01:=Lib.hid (HB0.out.trans (hB01.mono HB0.out.size))
 have hsz : w.heap.size < u1.heap.size:=Nat.lt_of_lt_of_le (by rw [HZ0.out];omega) hB01.size
 have HSZ:=Lib.hid hsz
 clear hB hE1 hc1 hl1 e1 hB1 hXv hX1 hb1 hB01 hsz HX0 ht1 hm1
 go_wp2_with fail
 clear hv1 hu1 f0 f1 f2 q0 q1 q2 k0 k1 k2
 refine ow.mono ?_
 rintro e w2 ⟨a2,c2,rfl,hO,hB⟩
 have hX2:=HX01.out.below hB HX01.out.lt
 have f0:=hX2.free 0
 have f1:=hX2.free 1
 have f2:=hX2.free 2
 have q0:=hX2.cell 0
 have q1:=hX2.cell 1
 have q2:=hX2.cell 2
 simp at q0 q1 q2
 have hX3:=blk3 (v0:=.int .i64 t1) (v1:=.int .i64 m1) (v2:=.slice a2 (snE o).length c2) hX2
 have HF : Hid (OwnE (((w2.setCell ⟨w.heap.size,0,none⟩ (.int .i64 t1)).setCell ⟨w.heap.size,1,none⟩ (.int .i64 m1)).setCell ⟨w.heap.size,2,none⟩ (.slice a2 (snE o).length c2)) w.heap.size (.slice a2 (snE o).length c2) (snE o) ∧
   Below w.heap.size w (((w2.setCell ⟨w.heap.size,0,none⟩ (.int .i64 t1)).setCell ⟨w.heap.size,1,none⟩ (.int .i64 m1)).setCell ⟨w.heap.size,2,none⟩ (.slice a2 (snE o).length c2))):=Lib.hid
  ⟨(OwnE.base hO (by have:=HSZ.out;omega)).only (only3 (S:=fun k=>k = w.heap.size) (Only.refl _ _) (.inl rfl)) (fun j hj hk=>by have:=(hO.lt j hj).1;have:=HSZ.out;omega),below3 (HB01.out.trans (hB.mono HB01.out.size)) (Nat.le_refl _)⟩
 obtain ⟨u3,hu3⟩ : ∃ u,((w2.setCell ⟨w.heap.size,0,none⟩ (.int .i64 t1)).setCell ⟨w.heap.size,1,none⟩ (.int .i64 m1)).setCell ⟨w.heap.size,2,none⟩ (.slice a2 (snE o).length c2) = u:=⟨_,rfl⟩
 rw [hu3] at HF hX3
 have g0:=hX3.cell 0
 have g1:=hX3.cell 1
 have g2:=hX3.cell 2
 simp at g0 g1 g2
 clear hO hB hX2 hX3 ow HX01
 go_wp2_with fail
 exact bodyPost_ret (v:=.tuple #[.agg #[.int .i64 t1,.int .i64 m1,.slice a2 (snE o).length c2],.int .i64 ev]) (by simp [results,Tryz.results90,go_sem,g0,g1,g2]) rfl ⟨a2,c2,by rw [HTM.out.1,HTM.out.2],HF.out⟩
set_option maxRecDepth 100000
theorem StAt.apart {w : World} {T R : Nat} {l : List Kpt} {most floor : Int} {gone : Bool} {S : Nat → Prop} (h : StAt w T R l most floor gone S) : RingAt w R l most floor gone (fun k=>S k ∧ k ≠ T):=by
 obtain ⟨⟨cs,hcs,hb⟩,⟨v,hp⟩,h3⟩:=h
 refine ⟨v,hp.blk,hp.row,hp.ents,⟨hp.sR,fun e=>?_⟩,fun j e=>⟨hp.sv j e,fun e2=>?_⟩,fun k hk j e=>⟨hp.se k hk j e,fun e2=>?_⟩,hp.up,hp.len⟩
 ·subst e
  have h1:=hp.blk
  unfold Blk at h1 hb
  have h2:=Option.some.inj (h1.symm.trans hb)
  injection h2 with _ h3
  exact absurd h3 (by decide)
 ·subst e2;exact ownsApart hp.row hb (by decide) e
 ·subst e2;exact ownsApart (hp.ents k hk).1 hb (by decide) e
theorem stcs_get (p m : Value) (cs : List Int) (n : Nat) : (#[p,m] ++ (cs.map (Value.int .i64)).toArray)[2 + n]? = (cs[n]?).map (Value.int .i64):=by
 rw [Array.getElem?_append_right (by simp)]
 simp
theorem stcs_set (p m : Value) (cs : List Int) (n : Nat) (c : Int) : (#[p,m] ++ (cs.map (Value.int .i64)).toArray).setIfInBounds (2 + n) (.int .i64 c) = #[p,m] ++ ((cs.set n c).map (Value.int .i64)).toArray:=by
 apply Array.ext'
 rw [Array.toList_setIfInBounds,Array.toList_append,Array.toList_append,List.map_set,show 2 + n = n + 1 + 1 by omega]
 rfl
theorem StAt.count {w : World} {T R : Nat} {l : List Kpt} {most floor : Int} {gone : Bool} {S : Nat → Prop} (h : StAt w T R l most floor gone S) {e : Int} (he : ErB e) :
  ∃ c : Int,w.cell? ⟨T,2 + e.toNat,none⟩ = some (.int .i64 c) ∧ w.frozen? ⟨T,2 + e.toNat,none⟩ = false ∧ ∀ c',StAt (w.setCell ⟨T,2 + e.toNat,none⟩ (.int .i64 c')) T R l most floor gone S:=by
 have ha:=h.apart
 obtain ⟨⟨cs,hcs,hb⟩,_,h3⟩:=h
 obtain ⟨e0,e1⟩:=he
 have hn : e.toNat < cs.length:=by omega
 refine ⟨cs[e.toNat],?_,hb.free _,fun c'=>⟨⟨cs.set e.toNat c',by rw [List.length_set];exact hcs,?_⟩,?_,h3⟩⟩
 ·rw [hb.cell,stcs_get,List.getElem?_eq_getElem hn];rfl
 ·rw [← stcs_set];exact hb.set _ _
 ·exact (ha.only (Only.setCell (S:=fun k=>k = T) (p:=⟨T,2 + e.toNat,none⟩) (Only.refl _ _) (.inl rfl) _) (fun k hk e=>hk.2 e)).weaken (fun k hk=>hk.1)
def LayR (l : List Kpt) (most floor : Int) (gone : Bool) (x : Kpt) (l' : List Kpt) (fl : Int) (g : Bool) : Prop:=(⟨l'.map (·.sn),fl,g⟩ : Rg) = layS most ⟨l.map (·.sn),floor,gone⟩ x.sn ∧ ∀ k ∈ l',k = x ∨ k ∈ l
def layV (most : Int) (r : Rg) (x : Sn) : Int × Bool:=if ((insS r.ss x).length : Int) ≤ most then (0,false) else (((insS r.ss x).headD sn0).tick,true)
def LayOk (R : Nat) (l : List Kpt) (most floor : Int) (gone : Bool) (S : Nat → Prop) (x : Kpt) (w : World) : Prop :=
 Calls Tryz.prog 78 #[.pointer (some ⟨R,0,none⟩),.int .i64 x.key,.agg #[.int .i64 x.sn.tick,.int .i64 x.sn.time,kpS x]] w fun e w'=>∃ (l' : List Kpt) (fl : Int) (g : Bool),e = .returned (.tuple #[.int .i64 (layV most ⟨l.map (·.sn),floor,gone⟩ x.sn).1,.bool (layV most ⟨l.map (·.sn),floor,gone⟩ x.sn).2,.int .i64 0]) ∧ RingAt w' R l' most fl g (fun k=>S k ∨ (w.heap.size ≤ k ∧ k < w'.heap.size)) ∧ Only S w w' ∧ LayR l most floor gone x l' fl g
def LayHyp (l : List Kpt) (most floor : Int) (gone : Bool) (sn : Sn) : Prop:=∀ (R : Nat) (S : Nat → Prop) (x : Kpt) (w : World),x.sn = sn → x.key = sn.tick → RingAt w R l most floor gone S → OwnE w 0 (kpS x) x.sn.ents → (∀ e ∈ x.sn.ents,e.Ok) → (∀ j,(kpS x).ownBlock = some j → S j) → LayOk R l most floor gone S x w
def AcI (u1 : World) (S2 : Nat → Prop) (R : Nat) (l : List Kpt) (most floor : Int) (gone : Bool) (sn : Sn) (b : List Value) (W : World) : Prop:=Only S2 u1 W ∧ match b with
 | []=>Below u1.heap.size u1 W
 | [v]=>Below u1.heap.size u1 W ∧ ∃ a c,v = .agg #[.int .i64 sn.tick,.int .i64 sn.time,.slice a sn.ents.length c] ∧ OwnE W u1.heap.size (.slice a sn.ents.length c) sn.ents
 | [v,u]=>∃ (l' : List Kpt) (fl : Int) (g : Bool) (x : Kpt),RingAt W R l' most fl g (fun k=>S2 k ∧ k < W.heap.size) ∧ x.sn = sn ∧ x.key = sn.tick ∧ LayR l most floor gone x l' fl g
 | _=>False
theorem AcI.below {u1 : World} {S2 : Nat → Prop} {R : Nat} {l : List Kpt} {most floor : Int} {gone : Bool} {sn : Sn} {b : List Value} {W W' : World} (h : AcI u1 S2 R l most floor gone sn b W) (hb : Below W.heap.size W W') : AcI u1 S2 R l most floor gone sn b W':=by
 obtain ⟨h1,h2⟩:=h
 refine ⟨h1.then_below hb,?_⟩
 match b,h2 with
 | [],h2=>exact h2.trans (hb.mono h2.size)
 | [v],⟨h2,a,c,e,ho⟩=>exact ⟨h2.trans (hb.mono h2.size),a,c,e,ho.below hb⟩
 | [v,u],⟨l',fl,g,x,hr,q⟩=>exact ⟨l',fl,g,x,(hr.below hb).weaken (fun k hk=>⟨hk.1,Nat.lt_of_lt_of_le hk.2 hb.size⟩),q⟩
def AccR (l : List Kpt) (most floor : Int) (gone : Bool) (z : Sn × Int) (l' : List Kpt) (fl : Int) (g : Bool) : Prop :=
 (z.2 ≠ 0 ∧ l' = l ∧ fl = floor ∧ g = gone) ∨ (z.2 = 0 ∧ ∃ x : Kpt,x.sn = z.1 ∧ x.key = z.1.tick ∧ LayR l most floor gone x l' fl g)
set_option maxHeartbeats 4000000 in
theorem staccept_f (T R : Nat) (l : List Kpt) (most floor : Int) (gone : Bool) (S : Nat → Prop) (a : Option Addr) (len cap : Nat) (zs : List Int) (w : World) (h0 : StAt w T R l most floor gone S) (hk64 : ∀ k ∈ l,k.sn.ents.length ≤ 64)
  (hz : BytesAt w a len zs) (hc : a = none → cap = 0) (hlc : len ≤ cap) (hl : (len : Int) ≤ 140737488355000)
  (hlay : (snapF l most floor gone zs).2 = 0 → LayHyp l most floor gone (snapF l most floor gone zs).1) (hok : ∀ e ∈ (snapF l most floor gone zs).1.ents,e.Ok) (hn : (snapF l most floor gone zs).1.ents.length ≤ 64) (her : ErB (snapF l most floor gone zs).2) :
  Calls Tryz.prog 39 #[.pointer (some ⟨T,0,none⟩),.slice a len cap] w fun e w'=>e = .returned (.tuple #[.int .i64 (if (snapF l most floor gone zs).2 = 0 then (snapF l most floor gone zs).1.tick else 0),.int .i64 (snapF l most floor gone zs).2]) ∧
   (∃ l' fl g,StAt w' T R l' most fl g (fun k=>S k ∨ (w.heap.size ≤ k ∧ k < w'.heap.size)) ∧ AccR l most floor gone (snapF l most floor gone zs) l' fl g) ∧ Only S w w':=by
 have hs:=snap_f T R l most floor gone S a len cap zs w h0 hk64 hz hc hlc hl (grRd_time hz.u8)
 have HSW:=Lib.hid h0.cap
 have HOK:=Lib.hid hok
 have HLAY:=Lib.hid hlay
 have HER:=Lib.hid her
 have HN:=Lib.hid hn
 clear hlay hok h0 hz her hn
 generalize snapF l most floor gone zs = z at *
 obtain ⟨tk,htk⟩ : ∃ t : Int,(if z.2 = 0 then z.1.tick else 0) = t:=⟨_,rfl⟩
 rw [htk]
 obtain ⟨⟨tick,time,ents⟩,er⟩:=z
 simp only at *
 have HTK:=Lib.hid htk
 clear htk
 go_enter Tryz.func39,Tryz.ntmps39
 go_wp2_with fail
 refine hs.mono ?_
 rintro e w1 ⟨v,rfl,hO,hB⟩
 clear hs
 obtain ⟨va,vc,rfl,_⟩:=hO.slice
 have hS1:=HSW.out.below hB
 obtain ⟨v1,hv1⟩ : ∃ v,w1.alloc (.cells #[.int .i64 0,.int .i64 0,.slice none 0 0] 36) = v:=⟨_,rfl⟩
 have hB1 : Below w1.heap.size w1 v1:=by rw [← hv1];exact (Below.refl _ _).alloc (Nat.le_refl _) _
 have hXv : Blk v1 w1.heap.size #[.int .i64 0,.int .i64 0,.slice none 0 0] 36:=by rw [← hv1];exact Blk.new _ _ _
 have f0:=hXv.free 0
 have f1:=hXv.free 1
 have f2:=hXv.free 2
 have q0:=hXv.cell 0
 have q1:=hXv.cell 1
 have q2:=hXv.cell 2
 simp at q0 q1 q2
 have hX1:=blk3 (v0:=.int .i64 tick) (v1:=.int .i64 time) (v2:=.slice va ents.length vc) hXv
 have hb1:=below3 (v0:=.int .i64 tick) (v1:=.int .i64 time) (v2:=.slice va ents.length vc) hB1 (Nat.le_refl _)
 obtain ⟨u1,hu1⟩ : ∃ u,((v1.setCell ⟨w1.heap.size,0,none⟩ (.int .i64 tick)).setCell ⟨w1.heap.size,1,none⟩ (.int .i64 time)).setCell ⟨w1.heap.size,2,none⟩ (.slice va ents.length vc) = u:=⟨_,rfl⟩
 rw [hu1] at hX1 hb1
 have HX1:=Lib.hid hX1
 have HS1:=Lib.hid (hS1.below hb1)
 have HB1:=Lib.hid (hB.trans (hb1.mono hB.size))
 have hE1 : EntsL u1 va ents ∧ (va = none → vc = 0):=by
  obtain ⟨a',c',e,h1,h2,_⟩:=(OwnE.below hO hb1).ents HOK.out
  cases e;exact ⟨h1,h2⟩
 have HE1:=Lib.hid hE1
 have HSZ : Hid (w.heap.size ≤ w1.heap.size ∧ w1.heap.size < u1.heap.size):=Lib.hid ⟨hB.size,hX1.lt⟩
 clear hO hB hS1 hB1 hXv hX1 hb1 hE1
 by_cases her : er = 0
 ·subst her
  obtain rfl : tick = tk:=by have:=HTK.out;simpa using this
  obtain ⟨d0,d1⟩:=HS1.out.cells
  have x0:=HX1.out.cell 0
  have x1:=HX1.out.cell 1
  have x2:=HX1.out.cell 2
  simp at x0 x1 x2
  have HI : Hid (AcI u1 (fun k=>(S k ∧ k < w.heap.size ∧ k ≠ T) ∨ u1.heap.size ≤ k) R l most floor gone ⟨tick,time,ents⟩ [] u1.drew):=Lib.hid ⟨Only.of_below (below_drewN (Below.refl _ _) 1),below_drewN (Below.refl _ _) 1⟩
  have HT : Hid (T < w.heap.size):=Lib.hid HSW.out.sT.2
  have HKEEP : Hid (∀ b W,AcI u1 (fun k=>(S k ∧ k < w.heap.size ∧ k ≠ T) ∨ u1.heap.size ≤ k) R l most floor gone ⟨tick,time,ents⟩ b W → W.cell? ⟨T,0,none⟩ = some (.pointer (some ⟨R,0,none⟩)) ∧ W.cell? ⟨w1.heap.size,0,none⟩ = some (.int .i64 tick) ∧ W.cell? ⟨w1.heap.size,1,none⟩ = some (.int .i64 time) ∧ W.cell? ⟨w1.heap.size,2,none⟩ = some (.slice va ents.length vc)):=Lib.hid (fun b W hW=>by
   have hh : ∀ k o,k < u1.heap.size → ¬ ((S k ∧ k < w.heap.size ∧ k ≠ T) ∨ u1.heap.size ≤ k) → W.cell? ⟨k,o,none⟩ = u1.cell? ⟨k,o,none⟩:=fun k o h1 h2=>by
    simp only [World.cell?];rw [hW.1.block k h1 h2]
   have a1:=HT.out;have a2:=HSZ.out
   refine ⟨(hh T 0 (by omega) (by omega)).trans d0,(hh _ 0 (by omega) (by omega)).trans x0,(hh _ 1 (by omega) (by omega)).trans x1,(hh _ 2 (by omega) (by omega)).trans x2⟩)
  obtain ⟨av,bv,hlv⟩ : ∃ av bv,layV most ⟨l.map (·.sn),floor,gone⟩ ⟨tick,time,ents⟩ = (av,bv):=⟨_,_,rfl⟩
  have HLV:=Lib.hid hlv
  clear hlv
  go_wp2_with fail
  clear hv1 hu1 f0 f1 f2 q0 q1 q2 d0 d1 x0 x1 x2
  apply wp_region_chain 13 [7,8] (AcI u1 (fun k=>(S k ∧ k < w.heap.size ∧ k ≠ T) ∨ u1.heap.size ≤ k) R l most floor gone ⟨tick,time,ents⟩)
  case hm=>kernel_rfl
  case hB=>kernel_rfl
  case hp=>kernel_rfl
  case hI=>exact HI.out
  simp only [List.take_succ_cons,List.take_zero,List.drop_succ_cons,List.drop_zero]
  repeat (apply wpChain_fix;(next=>rfl);(next=>(intro b W hW K hK;obtain ⟨y0,y1,y2,y3⟩:=HKEEP.out _ _ hW;go_simp;first | exact ⟨hW,hK⟩ | exact hK));(next=>exact ⟨_,HI.out⟩);(try go_simp))
  apply wpChain_one (s:=fun _=>True)
  case hk=>rfl
  case hne=>exact ⟨undef,trivial⟩
  case hw=>rfl
  case h =>
   intro W hW
   have hW2 : Below u1.heap.size u1 W:=hW.2
   have ow:=own_f tick time va vc ents W (HE1.out.1.below hW2) HE1.out.2 (by have:=HN.out;omega)
   have HW:=Lib.hid hW
   clear hW hW2
   go_simp
   refine ow.mono ?_
   rintro e w2 ⟨a2,c2,rfl,hO,hB⟩
   have hAc:=AcI.below HW.out hB
   first | refine ⟨_,rfl,?_⟩ | refine ⟨_,rfl,trivial,?_⟩
   exact ⟨hAc.1,hAc.2,a2,c2,rfl,OwnE.base hO (Below.size (show Below u1.heap.size u1 W from HW.out.2))⟩
  intro v2 _
  repeat (apply wpChain_fix;(next=>rfl);(next=>(intro b W hW K hK;obtain ⟨y0,y1,y2,y3⟩:=HKEEP.out _ _ hW;go_simp;first | exact ⟨hW,hK⟩ | exact hK));(next=>exact ⟨_,HI.out⟩);(try go_simp))
  apply wpChain_one (s:=fun v=>v = .tuple #[.int .i64 av,.bool bv,.int .i64 0])
  case hk=>rfl
  case hne=>exact ⟨_,rfl⟩
  case hw=>rfl
  case h =>
   intro W hW
   obtain ⟨hO,hb,a2,c2,rfl,hOw⟩:=hW
   have hS2:=(HS1.out.below hb).apart.weaken (S':=fun k=>((S k ∧ k < w.heap.size ∧ k ≠ T) ∨ u1.heap.size ≤ k)) (fun k hk=>.inl ⟨hk.1.1,hk.1.2,hk.2⟩)
   have ly:=HLAY.out trivial R _ ⟨tick,⟨tick,time,ents⟩,a2,c2⟩ W rfl rfl hS2 (OwnE.base hOw (Nat.zero_le _)) HOK.out (fun j hj=>.inr (hOw.lt j hj).1)
   have HO:=Lib.hid hO
   have hbs:=hb.size
   clear hO hb hOw hS2
   unfold LayOk kpS at ly
   simp only [HLV.out] at ly
   go_simp
   refine ly.mono ?_
   rintro e w2 ⟨l',fl,g,rfl,hR,hO2,hLR⟩
   first | refine ⟨_,rfl,rfl,?_⟩ | refine ⟨_,rfl,trivial,?_⟩ | refine ⟨_,rfl,?_⟩
   exact ⟨HO.out.trans hO2,l',fl,g,_,hR.cap.weaken (fun k hk=>⟨by rcases hk.1 with h | h;exact h;exact .inr (by omega),hk.2⟩),rfl,rfl,hLR⟩
  intro v3 hv3
  obtain rfl:=hv3
  try go_simp
  repeat (apply wpChain_fix;(next=>rfl);(next=>(intro b W hW K hK;obtain ⟨y0,y1,y2,y3⟩:=HKEEP.out _ _ hW;go_simp;first | exact ⟨hW,hK⟩ | exact hK));(next=>exact ⟨_,HI.out⟩);(try go_simp))
  refine wpChain_nil ?_
  intro W hW
  have HK:=Lib.hid (HKEEP.out _ W hW)
  obtain ⟨hO,l',fl,g,x,hR,hx1,hx2,hLR⟩:=hW
  have hT:=HT.out
  have hsz:=HSZ.out
  have hosz:=hO.size
  have hST : StAt W T R l' most fl g (fun k=>S k ∨ (w.heap.size ≤ k ∧ k < W.heap.size)):=by
   obtain ⟨cs,hcs,hb⟩:=HS1.out.blk
   refine ⟨⟨cs,hcs,hO.blk hb (by omega)⟩,hR.weaken (fun k hk=>?_),.inl HSW.out.sT.1⟩
   rcases hk.1 with h | h
   ·exact .inl h.1
   ·exact .inr ⟨by omega,hk.2⟩
  have HON : Hid (Only S w W):=Lib.hid ((Only.of_below (S:=S) HB1.out).trans_new hO (fun i hi h=>by rcases h with h | h;exact h.1;omega))
  have HLR:=Lib.hid (And.intro hx1 (And.intro hx2 hLR))
  have HST:=Lib.hid hST
  clear hO hR hx1 hx2 hLR HI hST hosz
  obtain ⟨c,hc0,hf0,hset⟩:=HST.out.count ErB.zero
  simp at hc0 hf0
  obtain ⟨kt,kx0,kx1,kx2⟩:=HK.out
  go_wp2_with fail
  refine wp_region_calm 9 (by kernel_rfl) (by kernel_rfl) ?_
  simp only [List.take_succ_cons,List.take_zero,List.drop_succ_cons,List.drop_zero]
  repeat (apply wpCalm_step;(next=>(intro W hW K hK;have y0:=hW.cell kt;have y1:=hW.cell kx0;have y2:=hW.cell kx1;have y3:=hW.cell kx2;have y4:=hW.cell hc0;go_simp;first | exact ⟨hW,hK⟩ | exact hK));(next=>exact CalmI.self _);(try go_simp))
  refine wpCalm_nil ?_
  intro WC hWC
  have hWB : Below W.heap.size W WC:=hWC
  have hSC:=HST.out.below hWB
  obtain ⟨c',hc2,hf2,hset2⟩:=hSC.count ErB.zero
  simp at hc2 hf2 hset2
  have kx:=hWC.cell kx0
  have hc3:=hWC.cell hc0
  have hw1l:=HSZ.out
  have hTl:=HT.out
  have hne1 : ¬ w1.heap.size = T:=by omega
  have hne2 : ¬ T = w1.heap.size:=by omega
  have HF : Hid (∀ v,StAt (WC.setCell ⟨T,2,none⟩ (.int .i64 v)) T R l' most fl g (fun k=>S k ∨ (w.heap.size ≤ k ∧ k < (WC.setCell ⟨T,2,none⟩ (.int .i64 v)).heap.size)) ∧ Only S w (WC.setCell ⟨T,2,none⟩ (.int .i64 v))):=Lib.hid (fun v=>⟨(hset2 v).weaken (fun k hk=>by
   rcases hk with h | h
   ·exact .inl h
   ·exact .inr ⟨h.1,by have:=hWB.size;simp [World.setCell];omega⟩),(HON.out.then_below hWB).setCell (p:=⟨T,2,none⟩) (.inl HSW.out.sT.1) _⟩)
  clear hWC hWB hSC kt kx0 kx1 kx2 hc0 hf0 hset HK hset2 hc2
  go_wp2_with fail
  exact bodyPost_ret (v:=.tuple #[.int .i64 tick,.int .i64 0]) (by simp [results,Tryz.results39,go_sem]) rfl ⟨rfl,⟨l',fl,g,(HF.out _).1,.inr ⟨rfl,x,HLR.out.1,HLR.out.2.1,HLR.out.2.2⟩⟩,(HF.out _).2⟩
 ·have hen : (er == 0) = false:=by simpa using her
  have hen2 : (er != 0) = true:=by simpa using her
  obtain ⟨c,hc0,hf0,hset⟩:=HS1.out.count HER.out
  obtain ⟨d0,d1⟩:=HS1.out.cells
  have hb1 : ¬ er < 0:=by have:=HER.out.1;omega
  have hb2 : er < 18:=by have:=HER.out.2;omega
  go_wp2_with fail
  clear hv1 hu1 f0 f1 f2 q0 q1 q2
  refine wp_region_calm 9 (by kernel_rfl) (by kernel_rfl) ?_
  simp only [List.take_succ_cons,List.take_zero,List.drop_succ_cons,List.drop_zero]
  repeat (apply wpCalm_step;(next=>(intro W hW K hK;have y0:=hW.cell d0;have y1:=hW.cell d1;have y2:=hW.cell hc0;go_simp;first | exact ⟨hW,hK⟩ | exact hK));(next=>exact CalmI.self _);(try go_simp))
  refine wpCalm_nil ?_
  intro WC hWC
  have hWB : Below u1.heap.size u1 WC:=hWC
  have hSC:=HS1.out.below hWB
  obtain ⟨c',hc2,hf2,hset2⟩:=hSC.count HER.out
  have hc3:=hWC.cell hc0
  have HF : Hid (∀ v,StAt (WC.setCell ⟨T,2 + er.toNat,none⟩ (.int .i64 v)) T R l most floor gone (fun k=>S k ∨ (w.heap.size ≤ k ∧ k < (WC.setCell ⟨T,2 + er.toNat,none⟩ (.int .i64 v)).heap.size)) ∧ Only S w (WC.setCell ⟨T,2 + er.toNat,none⟩ (.int .i64 v))):=Lib.hid (fun v=>⟨(hset2 v).weaken (fun k hk=>.inl hk.1),(Only.of_below (HB1.out.trans (hWB.mono HB1.out.size))).setCell (p:=⟨T,2 + er.toNat,none⟩) (.inl HSW.out.sT.1) _⟩)
  have htk : tk = 0:=by rw [← HTK.out,if_neg her]
  subst htk
  have HNE:=Lib.hid her
  clear hWC hWB hSC d0 d1 hc0 hf0 hset hset2 hc2 her
  go_wp2_with fail
  exact bodyPost_ret (v:=.tuple #[.int .i64 0,.int .i64 er]) (by simp [results,Tryz.results39,go_sem]) rfl ⟨rfl,⟨l,floor,gone,(HF.out _).1,.inl ⟨HNE.out,rfl,rfl,rfl⟩⟩,(HF.out _).2⟩
end Go.Proofs.YtklkooeimkedgaaGreat
