/- Parts of the walk of TopOrders: Kals, Plain4, Tell2, Full1, Full2, Store5, Accept1. -/
import Derived.Test.YtklkooeimkedgaaGreatO0
import Derived.Test.YtklkooeimkedgaaGreatO28
import Derived.Test.YtklkooeimkedgaaGreatO36
import Derived.Test.YtklkooeimkedgaaGreatO39
import Derived.Test.YtklkooeimkedgaaGreatO44
set_option linter.unusedVariables false
set_option linter.unusedSimpArgs false
namespace Go.Proofs.YtklkooeimkedgaaGreat
open Go.RowKit
def sU (k : aG) : Int × Sn:=(k.key,k.sn)
def Al (l l' : List aG) : Prop:=l.map sU = l'.map sU
def fC (s : Sn) : aG:=⟨s.tick,s,none,0⟩
theorem Al.len {l l' : List aG} (h : Al l l') : l.length = l'.length:=by
 have:=congrArg List.length h
 simpa using this
theorem Al.nth {l l' : List aG} (h : Al l l') (i : Nat) : (l[i]?).map sU = (l'[i]?).map sU:=by
 have:=congrArg (λm : List (Int × Sn)=>m[i]?) h
 simpa using this
theorem Al.cnt : ∀ {l l' : List aG},Al l l' -> ∀ key,dz l key = dz l' key
 | [],[],_,key=>rfl
 | [],_ :: _,h,key=>by simp [Al] at h
 | _ :: _,[],h,key=>by simp [Al] at h
 | x :: l,y :: l',h,key=>by
  simp only [Al,List.map_cons,List.cons.injEq] at h
  obtain ⟨h1,h2⟩:=h
  have hk : x.key = y.key:=congrArg Prod.fst h1
  have:=Al.cnt (l:=l) (l':=l') h2 key
  unfold dz at *
  by_cases hx : x.key < key
  ·rw [List.takeWhile_cons_of_pos (by simpa using hx),List.takeWhile_cons_of_pos (by simpa [← hk] using hx),List.length_cons,List.length_cons,this]
  ·rw [List.takeWhile_cons_of_neg (by simpa using hx),List.takeWhile_cons_of_neg (by simpa [← hk] using hx)]
theorem Yd {o o' : Option aG} (h : o.map sU = o'.map sU) (key : Int) : o.elim false (λk=>k.key == key) = o'.elim false (λk=>k.key == key):=by
 cases o <;> cases o' <;> simp_all [sU]
theorem Al.has {l l' : List aG} (h : Al l l') (key : Int) : dY l key = dY l' key:=by
 unfold dY
 rw [h.cnt key]
 exact Yd (h.nth _) key
theorem Al.unt {l l' : List aG} (h : Al l l') (key : Int) : dZ l key = dZ l' key:=by
 unfold dZ;rw [h.has,h.cnt]
theorem Al.get {l l' : List aG} (h : Al l l') (key : Int) : (eO l key).map sU = (eO l' key).map sU:=by
 unfold eO
 rw [h.has,h.cnt]
 split
 ·exact h.nth _
 ·rfl
theorem Al.at {l l' : List aG} (h : Al l l') (i : Int) : (fq l i).map sU = (fq l' i).map sU:=by
 unfold fq
 split
 ·rfl
 ·exact h.nth _
theorem Vl {o o' : Option aG} (h : o.map sU = o'.map sU) : jg o = jg o':=by
 cases o <;> cases o' <;> simp_all [jg,sU,uZ,mW,iw]
theorem CY {o o' : Option aG} (h : o.map sU = o'.map sU) : qZ o = qZ o' /\ mW o = mW o':=by
 cases o <;> cases o' <;> simp_all [sU,qZ,mW]
theorem Al.stale {l l' : List aG} (h : Al l l') (most floor : Int) (gone : Bool) (tick : Int) : gQ l most floor gone tick = gQ l' most floor gone tick:=by
 unfold gQ;rw [h.unt,h.len]
theorem Al.timely {l l' : List aG} (h : Al l l') (tick time : Int) : fQ l tick time = fQ l' tick time:=by
 unfold fQ
 rw [h.unt,(CY (h.at _)).1,(CY (h.at _)).2,(CY (h.at (dZ l' tick))).1,(CY (h.at (dZ l' tick))).2]
theorem Al.snap {l l' : List aG} (h : Al l l') (most floor : Int) (gone : Bool) (zs : List Int) : eG l most floor gone zs = eG l' most floor gone zs:=by
 unfold eG
 rw [show sD l most floor gone (bF zs).1.tick (bF zs).1.base = sD l' most floor gone (bF zs).1.tick (bF zs).1.base by unfold sD;rw [h.has,h.has,h.stale],Vl (h.get (bF zs).1.base),h.timely]
theorem SX {l : List aG} (h : ∀ k ∈ l,k.key = k.sn.tick) : Al l ((l.map (·.sn)).map fC):=by
 unfold Al
 rw [List.map_map,List.map_map]
 refine List.map_congr_left λk hk=>?_
 simp [sU,fC,h k hk]
def fF (ss : List Sn) (x : Sn) : List Sn:=ss.takeWhile (λs=>decide (s.tick < x.tick)) ++ x :: ss.dropWhile (λs=>decide (s.tick < x.tick))
structure Rg where
 ss : List Sn
 floor : Int
 gone : Bool
def jK (most : Int) (r : Rg) (x : Sn) : Rg :=
 if ((fF r.ss x).length : Int) <= most then ⟨fF r.ss x,r.floor,r.gone⟩ else ⟨(fF r.ss x).drop 1,((fF r.ss x).headD eT).tick,true⟩
def gu (most : Int) (r : Rg) (zs : List Int) : Sn × Int:=eG (r.ss.map fC) most r.floor r.gone zs
theorem KV : ∀ {ss : List Sn} {x : Sn},(∀ s ∈ ss,s.tick < x.tick) -> fF ss x = ss ++ [x]
 | [],x,_=>rfl
 | y :: ss,x,h=>by
  have h1:=KV (ss:=ss) (x:=x) (λs hs=>h s (List.mem_cons_of_mem _ hs))
  have hy:=h y (List.mem_cons_self ..)
  unfold fF at h1 ⊢
  rw [List.takeWhile_cons_of_pos (by simpa using hy),List.dropWhile_cons_of_pos (by simpa using hy),List.cons_append,h1,List.cons_append]
theorem El {a : Sn} {g : Gr} (h : (jr a g).2 = 0) : dF g = 0 /\ (jr a g).1.tick = g.tick /\ (jr a g).1.time = g.time:=by
 unfold jr at h ⊢
 split at h
 ·rename_i hh;exact absurd h hh
 ·rename_i hh
  rw [if_neg hh]
  refine ⟨by simpa using hh,?_⟩
  have key : ∀ l,(fE g l).2 = 0 -> (fE g l).1.tick = g.tick /\ (fE g l).1.time = g.time:=by
   intro l hl
   unfold fE at hl ⊢
   cases hx : kR l g.recs with
   | none=>rw [hx] at hl;cases hl
   | some l' =>
    rw [hx] at hl
    simp only at hl ⊢
    split at hl
    ·cases hl
    ·rename_i hy;rw [if_neg hy];exact ⟨rfl,rfl⟩
  split at h
  ·rename_i hb
   rw [if_pos hb]
   split at h
   ·rename_i hc;exact absurd h hc
   ·rename_i hc
    rw [if_neg hc]
    split at h
    ·cases h
    ·rename_i ht
     rw [if_neg ht]
     exact key _ h
  ·rename_i hb
   rw [if_neg hb]
   exact key _ h
theorem vF (E : Nat -> ay) : ∀ (n i : Nat),jG E n i = 0 ↔ ∀ j,i <= j -> j < i + n -> 0 <= (E j).id /\ (E j).id <= 65535 /\ (0 < j -> (E (j - 1)).id < (E j).id)
 | 0,i=>⟨λ_ j h1 h2=>by omega,λ_=>rfl⟩
 | n + 1,i=>by
  unfold jG
  constructor
  ·intro h j h1 h2
   split at h
   ·cases h
   split at h
   ·cases h
   rename_i a b
   by_cases hj : j = i
   ·subst hj;exact ⟨by omega,by omega,λhp=>by omega⟩
   ·exact (vF E n (i + 1)).1 h j (by omega) (by omega)
  ·intro h
   have h0:=h i (Nat.le_refl _) (by omega)
   rw [if_neg (by omega),if_neg (by intro hh;have:=h0.2.2 hh.1;omega)]
   exact (vF E n (i + 1)).2 (λj h1 h2=>h j (by omega) (by omega))
structure pI (s : Sn) : Prop where
 tick : 0 <= s.tick /\ s.tick <= 4294967295
 time : -2305843009213693952 <= s.time /\ s.time <= 2305843009213693952
 len : s.ents.length <= 64
 ids : ∀ e ∈ s.ents,0 <= e.id /\ e.id <= 65535
 up : s.ents.Pairwise (λa b=>a.id < b.id)
theorem getD_get {es : List ay} {i : Nat} (h : i < es.length) : es.getD i bS = es[i]:=by simp [List.getD,h]
theorem Au : ∀ {es : List ay},(∀ i,0 < i -> (h : i < es.length) -> (es[i - 1]).id < (es[i]).id) -> es.Pairwise (λa b=>a.id < b.id)
 | [],_=>List.Pairwise.nil
 | [x],_=>List.pairwise_singleton _ _
 | x :: y :: es,h=>by
  have ih:=Au (es:=y :: es) (λi hi hl=>by
   have:=h (i + 1) (by omega) (by simp at hl ⊢;omega)
   obtain ⟨j,rfl⟩ : ∃ j,i = j + 1:=⟨i - 1,by omega⟩
   simpa using this)
  have hxy : x.id < y.id:=h 1 (by omega) (by simp)
  refine List.pairwise_cons.2 ⟨λz hz=>?_,ih⟩
  rcases List.mem_cons.1 hz with rfl | hz
  ·exact hxy
  ·exact Int.lt_trans hxy ((List.pairwise_cons.1 ih).1 z hz)
theorem jL {s : Sn} : gM s = 0 ↔ pI s:=by
 unfold gM dJ
 constructor
 ·intro h
  split at h
  ·cases h
  split at h
  ·cases h
  rename_i a b
  have h2:=(vF _ _ _).1 h
  refine ⟨by omega,by omega,by omega,λe he=>?_,Au λi hi hl=>?_⟩
  ·obtain ⟨i,hi,rfl⟩:=List.mem_iff_getElem.1 he
   have:=h2 i (by omega) (by omega)
   rw [getD_get hi] at this
   exact ⟨this.1,this.2.1⟩
  ·have:=(h2 i (by omega) (by omega)).2.2 hi
   rwa [getD_get hl,getD_get (show i - 1 < s.ents.length by omega)] at this
 ·intro h
  rw [if_neg (by have:=h.tick;have:=h.time;omega),if_neg (by have:=h.len;omega)]
  refine (vF _ _ _).2 λj _ hj=>?_
  have hj' : j < s.ents.length:=by omega
  have hi:=h.ids _ (List.getElem_mem hj')
  rw [getD_get hj']
  refine ⟨hi.1,hi.2,λhp=>?_⟩
  rw [getD_get (show j - 1 < s.ents.length by omega)]
  exact List.pairwise_iff_getElem.1 h.up (j - 1) j (by omega) hj' (by omega)
theorem DN : ∀ (n : Nat) {last : Int} {s : aH},-1 <= last -> last <= 65535 -> aX s.1 -> ∀ r ∈ (gH n last s).1,r.Ok
 | 0,last,s,_,_,_,r,hr=>by simp [gH] at hr
 | n + 1,last,s,h1,h2,h,r,hr=>by
  rw [gH] at hr
  split at hr
  ·simp at hr
  ·rename_i hh
   have hk:=Km h1 h2 h (by simpa using hh)
   rcases List.mem_cons.1 hr with rfl | hr
   ·exact hk.1
   ·exact DN n (by omega) (by omega) hk.2.1 r hr
theorem SY {zs : List Int} (h : aX zs) : ∀ r ∈ (bF zs).1.recs,r.Ok:=by
 unfold bF
 split
 ·simp [oN]
 split
 ·simp [oN]
 rename_i x hx
 split
 ·simp [oN]
 ·exact DN _ (by decide) (by decide) (iY (iY (by
   unfold iL;simp only;split
   ·exact j6 (iY (nU (nU (Ce h hx))))
   ·exact j6 (iY (nU (nU (Ce h hx)))))))
theorem S9 {l l' : List ay} {r : Rec} (h : je l r = some l') (hc : dI r = 0) (hl : ∀ e ∈ l,0 <= e.id /\ e.id <= 65535) (hn : (l.map (·.id)).Nodup) : (∀ e ∈ l',0 <= e.id /\ e.id <= 65535) /\ (l'.map (·.id)).Nodup:=by
 have hr : 0 <= r.id /\ r.id <= 65535:=by
  unfold dI at hc
  split at hc
  ·cases hc
  split at hc
  ·cases hc
  omega
 have put : ∀ e : ay,e.id = r.id -> (∀ x ∈ fJ l e,0 <= x.id /\ x.id <= 65535) /\ ((fJ l e).map (·.id)).Nodup:=λe he =>
  ⟨λx hx=>by rcases wI hx with h | h;exact hl x h;subst h;omega,zR hn⟩
 unfold je at h
 cases hf : eF l r.id with
 | some x =>
  rw [hf] at h
  simp only at h
  have hx:=xK hf
  split at h
  ·cases h
  rename_i hk
  split at h
  ·cases h
   exact ⟨λe he=>hl e (List.mem_filter.1 he).1,hn.sublist (List.Sublist.map _ List.filter_sublist)⟩
  ·rename_i hk2
   cases h
   exact put _ (BG hc hx.2 hk hk2)
 | none =>
  rw [hf] at h
  simp only at h
  split at h
  ·cases h;exact put _ rfl
  ·cases h
theorem Ir : ∀ (rs : List Rec) {l l' : List ay},kR l rs = some l' -> (∀ r ∈ rs,dI r = 0) -> (∀ e ∈ l,0 <= e.id /\ e.id <= 65535) -> (l.map (·.id)).Nodup -> (∀ e ∈ l',0 <= e.id /\ e.id <= 65535) /\ (l'.map (·.id)).Nodup
 | [],l,l',h,_,hl,hn=>by cases h;exact ⟨hl,hn⟩
 | r :: rs,l,l',h,hc,hl,hn=>by
  unfold kR at h
  cases hx : je l r with
  | none=>rw [hx] at h;cases h
  | some l1 =>
   rw [hx] at h
   have h1:=S9 hx (hc r (by simp)) hl hn
   exact Ir rs h (λr hr=>hc r (by simp [hr])) h1.1 h1.2
theorem Ta {es : List ay} : ∀ e ∈ ko es,e ∈ es:=by
 have : ∀ (es l : List ay),∀ e ∈ es.foldl fJ l,e ∈ l \/ e ∈ es:=by
  intro es
  induction es with
  | nil=>intro l e h;exact .inl h
  | cons x es ih =>
   intro l e h
   rcases ih _ e h with h | h
   ·rcases wI h with h | h
    ·exact .inl h
    ·exact .inr (by simp [h])
   ·exact .inr (by simp [h])
 intro e h
 rcases this es [] e h with h | h
 ·simp at h
 ·exact h
theorem Md (es : List ay) : ((ko es).map (·.id)).Nodup:=by
 have : ∀ (es l : List ay),(l.map (·.id)).Nodup -> ((es.foldl fJ l).map (·.id)).Nodup:=by
  intro es
  induction es with
  | nil=>intro l h;exact h
  | cons x es ih=>intro l h;exact ih _ (zR h)
 exact this es [] (by simp)
theorem Vm {a : Sn} {g : Gr} (h : (jr a g).2 = 0) : pI (jr a g).1:=by
 have ht:=El h
 have hb:=ht.1
 have hc:=Fx hb
 have hh : ¬ iB g.tick g.time g.base g.recs.length ≠ 0:=by
  intro hn
  unfold dF at hb
  rw [if_pos hn] at hb
  exact hn hb
 have hh' : iB g.tick g.time g.base g.recs.length = 0:=Decidable.of_not_not hh
 have hr : 0 <= g.tick /\ g.tick <= 4294967295 /\ -2305843009213693952 <= g.time /\ g.time <= 2305843009213693952:=by
  unfold iB at hh'
  split at hh'
  ·cases hh'
  ·omega
 have key : ∀ l : List ay,(fE g l).2 = 0 -> (∀ e ∈ l,0 <= e.id /\ e.id <= 65535) -> (l.map (·.id)).Nodup -> pI (fE g l).1:=by
  intro l hl h1 h2
  unfold fE at hl ⊢
  cases hx : kR l g.recs with
  | none=>rw [hx] at hl;cases hl
  | some l' =>
   rw [hx] at hl
   simp only at hl ⊢
   split at hl
   ·cases hl
   ·rename_i hy
    rw [if_neg hy]
    have h3:=Ir g.recs hx hc h1 h2
    have hp:=xL l'
    have hn : ((uQ l').map (·.id)).Nodup:=(hp.map (·.id)).nodup_iff.2 h3.2
    refine ⟨⟨hr.1,hr.2.1⟩,⟨hr.2.2.1,hr.2.2.2⟩,by simp only;rw [hp.length_eq];omega,λe he=>h3.1 e (hp.mem_iff.1 he),?_⟩
    have hs:=Nc l'
    unfold Eb at hs
    have h4 : (uQ l').Pairwise (λa b=>a.id ≠ b.id):=List.pairwise_map.1 hn
    exact (List.Pairwise.and hs h4).imp (λ⟨a,b⟩=>by omega)
 unfold jr at h ⊢
 rw [if_neg (by simpa using hb)] at h ⊢
 split at h
 ·rename_i hbs
  rw [if_pos hbs]
  split at h
  ·rename_i hq;exact absurd h hq
  ·rename_i hq
   rw [if_neg hq]
   split at h
   ·cases h
   ·rename_i hq2
    rw [if_neg hq2]
    have ha:=jL.1 (by simpa using hq : gM a = 0)
    exact key _ h (λe he=>ha.ids e (Ta e he)) (Md _)
 ·rename_i hbs
  rw [if_neg hbs]
  exact key _ h (by simp) (by simp)
theorem Vn {a : Sn} {g : Gr} (ha : ∀ e ∈ a.ents,e.Ok) (hg : ∀ r ∈ g.recs,r.Ok) : ∀ e ∈ (jr a g).1.ents,e.Ok:=by
 have key : ∀ l : List ay,(∀ e ∈ l,e.Ok) -> ∀ e ∈ (fE g l).1.ents,e.Ok:=by
  intro l hl
  unfold fE
  cases hx : kR l g.recs with
  | none=>simp [eT]
  | some l' =>
   simp only
   split
   ·simp [eT]
   ·exact λe he=>Kt g.recs hx hl hg e ((xL l').mem_iff.1 he)
 unfold jr
 split
 ·simp [eT]
 split
 ·split
  ·simp [eT]
  split
  ·simp [eT]
  ·exact key _ (Ku ha)
 ·exact key _ (by simp)
theorem FK (E : Nat -> ay) : ∀ n i,dO (jG E n i)
 | 0,_=>dO.zero
 | n + 1,i=>by
  unfold jG
  split
  ·exact ⟨by decide,by decide⟩
  split
  ·exact ⟨by decide,by decide⟩
  ·exact FK E n _
theorem Tc (s : Sn) : dO (gM s):=by
 unfold gM dJ
 split
 ·exact ⟨by decide,by decide⟩
 split
 ·exact ⟨by decide,by decide⟩
 ·exact FK _ _ _
theorem Pf (r : Rec) : dO (dI r):=by
 unfold dI
 split
 ·exact ⟨by decide,by decide⟩
 split
 ·exact ⟨by decide,by decide⟩
 split <;> exact ⟨by decide,by decide⟩
theorem Iu : ∀ (rs : List Rec) (last : Int),dO (lU last rs)
 | [],_=>dO.zero
 | r :: rs,last=>by
  unfold lU
  split
  ·unfold iq
   split
   ·exact Pf r
   split
   ·exact ⟨by decide,by decide⟩
   split <;> exact ⟨by decide,by decide⟩
  ·exact Iu rs _
theorem Pg (g : Gr) : dO (dF g):=by
 unfold dF
 split
 ·unfold iB
  split
  ·exact ⟨by decide,by decide⟩
  split
  ·exact ⟨by decide,by decide⟩
  split <;> exact ⟨by decide,by decide⟩
 ·exact Iu _ _
theorem Ye (a : Sn) (g : Gr) : dO (jr a g).2:=by
 have key : ∀ l,dO (fE g l).2:=by
  intro l
  unfold fE
  split
  ·exact ⟨by decide,by decide⟩
  ·split
   ·exact (show dO 4 from ⟨by decide,by decide⟩)
   ·exact dO.zero
 unfold jr
 split
 ·exact Pg g
 split
 ·split
  ·exact Tc a
  split
  ·exact ⟨by decide,by decide⟩
  ·exact key _
 ·exact key _
theorem Td (l : List aG) (most floor : Int) (gone : Bool) (zs : List Int) : dO (eG l most floor gone zs).2:=by
 unfold eG
 split
 ·exact Vk zs
 split
 ·unfold sD
  split
  ·exact ⟨by decide,by decide⟩
  split
  ·exact ⟨by decide,by decide⟩
  split <;> exact ⟨by decide,by decide⟩
 ·simp only
  split
  ·exact ⟨by decide,by decide⟩
  ·exact Ye _ _
theorem Cg {l : List aG} {most floor : Int} {gone : Bool} {zs : List Int} (h : (eG l most floor gone zs).2 = 0) :
  (bF zs).2 = 0 /\ sD l most floor gone (bF zs).1.tick (bF zs).1.base = 0 /\ (jr (jg (eO l (bF zs).1.base)) (bF zs).1).2 = 0 /\ (eG l most floor gone zs).1 = (jr (jg (eO l (bF zs).1.base)) (bF zs).1).1 /\
   fQ l (eG l most floor gone zs).1.tick (eG l most floor gone zs).1.time = true:=by
 unfold eG at h ⊢
 split at h
 ·rename_i hh;exact absurd h hh
 rename_i h1
 rw [if_neg h1]
 split at h
 ·rename_i hh;exact absurd h hh
 rename_i h2
 rw [if_neg h2]
 simp only at h ⊢
 refine ⟨by simpa using h1,by simpa using h2,?_⟩
 split at h
 ·cases h
 ·rename_i h3
  refine ⟨h,trivial,?_⟩
  cases ht : fQ l (jr (jg (eO l (bF zs).1.base)) (bF zs).1).1.tick (jr (jg (eO l (bF zs).1.base)) (bF zs).1).1.time
  ·exact absurd ⟨h,ht⟩ h3
  ·rfl
theorem Ph {l : List aG} {most floor : Int} {gone : Bool} {zs : List Int} (h : (eG l most floor gone zs).2 = 0) : pI (eG l most floor gone zs).1:=by
 obtain ⟨_,_,h3,h4,_⟩:=Cg h
 rw [h4];exact Vm h3
theorem Pj {l : List aG} {most floor : Int} {gone : Bool} {zs : List Int} (hz : aX zs) (hl : ∀ k ∈ l,∀ e ∈ k.sn.ents,e.Ok) : ∀ e ∈ (eG l most floor gone zs).1.ents,e.Ok:=by
 unfold eG
 split
 ·simp [eT]
 split
 ·simp [eT]
 ·refine Vn (λe he=>?_) (SY hz)
  unfold jg at he
  cases hk : eO l (bF zs).1.base with
  | none=>rw [hk] at he;simp [iw] at he
  | some k=>rw [hk] at he;exact hl k (Ej hk) e he
theorem Te {l : List aG} {most floor : Int} {gone : Bool} {zs : List Int} : (eG l most floor gone zs).1.ents.length <= 64:=by
 have key : ∀ g l,(fE g l).1.ents.length <= 64:=by
  intro g l
  unfold fE
  split
  ·simp [eT]
  ·split
   ·simp [eT]
   ·simp only;rw [(xL _).length_eq];omega
 unfold eG
 split
 ·simp [eT]
 split
 ·simp [eT]
 ·simp only
  unfold jr
  split
  ·simp [eT]
  split
  ·split
   ·simp [eT]
   split
   ·simp [eT]
   ·exact key _ _
  ·exact key _ _
theorem abQ : aA 1:=⟨by decide,by decide⟩
theorem abR : aA 2:=⟨by decide,by decide⟩
theorem abS : aA 3:=⟨by decide,by decide⟩
theorem nV (n : Int) : aA (IntKind.i64.wrap n):=by
 rw [IntKind.wrap_i64];exact ⟨by omega,by omega⟩
theorem Tf {o x : ay} (h : (lF o x).2 = true) : (lF o x).1.id = x.id:=by
 unfold lF at h ⊢
 split at h
 ·cases h
 ·rename_i hh
  rw [if_neg hh]
  unfold Gu
  split <;> rfl
theorem Tg {o x : ay} (hx : x.Ok) : (lF o x).1.Ok:=by
 unfold lF
 split
 ·exact ⟨bq,bq,bq,bq,bq,bq,bq,bq,(show (0:Int) <= 0 /\ (0:Int) <= 65535 by decide)⟩
 ·unfold Gu
  split
  ·exact ⟨abQ,hx.id,nV _,nV _,nV _,nV _,nV _,nV _,by simp only;rw [IntKind.wrap_u16];omega⟩
  ·exact ⟨abS,hx.id,hx.px,hx.py,hx.pz,hx.vx,hx.vy,hx.vz,hx.aI⟩
theorem Pk {was : List ay} {out : List Rec} {x : ay} {q : List ay × List Rec} (h : lV was out x = some q) : q.1 = kM was x.id /\ (q.2 = out \/ ∃ r : Rec,q.2 = out ++ [r] /\ r.id = x.id /\ (x.Ok -> r.Ok)):=by
 unfold lV at h
 split at h
 ·split at h
  ·cases h
   exact ⟨rfl,.inr ⟨_,rfl,rfl,λhx=>⟨bq,hx.id,hx.px,hx.py,hx.pz,hx.vx,hx.vy,hx.vz,hx.aI⟩⟩⟩
  ·cases h
 ·split at h
  ·cases h
  ·cases h
   refine ⟨rfl,?_⟩
   simp only
   split
   ·rename_i o _ hh
    exact .inr ⟨_,rfl,Tf hh,λhx=>Tg hx⟩
   ·exact .inl rfl
theorem Em {l : List ay} {i : Int} {e : ay} (h : e ∈ kM l i) : e ∈ l /\ e.id ≠ i:=by
 unfold kM at h
 have:=List.mem_filter.1 h
 exact ⟨this.1,by simpa [bne] using this.2⟩
theorem FL : ∀ (es : List ay) {was : List ay} {out : List Rec} {q : List ay × List Rec},fB was out es = some q ->
  (was.map (·.id)).Nodup -> (es.map (·.id)).Nodup -> (out.map (·.id)).Nodup -> (∀ r ∈ out,r.Ok) -> (∀ e ∈ es,e.Ok) -> (∀ r ∈ out,r.id ∉ was.map (·.id) /\ r.id ∉ es.map (·.id)) ->
  (q.1.map (·.id)).Nodup /\ (q.2.map (·.id)).Nodup /\ (∀ r ∈ q.2,r.Ok) /\ (∀ r ∈ q.2,r.id ∉ q.1.map (·.id)) /\ (∀ e ∈ q.1,e ∈ was)
 | [],was,out,q,h,h1,h2,h3,h4,h5,h6=>by cases h;exact ⟨h1,h3,h4,λr hr=>(h6 r hr).1,λe he=>he⟩
 | x :: es,was,out,q,h,h1,h2,h3,h4,h5,h6=>by
  rw [fB] at h
  cases ho : lV was out x with
  | none=>rw [ho] at h;cases h
  | some p =>
   rw [ho] at h
   obtain ⟨s1,s2⟩:=Pk ho
   rw [List.map_cons,List.nodup_cons] at h2
   have hw : (p.1.map (·.id)).Nodup:=by rw [s1];exact h1.sublist (List.Sublist.map _ List.filter_sublist)
   have hnx : ∀ r : Rec,r.id ∉ was.map (·.id) -> r.id ∉ p.1.map (·.id):=λr hr hh=>by
    obtain ⟨e,he,hid⟩:=List.mem_map.1 hh
    rw [s1] at he
    exact hr (List.mem_map.2 ⟨e,(Em he).1,hid⟩)
   have hout : (p.2.map (·.id)).Nodup /\ (∀ r ∈ p.2,r.Ok) /\ ∀ r ∈ p.2,r.id ∉ p.1.map (·.id) /\ r.id ∉ es.map (·.id):=by
    have hold : ∀ r ∈ out,r.id ∉ p.1.map (·.id) /\ r.id ∉ es.map (·.id):=λr hr=>⟨hnx r (h6 r hr).1,λhh=>(h6 r hr).2 (by rw [List.map_cons];exact List.mem_cons_of_mem _ hh)⟩
    rcases s2 with s2 | ⟨r0,s2,hid,hok⟩
    ·rw [s2];exact ⟨h3,h4,hold⟩
    ·rw [s2]
     refine ⟨?_,?_,?_⟩
     ·rw [List.map_append,List.map_singleton]
      refine List.nodup_append.2 ⟨h3,by simp,λa ha b hb=>?_⟩
      simp at hb
      subst hb
      obtain ⟨r,hr,rfl⟩:=List.mem_map.1 ha
      intro e
      exact (h6 r hr).2 (by rw [List.map_cons];rw [e,hid];exact List.mem_cons_self ..)
     ·intro r hr
      rcases List.mem_append.1 hr with hr | hr
      ·exact h4 r hr
      ·simp at hr;subst hr;exact hok (h5 x (List.mem_cons_self ..))
     ·intro r hr
      rcases List.mem_append.1 hr with hr | hr
      ·exact hold r hr
      ·simp at hr;subst hr
       refine ⟨λhh=>?_,by rw [hid];exact h2.1⟩
       obtain ⟨e,he,he2⟩:=List.mem_map.1 hh
       rw [s1] at he
       exact (Em he).2 (by rw [he2,hid])
   obtain ⟨a1,a2,a3,a4,a5⟩:=FL es h hw h2.2 hout.1 hout.2.1 (λe he=>h5 e (List.mem_cons_of_mem _ he)) hout.2.2
   exact ⟨a1,a2,a3,a4,λe he=>by have:=a5 e he;rw [s1] at this;exact (Em this).1⟩
def KW (l : List Rec) : List Rec:=l.mergeSort (λa b=>decide (a.id <= b.id))
theorem Iw (l : List Rec) : (KW l).Perm l:=List.mergeSort_perm _ _
theorem Yf (l : List Rec) : (KW l).Pairwise (λa b=>a.id <= b.id):=by
 have:=List.pairwise_mergeSort (le:=λa b : Rec=>decide (a.id <= b.id)) (λa b c h1 h2=>by simp at *;omega) (λa b=>by simp;omega) l
 exact this.imp (λh=>by simpa using h)
theorem zy : ∀ (xs ys : List Rec),xs.Perm ys -> xs.Pairwise (λa b=>a.id <= b.id) -> ys.Pairwise (λa b=>a.id <= b.id) -> (xs.map (·.id)).Nodup -> xs = ys
 | [],ys,hp,_,_,_=>by simpa using hp.symm
 | x :: xs,[],hp,_,_,_=>by simp at hp
 | x :: xs,y :: ys,hp,hx,hy,hn=>by
  have hxy : x = y:=by
   have h1 : x ∈ y :: ys:=hp.subset (List.mem_cons_self ..)
   have h2 : y ∈ x :: xs:=hp.symm.subset (List.mem_cons_self ..)
   rcases List.mem_cons.1 h1 with h1 | h1
   ·exact h1
   rcases List.mem_cons.1 h2 with h2 | h2
   ·exact h2.symm
   have a:=(List.pairwise_cons.1 hy).1 x h1
   have b:=(List.pairwise_cons.1 hx).1 y h2
   have e : x.id = y.id:=by omega
   rw [List.map_cons,List.nodup_cons] at hn
   exact absurd (List.mem_map.2 ⟨y,h2,e.symm⟩) hn.1
  subst hxy
  rw [List.map_cons,List.nodup_cons] at hn
  rw [zy xs ys (List.Perm.cons_inv hp) (List.pairwise_cons.1 hx).2 (List.pairwise_cons.1 hy).2 hn.2]
theorem Nv {xs l : List Rec} (hp : xs.Perm l) (hs : xs.Pairwise (λa b=>a.id <= b.id)) (hn : (l.map (·.id)).Nodup) : xs = KW l :=
 zy xs (KW l) (hp.trans (Iw l).symm) hs (Yf l) ((hp.map (·.id)).nodup_iff.2 hn)
def lW (q : List ay × List Rec) : List Rec:=KW (q.2 ++ q.1.map Ar)
theorem aaq {e : ay} (h : e.Ok) : (Ar e).Ok:=⟨abR,h.id,bq,bq,bq,bq,bq,bq,(show (0:Int) <= 0 /\ (0:Int) <= 65535 by decide)⟩
theorem Pm {was es : List ay} {q : List ay × List Rec} (h : fB was [] es = some q) (h1 : (was.map (·.id)).Nodup) (h2 : (es.map (·.id)).Nodup) (h3 : ∀ e ∈ es,e.Ok) (h4 : ∀ e ∈ was,e.Ok) :
  ((q.2 ++ q.1.map Ar).map (·.id)).Nodup /\ ∀ r ∈ lW q,r.Ok:=by
 obtain ⟨a1,a2,a3,a4,a5⟩:=FL es h h1 h2 (by simp) (by simp) h3 (by simp)
 constructor
 ·rw [List.map_append,List.map_map]
  have e : (q.1.map (Rec.id ∘ Ar)) = q.1.map (·.id):=List.map_congr_left (λ_ _=>rfl)
  rw [e]
  refine List.nodup_append.2 ⟨a2,a1,λa ha b hb hab=>?_⟩
  obtain ⟨r,hr,rfl⟩:=List.mem_map.1 ha
  exact a4 r hr (hab ▸ hb)
 ·intro r hr
  unfold lW at hr
  rcases List.mem_append.1 ((Iw _).mem_iff.1 hr) with hr | hr
  ·exact a3 r hr
  ·obtain ⟨e,he,rfl⟩:=List.mem_map.1 hr
   exact aaq (h4 e (a5 e he))
theorem zW {es : List ay} (h : es.Pairwise (λa b=>a.id < b.id)) : (es.map (·.id)).Nodup :=
 List.pairwise_map.2 (h.imp (λh=>by omega))
set_option maxRecDepth 100000
theorem Pn (tick time : Int) (a : Option Addr) (len cap : Nat) (E : Nat -> ay) (w : World) (h : bV w a len E) :
  Calls Tryz.prog 34 #[bC tick time a len cap] w λe w'=>e = .returned (.int .i64 (dJ tick time len E)) /\ Below w.heap.size w w':=by
 by_cases hs : (len : Int) <= 4611686018427387904
 ·exact DZ tick time a len cap E w h hs
 unfold dJ
 by_cases h1 : tick < 0
 ·rw [if_pos (by omega)];exact Df tick time a len cap h1 w
 by_cases h2 : 4294967295 < tick
 ·rw [if_pos (by omega)];exact Dg tick time a len cap (by omega) w
 by_cases h3 : time < -2305843009213693952
 ·rw [if_pos (by omega)];exact Dh tick time a len cap (by omega) w
 by_cases h4 : 2305843009213693952 < time
 ·rw [if_pos (by omega)];exact Di tick time a len cap (by omega) w
 rw [if_neg (by omega),if_pos (show 64 < len by omega)]
 exact Dj tick time a len cap (by omega) (by omega) (by omega) (by omega) (by omega) w
def eH (s : Sn) : Gr × Int:=if gM s ≠ 0 then (oN,gM s) else match fB [] [] s.ents with
 | none=>(oN,15)
 | some q=>(⟨s.tick,s.time,-1,lW q⟩,0)
theorem Iy {w w1 w2 : World} {M : Nat} (h : Below w.heap.size w w1) (hM : w.heap.size <= M) (ho : Only (λk=>k = M) w1 w2) : Below w.heap.size w w2 :=
 h.trans (ho.below h.size (λk hk=>by omega))
theorem Ti {M : Nat} {was es : List ay} {q : List ay × List Rec} {w1 w2 : World} {base : Nat} {e : Ending} (hq : fB was [] es = some q) (h1 : (was.map (·.id)).Nodup) (h2 : (es.map (·.id)).Nodup) (h3 : ∀ e ∈ es,e.Ok) (h4 : ∀ e ∈ was,e.Ok) (h : Kw (some q) base e w2) : ∃ v,e = .returned (.tuple #[v,.int .i64 0]) /\ gL w2 base v (lW q):=by
 obtain ⟨v,rs,he,hp,hs,ho⟩:=h
 obtain ⟨a1,a2⟩:=Pm hq h1 h2 h3 h4
 have e1 : rs = lW q:=Nv hp hs a1
 subst e1
 exact ⟨v,he,ho,a2⟩
set_option maxHeartbeats 1000000 in
theorem Nw (tick time : Int) (a : Option Addr) (cap : Nat) (es : List ay) (w : World) (hE : dH w a es) :
  Calls Tryz.prog 16 #[bC tick time a es.length cap] w λe w'=>∃ v,e = .returned (.tuple #[.agg #[.int .i64 (eH ⟨tick,time,es⟩).1.tick,.int .i64 (eH ⟨tick,time,es⟩).1.time,.int .i64 (eH ⟨tick,time,es⟩).1.base,v],.int .i64 (eH ⟨tick,time,es⟩).2]) /\ gL w' w.heap.size v (eH ⟨tick,time,es⟩).1.recs /\ Below w.heap.size w w':=by
 have HZ : Hid (eH ⟨tick,time,es⟩ = if gM ⟨tick,time,es⟩ ≠ 0 then (oN,gM ⟨tick,time,es⟩) else match fB [] [] es with | none=>(oN,15) | some q=>(⟨tick,time,-1,lW q⟩,0)):=ahZ rfl
 have Ie : Hid (gM ⟨tick,time,es⟩ = 0 -> (es.map (·.id)).Nodup /\ es.length <= 1000):=ahZ (λh=>⟨zW (jL.1 h).up,Nat.le_trans (jL.1 h).len (by decide)⟩)
 generalize eH ⟨tick,time,es⟩ = z at *
 obtain ⟨w0,hw0⟩ : ∃ w0,(w.alloc (.cells #[.int .i64 tick,.int .i64 time,.slice a es.length cap] 36)).alloc (.cells #[.int .i64 0,.int .i64 0,.int .i64 0,.slice none 0 0] 39) = w0:=⟨_,rfl⟩
 have hB0 : Below w.heap.size w w0:=by rw [← hw0];exact ((Below.refl _ _).alloc (Nat.le_refl _) _).alloc (by simp) _
 have hX0 : ak w0 w.heap.size #[.int .i64 tick,.int .i64 time,.slice a es.length cap] 36:=by rw [← hw0];exact (ak.new _ _ _).alloc _
 have hG0 : ak w0 (w.heap.size + 1) #[.int .i64 0,.int .i64 0,.int .i64 0,.slice none 0 0] 39:=by
  rw [← hw0]
  have:=ak.new (w.alloc (.cells #[.int .i64 tick,.int .i64 time,.slice a es.length cap] 36)) #[.int .i64 0,.int .i64 0,.int .i64 0,.slice none 0 0] 39
  simpa using this
 have hsz0 : w.heap.size + 2 <= w0.heap.size:=by rw [← hw0];simp
 have ck:=Pn tick time a es.length cap (λi=>es.getD i bS) w0 (hE.below hB0)
 have Ng:=ahZ (hE.below hB0)
 have HB0:=ahZ hB0
 have HX0:=ahZ hX0
 have HG0:=ahZ hG0
 have zq:=ahZ hsz0
 have x0:=hX0.cell 0
 have x1:=hX0.cell 1
 have x2:=hX0.cell 2
 simp at x0 x1 x2
 clear hE hB0 hX0 hG0 hsz0
 rw [show dJ tick time es.length (λi=>es.getD i bS) = gM ⟨tick,time,es⟩ from rfl] at ck
 generalize gM ⟨tick,time,es⟩ = ce at *
 unfold bC at *
 go_enter Tryz.func16,Tryz.ntmps16
 go_wp2_with fail
 clear hw0
 refine ck.mono ?_
 rintro e w1 ⟨rfl,hb⟩
 have HB1:=ahZ (HB0.out.trans (hb.mono HB0.out.size))
 have gJ:=ahZ (HX0.out.below hb HX0.out.lt)
 have Dl:=ahZ (HG0.out.below hb HG0.out.lt)
 have zx:=ahZ (Ng.out.below hb)
 have gX : Hid (w.heap.size + 2 <= w1.heap.size):=ahZ (Nat.le_trans zq.out hb.size)
 have hx1:=gJ.out
 have hs1 : w.heap.size < w1.heap.size:=by have:=gX.out;omega
 clear ck hb x0 x1 x2
 have x0:=hx1.cell 0
 have x1:=hx1.cell 1
 have x2:=hx1.cell 2
 simp at x0 x1 x2
 clear hx1
 by_cases hce : ce = 0
 ·subst hce
  have HU : Hid ((es.map (·.id)).Nodup):=ahZ (Ie.out rfl).1
  have hl3:=(Ie.out rfl).2
  have HZ2 : Hid (z = match fB [] [] es with | none=>(oN,15) | some q=>(⟨tick,time,-1,lW q⟩,0)):=ahZ (by rw [HZ.out,if_neg (by simp)])
  clear HZ Ie
  have iX : Below w1.heap.size w1 (w1.alloc (.map #[] 0)):=(Below.refl _ _).alloc (Nat.le_refl _) _
  have tl:=ZF w1.heap.size [] a cap es (w1.alloc (.map #[] 0)) (cK.new w1) (zx.out.below iX) hl3 (by simp)
  have gy:=ahZ (gJ.out.below iX gJ.out.lt)
  have HG2:=ahZ (Dl.out.below iX Dl.out.lt)
  have HB2:=ahZ (HB1.out.trans (iX.mono HB1.out.size))
  have aeI:=ahZ zx.out.ok
  cases hz : fB [] [] es with
  | none =>
   have HV : Hid (z = (oN,15)):=ahZ (by rw [HZ2.out,hz])
   rw [hz] at tl
   clear HZ2 hz iX
   go_wp2_with fail
   refine tl.mono ?_
   rintro e w3 ⟨he,hO⟩
   obtain rfl:=he
   have HB3 : Hid (Below w.heap.size w w3):=ahZ (Iy HB2.out HB1.out.size hO)
   have M0:=ahZ (hO.blk HG2.out (by have:=gX.out;omega))
   clear hO tl
   have kE:=M0.out
   have f0:=kE.free 0
   have f1:=kE.free 1
   have f2:=kE.free 2
   have f3:=kE.free 3
   have z0:=kE.cell 0
   have z1:=kE.cell 1
   have z2:=kE.cell 2
   have z3:=kE.cell 3
   simp at z0 z1 z2 z3
   have rC:=zP (v0:=.int .i64 0) (v1:=.int .i64 0) (v2:=.int .i64 0) (v3:=.slice none 0 0) kE
   obtain ⟨u9,uL⟩ : ∃ u,(((w3.setCell ⟨w.heap.size + 1,0,none⟩ (.int .i64 0)).setCell ⟨w.heap.size + 1,1,none⟩ (.int .i64 0)).setCell ⟨w.heap.size + 1,2,none⟩ (.int .i64 0)).setCell ⟨w.heap.size + 1,3,none⟩ (.slice none 0 0) = u:=⟨_,rfl⟩
   have mX : Only (λk=>k = w.heap.size + 1) w3 u9:=by rw [← uL];exact Fp (Only.refl _ _) (.inl rfl)
   rw [uL] at rC
   have HF : Hid (gL u9 w.heap.size (.slice none 0 0) [] /\ Below w.heap.size w u9):=ahZ ⟨gL.nil _ _,HB3.out.trans (mX.below HB3.out.size (λk hk=>by omega))⟩
   have g0:=rC.cell 0
   have g1:=rC.cell 1
   have g2:=rC.cell 2
   have g3:=rC.cell 3
   simp at g0 g1 g2 g3
   clear kE rC mX
   go_wp2_with fail
   exact bodyPost_ret (v:=.tuple #[.agg #[.int .i64 0,.int .i64 0,.int .i64 0,.slice none 0 0],.int .i64 (15)]) (by simp [results,Tryz.results16,go_sem,g0,g1,g2,g3]) rfl ⟨.slice none 0 0,by rw [HV.out];rfl,by rw [HV.out];exact HF.out.1,HF.out.2⟩
  | some q =>
   have HV : Hid (z = (⟨tick,time,-1,lW q⟩,0)):=ahZ (by rw [HZ2.out,hz])
   rw [hz] at tl
   have HQ:=ahZ hz
   clear HZ2 hz iX
   go_wp2_with fail
   refine tl.mono ?_
   rintro e w3 ⟨he,hO⟩
   obtain ⟨v,rfl,hR⟩:=Ti (M:=0) (w1:=w1) HQ.out (by simp) HU.out aeI.out (by simp) he
   obtain ⟨ra,rc,rfl,_⟩:=hR.recs
   have HB3 : Hid (Below w.heap.size w w3):=ahZ (Iy HB2.out HB1.out.size hO)
   have M0:=ahZ (hO.blk HG2.out (by have:=gX.out;omega))
   have dU:=hO.blk gy.out (by have:=gX.out;omega)
   have HR3:=ahZ hR
   have y0:=dU.cell 0
   have y1:=dU.cell 1
   simp at y0 y1
   clear hO tl hR dU he
   have kE:=M0.out
   have f0:=kE.free 0
   have f1:=kE.free 1
   have f2:=kE.free 2
   have f3:=kE.free 3
   have z0:=kE.cell 0
   have z1:=kE.cell 1
   have z2:=kE.cell 2
   have z3:=kE.cell 3
   simp at z0 z1 z2 z3
   have rC:=zP (v0:=.int .i64 tick) (v1:=.int .i64 time) (v2:=.int .i64 (-1)) (v3:=.slice ra (lW q).length rc) kE
   obtain ⟨u9,uL⟩ : ∃ u,(((w3.setCell ⟨w.heap.size + 1,0,none⟩ (.int .i64 tick)).setCell ⟨w.heap.size + 1,1,none⟩ (.int .i64 time)).setCell ⟨w.heap.size + 1,2,none⟩ (.int .i64 (-1))).setCell ⟨w.heap.size + 1,3,none⟩ (.slice ra (lW q).length rc) = u:=⟨_,rfl⟩
   have mX : Only (λk=>k = w.heap.size + 1) w3 u9:=by rw [← uL];exact Fp (Only.refl _ _) (.inl rfl)
   rw [uL] at rC
   have HF : Hid (gL u9 w.heap.size (.slice ra (lW q).length rc) (lW q) /\ Below w.heap.size w u9):=ahZ ⟨(gL.base HR3.out (Nat.le_trans HB1.out.size (by simp))).only mX (λj hj hk=>by have:=(HR3.out.1.lt j hj).1;have:=gX.out;simp at *;omega),HB3.out.trans (mX.below HB3.out.size (λk hk=>by omega))⟩
   have g0:=rC.cell 0
   have g1:=rC.cell 1
   have g2:=rC.cell 2
   have g3:=rC.cell 3
   simp at g0 g1 g2 g3
   clear kE rC mX
   go_wp2_with fail
   exact bodyPost_ret (v:=.tuple #[.agg #[.int .i64 tick,.int .i64 time,.int .i64 (-1),.slice ra (lW q).length rc],.int .i64 (0)]) (by simp [results,Tryz.results16,go_sem,g0,g1,g2,g3]) rfl ⟨.slice ra (lW q).length rc,by rw [HV.out],by rw [HV.out];exact HF.out.1,HF.out.2⟩
 ·have HV : Hid (z = (oN,ce)):=ahZ (by rw [HZ.out,if_pos hce])
  have aer : (ce != 0) = true:=by simpa using hce
  clear HZ Ie hce
  have kE:=Dl.out
  have f0:=kE.free 0
  have f1:=kE.free 1
  have f2:=kE.free 2
  have f3:=kE.free 3
  have z0:=kE.cell 0
  have z1:=kE.cell 1
  have z2:=kE.cell 2
  have z3:=kE.cell 3
  simp at z0 z1 z2 z3
  have rC:=zP (v0:=.int .i64 0) (v1:=.int .i64 0) (v2:=.int .i64 0) (v3:=.slice none 0 0) kE
  obtain ⟨u9,uL⟩ : ∃ u,(((w1.setCell ⟨w.heap.size + 1,0,none⟩ (.int .i64 0)).setCell ⟨w.heap.size + 1,1,none⟩ (.int .i64 0)).setCell ⟨w.heap.size + 1,2,none⟩ (.int .i64 0)).setCell ⟨w.heap.size + 1,3,none⟩ (.slice none 0 0) = u:=⟨_,rfl⟩
  have mX : Only (λk=>k = w.heap.size + 1) w1 u9:=by rw [← uL];exact Fp (Only.refl _ _) (.inl rfl)
  rw [uL] at rC
  have HF : Hid (gL u9 w.heap.size (.slice none 0 0) [] /\ Below w.heap.size w u9):=ahZ ⟨gL.nil _ _,HB1.out.trans (mX.below HB1.out.size (λk hk=>by omega))⟩
  have g0:=rC.cell 0
  have g1:=rC.cell 1
  have g2:=rC.cell 2
  have g3:=rC.cell 3
  simp at g0 g1 g2 g3
  clear kE rC mX
  go_wp2_with fail
  exact bodyPost_ret (v:=.tuple #[.agg #[.int .i64 0,.int .i64 0,.int .i64 0,.slice none 0 0],.int .i64 (ce)]) (by simp [results,Tryz.results16,go_sem,g0,g1,g2,g3]) rfl ⟨.slice none 0 0,by rw [HV.out];rfl,by rw [HV.out];exact HF.out.1,HF.out.2⟩
set_option maxRecDepth 100000
structure DiR (w : World) (sa sb : Array Value) (ss : Array Value) (wr : World) : Prop where
 a : ak wr w.heap.size sa 36
 b : ak wr (w.heap.size + 1) sb 36
 g : ak wr (w.heap.size + 2) #[.int .i64 0,.int .i64 0,.int .i64 0,.slice none 0 0] 39
 s : ak wr (w.heap.size + 3) ss 36
 bl : Below w.heap.size w wr
 sz : w.heap.size + 4 <= wr.heap.size
set_option maxRecDepth 100000
theorem Yg (T R : Nat) (l : List aG) (most floor : Int) (gone : Bool) (S : Nat -> Prop) (w : World) (h : gN w T R l most floor gone S) :
  Calls Tryz.prog 89 #[.pointer (some ⟨T,0,none⟩)] w λe w'=>e = .returned (.int .i64 (l.length : Nat)) /\ w = w':=by
 have ln:=jC R l most floor gone S w h.ring
 obtain ⟨d0,d1⟩:=h.cells
 clear h
 go_enter Tryz.func89,Tryz.ntmps89
 go_wp2_with fail
 refine ln.mono ?_
 rintro e w1 ⟨rfl,rfl⟩
 clear ln
 go_wp2_with fail
 go_ret
 exact ⟨rfl,rfl⟩
set_option maxHeartbeats 1000000 in
theorem Ny (T R : Nat) (l : List aG) (most floor : Int) (gone : Bool) (S : Nat -> Prop) (i : Int) (w : World) (h : gN w T R l most floor gone S) (hk : ∀ k ∈ l,k.sn.ents.length <= 64) :
  Calls Tryz.prog 40 #[.pointer (some ⟨T,0,none⟩),.int .i64 i] w λe w'=>∃ a c,e = .returned (.tuple #[.agg #[.int .i64 (uZ (eO l i)),.int .i64 (mW (eO l i)),.slice a (iw (eO l i)).length c],.bool (dY l i)]) /\ aK w' w.heap.size (.slice a (iw (eO l i)).length c) (iw (eO l i)) /\ Below w.heap.size w w':=by
 obtain ⟨w0,hw0⟩ : ∃ w0,w.alloc (.cells #[.int .i64 0,.int .i64 0,.slice none 0 0] 36) = w0:=⟨_,rfl⟩
 have hB0 : Below w.heap.size w w0:=by rw [← hw0];exact (Below.refl _ _).alloc (Nat.le_refl _) _
 have HX0 : Hid (ak w0 w.heap.size #[.int .i64 0,.int .i64 0,.slice none 0 0] 36):=ahZ (by rw [← hw0];exact ak.new _ _ _)
 have HZ0 : Hid (w0.heap.size = w.heap.size + 1):=ahZ (by rw [← hw0];simp)
 have h1:=h.below hB0
 have HB0:=ahZ hB0
 have gt:=KJ R l most floor gone S i w0 h1.ring
 rw [KS] at gt
 have HM : Hid (∀ k,(eO l i) = some k -> k ∈ l):=ahZ (λk hh=>Ej hh)
 obtain ⟨d0,d1⟩:=h1.cells
 have HS:=ahZ h1
 have HK:=ahZ hk
 clear h h1 hk hB0
 generalize dY l i = hv at *
 generalize (eO l i) = o at *
 go_enter Tryz.func40,Tryz.ntmps40
 go_wp2_with fail
 clear hw0
 refine gt.mono ?_
 rintro e w1 ⟨rfl,hB⟩
 clear gt d0 d1
 obtain ⟨a1,c1,e1,hE1,hc1,hl1,_⟩:=Ei (HS.out.below hB).ring HM.out HK.out
 rw [e1]
 obtain ⟨t1,ht1⟩ : ∃ t,uZ o = t:=⟨_,rfl⟩
 obtain ⟨m1,hm1⟩ : ∃ t,mW o = t:=⟨_,rfl⟩
 rw [ht1,hm1]
 have Tj:=ahZ (And.intro ht1 hm1)
 obtain ⟨v1,hv1⟩ : ∃ v,w1.alloc (.cells #[.int .i64 0,.int .i64 0,.slice none 0 0] 36) = v:=⟨_,rfl⟩
 have hB1 : Below w1.heap.size w1 v1:=by rw [← hv1];exact (Below.refl _ _).alloc (Nat.le_refl _) _
 have aY : ak v1 w1.heap.size #[.int .i64 0,.int .i64 0,.slice none 0 0] 36:=by rw [← hv1];exact ak.new _ _ _
 have f0:=aY.free 0
 have f1:=aY.free 1
 have f2:=aY.free 2
 have q0:=aY.cell 0
 have q1:=aY.cell 1
 have q2:=aY.cell 2
 simp at q0 q1 q2
 have hX1:=jf (v0:=.int .i64 t1) (v1:=.int .i64 m1) (v2:=.slice a1 (iw o).length c1) aY
 have hb1:=dQ (v0:=.int .i64 t1) (v1:=.int .i64 m1) (v2:=.slice a1 (iw o).length c1) hB1 (Nat.le_refl _)
 obtain ⟨u1,hu1⟩ : ∃ u,((v1.setCell ⟨w1.heap.size,0,none⟩ (.int .i64 t1)).setCell ⟨w1.heap.size,1,none⟩ (.int .i64 m1)).setCell ⟨w1.heap.size,2,none⟩ (.slice a1 (iw o).length c1) = u:=⟨_,rfl⟩
 rw [hu1] at hX1 hb1
 have zX : Below w0.heap.size w0 u1:=hB.trans (hb1.mono hB.size)
 have ow:=O6 t1 m1 a1 c1 (iw o) u1 (hE1.below hb1) hc1 (by omega)
 have k0:=hX1.cell 0
 have k1:=hX1.cell 1
 have k2:=hX1.cell 2
 simp at k0 k1 k2
 have yF:=ahZ (HX0.out.below zX HX0.out.lt)
 have Ci:=ahZ (HB0.out.trans (zX.mono HB0.out.size))
 have hsz : w.heap.size < u1.heap.size:=Nat.lt_of_lt_of_le (by rw [HZ0.out];omega) zX.size
 have xQ:=ahZ hsz
 clear hB hE1 hc1 hl1 e1 hB1 aY hX1 hb1 zX hsz HX0 ht1 hm1
 go_wp2_with fail
 clear hv1 hu1 f0 f1 f2 q0 q1 q2 k0 k1 k2
 refine ow.mono ?_
 rintro e w2 ⟨a2,c2,rfl,hO,hB⟩
 have hX2:=yF.out.below hB yF.out.lt
 have f0:=hX2.free 0
 have f1:=hX2.free 1
 have f2:=hX2.free 2
 have q0:=hX2.cell 0
 have q1:=hX2.cell 1
 have q2:=hX2.cell 2
 simp at q0 q1 q2
 have dU:=jf (v0:=.int .i64 t1) (v1:=.int .i64 m1) (v2:=.slice a2 (iw o).length c2) hX2
 have HF : Hid (aK (((w2.setCell ⟨w.heap.size,0,none⟩ (.int .i64 t1)).setCell ⟨w.heap.size,1,none⟩ (.int .i64 m1)).setCell ⟨w.heap.size,2,none⟩ (.slice a2 (iw o).length c2)) w.heap.size (.slice a2 (iw o).length c2) (iw o) /\
   Below w.heap.size w (((w2.setCell ⟨w.heap.size,0,none⟩ (.int .i64 t1)).setCell ⟨w.heap.size,1,none⟩ (.int .i64 m1)).setCell ⟨w.heap.size,2,none⟩ (.slice a2 (iw o).length c2))):=ahZ
  ⟨(aK.base hO (by have:=xQ.out;omega)).only (sw (S:=λk=>k = w.heap.size) (Only.refl _ _) (.inl rfl)) (λj hj hk=>by have:=(hO.lt j hj).1;have:=xQ.out;omega),dQ (Ci.out.trans (hB.mono Ci.out.size)) (Nat.le_refl _)⟩
 obtain ⟨u3,hu3⟩ : ∃ u,((w2.setCell ⟨w.heap.size,0,none⟩ (.int .i64 t1)).setCell ⟨w.heap.size,1,none⟩ (.int .i64 m1)).setCell ⟨w.heap.size,2,none⟩ (.slice a2 (iw o).length c2) = u:=⟨_,rfl⟩
 rw [hu3] at HF dU
 have g0:=dU.cell 0
 have g1:=dU.cell 1
 have g2:=dU.cell 2
 simp at g0 g1 g2
 clear hO hB hX2 dU ow yF
 go_wp2_with fail
 exact bodyPost_ret (v:=.tuple #[.agg #[.int .i64 t1,.int .i64 m1,.slice a2 (iw o).length c2],.bool hv]) (by simp [results,Tryz.results40,go_sem,g0,g1,g2]) rfl ⟨a2,c2,by rw [Tj.out.1,Tj.out.2],HF.out⟩
theorem Yh {l : List aG} {i : Int} {k : aG} (h : fq l i = some k) : k ∈ l:=by
 unfold fq at h
 split at h
 ·cases h
 ·exact List.mem_of_getElem? h
set_option maxHeartbeats 1000000 in
theorem aar (T R : Nat) (l : List aG) (most floor : Int) (gone : Bool) (S : Nat -> Prop) (i : Int) (w : World) (h : gN w T R l most floor gone S) (hk : ∀ k ∈ l,k.sn.ents.length <= 64) :
  Calls Tryz.prog 90 #[.pointer (some ⟨T,0,none⟩),.int .i64 i] w λe w'=>∃ a c,e = .returned (.tuple #[.agg #[.int .i64 (uZ (fq l i)),.int .i64 (mW (fq l i)),.slice a (iw (fq l i)).length c],.int .i64 (qZ (fq l i))]) /\ aK w' w.heap.size (.slice a (iw (fq l i)).length c) (iw (fq l i)) /\ Below w.heap.size w w':=by
 obtain ⟨w0,hw0⟩ : ∃ w0,w.alloc (.cells #[.int .i64 0,.int .i64 0,.slice none 0 0] 36) = w0:=⟨_,rfl⟩
 have hB0 : Below w.heap.size w w0:=by rw [← hw0];exact (Below.refl _ _).alloc (Nat.le_refl _) _
 have HX0 : Hid (ak w0 w.heap.size #[.int .i64 0,.int .i64 0,.slice none 0 0] 36):=ahZ (by rw [← hw0];exact ak.new _ _ _)
 have HZ0 : Hid (w0.heap.size = w.heap.size + 1):=ahZ (by rw [← hw0];simp)
 have h1:=h.below hB0
 have HB0:=ahZ hB0
 have gt:=O7 R l most floor gone S i w0 h1.ring
 skip
 have HM : Hid (∀ k,(fq l i) = some k -> k ∈ l):=ahZ (λk hh=>Yh hh)
 obtain ⟨d0,d1⟩:=h1.cells
 have HS:=ahZ h1
 have HK:=ahZ hk
 clear h h1 hk hB0
 generalize qZ (fq l i) = ev at *
 generalize WU (fq l i) = yv at *
 generalize (fq l i) = o at *
 go_enter Tryz.func90,Tryz.ntmps90
 go_wp2_with fail
 clear hw0
 refine gt.mono ?_
 rintro e w1 ⟨rfl,hB⟩
 clear gt d0 d1
 obtain ⟨a1,c1,e1,hE1,hc1,hl1,_⟩:=Ei (HS.out.below hB).ring HM.out HK.out
 rw [e1]
 obtain ⟨t1,ht1⟩ : ∃ t,uZ o = t:=⟨_,rfl⟩
 obtain ⟨m1,hm1⟩ : ∃ t,mW o = t:=⟨_,rfl⟩
 rw [ht1,hm1]
 have Tj:=ahZ (And.intro ht1 hm1)
 obtain ⟨v1,hv1⟩ : ∃ v,w1.alloc (.cells #[.int .i64 0,.int .i64 0,.slice none 0 0] 36) = v:=⟨_,rfl⟩
 have hB1 : Below w1.heap.size w1 v1:=by rw [← hv1];exact (Below.refl _ _).alloc (Nat.le_refl _) _
 have aY : ak v1 w1.heap.size #[.int .i64 0,.int .i64 0,.slice none 0 0] 36:=by rw [← hv1];exact ak.new _ _ _
 have f0:=aY.free 0
 have f1:=aY.free 1
 have f2:=aY.free 2
 have q0:=aY.cell 0
 have q1:=aY.cell 1
 have q2:=aY.cell 2
 simp at q0 q1 q2
 have hX1:=jf (v0:=.int .i64 t1) (v1:=.int .i64 m1) (v2:=.slice a1 (iw o).length c1) aY
 have hb1:=dQ (v0:=.int .i64 t1) (v1:=.int .i64 m1) (v2:=.slice a1 (iw o).length c1) hB1 (Nat.le_refl _)
 obtain ⟨u1,hu1⟩ : ∃ u,((v1.setCell ⟨w1.heap.size,0,none⟩ (.int .i64 t1)).setCell ⟨w1.heap.size,1,none⟩ (.int .i64 m1)).setCell ⟨w1.heap.size,2,none⟩ (.slice a1 (iw o).length c1) = u:=⟨_,rfl⟩
 rw [hu1] at hX1 hb1
 have zX : Below w0.heap.size w0 u1:=hB.trans (hb1.mono hB.size)
 have ow:=O6 t1 m1 a1 c1 (iw o) u1 (hE1.below hb1) hc1 (by omega)
 have k0:=hX1.cell 0
 have k1:=hX1.cell 1
 have k2:=hX1.cell 2
 simp at k0 k1 k2
 have yF:=ahZ (HX0.out.below zX HX0.out.lt)
 have Ci:=ahZ (HB0.out.trans (zX.mono HB0.out.size))
 have hsz : w.heap.size < u1.heap.size:=Nat.lt_of_lt_of_le (by rw [HZ0.out];omega) zX.size
 have xQ:=ahZ hsz
 clear hB hE1 hc1 hl1 e1 hB1 aY hX1 hb1 zX hsz HX0 ht1 hm1
 go_wp2_with fail
 clear hv1 hu1 f0 f1 f2 q0 q1 q2 k0 k1 k2
 refine ow.mono ?_
 rintro e w2 ⟨a2,c2,rfl,hO,hB⟩
 have hX2:=yF.out.below hB yF.out.lt
 have f0:=hX2.free 0
 have f1:=hX2.free 1
 have f2:=hX2.free 2
 have q0:=hX2.cell 0
 have q1:=hX2.cell 1
 have q2:=hX2.cell 2
 simp at q0 q1 q2
 have dU:=jf (v0:=.int .i64 t1) (v1:=.int .i64 m1) (v2:=.slice a2 (iw o).length c2) hX2
 have HF : Hid (aK (((w2.setCell ⟨w.heap.size,0,none⟩ (.int .i64 t1)).setCell ⟨w.heap.size,1,none⟩ (.int .i64 m1)).setCell ⟨w.heap.size,2,none⟩ (.slice a2 (iw o).length c2)) w.heap.size (.slice a2 (iw o).length c2) (iw o) /\
   Below w.heap.size w (((w2.setCell ⟨w.heap.size,0,none⟩ (.int .i64 t1)).setCell ⟨w.heap.size,1,none⟩ (.int .i64 m1)).setCell ⟨w.heap.size,2,none⟩ (.slice a2 (iw o).length c2))):=ahZ
  ⟨(aK.base hO (by have:=xQ.out;omega)).only (sw (S:=λk=>k = w.heap.size) (Only.refl _ _) (.inl rfl)) (λj hj hk=>by have:=(hO.lt j hj).1;have:=xQ.out;omega),dQ (Ci.out.trans (hB.mono Ci.out.size)) (Nat.le_refl _)⟩
 obtain ⟨u3,hu3⟩ : ∃ u,((w2.setCell ⟨w.heap.size,0,none⟩ (.int .i64 t1)).setCell ⟨w.heap.size,1,none⟩ (.int .i64 m1)).setCell ⟨w.heap.size,2,none⟩ (.slice a2 (iw o).length c2) = u:=⟨_,rfl⟩
 rw [hu3] at HF dU
 have g0:=dU.cell 0
 have g1:=dU.cell 1
 have g2:=dU.cell 2
 simp at g0 g1 g2
 clear hO hB hX2 dU ow yF
 go_wp2_with fail
 exact bodyPost_ret (v:=.tuple #[.agg #[.int .i64 t1,.int .i64 m1,.slice a2 (iw o).length c2],.int .i64 ev]) (by simp [results,Tryz.results90,go_sem,g0,g1,g2]) rfl ⟨a2,c2,by rw [Tj.out.1,Tj.out.2],HF.out⟩
set_option maxRecDepth 100000
theorem gN.apart {w : World} {T R : Nat} {l : List aG} {most floor : Int} {gone : Bool} {S : Nat -> Prop} (h : gN w T R l most floor gone S) : RingAt w R l most floor gone (λk=>S k /\ k ≠ T):=by
 obtain ⟨⟨cs,hcs,hb⟩,⟨v,hp⟩,h3⟩:=h
 refine ⟨v,hp.blk,hp.row,hp.ents,⟨hp.sR,λe=>?_⟩,λj e=>⟨hp.sv j e,λe2=>?_⟩,λk hk j e=>⟨hp.se k hk j e,λe2=>?_⟩,hp.up,hp.len⟩
 ·subst e
  have h1:=hp.blk
  unfold ak at h1 hb
  have h2:=Option.some.inj (h1.symm.trans hb)
  injection h2 with _ h3
  exact absurd h3 (by decide)
 ·subst e2;exact bK hp.row hb (by decide) e
 ·subst e2;exact bK (hp.ents k hk).1 hb (by decide) e
theorem Vo (p m : Value) (cs : List Int) (n : Nat) : (#[p,m] ++ (cs.map (Value.int .i64)).toArray)[2 + n]? = (cs[n]?).map (Value.int .i64):=by
 rw [Array.getElem?_append_right (by simp)]
 simp
theorem Vp (p m : Value) (cs : List Int) (n : Nat) (c : Int) : (#[p,m] ++ (cs.map (Value.int .i64)).toArray).setIfInBounds (2 + n) (.int .i64 c) = #[p,m] ++ ((cs.set n c).map (Value.int .i64)).toArray:=by
 apply Array.ext'
 rw [Array.toList_setIfInBounds,Array.toList_append,Array.toList_append,List.map_set,show 2 + n = n + 1 + 1 by omega]
 rfl
theorem gN.count {w : World} {T R : Nat} {l : List aG} {most floor : Int} {gone : Bool} {S : Nat -> Prop} (h : gN w T R l most floor gone S) {e : Int} (he : dO e) :
  ∃ c : Int,w.cell? ⟨T,2 + e.toNat,none⟩ = some (.int .i64 c) /\ w.frozen? ⟨T,2 + e.toNat,none⟩ = false /\ ∀ c',gN (w.setCell ⟨T,2 + e.toNat,none⟩ (.int .i64 c')) T R l most floor gone S:=by
 have ha:=h.apart
 obtain ⟨⟨cs,hcs,hb⟩,_,h3⟩:=h
 obtain ⟨e0,e1⟩:=he
 have hn : e.toNat < cs.length:=by omega
 refine ⟨cs[e.toNat],?_,hb.free _,λc'=>⟨⟨cs.set e.toNat c',by rw [List.length_set];exact hcs,?_⟩,?_,h3⟩⟩
 ·rw [hb.cell,Vo,List.getElem?_eq_getElem hn];rfl
 ·rw [← Vp];exact hb.set _ _
 ·exact (ha.only (Only.setCell (S:=λk=>k = T) (p:=⟨T,2 + e.toNat,none⟩) (Only.refl _ _) (.inl rfl) _) (λk hk e=>hk.2 e)).weaken (λk hk=>hk.1)
def Vq (l : List aG) (most floor : Int) (gone : Bool) (x : aG) (l' : List aG) (fl : Int) (g : Bool) : Prop:=(⟨l'.map (·.sn),fl,g⟩ : Rg) = jK most ⟨l.map (·.sn),floor,gone⟩ x.sn /\ ∀ k ∈ l',k = x \/ k ∈ l
def KX (most : Int) (r : Rg) (x : Sn) : Int × Bool:=if ((fF r.ss x).length : Int) <= most then (0,false) else (((fF r.ss x).headD eT).tick,true)
def WV (R : Nat) (l : List aG) (most floor : Int) (gone : Bool) (S : Nat -> Prop) (x : aG) (w : World) : Prop :=
 Calls Tryz.prog 78 #[.pointer (some ⟨R,0,none⟩),.int .i64 x.key,.agg #[.int .i64 x.sn.tick,.int .i64 x.sn.time,dV x]] w λe w'=>∃ (l' : List aG) (fl : Int) (g : Bool),e = .returned (.tuple #[.int .i64 (KX most ⟨l.map (·.sn),floor,gone⟩ x.sn).1,.bool (KX most ⟨l.map (·.sn),floor,gone⟩ x.sn).2,.int .i64 0]) /\ RingAt w' R l' most fl g (λk=>S k \/ (w.heap.size <= k /\ k < w'.heap.size)) /\ Only S w w' /\ Vq l most floor gone x l' fl g
def KY (l : List aG) (most floor : Int) (gone : Bool) (sn : Sn) : Prop:=∀ (R : Nat) (S : Nat -> Prop) (x : aG) (w : World),x.sn = sn -> x.key = sn.tick -> RingAt w R l most floor gone S -> aK w 0 (dV x) x.sn.ents -> (∀ e ∈ x.sn.ents,e.Ok) -> (∀ j,(dV x).ownBlock = some j -> S j) -> WV R l most floor gone S x w
def KZ (u1 : World) (S2 : Nat -> Prop) (R : Nat) (l : List aG) (most floor : Int) (gone : Bool) (sn : Sn) (b : List Value) (W : World) : Prop:=Only S2 u1 W /\ match b with
 | []=>Below u1.heap.size u1 W
 | [v]=>Below u1.heap.size u1 W /\ ∃ a c,v = .agg #[.int .i64 sn.tick,.int .i64 sn.time,.slice a sn.ents.length c] /\ aK W u1.heap.size (.slice a sn.ents.length c) sn.ents
 | [v,u]=>∃ (l' : List aG) (fl : Int) (g : Bool) (x : aG),RingAt W R l' most fl g (λk=>S2 k /\ k < W.heap.size) /\ x.sn = sn /\ x.key = sn.tick /\ Vq l most floor gone x l' fl g
 | _=>False
theorem KZ.below {u1 : World} {S2 : Nat -> Prop} {R : Nat} {l : List aG} {most floor : Int} {gone : Bool} {sn : Sn} {b : List Value} {W W' : World} (h : KZ u1 S2 R l most floor gone sn b W) (hb : Below W.heap.size W W') : KZ u1 S2 R l most floor gone sn b W':=by
 obtain ⟨h1,h2⟩:=h
 refine ⟨h1.fu hb,?_⟩
 match b,h2 with
 | [],h2=>exact h2.trans (hb.mono h2.size)
 | [v],⟨h2,a,c,e,ho⟩=>exact ⟨h2.trans (hb.mono h2.size),a,c,e,ho.below hb⟩
 | [v,u],⟨l',fl,g,x,hr,q⟩=>exact ⟨l',fl,g,x,(hr.below hb).weaken (λk hk=>⟨hk.1,Nat.lt_of_lt_of_le hk.2 hb.size⟩),q⟩
def aeJ (l : List aG) (most floor : Int) (gone : Bool) (z : Sn × Int) (l' : List aG) (fl : Int) (g : Bool) : Prop :=
 (z.2 ≠ 0 /\ l' = l /\ fl = floor /\ g = gone) \/ (z.2 = 0 /\ ∃ x : aG,x.sn = z.1 /\ x.key = z.1.tick /\ Vq l most floor gone x l' fl g)
set_option maxHeartbeats 4000000 in
theorem Pq (T R : Nat) (l : List aG) (most floor : Int) (gone : Bool) (S : Nat -> Prop) (a : Option Addr) (len cap : Nat) (zs : List Int) (w : World) (h0 : gN w T R l most floor gone S) (Pb : ∀ k ∈ l,k.sn.ents.length <= 64)
  (hz : BytesAt w a len zs) (hc : a = none -> cap = 0) (hlc : len <= cap) (hl : (len : Int) <= 140737488355000)
  (K3 : (eG l most floor gone zs).2 = 0 -> KY l most floor gone (eG l most floor gone zs).1) (hok : ∀ e ∈ (eG l most floor gone zs).1.ents,e.Ok) (hn : (eG l most floor gone zs).1.ents.length <= 64) (her : dO (eG l most floor gone zs).2) :
  Calls Tryz.prog 39 #[.pointer (some ⟨T,0,none⟩),.slice a len cap] w λe w'=>e = .returned (.tuple #[.int .i64 (if (eG l most floor gone zs).2 = 0 then (eG l most floor gone zs).1.tick else 0),.int .i64 (eG l most floor gone zs).2]) /\
   (∃ l' fl g,gN w' T R l' most fl g (λk=>S k \/ (w.heap.size <= k /\ k < w'.heap.size)) /\ aeJ l most floor gone (eG l most floor gone zs) l' fl g) /\ Only S w w':=by
 have hs:=aaj T R l most floor gone S a len cap zs w h0 Pb hz hc hlc hl (SV hz.u8)
 have K4:=ahZ h0.cap
 have DK:=ahZ hok
 have aeK:=ahZ K3
 have WX:=ahZ her
 have HN:=ahZ hn
 clear K3 hok h0 hz her hn
 generalize eG l most floor gone zs = z at *
 obtain ⟨tk,htk⟩ : ∃ t : Int,(if z.2 = 0 then z.1.tick else 0) = t:=⟨_,rfl⟩
 rw [htk]
 obtain ⟨⟨tick,time,ents⟩,er⟩:=z
 simp only at *
 have Nz:=ahZ htk
 clear htk
 go_enter Tryz.func39,Tryz.ntmps39
 go_wp2_with fail
 refine hs.mono ?_
 rintro e w1 ⟨v,rfl,hO,hB⟩
 clear hs
 obtain ⟨va,vc,rfl,_⟩:=hO.slice
 have hS1:=K4.out.below hB
 obtain ⟨v1,hv1⟩ : ∃ v,w1.alloc (.cells #[.int .i64 0,.int .i64 0,.slice none 0 0] 36) = v:=⟨_,rfl⟩
 have hB1 : Below w1.heap.size w1 v1:=by rw [← hv1];exact (Below.refl _ _).alloc (Nat.le_refl _) _
 have aY : ak v1 w1.heap.size #[.int .i64 0,.int .i64 0,.slice none 0 0] 36:=by rw [← hv1];exact ak.new _ _ _
 have f0:=aY.free 0
 have f1:=aY.free 1
 have f2:=aY.free 2
 have q0:=aY.cell 0
 have q1:=aY.cell 1
 have q2:=aY.cell 2
 simp at q0 q1 q2
 have hX1:=jf (v0:=.int .i64 tick) (v1:=.int .i64 time) (v2:=.slice va ents.length vc) aY
 have hb1:=dQ (v0:=.int .i64 tick) (v1:=.int .i64 time) (v2:=.slice va ents.length vc) hB1 (Nat.le_refl _)
 obtain ⟨u1,hu1⟩ : ∃ u,((v1.setCell ⟨w1.heap.size,0,none⟩ (.int .i64 tick)).setCell ⟨w1.heap.size,1,none⟩ (.int .i64 time)).setCell ⟨w1.heap.size,2,none⟩ (.slice va ents.length vc) = u:=⟨_,rfl⟩
 rw [hu1] at hX1 hb1
 have gJ:=ahZ hX1
 have gX:=ahZ (hS1.below hb1)
 have HB1:=ahZ (hB.trans (hb1.mono hB.size))
 have hE1 : dH u1 va ents /\ (va = none -> vc = 0):=by
  obtain ⟨a',c',e,h1,h2,_⟩:=(aK.below hO hb1).ents DK.out
  cases e;exact ⟨h1,h2⟩
 have zx:=ahZ hE1
 have xQ : Hid (w.heap.size <= w1.heap.size /\ w1.heap.size < u1.heap.size):=ahZ ⟨hB.size,hX1.lt⟩
 clear hO hB hS1 hB1 aY hX1 hb1 hE1
 by_cases her : er = 0
 ·subst her
  obtain rfl : tick = tk:=by have:=Nz.out;simpa using this
  obtain ⟨d0,d1⟩:=gX.out.cells
  have x0:=gJ.out.cell 0
  have x1:=gJ.out.cell 1
  have x2:=gJ.out.cell 2
  simp at x0 x1 x2
  have HI : Hid (KZ u1 (λk=>(S k /\ k < w.heap.size /\ k ≠ T) \/ u1.heap.size <= k) R l most floor gone ⟨tick,time,ents⟩ [] u1.drew):=ahZ ⟨Only.of_below (below_drewN (Below.refl _ _) 1),below_drewN (Below.refl _ _) 1⟩
  have HT : Hid (T < w.heap.size):=ahZ K4.out.sT.2
  have Ji : Hid (∀ b W,KZ u1 (λk=>(S k /\ k < w.heap.size /\ k ≠ T) \/ u1.heap.size <= k) R l most floor gone ⟨tick,time,ents⟩ b W -> W.cell? ⟨T,0,none⟩ = some (.pointer (some ⟨R,0,none⟩)) /\ W.cell? ⟨w1.heap.size,0,none⟩ = some (.int .i64 tick) /\ W.cell? ⟨w1.heap.size,1,none⟩ = some (.int .i64 time) /\ W.cell? ⟨w1.heap.size,2,none⟩ = some (.slice va ents.length vc)):=ahZ (λb W hW=>by
   have hh : ∀ k o,k < u1.heap.size -> ¬ ((S k /\ k < w.heap.size /\ k ≠ T) \/ u1.heap.size <= k) -> W.cell? ⟨k,o,none⟩ = u1.cell? ⟨k,o,none⟩:=λk o h1 h2=>by
    simp only [World.cell?];rw [hW.1.block k h1 h2]
   have a1:=HT.out;have a2:=xQ.out
   refine ⟨(hh T 0 (by omega) (by omega)).trans d0,(hh _ 0 (by omega) (by omega)).trans x0,(hh _ 1 (by omega) (by omega)).trans x1,(hh _ 2 (by omega) (by omega)).trans x2⟩)
  obtain ⟨av,bv,hlv⟩ : ∃ av bv,KX most ⟨l.map (·.sn),floor,gone⟩ ⟨tick,time,ents⟩ = (av,bv):=⟨_,_,rfl⟩
  have HLV:=ahZ hlv
  clear hlv
  go_wp2_with fail
  clear hv1 hu1 f0 f1 f2 q0 q1 q2 d0 d1 x0 x1 x2
  apply lD 13 [7,8] (KZ u1 (λk=>(S k /\ k < w.heap.size /\ k ≠ T) \/ u1.heap.size <= k) R l most floor gone ⟨tick,time,ents⟩)
  case hm=>kernel_rfl
  case hB=>kernel_rfl
  case hp=>kernel_rfl
  case hI=>exact HI.out
  simp only [List.take_succ_cons,List.take_zero,List.drop_succ_cons,List.drop_zero]
  repeat (apply dw;(next=>rfl);(next=>(intro b W hW K hK;obtain ⟨y0,y1,y2,y3⟩:=Ji.out _ _ hW;go_simp;first | exact ⟨hW,hK⟩ | exact hK));(next=>exact ⟨_,HI.out⟩);(try go_simp))
  apply dM (s:=λ_=>True)
  case hk=>rfl
  case hne=>exact ⟨undef,trivial⟩
  case hw=>rfl
  case h =>
   intro W hW
   have hW2 : Below u1.heap.size u1 W:=hW.2
   have ow:=O6 tick time va vc ents W (zx.out.1.below hW2) zx.out.2 (by have:=HN.out;omega)
   have HW:=ahZ hW
   clear hW hW2
   go_simp
   refine ow.mono ?_
   rintro e w2 ⟨a2,c2,rfl,hO,hB⟩
   have hAc:=KZ.below HW.out hB
   first | refine ⟨_,rfl,?_⟩ | refine ⟨_,rfl,trivial,?_⟩
   exact ⟨hAc.1,hAc.2,a2,c2,rfl,aK.base hO (Below.size (show Below u1.heap.size u1 W from HW.out.2))⟩
  intro v2 _
  repeat (apply dw;(next=>rfl);(next=>(intro b W hW K hK;obtain ⟨y0,y1,y2,y3⟩:=Ji.out _ _ hW;go_simp;first | exact ⟨hW,hK⟩ | exact hK));(next=>exact ⟨_,HI.out⟩);(try go_simp))
  apply dM (s:=λv=>v = .tuple #[.int .i64 av,.bool bv,.int .i64 0])
  case hk=>rfl
  case hne=>exact ⟨_,rfl⟩
  case hw=>rfl
  case h =>
   intro W hW
   obtain ⟨hO,hb,a2,c2,rfl,r9⟩:=hW
   have hS2:=(gX.out.below hb).apart.weaken (S':=λk=>((S k /\ k < w.heap.size /\ k ≠ T) \/ u1.heap.size <= k)) (λk hk=>.inl ⟨hk.1.1,hk.1.2,hk.2⟩)
   have ly:=aeK.out trivial R _ ⟨tick,⟨tick,time,ents⟩,a2,c2⟩ W rfl rfl hS2 (aK.base r9 (Nat.zero_le _)) DK.out (λj hj=>.inr (r9.lt j hj).1)
   have HO:=ahZ hO
   have hbs:=hb.size
   clear hO hb r9 hS2
   unfold WV dV at ly
   simp only [HLV.out] at ly
   go_simp
   refine ly.mono ?_
   rintro e w2 ⟨l',fl,g,rfl,hR,hO2,Iz⟩
   first | refine ⟨_,rfl,rfl,?_⟩ | refine ⟨_,rfl,trivial,?_⟩ | refine ⟨_,rfl,?_⟩
   exact ⟨HO.out.trans hO2,l',fl,g,_,hR.cap.weaken (λk hk=>⟨by rcases hk.1 with h | h;exact h;exact .inr (by omega),hk.2⟩),rfl,rfl,Iz⟩
  intro v3 hv3
  obtain rfl:=hv3
  try go_simp
  repeat (apply dw;(next=>rfl);(next=>(intro b W hW K hK;obtain ⟨y0,y1,y2,y3⟩:=Ji.out _ _ hW;go_simp;first | exact ⟨hW,hK⟩ | exact hK));(next=>exact ⟨_,HI.out⟩);(try go_simp))
  refine kD ?_
  intro W hW
  have HK:=ahZ (Ji.out _ W hW)
  obtain ⟨hO,l',fl,g,x,hR,hx1,hx2,Iz⟩:=hW
  have hT:=HT.out
  have hsz:=xQ.out
  have aeL:=hO.size
  have hST : gN W T R l' most fl g (λk=>S k \/ (w.heap.size <= k /\ k < W.heap.size)):=by
   obtain ⟨cs,hcs,hb⟩:=gX.out.blk
   refine ⟨⟨cs,hcs,hO.blk hb (by omega)⟩,hR.weaken (λk hk=>?_),.inl K4.out.sT.1⟩
   rcases hk.1 with h | h
   ·exact .inl h.1
   ·exact .inr ⟨by omega,hk.2⟩
  have K5 : Hid (Only S w W):=ahZ ((Only.of_below (S:=S) HB1.out).bQ hO (λi hi h=>by rcases h with h | h;exact h.1;omega))
  have HLR:=ahZ (And.intro hx1 (And.intro hx2 Iz))
  have HST:=ahZ hST
  clear hO hR hx1 hx2 Iz HI hST aeL
  obtain ⟨c,hc0,hf0,hset⟩:=HST.out.count dO.zero
  simp at hc0 hf0
  obtain ⟨kt,kx0,kx1,kx2⟩:=HK.out
  go_wp2_with fail
  refine aR 9 (by kernel_rfl) (by kernel_rfl) ?_
  simp only [List.take_succ_cons,List.take_zero,List.drop_succ_cons,List.drop_zero]
  repeat (apply aB;(next=>(intro W hW K hK;have y0:=hW.cell kt;have y1:=hW.cell kx0;have y2:=hW.cell kx1;have y3:=hW.cell kx2;have y4:=hW.cell hc0;go_simp;first | exact ⟨hW,hK⟩ | exact hK));(next=>exact aO.self _);(try go_simp))
  refine aW ?_
  intro WC aM
  have aV : Below W.heap.size W WC:=aM
  have IB:=HST.out.below aV
  obtain ⟨c',hc2,hf2,iR⟩:=IB.count dO.zero
  simp at hc2 hf2 iR
  have kx:=aM.cell kx0
  have hc3:=aM.cell hc0
  have agZ:=xQ.out
  have hTl:=HT.out
  have hne1 : ¬ w1.heap.size = T:=by omega
  have hne2 : ¬ T = w1.heap.size:=by omega
  have HF : Hid (∀ v,gN (WC.setCell ⟨T,2,none⟩ (.int .i64 v)) T R l' most fl g (λk=>S k \/ (w.heap.size <= k /\ k < (WC.setCell ⟨T,2,none⟩ (.int .i64 v)).heap.size)) /\ Only S w (WC.setCell ⟨T,2,none⟩ (.int .i64 v))):=ahZ (λv=>⟨(iR v).weaken (λk hk=>by
   rcases hk with h | h
   ·exact .inl h
   ·exact .inr ⟨h.1,by have:=aV.size;simp [World.setCell];omega⟩),(K5.out.fu aV).setCell (p:=⟨T,2,none⟩) (.inl K4.out.sT.1) _⟩)
  clear aM aV IB kt kx0 kx1 kx2 hc0 hf0 hset HK iR hc2
  go_wp2_with fail
  exact bodyPost_ret (v:=.tuple #[.int .i64 tick,.int .i64 0]) (by simp [results,Tryz.results39,go_sem]) rfl ⟨rfl,⟨l',fl,g,(HF.out _).1,.inr ⟨rfl,x,HLR.out.1,HLR.out.2.1,HLR.out.2.2⟩⟩,(HF.out _).2⟩
 ·have hen : (er == 0) = false:=by simpa using her
  have ag0 : (er != 0) = true:=by simpa using her
  obtain ⟨c,hc0,hf0,hset⟩:=gX.out.count WX.out
  obtain ⟨d0,d1⟩:=gX.out.cells
  have hb1 : ¬ er < 0:=by have:=WX.out.1;omega
  have hb2 : er < 18:=by have:=WX.out.2;omega
  go_wp2_with fail
  clear hv1 hu1 f0 f1 f2 q0 q1 q2
  refine aR 9 (by kernel_rfl) (by kernel_rfl) ?_
  simp only [List.take_succ_cons,List.take_zero,List.drop_succ_cons,List.drop_zero]
  repeat (apply aB;(next=>(intro W hW K hK;have y0:=hW.cell d0;have y1:=hW.cell d1;have y2:=hW.cell hc0;go_simp;first | exact ⟨hW,hK⟩ | exact hK));(next=>exact aO.self _);(try go_simp))
  refine aW ?_
  intro WC aM
  have aV : Below u1.heap.size u1 WC:=aM
  have IB:=gX.out.below aV
  obtain ⟨c',hc2,hf2,iR⟩:=IB.count WX.out
  have hc3:=aM.cell hc0
  have HF : Hid (∀ v,gN (WC.setCell ⟨T,2 + er.toNat,none⟩ (.int .i64 v)) T R l most floor gone (λk=>S k \/ (w.heap.size <= k /\ k < (WC.setCell ⟨T,2 + er.toNat,none⟩ (.int .i64 v)).heap.size)) /\ Only S w (WC.setCell ⟨T,2 + er.toNat,none⟩ (.int .i64 v))):=ahZ (λv=>⟨(iR v).weaken (λk hk=>.inl hk.1),(Only.of_below (HB1.out.trans (aV.mono HB1.out.size))).setCell (p:=⟨T,2 + er.toNat,none⟩) (.inl K4.out.sT.1) _⟩)
  have htk : tk = 0:=by rw [← Nz.out,if_neg her]
  subst htk
  have nO:=ahZ her
  clear aM aV IB d0 d1 hc0 hf0 hset iR hc2 her
  go_wp2_with fail
  exact bodyPost_ret (v:=.tuple #[.int .i64 0,.int .i64 er]) (by simp [results,Tryz.results39,go_sem]) rfl ⟨rfl,⟨l,floor,gone,(HF.out _).1,.inl ⟨nO.out,rfl,rfl,rfl⟩⟩,(HF.out _).2⟩
end Go.Proofs.YtklkooeimkedgaaGreat
