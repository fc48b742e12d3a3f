/- Walk of TopDeltas. -/
import Derived.Test.YtklkooeimkedgaaGreatD44
set_option linter.unusedVariables false
set_option linter.unusedSimpArgs false
namespace Go.Proofs.YtklkooeimkedgaaGreat
open Go.RowKit
def tV (k : aH) : Int × Sn:=(k.key,k.sn)
def Al (l l' : List aH) : Prop:=l.map tV = l'.map tV
def gy (s : Sn) : aH:=⟨s.tick,s,none,0⟩
theorem Al.len {l l' : List aH} (h : Al l l') : l.length = l'.length:=by
 have:=congrArg List.length h
 simpa using this
theorem Al.nth {l l' : List aH} (h : Al l l') (i : Nat) : (l[i]?).map tV = (l'[i]?).map tV:=by
 have:=congrArg (λm : List (Int × Sn)=>m[i]?) h
 simpa using this
theorem Al.cnt : ∀ {l l' : List aH},Al l l' -> ∀ key,eD l key = eD l' key
 | [],[],_,key=>rfl
 | [],_ :: _,h,key=>by simp [Al] at h
 | _ :: _,[],h,key=>by simp [Al] at h
 | x :: l,y :: l',h,key=>by
   simp only [Al,List.map_cons,List.cons.injEq] at h
   obtain ⟨h1,h2⟩:=h
   have hk : x.key = y.key:=congrArg Prod.fst h1
   have:=Al.cnt (l:=l) (l':=l') h2 key
   unfold eD at *
   by_cases hx : x.key < key
   ·rw [List.takeWhile_cons_of_pos (by simpa using hx),List.takeWhile_cons_of_pos (by simpa [← hk] using hx),List.length_cons,List.length_cons,this]
   ·rw [List.takeWhile_cons_of_neg (by simpa using hx),List.takeWhile_cons_of_neg (by simpa [← hk] using hx)]
theorem Y0 {o o' : Option aH} (h : o.map tV = o'.map tV) (key : Int) : o.elim false (λk=>k.key == key) = o'.elim false (λk=>k.key == key):=by
 cases o <;> cases o' <;> simp_all [tV]
theorem Al.has {l l' : List aH} (h : Al l l') (key : Int) : fF l key = fF l' key:=by
 unfold fF
 rw [h.cnt key]
 exact Y0 (h.nth _) key
theorem Al.unt {l l' : List aH} (h : Al l l') (key : Int) : dW l key = dW l' key:=by
 unfold dW;rw [h.has,h.cnt]
theorem Al.get {l l' : List aH} (h : Al l l') (key : Int) : (fC l key).map tV = (fC l' key).map tV:=by
 unfold fC
 rw [h.has,h.cnt]
 split
 ·exact h.nth _
 ·rfl
theorem Al.at {l l' : List aH} (h : Al l l') (i : Int) : (eG l i).map tV = (eG l' i).map tV:=by
 unfold eG
 split
 ·rfl
 ·exact h.nth _
theorem Wi {o o' : Option aH} (h : o.map tV = o'.map tV) : jf o = jf o':=by
 cases o <;> cases o' <;> simp_all [jf,tV,xD,om,iR]
theorem Du {o o' : Option aH} (h : o.map tV = o'.map tV) : sV o = sV o' /\ om o = om o':=by
 cases o <;> cases o' <;> simp_all [tV,sV,om]
theorem Al.stale {l l' : List aH} (h : Al l l') (most floor : Int) (gone : Bool) (tick : Int) : gP l most floor gone tick = gP l' most floor gone tick:=by
 unfold gP;rw [h.unt,h.len]
theorem Al.timely {l l' : List aH} (h : Al l l') (tick time : Int) : fO l tick time = fO l' tick time:=by
 unfold fO
 rw [h.unt,(Du (h.at _)).1,(Du (h.at _)).2,(Du (h.at (dW l' tick))).1,(Du (h.at (dW l' tick))).2]
theorem Al.snap {l l' : List aH} (h : Al l l') (most floor : Int) (gone : Bool) (zs : List Int) : eu l most floor gone zs = eu l' most floor gone zs:=by
 unfold eu
 rw [show qO l most floor gone (bA zs).1.tick (bA zs).1.base = qO l' most floor gone (bA zs).1.tick (bA zs).1.base by unfold qO;rw [h.has,h.has,h.stale],Wi (h.get (bA zs).1.base),h.timely]
theorem TN {l : List aH} (h : ∀ k ∈ l,k.key = k.sn.tick) : Al l ((l.map (·.sn)).map gy):=by
 unfold Al
 rw [List.map_map,List.map_map]
 refine List.map_congr_left λk hk=>?_
 simp [tV,gy,h k hk]
def jk (ss : List Sn) (x : Sn) : List Sn:=ss.takeWhile (λs=>decide (s.tick < x.tick)) ++ x :: ss.dropWhile (λs=>decide (s.tick < x.tick))
structure Rg where
 ss : List Sn
 floor : Int
 gone : Bool
def fV (most : Int) (r : Rg) (x : Sn) : Rg :=
 if ((jk r.ss x).length : Int) <= most then ⟨jk r.ss x,r.floor,r.gone⟩ else ⟨(jk r.ss x).drop 1,((jk r.ss x).headD fu).tick,true⟩
def fM (most : Int) (r : Rg) (zs : List Int) : Sn × Int:=eu (r.ss.map gy) most r.floor r.gone zs
theorem EF : ∀ {ss : List Sn} {x : Sn},(∀ s ∈ ss,s.tick < x.tick) -> jk ss x = ss ++ [x]
 | [],x,_=>rfl
 | y :: ss,x,h=>by
   have h1:=EF (ss:=ss) (x:=x) (λs hs=>h s (List.mem_cons_of_mem _ hs))
   have hy:=h y (List.mem_cons_self ..)
   unfold jk at h1 ⊢
   rw [List.takeWhile_cons_of_pos (by simpa using hy),List.dropWhile_cons_of_pos (by simpa using hy),List.cons_append,h1,List.cons_append]
theorem EG {a : Sn} {g : Gr} (h : (jw a g).2 = 0) : cO g = 0 /\ (jw a g).1.tick = g.tick /\ (jw a g).1.time = g.time:=by
 unfold jw at h ⊢
 split at h
 ·rename_i hh;exact absurd h hh
 ·rename_i hh
  rw [if_neg hh]
  refine ⟨by simpa using hh,?_⟩
  have key : ∀ l,(fT g l).2 = 0 -> (fT g l).1.tick = g.tick /\ (fT g l).1.time = g.time:=by
   intro l hl
   unfold fT at hl ⊢
   cases hx : kr l g.recs with
   | none=>rw [hx] at hl;cases hl
   | some l' =>
     rw [hx] at hl
     simp only at hl ⊢
     split at hl
     ·cases hl
     ·rename_i hy;rw [if_neg hy];exact ⟨rfl,rfl⟩
  split at h
  ·rename_i hb
   rw [if_pos hb]
   split at h
   ·rename_i hc;exact absurd h hc
   ·rename_i hc
    rw [if_neg hc]
    split at h
    ·cases h
    ·rename_i ht
     rw [if_neg ht]
     exact key _ h
  ·rename_i hb
   rw [if_neg hb]
   exact key _ h
theorem wu (E : Nat -> ay) : ∀ (n i : Nat),jT E n i = 0 ↔ ∀ j,i <= j -> j < i + n -> 0 <= (E j).id /\ (E j).id <= 65535 /\ (0 < j -> (E (j - 1)).id < (E j).id)
 | 0,i=>⟨λ_ j h1 h2=>by omega,λ_=>rfl⟩
 | n + 1,i=>by
   unfold jT
   constructor
   ·intro h j h1 h2
    split at h
    ·cases h
    split at h
    ·cases h
    rename_i a b
    by_cases hj : j = i
    ·subst hj;exact ⟨by omega,by omega,λhp=>by omega⟩
    ·exact (wu E n (i + 1)).1 h j (by omega) (by omega)
   ·intro h
    have h0:=h i (Nat.le_refl _) (by omega)
    rw [if_neg (by omega),if_neg (by intro hh;have:=h0.2.2 hh.1;omega)]
    exact (wu E n (i + 1)).2 (λj h1 h2=>h j (by omega) (by omega))
structure lX (s : Sn) : Prop where
 tick : 0 <= s.tick /\ s.tick <= 4294967295
 time : -2305843009213693952 <= s.time /\ s.time <= 2305843009213693952
 len : s.ents.length <= 64
 ids : ∀ e ∈ s.ents,0 <= e.id /\ e.id <= 65535
 up : s.ents.Pairwise (λa b=>a.id < b.id)
theorem getD_get {es : List ay} {i : Nat} (h : i < es.length) : es.getD i bP = es[i]:=by simp [List.getD,h]
theorem AY : ∀ {es : List ay},(∀ i,0 < i -> (h : i < es.length) -> (es[i - 1]).id < (es[i]).id) -> es.Pairwise (λa b=>a.id < b.id)
 | [],_=>List.Pairwise.nil
 | [x],_=>List.pairwise_singleton _ _
 | x :: y :: es,h=>by
   have ih:=AY (es:=y :: es) (λi hi hl=>by
    have:=h (i + 1) (by omega) (by simp at hl ⊢;omega)
    obtain ⟨j,rfl⟩ : ∃ j,i = j + 1:=⟨i - 1,by omega⟩
    simpa using this)
   have hxy : x.id < y.id:=h 1 (by omega) (by simp)
   refine List.pairwise_cons.2 ⟨λz hz=>?_,ih⟩
   rcases List.mem_cons.1 hz with rfl | hz
   ·exact hxy
   ·exact Int.lt_trans hxy ((List.pairwise_cons.1 ih).1 z hz)
theorem gq {s : Sn} : dI s = 0 ↔ lX s:=by
 unfold dI dD
 constructor
 ·intro h
  split at h
  ·cases h
  split at h
  ·cases h
  rename_i a b
  have h2:=(wu _ _ _).1 h
  refine ⟨by omega,by omega,by omega,λe he=>?_,AY λi hi hl=>?_⟩
  ·obtain ⟨i,hi,rfl⟩:=List.mem_iff_getElem.1 he
   have:=h2 i (by omega) (by omega)
   rw [getD_get hi] at this
   exact ⟨this.1,this.2.1⟩
  ·have:=(h2 i (by omega) (by omega)).2.2 hi
   rwa [getD_get hl,getD_get (show i - 1 < s.ents.length by omega)] at this
 ·intro h
  rw [if_neg (by have:=h.tick;have:=h.time;omega),if_neg (by have:=h.len;omega)]
  refine (wu _ _ _).2 λj _ hj=>?_
  have hj' : j < s.ents.length:=by omega
  have hi:=h.ids _ (List.getElem_mem hj')
  rw [getD_get hj']
  refine ⟨hi.1,hi.2,λhp=>?_⟩
  rw [getD_get (show j - 1 < s.ents.length by omega)]
  exact List.pairwise_iff_getElem.1 h.up (j - 1) j (by omega) hj' (by omega)
theorem Ee : ∀ (n : Nat) {last : Int} {s : aJ},-1 <= last -> last <= 65535 -> aW s.1 -> ∀ r ∈ (gD n last s).1,r.Ok
 | 0,last,s,_,_,_,r,hr=>by simp [gD] at hr
 | n + 1,last,s,h1,h2,h,r,hr=>by
   rw [gD] at hr
   split at hr
   ·simp at hr
   ·rename_i hh
    have hk:=KS h1 h2 h (by simpa using hh)
    rcases List.mem_cons.1 hr with rfl | hr
    ·exact hk.1
    ·exact Ee n (by omega) (by omega) hk.2.1 r hr
theorem TP {zs : List Int} (h : aW zs) : ∀ r ∈ (bA zs).1.recs,r.Ok:=by
 unfold bA
 split
 ·simp [jW]
 split
 ·simp [jW]
 rename_i x hx
 split
 ·simp [jW]
 ·exact Ee _ (by decide) (by decide) (jq (jq (by
   unfold iB;simp only;split
   ·exact kP (jq (oC (oC (Cx h hx))))
   ·exact kP (jq (oC (oC (Cx h hx)))))))
theorem TQ {l l' : List ay} {r : Rec} (h : iP l r = some l') (hc : dG r = 0) (hl : ∀ e ∈ l,0 <= e.id /\ e.id <= 65535) (hn : (l.map (·.id)).Nodup) : (∀ e ∈ l',0 <= e.id /\ e.id <= 65535) /\ (l'.map (·.id)).Nodup:=by
 have hr : 0 <= r.id /\ r.id <= 65535:=by
  unfold dG at hc
  split at hc
  ·cases hc
  split at hc
  ·cases hc
  omega
 have put : ∀ e : ay,e.id = r.id -> (∀ x ∈ eB l e,0 <= x.id /\ x.id <= 65535) /\ ((eB l e).map (·.id)).Nodup:=λe he =>
  ⟨λx hx=>by rcases xk hx with h | h;exact hl x h;subst h;omega,uw hn⟩
 unfold iP at h
 cases hf : aI l r.id with
 | some x =>
   rw [hf] at h
   simp only at h
   have hx:=gW hf
   split at h
   ·cases h
   rename_i hk
   split at h
   ·cases h
    exact ⟨λe he=>hl e (List.mem_filter.1 he).1,hn.sublist (List.Sublist.map _ List.filter_sublist)⟩
   ·rename_i hk2
    cases h
    exact put _ (Ci hc hx.2 hk hk2)
 | none =>
   rw [hf] at h
   simp only at h
   split at h
   ·cases h;exact put _ rfl
   ·cases h
theorem Jb : ∀ (rs : List Rec) {l l' : List ay},kr l rs = some l' -> (∀ r ∈ rs,dG r = 0) -> (∀ e ∈ l,0 <= e.id /\ e.id <= 65535) -> (l.map (·.id)).Nodup -> (∀ e ∈ l',0 <= e.id /\ e.id <= 65535) /\ (l'.map (·.id)).Nodup
 | [],l,l',h,_,hl,hn=>by cases h;exact ⟨hl,hn⟩
 | r :: rs,l,l',h,hc,hl,hn=>by
   unfold kr at h
   cases hx : iP l r with
   | none=>rw [hx] at h;cases h
   | some l1 =>
     rw [hx] at h
     have h1:=TQ hx (hc r (by simp)) hl hn
     exact Jb rs h (λr hr=>hc r (by simp [hr])) h1.1 h1.2
theorem Jc {es : List ay} : ∀ e ∈ dh es,e ∈ es:=by
 have : ∀ (es l : List ay),∀ e ∈ es.foldl eB l,e ∈ l \/ e ∈ es:=by
  intro es
  induction es with
  | nil=>intro l e h;exact .inl h
  | cons x es ih =>
    intro l e h
    rcases ih _ e h with h | h
    ·rcases xk h with h | h
     ·exact .inl h
     ·exact .inr (by simp [h])
    ·exact .inr (by simp [h])
 intro e h
 rcases this es [] e h with h | h
 ·simp at h
 ·exact h
theorem zh (es : List ay) : ((dh es).map (·.id)).Nodup:=by
 have : ∀ (es l : List ay),(l.map (·.id)).Nodup -> ((es.foldl eB l).map (·.id)).Nodup:=by
  intro es
  induction es with
  | nil=>intro l h;exact h
  | cons x es ih=>intro l h;exact ih _ (uw h)
 exact this es [] (by simp)
theorem Wj {a : Sn} {g : Gr} (h : (jw a g).2 = 0) : lX (jw a g).1:=by
 have ht:=EG h;have hb:=ht.1;have hc:=Af hb
 have hh : ¬ gZ g.tick g.time g.base g.recs.length ≠ 0:=by
  intro hn
  unfold cO at hb
  rw [if_pos hn] at hb
  exact hn hb
 have hh' : gZ g.tick g.time g.base g.recs.length = 0:=Decidable.of_not_not hh
 have hr : 0 <= g.tick /\ g.tick <= 4294967295 /\ -2305843009213693952 <= g.time /\ g.time <= 2305843009213693952:=by
  unfold gZ at hh'
  split at hh'
  ·cases hh'
  ·omega
 have key : ∀ l : List ay,(fT g l).2 = 0 -> (∀ e ∈ l,0 <= e.id /\ e.id <= 65535) -> (l.map (·.id)).Nodup -> lX (fT g l).1:=by
  intro l hl h1 h2
  unfold fT at hl ⊢
  cases hx : kr l g.recs with
  | none=>rw [hx] at hl;cases hl
  | some l' =>
    rw [hx] at hl
    simp only at hl ⊢
    split at hl
    ·cases hl
    ·rename_i hy
     rw [if_neg hy]
     have h3:=Jb g.recs hx hc h1 h2;have hp:=nD l'
     have hn : ((qN l').map (·.id)).Nodup:=(hp.map (·.id)).nodup_iff.2 h3.2
     refine ⟨⟨hr.1,hr.2.1⟩,⟨hr.2.2.1,hr.2.2.2⟩,by simp only;rw [hp.length_eq];omega,λe he=>h3.1 e (hp.mem_iff.1 he),?_⟩
     have hs:=G9 l'
     unfold Ev at hs
     have h4 : (qN l').Pairwise (λa b=>a.id ≠ b.id):=List.pairwise_map.1 hn
     exact (List.Pairwise.and hs h4).imp (λ⟨a,b⟩=>by omega)
 unfold jw at h ⊢
 rw [if_neg (by simpa using hb)] at h ⊢
 split at h
 ·rename_i hbs
  rw [if_pos hbs]
  split at h
  ·rename_i hq;exact absurd h hq
  ·rename_i hq
   rw [if_neg hq]
   split at h
   ·cases h
   ·rename_i hq2
    rw [if_neg hq2]
    have ha:=gq.1 (by simpa using hq : dI a = 0)
    exact key _ h (λe he=>ha.ids e (Jc e he)) (zh _)
 ·rename_i hbs
  rw [if_neg hbs]
  exact key _ h (by simp) (by simp)
theorem Wm {a : Sn} {g : Gr} (ha : ∀ e ∈ a.ents,e.Ok) (hg : ∀ r ∈ g.recs,r.Ok) : ∀ e ∈ (jw a g).1.ents,e.Ok:=by
 have key : ∀ l : List ay,(∀ e ∈ l,e.Ok) -> ∀ e ∈ (fT g l).1.ents,e.Ok:=by
  intro l hl
  unfold fT
  cases hx : kr l g.recs with
  | none=>simp [fu]
  | some l' =>
    simp only
    split
    ·simp [fu]
    ·exact λe he=>KY g.recs hx hl hg e ((nD l').mem_iff.1 he)
 unfold jw
 split
 ·simp [fu]
 split
 ·split
  ·simp [fu]
  split
  ·simp [fu]
  ·exact key _ (Ag ha)
 ·exact key _ (by simp)
theorem F9 (E : Nat -> ay) : ∀ n i,dR (jT E n i)
 | 0,_=>dR.zero
 | n + 1,i=>by
   unfold jT
   split
   ·exact ⟨by decide,by decide⟩
   split
   ·exact ⟨by decide,by decide⟩
   ·exact F9 E n _
theorem TS (s : Sn) : dR (dI s):=by
 unfold dI dD
 split
 ·exact ⟨by decide,by decide⟩
 split
 ·exact ⟨by decide,by decide⟩
 ·exact F9 _ _ _
theorem Qe (r : Rec) : dR (dG r):=by
 unfold dG
 split
 ·exact ⟨by decide,by decide⟩
 split
 ·exact ⟨by decide,by decide⟩
 split <;> exact ⟨by decide,by decide⟩
theorem Jd : ∀ (rs : List Rec) (last : Int),dR (lG last rs)
 | [],_=>dR.zero
 | r :: rs,last=>by
   unfold lG
   split
   ·unfold gV
    split
    ·exact Qe r
    split
    ·exact ⟨by decide,by decide⟩
    split <;> exact ⟨by decide,by decide⟩
   ·exact Jd rs _
theorem Qf (g : Gr) : dR (cO g):=by
 unfold cO
 split
 ·unfold gZ
  split
  ·exact ⟨by decide,by decide⟩
  split
  ·exact ⟨by decide,by decide⟩
  split <;> exact ⟨by decide,by decide⟩
 ·exact Jd _ _
theorem Y1 (a : Sn) (g : Gr) : dR (jw a g).2:=by
 have key : ∀ l,dR (fT g l).2:=by
  intro l
  unfold fT
  split
  ·exact ⟨by decide,by decide⟩
  ·split
   ·exact (show dR 4 from ⟨by decide,by decide⟩)
   ·exact dR.zero
 unfold jw
 split
 ·exact Qf g
 split
 ·split
  ·exact TS a
  split
  ·exact ⟨by decide,by decide⟩
  ·exact key _
 ·exact key _
theorem TT (l : List aH) (most floor : Int) (gone : Bool) (zs : List Int) : dR (eu l most floor gone zs).2:=by
 unfold eu
 split
 ·exact Wh zs
 split
 ·unfold qO
  split
  ·exact ⟨by decide,by decide⟩
  split
  ·exact ⟨by decide,by decide⟩
  split <;> exact ⟨by decide,by decide⟩
 ·simp only
  split
  ·exact ⟨by decide,by decide⟩
  ·exact Y1 _ _
theorem Cy {l : List aH} {most floor : Int} {gone : Bool} {zs : List Int} (h : (eu l most floor gone zs).2 = 0) :
 (bA zs).2 = 0 /\ qO l most floor gone (bA zs).1.tick (bA zs).1.base = 0 /\ (jw (jf (fC l (bA zs).1.base)) (bA zs).1).2 = 0 /\ (eu l most floor gone zs).1 = (jw (jf (fC l (bA zs).1.base)) (bA zs).1).1 /\
   fO l (eu l most floor gone zs).1.tick (eu l most floor gone zs).1.time = true:=by
 unfold eu at h ⊢
 split at h
 ·rename_i hh;exact absurd h hh
 rename_i h1
 rw [if_neg h1]
 split at h
 ·rename_i hh;exact absurd h hh
 rename_i h2
 rw [if_neg h2]
 simp only at h ⊢
 refine ⟨by simpa using h1,by simpa using h2,?_⟩
 split at h
 ·cases h
 ·rename_i h3
  refine ⟨h,trivial,?_⟩
  cases ht : fO l (jw (jf (fC l (bA zs).1.base)) (bA zs).1).1.tick (jw (jf (fC l (bA zs).1.base)) (bA zs).1).1.time
  ·exact absurd ⟨h,ht⟩ h3
  ·rfl
theorem Qg {l : List aH} {most floor : Int} {gone : Bool} {zs : List Int} (h : (eu l most floor gone zs).2 = 0) : lX (eu l most floor gone zs).1:=by
 obtain ⟨_,_,h3,h4,_⟩:=Cy h
 rw [h4];exact Wj h3
theorem Qh {l : List aH} {most floor : Int} {gone : Bool} {zs : List Int} (hz : aW zs) (hl : ∀ k ∈ l,∀ e ∈ k.sn.ents,e.Ok) : ∀ e ∈ (eu l most floor gone zs).1.ents,e.Ok:=by
 unfold eu
 split
 ·simp [fu]
 split
 ·simp [fu]
 ·refine Wm (λe he=>?_) (TP hz)
  unfold jf at he
  cases hk : fC l (bA zs).1.base with
  | none=>rw [hk] at he;simp [iR] at he
  | some k=>rw [hk] at he;exact hl k (ED hk) e he
theorem TU {l : List aH} {most floor : Int} {gone : Bool} {zs : List Int} : (eu l most floor gone zs).1.ents.length <= 64:=by
 have key : ∀ g l,(fT g l).1.ents.length <= 64:=by
  intro g l
  unfold fT
  split
  ·simp [fu]
  ·split
   ·simp [fu]
   ·simp only;rw [(nD _).length_eq];omega
 unfold eu
 split
 ·simp [fu]
 split
 ·simp [fu]
 ·simp only
  unfold jw
  split
  ·simp [fu]
  split
  ·split
   ·simp [fu]
   split
   ·simp [fu]
   ·exact key _ _
  ·exact key _ _
theorem acT : aA 1:=⟨by decide,by decide⟩
theorem acU : aA 2:=⟨by decide,by decide⟩
theorem acV : aA 3:=⟨by decide,by decide⟩
theorem oD (n : Int) : aA (IntKind.i64.wrap n):=by
 rw [IntKind.wrap_i64];exact ⟨by omega,by omega⟩
theorem TV {o x : ay} (h : (cZ o x).2 = true) : (cZ o x).1.id = x.id:=by
 unfold cZ at h ⊢
 split at h
 ·cases h
 ·rename_i hh
  rw [if_neg hh]
  unfold Dp
  split <;> rfl
theorem TW {o x : ay} (hx : x.Ok) : (cZ o x).1.Ok:=by
 unfold cZ
 split
 ·exact ⟨aU,aU,aU,aU,aU,aU,aU,aU,(show (0:Int) <= 0 /\ (0:Int) <= 65535 by decide)⟩
 ·unfold Dp
  split
  ·exact ⟨acT,hx.id,oD _,oD _,oD _,oD _,oD _,oD _,by simp only;rw [IntKind.wrap_u16];omega⟩
  ·exact ⟨acV,hx.id,hx.px,hx.py,hx.pz,hx.vx,hx.vy,hx.vz,hx.aG⟩
theorem Qi {was : List ay} {out : List Rec} {x : ay} {q : List ay × List Rec} (h : lH was out x = some q) : q.1 = jZ was x.id /\ (q.2 = out \/ ∃ r : Rec,q.2 = out ++ [r] /\ r.id = x.id /\ (x.Ok -> r.Ok)):=by
 unfold lH at h
 split at h
 ·split at h
  ·cases h
   exact ⟨rfl,.inr ⟨_,rfl,rfl,λhx=>⟨aU,hx.id,hx.px,hx.py,hx.pz,hx.vx,hx.vy,hx.vz,hx.aG⟩⟩⟩
  ·cases h
 ·split at h
  ·cases h
  ·cases h
   refine ⟨rfl,?_⟩
   simp only
   split
   ·rename_i o _ hh
    exact .inr ⟨_,rfl,TV hh,λhx=>TW hx⟩
   ·exact .inl rfl
theorem EH {l : List ay} {i : Int} {e : ay} (h : e ∈ jZ l i) : e ∈ l /\ e.id ≠ i:=by
 unfold jZ at h
 have:=List.mem_filter.1 h
 exact ⟨this.1,by simpa [bne] using this.2⟩
theorem Ak : ∀ (es : List ay) {was : List ay} {out : List Rec} {q : List ay × List Rec},dL was out es = some q ->
 (was.map (·.id)).Nodup -> (es.map (·.id)).Nodup -> (out.map (·.id)).Nodup -> (∀ r ∈ out,r.Ok) -> (∀ e ∈ es,e.Ok) -> (∀ r ∈ out,r.id ∉ was.map (·.id) /\ r.id ∉ es.map (·.id)) ->
 (q.1.map (·.id)).Nodup /\ (q.2.map (·.id)).Nodup /\ (∀ r ∈ q.2,r.Ok) /\ (∀ r ∈ q.2,r.id ∉ q.1.map (·.id)) /\ (∀ e ∈ q.1,e ∈ was)
 | [],was,out,q,h,h1,h2,h3,h4,h5,h6=>by cases h;exact ⟨h1,h3,h4,λr hr=>(h6 r hr).1,λe he=>he⟩
 | x :: es,was,out,q,h,h1,h2,h3,h4,h5,h6=>by
   rw [dL] at h
   cases ho : lH was out x with
   | none=>rw [ho] at h;cases h
   | some p =>
     rw [ho] at h
     obtain ⟨s1,s2⟩:=Qi ho
     rw [List.map_cons,List.nodup_cons] at h2
     have hw : (p.1.map (·.id)).Nodup:=by rw [s1];exact h1.sublist (List.Sublist.map _ List.filter_sublist)
     have hnx : ∀ r : Rec,r.id ∉ was.map (·.id) -> r.id ∉ p.1.map (·.id):=λr hr hh=>by
      obtain ⟨e,he,hid⟩:=List.mem_map.1 hh
      rw [s1] at he
      exact hr (List.mem_map.2 ⟨e,(EH he).1,hid⟩)
     have hout : (p.2.map (·.id)).Nodup /\ (∀ r ∈ p.2,r.Ok) /\ ∀ r ∈ p.2,r.id ∉ p.1.map (·.id) /\ r.id ∉ es.map (·.id):=by
      have hold : ∀ r ∈ out,r.id ∉ p.1.map (·.id) /\ r.id ∉ es.map (·.id):=λr hr=>⟨hnx r (h6 r hr).1,λhh=>(h6 r hr).2 (by rw [List.map_cons];exact List.mem_cons_of_mem _ hh)⟩
      rcases s2 with s2 | ⟨r0,s2,hid,hok⟩
      ·rw [s2];exact ⟨h3,h4,hold⟩
      ·rw [s2]
       refine ⟨?_,?_,?_⟩
       ·rw [List.map_append,List.map_singleton]
        refine List.nodup_append.2 ⟨h3,by simp,λa ha b hb=>?_⟩
        simp at hb
        subst hb
        obtain ⟨r,hr,rfl⟩:=List.mem_map.1 ha
        intro e
        exact (h6 r hr).2 (by rw [List.map_cons];rw [e,hid];exact List.mem_cons_self ..)
       ·intro r hr
        rcases List.mem_append.1 hr with hr | hr
        ·exact h4 r hr
        ·simp at hr;subst hr;exact hok (h5 x (List.mem_cons_self ..))
       ·intro r hr
        rcases List.mem_append.1 hr with hr | hr
        ·exact hold r hr
        ·simp at hr;subst hr
         refine ⟨λhh=>?_,by rw [hid];exact h2.1⟩
         obtain ⟨e,he,he2⟩:=List.mem_map.1 hh
         rw [s1] at he
         exact (EH he).2 (by rw [he2,hid])
     obtain ⟨a1,a2,a3,a4,a5⟩:=Ak es h hw h2.2 hout.1 hout.2.1 (λe he=>h5 e (List.mem_cons_of_mem _ he)) hout.2.2
     exact ⟨a1,a2,a3,a4,λe he=>by have:=a5 e he;rw [s1] at this;exact (EH this).1⟩
def Lr (l : List Rec) : List Rec:=l.mergeSort (λa b=>decide (a.id <= b.id))
theorem Cz (l : List Rec) : (Lr l).Perm l:=List.mergeSort_perm _ _
theorem Y2 (l : List Rec) : (Lr l).Pairwise (λa b=>a.id <= b.id):=by
 have:=List.pairwise_mergeSort (le:=λa b : Rec=>decide (a.id <= b.id)) (λa b c h1 h2=>by simp at *;omega) (λa b=>by simp;omega) l
 exact this.imp (λh=>by simpa using h)
theorem zO : ∀ (xs ys : List Rec),xs.Perm ys -> xs.Pairwise (λa b=>a.id <= b.id) -> ys.Pairwise (λa b=>a.id <= b.id) -> (xs.map (·.id)).Nodup -> xs = ys
 | [],ys,hp,_,_,_=>by simpa using hp.symm
 | x :: xs,[],hp,_,_,_=>by simp at hp
 | x :: xs,y :: ys,hp,hx,hy,hn=>by
   have hxy : x = y:=by
    have h1 : x ∈ y :: ys:=hp.subset (List.mem_cons_self ..)
    have h2 : y ∈ x :: xs:=hp.symm.subset (List.mem_cons_self ..)
    rcases List.mem_cons.1 h1 with h1 | h1
    ·exact h1
    rcases List.mem_cons.1 h2 with h2 | h2
    ·exact h2.symm
    have a:=(List.pairwise_cons.1 hy).1 x h1;have b:=(List.pairwise_cons.1 hx).1 y h2
    have e : x.id = y.id:=by omega
    rw [List.map_cons,List.nodup_cons] at hn
    exact absurd (List.mem_map.2 ⟨y,h2,e.symm⟩) hn.1
   subst hxy
   rw [List.map_cons,List.nodup_cons] at hn
   rw [zO xs ys (List.Perm.cons_inv hp) (List.pairwise_cons.1 hx).2 (List.pairwise_cons.1 hy).2 hn.2]
theorem Ol {xs l : List Rec} (hp : xs.Perm l) (hs : xs.Pairwise (λa b=>a.id <= b.id)) (hn : (l.map (·.id)).Nodup) : xs = Lr l :=
 zO xs (Lr l) (hp.trans (Cz l).symm) hs (Y2 l) ((hp.map (·.id)).nodup_iff.2 hn)
def dY (q : List ay × List Rec) : List Rec:=Lr (q.2 ++ q.1.map vS)
theorem abb {e : ay} (h : e.Ok) : (vS e).Ok:=⟨acU,h.id,aU,aU,aU,aU,aU,aU,(show (0:Int) <= 0 /\ (0:Int) <= 65535 by decide)⟩
theorem Ga {was es : List ay} {q : List ay × List Rec} (h : dL was [] es = some q) (h1 : (was.map (·.id)).Nodup) (h2 : (es.map (·.id)).Nodup) (h3 : ∀ e ∈ es,e.Ok) (h4 : ∀ e ∈ was,e.Ok) :
 ((q.2 ++ q.1.map vS).map (·.id)).Nodup /\ ∀ r ∈ dY q,r.Ok:=by
 obtain ⟨a1,a2,a3,a4,a5⟩:=Ak es h h1 h2 (by simp) (by simp) h3 (by simp)
 constructor
 ·rw [List.map_append,List.map_map]
  have e : (q.1.map (Rec.id ∘ vS)) = q.1.map (·.id):=List.map_congr_left (λ_ _=>rfl)
  rw [e]
  refine List.nodup_append.2 ⟨a2,a1,λa ha b hb hab=>?_⟩
  obtain ⟨r,hr,rfl⟩:=List.mem_map.1 ha
  exact a4 r hr (hab ▸ hb)
 ·intro r hr
  unfold dY at hr
  rcases List.mem_append.1 ((Cz _).mem_iff.1 hr) with hr | hr
  ·exact a3 r hr
  ·obtain ⟨e,he,rfl⟩:=List.mem_map.1 hr
   exact abb (h4 e (a5 e he))
theorem pV {es : List ay} (h : es.Pairwise (λa b=>a.id < b.id)) : (es.map (·.id)).Nodup :=
 List.pairwise_map.2 (h.imp (λh=>by omega))
set_option maxRecDepth 100000
theorem Am (tick time : Int) (a : Option Addr) (len cap : Nat) (E : Nat -> ay) (w : World) (h : bV w a len E) :
 Calls Tryz.prog 34 #[bC tick time a len cap] w λe w'=>e = .returned (.int .i64 (dD tick time len E)) /\ Below w.heap.size w w':=by
 by_cases hs : (len : Int) <= 4611686018427387904
 ·exact Em tick time a len cap E w h hs
 unfold dD
 by_cases h1 : tick < 0
 ·rw [if_pos (by omega)];exact Dz tick time a len cap h1 w
 by_cases h2 : 4294967295 < tick
 ·rw [if_pos (by omega)];exact DF tick time a len cap (by omega) w
 by_cases h3 : time < -2305843009213693952
 ·rw [if_pos (by omega)];exact DI tick time a len cap (by omega) w
 by_cases h4 : 2305843009213693952 < time
 ·rw [if_pos (by omega)];exact DJ tick time a len cap (by omega) w
 rw [if_neg (by omega),if_pos (show 64 < len by omega)]
 exact DK tick time a len cap (by omega) (by omega) (by omega) (by omega) (by omega) w
def dN (s : Sn) : Gr × Int:=if dI s ≠ 0 then (jW,dI s) else match dL [] [] s.ents with
 | none=>(jW,15)
 | some q=>(⟨s.tick,s.time,-1,dY q⟩,0)
theorem Je {w w1 w2 : World} {M : Nat} (h : Below w.heap.size w w1) (hM : w.heap.size <= M) (ho : Only (λk=>k = M) w1 w2) : Below w.heap.size w w2 :=
 h.trans (ho.below h.size (λk hk=>by omega))
theorem Jf {M : Nat} {was es : List ay} {q : List ay × List Rec} {w1 w2 : World} {base : Nat} {e : Ending} (hq : dL was [] es = some q) (h1 : (was.map (·.id)).Nodup) (h2 : (es.map (·.id)).Nodup) (h3 : ∀ e ∈ es,e.Ok) (h4 : ∀ e ∈ was,e.Ok) (h : K3 (some q) base e w2) : ∃ v,e = .returned (.tuple #[v,.int .i64 0]) /\ dU w2 base v (dY q):=by
 obtain ⟨v,rs,he,hp,hs,ho⟩:=h
 obtain ⟨a1,a2⟩:=Ga hq h1 h2 h3 h4
 have e1 : rs = dY q:=Ol hp hs a1
 subst e1
 exact ⟨v,he,ho,a2⟩
set_option maxHeartbeats 1000000 in
theorem Om (tick time : Int) (a : Option Addr) (cap : Nat) (es : List ay) (w : World) (hE : eX w a es) :
 Calls Tryz.prog 16 #[bC tick time a es.length cap] w λe w'=>∃ v,e = .returned (.tuple #[.agg #[.int .i64 (dN ⟨tick,time,es⟩).1.tick,.int .i64 (dN ⟨tick,time,es⟩).1.time,.int .i64 (dN ⟨tick,time,es⟩).1.base,v],.int .i64 (dN ⟨tick,time,es⟩).2]) /\ dU w' w.heap.size v (dN ⟨tick,time,es⟩).1.recs /\ Below w.heap.size w w':=by
 have HZ : Hid (dN ⟨tick,time,es⟩ = if dI ⟨tick,time,es⟩ ≠ 0 then (jW,dI ⟨tick,time,es⟩) else match dL [] [] es with | none=>(jW,15) | some q=>(⟨tick,time,-1,dY q⟩,0)):=ajK rfl
 have yF : Hid (dI ⟨tick,time,es⟩ = 0 -> (es.map (·.id)).Nodup /\ es.length <= 1000):=ajK (λh=>⟨pV (gq.1 h).up,Nat.le_trans (gq.1 h).len (by decide)⟩)
 generalize dN ⟨tick,time,es⟩ = z at *
 obtain ⟨w0,hw0⟩ : ∃ w0,(w.alloc (.cells #[.int .i64 tick,.int .i64 time,.slice a es.length cap] 36)).alloc (.cells #[.int .i64 0,.int .i64 0,.int .i64 0,.slice none 0 0] 39) = w0:=⟨_,rfl⟩
 have hB0 : Below w.heap.size w w0:=by rw [← hw0];exact (ajL).alloc (by simp) _
 have hX0 : ak w0 w.heap.size #[.int .i64 tick,.int .i64 time,.slice a es.length cap] 36:=by rw [← hw0];exact (ak.new _ _ _).alloc _
 have hG0 : ak w0 (w.heap.size + 1) #[.int .i64 0,.int .i64 0,.int .i64 0,.slice none 0 0] 39:=by
  rw [← hw0]
  have:=ak.new (w.alloc (.cells #[.int .i64 tick,.int .i64 time,.slice a es.length cap] 36)) #[.int .i64 0,.int .i64 0,.int .i64 0,.slice none 0 0] 39
  simpa using this
 have hsz0 : w.heap.size + 2 <= w0.heap.size:=by rw [← hw0];simp
 have ck:=Am tick time a es.length cap (λi=>es.getD i bP) w0 (hE.below hB0)
 have Cj:=ajK (hE.below hB0);have HB0:=ajK hB0;have HX0:=ajK hX0;have Ls:=ajK hG0;have zJ:=ajK hsz0;have x0:=hX0.cell 0;have x1:=hX0.cell 1;have x2:=hX0.cell 2;simp at x0 x1 x2;clear hE hB0 hX0 hG0 hsz0
 rw [show dD tick time es.length (λi=>es.getD i bP) = dI ⟨tick,time,es⟩ from rfl] at ck
 generalize dI ⟨tick,time,es⟩ = ce at *
 unfold bC at *
 go_enter Tryz.func16,Tryz.ntmps16
 go_wp2_with fail
 clear hw0
 refine ck.mono ?_
 rintro e w1 ⟨rfl,hb⟩
 have HB1:=ajK (HB0.out.trans (hb.mono HB0.out.size));have gN:=ajK (HX0.out.below hb HX0.out.lt);have DN:=ajK (Ls.out.below hb Ls.out.lt);have zL:=ajK (Cj.out.below hb)
 have iF : Hid (w.heap.size + 2 <= w1.heap.size):=ajK (Nat.le_trans zJ.out hb.size)
 have hx1:=gN.out
 have hs1 : w.heap.size < w1.heap.size:=by have:=iF.out;omega
 clear ck hb x0 x1 x2;have x0:=hx1.cell 0;have x1:=hx1.cell 1;have x2:=hx1.cell 2;simp at x0 x1 x2;clear hx1
 by_cases hce : ce = 0
 ·subst hce
  have HU : Hid ((es.map (·.id)).Nodup):=ajK (yF.out rfl).1
  have hl3:=(yF.out rfl).2
  have HZ2 : Hid (z = match dL [] [] es with | none=>(jW,15) | some q=>(⟨tick,time,-1,dY q⟩,0)):=ajK (by rw [HZ.out,if_neg (by simp)])
  clear HZ yF
  have jm : Below w1.heap.size w1 (w1.alloc (.map #[] 0)):=ajL
  have tl:=SX w1.heap.size [] a cap es (w1.alloc (.map #[] 0)) (bZ.new w1) (zL.out.below jm) hl3 (by simp)
  have iM:=ajK (gN.out.below jm gN.out.lt);have HG2:=ajK (DN.out.below jm DN.out.lt);have HB2:=ajK (HB1.out.trans (jm.mono HB1.out.size));have afO:=ajK zL.out.ok
  cases hz : dL [] [] es with
  | none =>
    have HV : Hid (z = (jW,15)):=ajK (by rw [HZ2.out,hz])
    rw [hz] at tl
    clear HZ2 hz jm
    go_wp2_with fail
    refine tl.mono ?_
    rintro e w3 ⟨he,hO⟩
    obtain rfl:=he
    have HB3 : Hid (Below w.heap.size w w3):=ajK (Je HB2.out HB1.out.size hO)
    have AU:=ajK (hO.blk HG2.out (by have:=iF.out;omega))
    clear hO tl;have bS:=AU.out;have f0:=bS.free 0;have f1:=bS.free 1;have f2:=bS.free 2;have f3:=bS.free 3;have z0:=bS.cell 0;have z1:=bS.cell 1;have z2:=bS.cell 2;have z3:=bS.cell 3;simp at z0 z1 z2 z3;have fP:=qM (v0:=.int .i64 0) (v1:=.int .i64 0) (v2:=.int .i64 0) (v3:=.slice none 0 0) bS
    obtain ⟨u9,kU⟩ : ∃ u,(((w3.setCell ⟨w.heap.size + 1,0,none⟩ (.int .i64 0)).setCell ⟨w.heap.size + 1,1,none⟩ (.int .i64 0)).setCell ⟨w.heap.size + 1,2,none⟩ (.int .i64 0)).setCell ⟨w.heap.size + 1,3,none⟩ (.slice none 0 0) = u:=⟨_,rfl⟩
    have dQ : Only (λk=>k = w.heap.size + 1) w3 u9:=by rw [← kU];exact sP (Only.refl _ _) (.inl rfl)
    rw [kU] at fP
    have HF : Hid (dU u9 w.heap.size (.slice none 0 0) [] /\ Below w.heap.size w u9):=ajK ⟨dU.nil _ _,HB3.out.trans (dQ.below HB3.out.size (λk hk=>by omega))⟩
    have g0:=fP.cell 0;have g1:=fP.cell 1;have g2:=fP.cell 2;have g3:=fP.cell 3;simp at g0 g1 g2 g3;clear bS fP dQ
    go_wp2_with fail
    exact bodyPost_ret (v:=.tuple #[.agg #[.int .i64 0,.int .i64 0,.int .i64 0,.slice none 0 0],.int .i64 (15)]) (by simp [results,Tryz.results16,go_sem,g0,g1,g2,g3]) rfl ⟨.slice none 0 0,by rw [HV.out];rfl,by rw [HV.out];exact HF.out.1,HF.out.2⟩
  | some q =>
    have HV : Hid (z = (⟨tick,time,-1,dY q⟩,0)):=ajK (by rw [HZ2.out,hz])
    rw [hz] at tl
    have HQ:=ajK hz;clear HZ2 hz jm
    go_wp2_with fail
    refine tl.mono ?_
    rintro e w3 ⟨he,hO⟩
    obtain ⟨v,rfl,hR⟩:=Jf (M:=0) (w1:=w1) HQ.out (by simp) HU.out afO.out (by simp) he
    obtain ⟨ra,rc,rfl,_⟩:=hR.recs
    have HB3 : Hid (Below w.heap.size w w3):=ajK (Je HB2.out HB1.out.size hO)
    have AU:=ajK (hO.blk HG2.out (by have:=iF.out;omega))
    have fQ:=hO.blk iM.out (by have:=iF.out;omega)
    have HR3:=ajK hR;have y0:=fQ.cell 0;have y1:=fQ.cell 1;simp at y0 y1;clear hO tl hR fQ he;have bS:=AU.out;have f0:=bS.free 0;have f1:=bS.free 1;have f2:=bS.free 2;have f3:=bS.free 3;have z0:=bS.cell 0;have z1:=bS.cell 1;have z2:=bS.cell 2;have z3:=bS.cell 3;simp at z0 z1 z2 z3;have fP:=qM (v0:=.int .i64 tick) (v1:=.int .i64 time) (v2:=.int .i64 (-1)) (v3:=.slice ra (dY q).length rc) bS
    obtain ⟨u9,kU⟩ : ∃ u,(((w3.setCell ⟨w.heap.size + 1,0,none⟩ (.int .i64 tick)).setCell ⟨w.heap.size + 1,1,none⟩ (.int .i64 time)).setCell ⟨w.heap.size + 1,2,none⟩ (.int .i64 (-1))).setCell ⟨w.heap.size + 1,3,none⟩ (.slice ra (dY q).length rc) = u:=⟨_,rfl⟩
    have dQ : Only (λk=>k = w.heap.size + 1) w3 u9:=by rw [← kU];exact sP (Only.refl _ _) (.inl rfl)
    rw [kU] at fP
    have HF : Hid (dU u9 w.heap.size (.slice ra (dY q).length rc) (dY q) /\ Below w.heap.size w u9):=ajK ⟨(dU.base HR3.out (Nat.le_trans HB1.out.size (by simp))).only dQ (λj hj hk=>by have:=(HR3.out.1.lt j hj).1;have:=iF.out;simp at *;omega),HB3.out.trans (dQ.below HB3.out.size (λk hk=>by omega))⟩
    have g0:=fP.cell 0;have g1:=fP.cell 1;have g2:=fP.cell 2;have g3:=fP.cell 3;simp at g0 g1 g2 g3;clear bS fP dQ
    go_wp2_with fail
    exact bodyPost_ret (v:=.tuple #[.agg #[.int .i64 tick,.int .i64 time,.int .i64 (-1),.slice ra (dY q).length rc],.int .i64 (0)]) (by simp [results,Tryz.results16,go_sem,g0,g1,g2,g3]) rfl ⟨.slice ra (dY q).length rc,by rw [HV.out],by rw [HV.out];exact HF.out.1,HF.out.2⟩
 ·have HV : Hid (z = (jW,ce)):=ajK (by rw [HZ.out,if_pos hce])
  have VR : (ce != 0) = true:=by simpa using hce
  clear HZ yF hce;have bS:=DN.out;have f0:=bS.free 0;have f1:=bS.free 1;have f2:=bS.free 2;have f3:=bS.free 3;have z0:=bS.cell 0;have z1:=bS.cell 1;have z2:=bS.cell 2;have z3:=bS.cell 3;simp at z0 z1 z2 z3;have fP:=qM (v0:=.int .i64 0) (v1:=.int .i64 0) (v2:=.int .i64 0) (v3:=.slice none 0 0) bS
  obtain ⟨u9,kU⟩ : ∃ u,(((w1.setCell ⟨w.heap.size + 1,0,none⟩ (.int .i64 0)).setCell ⟨w.heap.size + 1,1,none⟩ (.int .i64 0)).setCell ⟨w.heap.size + 1,2,none⟩ (.int .i64 0)).setCell ⟨w.heap.size + 1,3,none⟩ (.slice none 0 0) = u:=⟨_,rfl⟩
  have dQ : Only (λk=>k = w.heap.size + 1) w1 u9:=by rw [← kU];exact sP (Only.refl _ _) (.inl rfl)
  rw [kU] at fP
  have HF : Hid (dU u9 w.heap.size (.slice none 0 0) [] /\ Below w.heap.size w u9):=ajK ⟨dU.nil _ _,HB1.out.trans (dQ.below HB1.out.size (λk hk=>by omega))⟩
  have g0:=fP.cell 0;have g1:=fP.cell 1;have g2:=fP.cell 2;have g3:=fP.cell 3;simp at g0 g1 g2 g3;clear bS fP dQ
  go_wp2_with fail
  exact bodyPost_ret (v:=.tuple #[.agg #[.int .i64 0,.int .i64 0,.int .i64 0,.slice none 0 0],.int .i64 (ce)]) (by simp [results,Tryz.results16,go_sem,g0,g1,g2,g3]) rfl ⟨.slice none 0 0,by rw [HV.out];rfl,by rw [HV.out];exact HF.out.1,HF.out.2⟩
set_option maxRecDepth 100000
def wE (ka kb tb : Int) (z : Option (List ay × List Rec)) : Gr × Int:=match z with
 | none=>(jW,15)
 | some q=>(⟨kb,tb,ka,dY q⟩,0)
def Lu (z : Option (List ay × List Rec)) : Int:=match z with
 | none=>15
 | some _=>0
def nP (a b : Sn) : Gr × Int:=if dI a ≠ 0 then (jW,dI a) else if dI b ≠ 0 then (jW,dI b) else if b.tick <= a.tick then (jW,10) else wE a.tick b.tick b.time (dL (dh a.ents) [] b.ents)
theorem TY (es : List ay) : (dh es).length <= es.length:=by
 have h : ∀ (es l : List ay),(es.foldl eB l).length <= l.length + es.length:=by
  intro es
  induction es with
  | nil=>intro l;simp
  | cons x es ih =>
    intro l
    have h1:=ih (eB l x)
    have h2 : (eB l x).length <= l.length + 1:=by
     unfold eB;split <;> simp
    simp only [List.foldl_cons,List.length_cons]
    omega
 have:=h es []
 simpa [dh] using this
structure T9 (w : World) (sa sb : Array Value) (ss : Array Value) (wr : World) : Prop where
 a : ak wr w.heap.size sa 36
 b : ak wr (w.heap.size + 1) sb 36
 g : ak wr (w.heap.size + 2) #[.int .i64 0,.int .i64 0,.int .i64 0,.slice none 0 0] 39
 s : ak wr (w.heap.size + 3) ss 36
 bl : Below w.heap.size w wr
 sz : w.heap.size + 4 <= wr.heap.size
theorem T9.below {w : World} {sa sb ss : Array Value} {wr w2 : World} (h : T9 w sa sb ss wr) (hb : Below wr.heap.size wr w2) : T9 w sa sb ss w2 :=
 ⟨h.a.below hb h.a.lt,h.b.below hb h.b.lt,h.g.below hb h.g.lt,h.s.below hb h.s.lt,h.bl.trans (hb.mono h.bl.size),Nat.le_trans h.sz hb.size⟩
def Jg (w1 : World) (was : List ay) (z : Option (List ay × List Rec)) (Oo : Value -> World -> Prop) : List Value -> World -> Prop
 | [],W=>aN w1 W
 | [u],W=>aN w1 W /\ ∃ M,u = .map (some M) /\ w1.heap.size <= M /\ bZ W M was
 | [_,u],W=>aN w1 W /\ Oo u W
 | [_,_,u],W=>aN w1 W /\ Oo u W
 | [_,_,_,u],W=>aN w1 W /\ ∃ er,Oo (.tuple #[u,er]) W
 | [_,_,_,_,u],W=>aN w1 W /\ ∃ er,Oo (.tuple #[u,er]) W
 | _,_=>False
theorem Jg.calm {w1 : World} {was : List ay} {z : Option (List ay × List Rec)} {Oo : Value -> World -> Prop} : ∀ {b : List Value} {W : World},Jg w1 was z Oo b W -> aN w1 W
 | [],_,h=>h
 | [_],_,h=>h.1
 | [_,_],_,h=>h.1
 | [_,_,_],_,h=>h.1
 | [_,_,_,_],_,h=>h.1
 | [_,_,_,_,_],_,h=>h.1
 | _ :: _ :: _ :: _ :: _ :: _ :: _,_,h=>h.elim
def TlV (z : Option (List ay × List Rec)) (base : Nat) (u : Value) (W : World) : Prop:=match z with
 | none=>u = .tuple #[.slice none 0 0,.int .i64 15]
 | some q=>∃ a c,u = .tuple #[.slice a (dY q).length c,.int .i64 0] /\ dU W base (.slice a (dY q).length c) (dY q)
set_option maxHeartbeats 4000000 in
theorem Y3 (ka ta : Int) (aa : Option Addr) (ca : Nat) (iT : List ay) (kb tb : Int) (ab : Option Addr) (cb : Nat) (bs : List ay) (w : World) (hA : eX w aa iT) (hB : eX w ab bs) :
 Calls Tryz.prog 11 #[bC ka ta aa iT.length ca,bC kb tb ab bs.length cb] w λe w'=>∃ v,e = .returned (.tuple #[.agg #[.int .i64 (nP ⟨ka,ta,iT⟩ ⟨kb,tb,bs⟩).1.tick,.int .i64 (nP ⟨ka,ta,iT⟩ ⟨kb,tb,bs⟩).1.time,.int .i64 (nP ⟨ka,ta,iT⟩ ⟨kb,tb,bs⟩).1.base,v],.int .i64 (nP ⟨ka,ta,iT⟩ ⟨kb,tb,bs⟩).2]) /\ dU w' w.heap.size v (nP ⟨ka,ta,iT⟩ ⟨kb,tb,bs⟩).1.recs /\ Below w.heap.size w w':=by
 have HZ : Hid (nP ⟨ka,ta,iT⟩ ⟨kb,tb,bs⟩ = if dI ⟨ka,ta,iT⟩ ≠ 0 then (jW,dI ⟨ka,ta,iT⟩) else if dI ⟨kb,tb,bs⟩ ≠ 0 then (jW,dI ⟨kb,tb,bs⟩) else if kb <= ka then (jW,10) else wE ka kb tb (dL (dh iT) [] bs)):=ajK rfl
 have yF : Hid (dI ⟨kb,tb,bs⟩ = 0 -> (bs.map (·.id)).Nodup /\ bs.length <= 1000):=ajK (λh=>⟨pV (gq.1 h).up,Nat.le_trans (gq.1 h).len (by decide)⟩)
 have XT : Hid (dI ⟨ka,ta,iT⟩ = 0 -> iT.length <= 1000):=ajK (λh=>Nat.le_trans (gq.1 h).len (by decide))
 generalize nP ⟨ka,ta,iT⟩ ⟨kb,tb,bs⟩ = z at *
 have cka:=λW h=>Am ka ta aa iT.length ca (λi=>iT.getD i bP) W h
 have ckb:=λW h=>Am kb tb ab bs.length cb (λi=>bs.getD i bP) W h
 have e1 : dD ka ta iT.length (λi=>iT.getD i bP) = dI ⟨ka,ta,iT⟩:=rfl
 have e2 : dD kb tb bs.length (λi=>bs.getD i bP) = dI ⟨kb,tb,bs⟩:=rfl
 rw [e1] at cka
 rw [e2] at ckb
 clear e1 e2
 generalize dI ⟨ka,ta,iT⟩ = Lv at *
 generalize dI ⟨kb,tb,bs⟩ = Oq at *
 have HD0 : Hid (T9 w #[.int .i64 ka,.int .i64 ta,.slice aa iT.length ca] #[.int .i64 kb,.int .i64 tb,.slice ab bs.length cb] #[.int .i64 ka,.int .i64 ta,.slice aa iT.length ca,.int .i64 kb,.int .i64 tb,.slice ab bs.length cb] ((((w.alloc (.cells #[.int .i64 ka,.int .i64 ta,.slice aa iT.length ca] 36)).alloc (.cells #[.int .i64 kb,.int .i64 tb,.slice ab bs.length cb] 36)).alloc (.cells #[.int .i64 0,.int .i64 0,.int .i64 0,.slice none 0 0] 39)).alloc (.cells #[.int .i64 ka,.int .i64 ta,.slice aa iT.length ca,.int .i64 kb,.int .i64 tb,.slice ab bs.length cb] 36))):=ajK (by
  have b1:=ak.new (w.alloc (.cells #[.int .i64 ka,.int .i64 ta,.slice aa iT.length ca] 36)) #[.int .i64 kb,.int .i64 tb,.slice ab bs.length cb] 36;have b2:=ak.new ((w.alloc (.cells #[.int .i64 ka,.int .i64 ta,.slice aa iT.length ca] 36)).alloc (.cells #[.int .i64 kb,.int .i64 tb,.slice ab bs.length cb] 36)) #[.int .i64 0,.int .i64 0,.int .i64 0,.slice none 0 0] 39;have b3:=ak.new (((w.alloc (.cells #[.int .i64 ka,.int .i64 ta,.slice aa iT.length ca] 36)).alloc (.cells #[.int .i64 kb,.int .i64 tb,.slice ab bs.length cb] 36)).alloc (.cells #[.int .i64 0,.int .i64 0,.int .i64 0,.slice none 0 0] 39)) #[.int .i64 ka,.int .i64 ta,.slice aa iT.length ca,.int .i64 kb,.int .i64 tb,.slice ab bs.length cb] 36
  simp only [World.size_alloc] at b1 b2 b3
  exact ⟨(((ak.new _ _ _).alloc _).alloc _).alloc _,(b1.alloc _).alloc _,b2.alloc _,b3,(((ajL).alloc (by simp) _).alloc (by simp;omega) _).alloc (by simp;omega) _,by simp⟩)
 have HA:=ajK hA;have HB:=ajK hB
 unfold bC at *
 clear hA hB
 go_enter Tryz.func11,Tryz.ntmps11
 go_wp2_with fail
 go_loopw [15] (λi wr=>∃ k : Nat,k <= 2 /\ i = .int .i64 k /\ (1 <= k -> Lv = 0) /\ (2 <= k -> Oq = 0) /\ T9 w #[.int .i64 ka,.int .i64 ta,.slice aa iT.length ca] #[.int .i64 kb,.int .i64 tb,.slice ab bs.length cb] #[.int .i64 ka,.int .i64 ta,.slice aa iT.length ca,.int .i64 kb,.int .i64 tb,.slice ab bs.length cb] wr) (λi _=>2 - (intOf i).toNat)
 case atStart=>exact ⟨0,by omega,rfl,λh=>by omega,λh=>by omega,by simpa using HD0.out⟩
 case round =>
  obtain ⟨k,hk,rfl,h1,h2,hD⟩:=hrel
  have s0:=hD.s.cell 0;have s1:=hD.s.cell 1;have s2:=hD.s.cell 2;have s3:=hD.s.cell 3;have s4:=hD.s.cell 4;have s5:=hD.s.cell 5;simp at s0 s1 s2 s3 s4 s5;have HD:=ajK hD;have HA1:=ajK (HA.out.below hD.bl);have HB1:=ajK (HB.out.below hD.bl);have hsz:=hD.sz
  rcases (show k = 0 \/ k = 1 \/ k = 2 by omega) with rfl | rfl | rfl
  ·clear h1 h2 hD
   have hb1 : Below wr.heap.size wr (wr.alloc (.cells #[.int .i64 ka,.int .i64 ta,.slice aa iT.length ca] 36)):=ajL
   have HD1:=ajK (HD.out.below hb1);have ck:=cka (wr.alloc (.cells #[.int .i64 ka,.int .i64 ta,.slice aa iT.length ca] 36)) (HA1.out.below hb1);clear hb1
   go_wp2_with fail
   refine ck.mono ?_
   rintro e w2 ⟨rfl,hb⟩
   have hD2:=HD1.out.below hb;have HD2:=ajK hD2;have hsz2:=hD2.sz;clear hb ck hD2 HD1
   by_cases hce : Lv = 0
   ·clear s0 s1 s2 s3 s4 s5
    go_wp2
    go_roundw
    case rel=>exact ⟨1,by omega,by first | rfl | go_num,λ_=>hce,λh=>by omega,HD2.out⟩
    case measure=>simp [intOf]
   ·have HV : Hid (z = (jW,Lv)):=ajK (by rw [HZ.out,if_pos hce])
    have VR : (Lv != 0) = true:=by simpa using hce
    clear s0 s1 s2 s3 s4 s5 HZ yF XT hce;have bS:=HD2.out.g;have f0:=bS.free 0;have f1:=bS.free 1;have f2:=bS.free 2;have f3:=bS.free 3;have z0:=bS.cell 0;have z1:=bS.cell 1;have z2:=bS.cell 2;have z3:=bS.cell 3;simp at z0 z1 z2 z3;have fP:=qM (v0:=.int .i64 0) (v1:=.int .i64 0) (v2:=.int .i64 0) (v3:=.slice none 0 0) bS
    obtain ⟨u9,kU⟩ : ∃ u,(((w2.setCell ⟨w.heap.size + 2,0,none⟩ (.int .i64 0)).setCell ⟨w.heap.size + 2,1,none⟩ (.int .i64 0)).setCell ⟨w.heap.size + 2,2,none⟩ (.int .i64 0)).setCell ⟨w.heap.size + 2,3,none⟩ (.slice none 0 0) = u:=⟨_,rfl⟩
    have dQ : Only (λk=>k = w.heap.size + 2) w2 u9:=by rw [← kU];exact sP (Only.refl _ _) (.inl rfl)
    rw [kU] at fP
    have HF : Hid (dU u9 w.heap.size (.slice none 0 0) [] /\ Below w.heap.size w u9):=ajK ⟨dU.nil _ _,HD2.out.bl.trans (dQ.below HD2.out.bl.size (λk hk=>by omega))⟩
    have g0:=fP.cell 0;have g1:=fP.cell 1;have g2:=fP.cell 2;have g3:=fP.cell 3;simp at g0 g1 g2 g3;clear bS fP dQ
    go_wp2_with fail
    exact bodyPost_ret (v:=.tuple #[.agg #[.int .i64 0,.int .i64 0,.int .i64 0,.slice none 0 0],.int .i64 (Lv)]) (by simp [results,Tryz.results11,go_sem,g0,g1,g2,g3]) rfl ⟨.slice none 0 0,by first | (rw [HV.out];done) | (rw [HV.out];rfl),by rw [HV.out];exact HF.out.1,HF.out.2⟩
  ·have hca : Lv = 0:=h1 (by omega)
   clear h1 h2 hD
   have hb1 : Below wr.heap.size wr (wr.alloc (.cells #[.int .i64 kb,.int .i64 tb,.slice ab bs.length cb] 36)):=ajL
   have HD1:=ajK (HD.out.below hb1);have ck:=ckb (wr.alloc (.cells #[.int .i64 kb,.int .i64 tb,.slice ab bs.length cb] 36)) (HB1.out.below hb1);clear hb1
   go_wp2_with fail
   refine ck.mono ?_
   rintro e w2 ⟨rfl,hb⟩
   have hD2:=HD1.out.below hb;have HD2:=ajK hD2;have hsz2:=hD2.sz;clear hb ck hD2 HD1
   by_cases hce : Oq = 0
   ·clear s0 s1 s2 s3 s4 s5
    go_wp2
    go_roundw
    case rel=>exact ⟨2,by omega,by first | rfl | go_num,λ_=>hca,λh=>hce,HD2.out⟩
    case measure=>simp [intOf]
   ·have HV : Hid (z = (jW,Oq)):=ajK (by rw [HZ.out,if_neg (by simpa using hca),if_pos hce])
    have VR : (Oq != 0) = true:=by simpa using hce
    clear s0 s1 s2 s3 s4 s5 HZ yF XT hce;have bS:=HD2.out.g;have f0:=bS.free 0;have f1:=bS.free 1;have f2:=bS.free 2;have f3:=bS.free 3;have z0:=bS.cell 0;have z1:=bS.cell 1;have z2:=bS.cell 2;have z3:=bS.cell 3;simp at z0 z1 z2 z3;have fP:=qM (v0:=.int .i64 0) (v1:=.int .i64 0) (v2:=.int .i64 0) (v3:=.slice none 0 0) bS
    obtain ⟨u9,kU⟩ : ∃ u,(((w2.setCell ⟨w.heap.size + 2,0,none⟩ (.int .i64 0)).setCell ⟨w.heap.size + 2,1,none⟩ (.int .i64 0)).setCell ⟨w.heap.size + 2,2,none⟩ (.int .i64 0)).setCell ⟨w.heap.size + 2,3,none⟩ (.slice none 0 0) = u:=⟨_,rfl⟩
    have dQ : Only (λk=>k = w.heap.size + 2) w2 u9:=by rw [← kU];exact sP (Only.refl _ _) (.inl rfl)
    rw [kU] at fP
    have HF : Hid (dU u9 w.heap.size (.slice none 0 0) [] /\ Below w.heap.size w u9):=ajK ⟨dU.nil _ _,HD2.out.bl.trans (dQ.below HD2.out.bl.size (λk hk=>by omega))⟩
    have g0:=fP.cell 0;have g1:=fP.cell 1;have g2:=fP.cell 2;have g3:=fP.cell 3;simp at g0 g1 g2 g3;clear bS fP dQ
    go_wp2_with fail
    exact bodyPost_ret (v:=.tuple #[.agg #[.int .i64 0,.int .i64 0,.int .i64 0,.slice none 0 0],.int .i64 (Oq)]) (by simp [results,Tryz.results11,go_sem,g0,g1,g2,g3]) rfl ⟨.slice none 0 0,by first | (rw [HV.out];done) | (rw [HV.out];rfl),by rw [HV.out];exact HF.out.1,HF.out.2⟩
  ·have hca : Lv = 0:=h1 (by omega)
   have hcb : Oq = 0:=h2 (by omega)
   subst hca hcb
   have HU : Hid ((bs.map (·.id)).Nodup):=ajK (yF.out rfl).1
   have hla:=XT.out rfl;have hlb:=(yF.out rfl).2
   have HZ2 : Hid (z = if kb <= ka then (jW,10) else wE ka kb tb (dL (dh iT) [] bs)):=ajK (by rw [HZ.out,if_neg (by simp),if_neg (by simp)])
   clear h1 h2 HZ yF XT cka ckb s0 s1 s2 s3 s4 s5;have a0:=hD.a.cell 0;have a1:=hD.a.cell 1;have a2:=hD.a.cell 2;have b0:=hD.b.cell 0;have b1:=hD.b.cell 1;have b2:=hD.b.cell 2;simp at a0 a1 a2 b0 b1 b2;have HGR:=ajK hD.g;have Gc:=ajK hD.bl;clear hD
   by_cases hkk : kb <= ka
   ·have HV : Hid (z = (jW,10)):=ajK (by rw [HZ2.out,if_pos hkk])
    have hkk' : ka ≥ kb:=hkk
    clear HZ2;have bS:=HGR.out;have f0:=bS.free 0;have f1:=bS.free 1;have f2:=bS.free 2;have f3:=bS.free 3;have z0:=bS.cell 0;have z1:=bS.cell 1;have z2:=bS.cell 2;have z3:=bS.cell 3;simp at z0 z1 z2 z3;have fP:=qM (v0:=.int .i64 0) (v1:=.int .i64 0) (v2:=.int .i64 0) (v3:=.slice none 0 0) bS
    obtain ⟨u9,kU⟩ : ∃ u,(((wr.setCell ⟨w.heap.size + 2,0,none⟩ (.int .i64 0)).setCell ⟨w.heap.size + 2,1,none⟩ (.int .i64 0)).setCell ⟨w.heap.size + 2,2,none⟩ (.int .i64 0)).setCell ⟨w.heap.size + 2,3,none⟩ (.slice none 0 0) = u:=⟨_,rfl⟩
    have dQ : Only (λk=>k = w.heap.size + 2) wr u9:=by rw [← kU];exact sP (Only.refl _ _) (.inl rfl)
    rw [kU] at fP
    have HF : Hid (dU u9 w.heap.size (.slice none 0 0) [] /\ Below w.heap.size w u9):=ajK ⟨dU.nil _ _,Gc.out.trans (dQ.below Gc.out.size (λk hk=>by omega))⟩
    have g0:=fP.cell 0;have g1:=fP.cell 1;have g2:=fP.cell 2;have g3:=fP.cell 3;simp at g0 g1 g2 g3;clear bS fP dQ
    go_wp2_with fail
    exact bodyPost_ret (v:=.tuple #[.agg #[.int .i64 0,.int .i64 0,.int .i64 0,.slice none 0 0],.int .i64 (10)]) (by simp [results,Tryz.results11,go_sem,g0,g1,g2,g3]) rfl ⟨.slice none 0 0,by first | (rw [HV.out];done) | (rw [HV.out];rfl),by rw [HV.out];exact HF.out.1,HF.out.2⟩
   ·have hkk' : ¬ kb <= ka:=hkk
    have HZ3 : Hid (z = wE ka kb tb (dL (dh iT) [] bs)):=ajK (by rw [HZ2.out,if_neg hkk])
    clear HZ2 hkk
    obtain ⟨zz,hzz⟩ : ∃ q,dL (dh iT) [] bs = q:=⟨_,rfl⟩
    rw [hzz] at HZ3
    have HQ:=ajK hzz
    have abh : (dh iT).length <= 1000:=Nat.le_trans (TY iT) hla
    have HBY:=ajK abh;clear hzz abh
    obtain ⟨E0,hE0⟩ : ∃ e : Int,Lu zz = e:=⟨_,rfl⟩
    have Cj:=ajK hE0;clear hE0
    have HI : Hid (Jg wr (dh iT) zz (TlV zz wr.heap.size) [] wr.drew):=ajK (show aN wr wr.drew from below_drewN ajM 1)
    have HLA:=ajK hla;have HLB:=ajK hlb
    go_wp2_with fail
    apply xH 10 [2,5,6,7,9] (Jg wr (dh iT) zz (TlV zz wr.heap.size))
    case hm=>kernel_rfl
    case hB=>kernel_rfl
    case hp=>kernel_rfl
    case hI=>exact HI.out
    simp only [List.take_succ_cons,List.take_zero,List.drop_succ_cons,List.drop_zero]
    repeat (apply bR;(next=>rfl);(next=>(intro b W hW K hK;have hb:=Jg.calm hW;have y0:=hb.cell a2;have y1:=hb.cell b2;go_simp;first | exact ⟨hW,hK⟩ | exact hK));(next=>exact ⟨_,HI.out⟩);(try go_simp))
    apply bU (s:=λu=>∃ M,u = .map (some M))
    case hk=>rfl
    case hne=>exact ⟨_,0,rfl⟩
    case hw=>rfl
    case h =>
     intro W hW
     have hb : Below wr.heap.size wr W:=hW
     have yx:=SQ aa ca iT W (HA1.out.below hb) (by have:=HLA.out;omega)
     clear hW
     go_simp
     refine yx.mono ?_
     rintro e w3 ⟨M,rfl,hM1,hM2,hB2⟩
     refine ⟨_,rfl,by first | exact ⟨M,rfl⟩ | simp,?_⟩
     exact ⟨hb.trans (hB2.mono hb.size),M,rfl,Nat.le_trans hb.size hM1,hM2⟩
    intro v1 hv1
    obtain ⟨M,rfl⟩:=hv1
    try go_simp
    repeat (apply bR;(next=>rfl);(next=>(intro b W hW K hK;have hb:=Jg.calm hW;have y0:=hb.cell a2;have y1:=hb.cell b2;go_simp;first | exact ⟨hW,hK⟩ | exact hK));(next=>exact ⟨_,HI.out⟩);(try go_simp))
    apply bU (s:=λu=>∃ x : Value,u = .tuple #[x,.int .i64 E0])
    case hk=>rfl
    case hne=>exact ⟨_,undef,rfl⟩
    case hw=>rfl
    case h =>
     intro W hW
     obtain ⟨hb,M',he,hM1,hM2⟩:=hW
     injection he with he
     injection he with he
     subst he
     have hb' : Below wr.heap.size wr W:=hb
     have tl:=SX M (dh iT) ab cb bs W hM2 (HB1.out.below hb') HLB.out HBY.out
     rw [HQ.out] at tl
     have HH:=ajK (And.intro hb' hM1);have afP:=ajK HB1.out.ok;have afQ:=ajK HA1.out.ok;clear hb hb' hM1 hM2
     go_simp
     refine tl.mono ?_
     rintro e w3 ⟨he,hO⟩
     have hcalm : aN wr w3:=HH.out.1.trans (hO.below HH.out.1.size (λk hk=>by have:=HH.out.2;omega))
     cases zz with
     | none =>
       obtain rfl:=he
       refine ⟨_,rfl,by rw [← Cj.out];first | exact ⟨_,rfl⟩ | simp [Lu],?_⟩
       exact ⟨hcalm,rfl⟩
     | some q =>
       obtain ⟨v,rfl,hR⟩:=Jf (M:=0) (w1:=wr) HQ.out (zh _) HU.out afP.out (Ag afQ.out) he
       obtain ⟨ra,rc,rfl,_⟩:=hR.recs
       refine ⟨_,rfl,by rw [← Cj.out];first | exact ⟨_,rfl⟩ | simp [Lu],?_⟩
       exact ⟨hcalm,ra,rc,rfl,dU.base hR HH.out.1.size⟩
    intro v2 hv2
    obtain ⟨x2,rfl⟩:=hv2
    try go_simp
    apply bU (s:=λu=>∃ x : Value,u = .tuple #[x,.int .i64 E0])
    case hk=>rfl
    case hne=>exact ⟨_,undef,rfl⟩
    case hw=>rfl
    case h =>
     intro W hW
     have HW:=ajK hW;clear hW
     go_simp
     first | exact HW.out | exact ⟨⟨_,rfl⟩,HW.out⟩ | exact ⟨by simp,HW.out⟩
    intro v3 hv3
    obtain ⟨x3,rfl⟩:=hv3
    try go_simp
    apply bU (s:=λ_=>True)
    case hk=>rfl
    case hne=>exact ⟨undef,trivial⟩
    case hw=>rfl
    case h =>
     intro W hW
     have HW : Hid (Jg wr (dh iT) zz (TlV zz wr.heap.size) [undef,undef,undef,x3] W):=ajK ⟨hW.1,_,hW.2⟩
     clear hW
     go_simp
     first | exact HW.out | exact ⟨trivial,HW.out⟩
    intro v4 _
    try go_simp
    repeat (apply bR;(next=>rfl);(next=>(intro b W hW K hK;have hb:=Jg.calm hW;have y0:=hb.cell a2;have y1:=hb.cell b2;go_simp;first | exact ⟨hW,hK⟩ | exact hK));(next=>exact ⟨_,HI.out⟩);(try go_simp))
    apply bU (s:=λ_=>True)
    case hk=>rfl
    case hne=>exact ⟨undef,trivial⟩
    case hw=>rfl
    case h =>
     intro W hW
     have HW:=ajK hW;clear hW
     go_simp
     first | exact HW.out | exact ⟨trivial,HW.out⟩
    intro v5 _
    refine jR ?_
    intro W hW
    obtain ⟨hb,er,hV⟩:=hW
    have bN : Below wr.heap.size wr W:=hb
    have AU:=ajK (HGR.out.below bN HGR.out.lt);have HB3:=ajK (Gc.out.trans (bN.mono Gc.out.size));have b0':=hb.cell b0;have b1':=hb.cell b1;have a0':=hb.cell a0;have ai0:=hsz;clear a0 a1 a2 b0 b1 b2 hb bN
    cases zz with
    | none =>
      have hV' : Value.tuple #[v5,er] = .tuple #[.slice none 0 0,.int .i64 15]:=hV
      injection hV' with hV'
      have h2:=congrArg (λq : Array Value=>q[0]?) hV'
      simp at h2
      subst h2
      obtain rfl : E0 = 15:=Cj.out.symm
      have HV : Hid (z = (jW,15)):=ajK HZ3.out
      clear hV hV';have bS:=AU.out;have f0:=bS.free 0;have f1:=bS.free 1;have f2:=bS.free 2;have f3:=bS.free 3;have z0:=bS.cell 0;have z1:=bS.cell 1;have z2:=bS.cell 2;have z3:=bS.cell 3;simp at z0 z1 z2 z3;have fP:=qM (v0:=.int .i64 0) (v1:=.int .i64 0) (v2:=.int .i64 0) (v3:=.slice none 0 0) bS
      obtain ⟨u9,kU⟩ : ∃ u,(((W.setCell ⟨w.heap.size + 2,0,none⟩ (.int .i64 0)).setCell ⟨w.heap.size + 2,1,none⟩ (.int .i64 0)).setCell ⟨w.heap.size + 2,2,none⟩ (.int .i64 0)).setCell ⟨w.heap.size + 2,3,none⟩ (.slice none 0 0) = u:=⟨_,rfl⟩
      have dQ : Only (λk=>k = w.heap.size + 2) W u9:=by rw [← kU];exact sP (Only.refl _ _) (.inl rfl)
      rw [kU] at fP
      have HF : Hid (dU u9 w.heap.size (.slice none 0 0) [] /\ Below w.heap.size w u9):=ajK ⟨dU.nil _ _,HB3.out.trans (dQ.below HB3.out.size (λk hk=>by omega))⟩
      have g0:=fP.cell 0;have g1:=fP.cell 1;have g2:=fP.cell 2;have g3:=fP.cell 3;simp at g0 g1 g2 g3;clear bS fP dQ
      go_wp2_with fail
      exact bodyPost_ret (v:=.tuple #[.agg #[.int .i64 0,.int .i64 0,.int .i64 0,.slice none 0 0],.int .i64 (15)]) (by simp [results,Tryz.results11,go_sem,g0,g1,g2,g3]) rfl ⟨.slice none 0 0,by first | (rw [HV.out];done) | (rw [HV.out];rfl),by rw [HV.out];exact HF.out.1,HF.out.2⟩
    | some q =>
      obtain ⟨ra,rc,hV',hR⟩:=hV
      injection hV' with hV'
      have h2:=congrArg (λq : Array Value=>q[0]?) hV'
      simp at h2
      subst h2
      obtain rfl : E0 = 0:=Cj.out.symm
      have HV : Hid (z = (⟨kb,tb,ka,dY q⟩,0)):=ajK HZ3.out
      have HR3:=ajK hR;clear hV' hR;have bS:=AU.out;have f0:=bS.free 0;have f1:=bS.free 1;have f2:=bS.free 2;have f3:=bS.free 3;have z0:=bS.cell 0;have z1:=bS.cell 1;have z2:=bS.cell 2;have z3:=bS.cell 3;simp at z0 z1 z2 z3;have fP:=qM (v0:=.int .i64 kb) (v1:=.int .i64 tb) (v2:=.int .i64 ka) (v3:=.slice ra (dY q).length rc) bS
      obtain ⟨u9,kU⟩ : ∃ u,(((W.setCell ⟨w.heap.size + 2,0,none⟩ (.int .i64 kb)).setCell ⟨w.heap.size + 2,1,none⟩ (.int .i64 tb)).setCell ⟨w.heap.size + 2,2,none⟩ (.int .i64 ka)).setCell ⟨w.heap.size + 2,3,none⟩ (.slice ra (dY q).length rc) = u:=⟨_,rfl⟩
      have dQ : Only (λk=>k = w.heap.size + 2) W u9:=by rw [← kU];exact sP (Only.refl _ _) (.inl rfl)
      rw [kU] at fP
      have HF : Hid (dU u9 w.heap.size (.slice ra (dY q).length rc) (dY q) /\ Below w.heap.size w u9):=ajK ⟨(dU.base HR3.out (by omega)).only dQ (λj hj hk=>by have:=(HR3.out.1.lt j hj).1;omega),HB3.out.trans (dQ.below HB3.out.size (λk hk=>by omega))⟩
      have g0:=fP.cell 0;have g1:=fP.cell 1;have g2:=fP.cell 2;have g3:=fP.cell 3;simp at g0 g1 g2 g3;clear bS fP dQ
      go_wp2_with fail
      exact bodyPost_ret (v:=.tuple #[.agg #[.int .i64 kb,.int .i64 tb,.int .i64 ka,.slice ra (dY q).length rc],.int .i64 (0)]) (by simp [results,Tryz.results11,go_sem,g0,g1,g2,g3]) rfl ⟨.slice ra (dY q).length rc,by first | (rw [HV.out];done) | (rw [HV.out];rfl),by rw [HV.out];exact HF.out.1,HF.out.2⟩
set_option maxRecDepth 100000
theorem Y4 (T R : Nat) (l : List aH) (most floor : Int) (gone : Bool) (S : Nat -> Prop) (w : World) (h : iy w T R l most floor gone S) :
 Calls Tryz.prog 89 #[.pointer (some ⟨T,0,none⟩)] w λe w'=>e = .returned (.int .i64 (l.length : Nat)) /\ w = w':=by
 have ln:=jM R l most floor gone S w h.ring
 obtain ⟨d0,d1⟩:=h.cells
 clear h
 go_enter Tryz.func89,Tryz.ntmps89
 go_wp2_with fail
 refine ln.mono ?_
 rintro e w1 ⟨rfl,rfl⟩
 clear ln
 go_wp2_with fail
 go_ret
 exact ⟨rfl,rfl⟩
set_option maxHeartbeats 1000000 in
theorem Y5 (T R : Nat) (l : List aH) (most floor : Int) (gone : Bool) (S : Nat -> Prop) (i : Int) (w : World) (h : iy w T R l most floor gone S) (hk : ∀ k ∈ l,k.sn.ents.length <= 64) :
 Calls Tryz.prog 40 #[.pointer (some ⟨T,0,none⟩),.int .i64 i] w λe w'=>∃ a c,e = .returned (.tuple #[.agg #[.int .i64 (xD (fC l i)),.int .i64 (om (fC l i)),.slice a (iR (fC l i)).length c],.bool (fF l i)]) /\ aM w' w.heap.size (.slice a (iR (fC l i)).length c) (iR (fC l i)) /\ Below w.heap.size w w':=by
 obtain ⟨w0,hw0⟩ : ∃ w0,w.alloc (.cells #[.int .i64 0,.int .i64 0,.slice none 0 0] 36) = w0:=⟨_,rfl⟩
 have hB0 : Below w.heap.size w w0:=by rw [← hw0];exact ajL
 have HX0 : Hid (ak w0 w.heap.size #[.int .i64 0,.int .i64 0,.slice none 0 0] 36):=ajK (by rw [← hw0];exact ak.new _ _ _)
 have HZ0 : Hid (w0.heap.size = w.heap.size + 1):=ajK (by rw [← hw0];simp)
 have h1:=h.below hB0;have HB0:=ajK hB0;have gt:=Ld R l most floor gone S i w0 h1.ring
 rw [Lm] at gt
 have HM : Hid (∀ k,(fC l i) = some k -> k ∈ l):=ajK (λk hh=>ED hh)
 obtain ⟨d0,d1⟩:=h1.cells
 have HS:=ajK h1;have HK:=ajK hk;clear h h1 hk hB0
 generalize fF l i = hv at *
 generalize (fC l i) = o at *
 go_enter Tryz.func40,Tryz.ntmps40
 go_wp2_with fail
 clear hw0
 refine gt.mono ?_
 rintro e w1 ⟨rfl,hB⟩
 clear gt d0 d1
 obtain ⟨a1,c1,e1,hE1,hc1,hl1,_⟩:=EC (HS.out.below hB).ring HM.out HK.out
 rw [e1]
 obtain ⟨t1,ht1⟩ : ∃ t,xD o = t:=⟨_,rfl⟩
 obtain ⟨m1,hm1⟩ : ∃ t,om o = t:=⟨_,rfl⟩
 rw [ht1,hm1]
 have Ua:=ajK (And.intro ht1 hm1)
 obtain ⟨v1,hv1⟩ : ∃ v,w1.alloc (.cells #[.int .i64 0,.int .i64 0,.slice none 0 0] 36) = v:=⟨_,rfl⟩
 have hB1 : Below w1.heap.size w1 v1:=by rw [← hv1];exact ajL
 have aV : ak v1 w1.heap.size #[.int .i64 0,.int .i64 0,.slice none 0 0] 36:=by rw [← hv1];exact ak.new _ _ _
 have f0:=aV.free 0;have f1:=aV.free 1;have f2:=aV.free 2;have q0:=aV.cell 0;have q1:=aV.cell 1;have q2:=aV.cell 2;simp at q0 q1 q2;have hX1:=jy (v0:=.int .i64 t1) (v1:=.int .i64 m1) (v2:=.slice a1 (iR o).length c1) aV;have hb1:=eZ (v0:=.int .i64 t1) (v1:=.int .i64 m1) (v2:=.slice a1 (iR o).length c1) hB1 (Nat.le_refl _)
 obtain ⟨u1,hu1⟩ : ∃ u,((v1.setCell ⟨w1.heap.size,0,none⟩ (.int .i64 t1)).setCell ⟨w1.heap.size,1,none⟩ (.int .i64 m1)).setCell ⟨w1.heap.size,2,none⟩ (.slice a1 (iR o).length c1) = u:=⟨_,rfl⟩
 rw [hu1] at hX1 hb1
 have Ao : Below w0.heap.size w0 u1:=hB.trans (hb1.mono hB.size)
 have ow:=PZ t1 m1 a1 c1 (iR o) u1 (hE1.below hb1) hc1 (by omega)
 have k0:=hX1.cell 0;have k1:=hX1.cell 1;have k2:=hX1.cell 2;simp at k0 k1 k2;have yZ:=ajK (HX0.out.below Ao HX0.out.lt);have CG:=ajK (HB0.out.trans (Ao.mono HB0.out.size))
 have hsz : w.heap.size < u1.heap.size:=Nat.lt_of_lt_of_le (by rw [HZ0.out];omega) Ao.size
 have vT:=ajK hsz;clear hB hE1 hc1 hl1 e1 hB1 aV hX1 hb1 Ao hsz HX0 ht1 hm1
 go_wp2_with fail
 clear hv1 hu1 f0 f1 f2 q0 q1 q2 k0 k1 k2
 refine ow.mono ?_
 rintro e w2 ⟨a2,c2,rfl,hO,hB⟩
 have hX2:=yZ.out.below hB yZ.out.lt;have f0:=hX2.free 0;have f1:=hX2.free 1;have f2:=hX2.free 2;have q0:=hX2.cell 0;have q1:=hX2.cell 1;have q2:=hX2.cell 2;simp at q0 q1 q2;have fQ:=jy (v0:=.int .i64 t1) (v1:=.int .i64 m1) (v2:=.slice a2 (iR o).length c2) hX2
 have HF : Hid (aM (((w2.setCell ⟨w.heap.size,0,none⟩ (.int .i64 t1)).setCell ⟨w.heap.size,1,none⟩ (.int .i64 m1)).setCell ⟨w.heap.size,2,none⟩ (.slice a2 (iR o).length c2)) w.heap.size (.slice a2 (iR o).length c2) (iR o) /\
  Below w.heap.size w (((w2.setCell ⟨w.heap.size,0,none⟩ (.int .i64 t1)).setCell ⟨w.heap.size,1,none⟩ (.int .i64 m1)).setCell ⟨w.heap.size,2,none⟩ (.slice a2 (iR o).length c2))):=ajK
  ⟨(aM.base hO (by have:=vT.out;omega)).only (rE (S:=λk=>k = w.heap.size) (Only.refl _ _) (.inl rfl)) (λj hj hk=>by have:=(hO.lt j hj).1;have:=vT.out;omega),eZ (CG.out.trans (hB.mono CG.out.size)) (Nat.le_refl _)⟩
 obtain ⟨u3,hu3⟩ : ∃ u,((w2.setCell ⟨w.heap.size,0,none⟩ (.int .i64 t1)).setCell ⟨w.heap.size,1,none⟩ (.int .i64 m1)).setCell ⟨w.heap.size,2,none⟩ (.slice a2 (iR o).length c2) = u:=⟨_,rfl⟩
 rw [hu3] at HF fQ
 have g0:=fQ.cell 0;have g1:=fQ.cell 1;have g2:=fQ.cell 2;simp at g0 g1 g2;clear hO hB hX2 fQ ow yZ
 go_wp2_with fail
 exact bodyPost_ret (v:=.tuple #[.agg #[.int .i64 t1,.int .i64 m1,.slice a2 (iR o).length c2],.bool hv]) (by simp [results,Tryz.results40,go_sem,g0,g1,g2]) rfl ⟨a2,c2,by rw [Ua.out.1,Ua.out.2],HF.out⟩
theorem Y6 {l : List aH} {i : Int} {k : aH} (h : eG l i = some k) : k ∈ l:=by
 unfold eG at h
 split at h
 ·cases h
 ·exact List.mem_of_getElem? h
set_option maxHeartbeats 1000000 in
theorem abj (T R : Nat) (l : List aH) (most floor : Int) (gone : Bool) (S : Nat -> Prop) (i : Int) (w : World) (h : iy w T R l most floor gone S) (hk : ∀ k ∈ l,k.sn.ents.length <= 64) :
 Calls Tryz.prog 90 #[.pointer (some ⟨T,0,none⟩),.int .i64 i] w λe w'=>∃ a c,e = .returned (.tuple #[.agg #[.int .i64 (xD (eG l i)),.int .i64 (om (eG l i)),.slice a (iR (eG l i)).length c],.int .i64 (sV (eG l i))]) /\ aM w' w.heap.size (.slice a (iR (eG l i)).length c) (iR (eG l i)) /\ Below w.heap.size w w':=by
 obtain ⟨w0,hw0⟩ : ∃ w0,w.alloc (.cells #[.int .i64 0,.int .i64 0,.slice none 0 0] 36) = w0:=⟨_,rfl⟩
 have hB0 : Below w.heap.size w w0:=by rw [← hw0];exact ajL
 have HX0 : Hid (ak w0 w.heap.size #[.int .i64 0,.int .i64 0,.slice none 0 0] 36):=ajK (by rw [← hw0];exact ak.new _ _ _)
 have HZ0 : Hid (w0.heap.size = w.heap.size + 1):=ajK (by rw [← hw0];simp)
 have h1:=h.below hB0;have HB0:=ajK hB0;have gt:=P5 R l most floor gone S i w0 h1.ring
 skip
 have HM : Hid (∀ k,(eG l i) = some k -> k ∈ l):=ajK (λk hh=>Y6 hh)
 obtain ⟨d0,d1⟩:=h1.cells
 have HS:=ajK h1;have HK:=ajK hk;clear h h1 hk hB0
 generalize sV (eG l i) = ev at *
 generalize XR (eG l i) = yv at *
 generalize (eG l i) = o at *
 go_enter Tryz.func90,Tryz.ntmps90
 go_wp2_with fail
 clear hw0
 refine gt.mono ?_
 rintro e w1 ⟨rfl,hB⟩
 clear gt d0 d1
 obtain ⟨a1,c1,e1,hE1,hc1,hl1,_⟩:=EC (HS.out.below hB).ring HM.out HK.out
 rw [e1]
 obtain ⟨t1,ht1⟩ : ∃ t,xD o = t:=⟨_,rfl⟩
 obtain ⟨m1,hm1⟩ : ∃ t,om o = t:=⟨_,rfl⟩
 rw [ht1,hm1]
 have Ua:=ajK (And.intro ht1 hm1)
 obtain ⟨v1,hv1⟩ : ∃ v,w1.alloc (.cells #[.int .i64 0,.int .i64 0,.slice none 0 0] 36) = v:=⟨_,rfl⟩
 have hB1 : Below w1.heap.size w1 v1:=by rw [← hv1];exact ajL
 have aV : ak v1 w1.heap.size #[.int .i64 0,.int .i64 0,.slice none 0 0] 36:=by rw [← hv1];exact ak.new _ _ _
 have f0:=aV.free 0;have f1:=aV.free 1;have f2:=aV.free 2;have q0:=aV.cell 0;have q1:=aV.cell 1;have q2:=aV.cell 2;simp at q0 q1 q2;have hX1:=jy (v0:=.int .i64 t1) (v1:=.int .i64 m1) (v2:=.slice a1 (iR o).length c1) aV;have hb1:=eZ (v0:=.int .i64 t1) (v1:=.int .i64 m1) (v2:=.slice a1 (iR o).length c1) hB1 (Nat.le_refl _)
 obtain ⟨u1,hu1⟩ : ∃ u,((v1.setCell ⟨w1.heap.size,0,none⟩ (.int .i64 t1)).setCell ⟨w1.heap.size,1,none⟩ (.int .i64 m1)).setCell ⟨w1.heap.size,2,none⟩ (.slice a1 (iR o).length c1) = u:=⟨_,rfl⟩
 rw [hu1] at hX1 hb1
 have Ao : Below w0.heap.size w0 u1:=hB.trans (hb1.mono hB.size)
 have ow:=PZ t1 m1 a1 c1 (iR o) u1 (hE1.below hb1) hc1 (by omega)
 have k0:=hX1.cell 0;have k1:=hX1.cell 1;have k2:=hX1.cell 2;simp at k0 k1 k2;have yZ:=ajK (HX0.out.below Ao HX0.out.lt);have CG:=ajK (HB0.out.trans (Ao.mono HB0.out.size))
 have hsz : w.heap.size < u1.heap.size:=Nat.lt_of_lt_of_le (by rw [HZ0.out];omega) Ao.size
 have vT:=ajK hsz;clear hB hE1 hc1 hl1 e1 hB1 aV hX1 hb1 Ao hsz HX0 ht1 hm1
 go_wp2_with fail
 clear hv1 hu1 f0 f1 f2 q0 q1 q2 k0 k1 k2
 refine ow.mono ?_
 rintro e w2 ⟨a2,c2,rfl,hO,hB⟩
 have hX2:=yZ.out.below hB yZ.out.lt;have f0:=hX2.free 0;have f1:=hX2.free 1;have f2:=hX2.free 2;have q0:=hX2.cell 0;have q1:=hX2.cell 1;have q2:=hX2.cell 2;simp at q0 q1 q2;have fQ:=jy (v0:=.int .i64 t1) (v1:=.int .i64 m1) (v2:=.slice a2 (iR o).length c2) hX2
 have HF : Hid (aM (((w2.setCell ⟨w.heap.size,0,none⟩ (.int .i64 t1)).setCell ⟨w.heap.size,1,none⟩ (.int .i64 m1)).setCell ⟨w.heap.size,2,none⟩ (.slice a2 (iR o).length c2)) w.heap.size (.slice a2 (iR o).length c2) (iR o) /\
  Below w.heap.size w (((w2.setCell ⟨w.heap.size,0,none⟩ (.int .i64 t1)).setCell ⟨w.heap.size,1,none⟩ (.int .i64 m1)).setCell ⟨w.heap.size,2,none⟩ (.slice a2 (iR o).length c2))):=ajK
  ⟨(aM.base hO (by have:=vT.out;omega)).only (rE (S:=λk=>k = w.heap.size) (Only.refl _ _) (.inl rfl)) (λj hj hk=>by have:=(hO.lt j hj).1;have:=vT.out;omega),eZ (CG.out.trans (hB.mono CG.out.size)) (Nat.le_refl _)⟩
 obtain ⟨u3,hu3⟩ : ∃ u,((w2.setCell ⟨w.heap.size,0,none⟩ (.int .i64 t1)).setCell ⟨w.heap.size,1,none⟩ (.int .i64 m1)).setCell ⟨w.heap.size,2,none⟩ (.slice a2 (iR o).length c2) = u:=⟨_,rfl⟩
 rw [hu3] at HF fQ
 have g0:=fQ.cell 0;have g1:=fQ.cell 1;have g2:=fQ.cell 2;simp at g0 g1 g2;clear hO hB hX2 fQ ow yZ
 go_wp2_with fail
 exact bodyPost_ret (v:=.tuple #[.agg #[.int .i64 t1,.int .i64 m1,.slice a2 (iR o).length c2],.int .i64 ev]) (by simp [results,Tryz.results90,go_sem,g0,g1,g2]) rfl ⟨a2,c2,by rw [Ua.out.1,Ua.out.2],HF.out⟩
set_option maxRecDepth 100000
theorem iy.apart {w : World} {T R : Nat} {l : List aH} {most floor : Int} {gone : Bool} {S : Nat -> Prop} (h : iy w T R l most floor gone S) : RingAt w R l most floor gone (λk=>S k /\ k ≠ T):=by
 obtain ⟨⟨cs,hcs,hb⟩,⟨v,hp⟩,h3⟩:=h
 refine ⟨v,hp.blk,hp.row,hp.ents,⟨hp.sR,λe=>?_⟩,λj e=>⟨hp.sv j e,λe2=>?_⟩,λk hk j e=>⟨hp.se k hk j e,λe2=>?_⟩,hp.up,hp.len⟩
 ·subst e
  have h1:=hp.blk
  unfold ak at h1 hb
  have h2:=Option.some.inj (h1.symm.trans hb)
  injection h2 with _ h3
  exact absurd h3 (by decide)
 ·subst e2;exact bI hp.row hb (by decide) e
 ·subst e2;exact bI (hp.ents k hk).1 hb (by decide) e
theorem Wn (p m : Value) (cs : List Int) (n : Nat) : (#[p,m] ++ (cs.map (Value.int .i64)).toArray)[2 + n]? = (cs[n]?).map (Value.int .i64):=by
 rw [Array.getElem?_append_right (by simp)]
 simp
theorem Wo (p m : Value) (cs : List Int) (n : Nat) (c : Int) : (#[p,m] ++ (cs.map (Value.int .i64)).toArray).setIfInBounds (2 + n) (.int .i64 c) = #[p,m] ++ ((cs.set n c).map (Value.int .i64)).toArray:=by
 apply Array.ext'
 rw [Array.toList_setIfInBounds,Array.toList_append,Array.toList_append,List.map_set,show 2 + n = n + 1 + 1 by omega]
 rfl
theorem iy.count {w : World} {T R : Nat} {l : List aH} {most floor : Int} {gone : Bool} {S : Nat -> Prop} (h : iy w T R l most floor gone S) {e : Int} (he : dR e) :
 ∃ c : Int,w.cell? ⟨T,2 + e.toNat,none⟩ = some (.int .i64 c) /\ w.frozen? ⟨T,2 + e.toNat,none⟩ = false /\ ∀ c',iy (w.setCell ⟨T,2 + e.toNat,none⟩ (.int .i64 c')) T R l most floor gone S:=by
 have ha:=h.apart
 obtain ⟨⟨cs,hcs,hb⟩,_,h3⟩:=h
 obtain ⟨e0,e1⟩:=he
 have hn : e.toNat < cs.length:=by omega
 refine ⟨cs[e.toNat],?_,hb.free _,λc'=>⟨⟨cs.set e.toNat c',by rw [List.length_set];exact hcs,?_⟩,?_,h3⟩⟩
 ·rw [hb.cell,Wn,List.getElem?_eq_getElem hn];rfl
 ·rw [← Wo];exact hb.set _ _
 ·exact (ha.only (Only.setCell (S:=λk=>k = T) (p:=⟨T,2 + e.toNat,none⟩) (Only.refl _ _) (.inl rfl) _) (λk hk e=>hk.2 e)).weaken (λk hk=>hk.1)
def Wp (l : List aH) (most floor : Int) (gone : Bool) (x : aH) (l' : List aH) (fl : Int) (g : Bool) : Prop:=(⟨l'.map (·.sn),fl,g⟩ : Rg) = fV most ⟨l.map (·.sn),floor,gone⟩ x.sn /\ ∀ k ∈ l',k = x \/ k ∈ l
def Lx (most : Int) (r : Rg) (x : Sn) : Int × Bool:=if ((jk r.ss x).length : Int) <= most then (0,false) else (((jk r.ss x).headD fu).tick,true)
def XU (R : Nat) (l : List aH) (most floor : Int) (gone : Bool) (S : Nat -> Prop) (x : aH) (w : World) : Prop :=
 Calls Tryz.prog 78 #[.pointer (some ⟨R,0,none⟩),.int .i64 x.key,.agg #[.int .i64 x.sn.tick,.int .i64 x.sn.time,fZ x]] w λe w'=>∃ (l' : List aH) (fl : Int) (g : Bool),e = .returned (.tuple #[.int .i64 (Lx most ⟨l.map (·.sn),floor,gone⟩ x.sn).1,.bool (Lx most ⟨l.map (·.sn),floor,gone⟩ x.sn).2,.int .i64 0]) /\ RingAt w' R l' most fl g (λk=>S k \/ (w.heap.size <= k /\ k < w'.heap.size)) /\ Only S w w' /\ Wp l most floor gone x l' fl g
def LA (l : List aH) (most floor : Int) (gone : Bool) (sn : Sn) : Prop:=∀ (R : Nat) (S : Nat -> Prop) (x : aH) (w : World),x.sn = sn -> x.key = sn.tick -> RingAt w R l most floor gone S -> aM w 0 (fZ x) x.sn.ents -> (∀ e ∈ x.sn.ents,e.Ok) -> (∀ j,(fZ x).ownBlock = some j -> S j) -> XU R l most floor gone S x w
def LC (u1 : World) (S2 : Nat -> Prop) (R : Nat) (l : List aH) (most floor : Int) (gone : Bool) (sn : Sn) (b : List Value) (W : World) : Prop:=Only S2 u1 W /\ match b with
 | []=>Below u1.heap.size u1 W
 | [v]=>Below u1.heap.size u1 W /\ ∃ a c,v = .agg #[.int .i64 sn.tick,.int .i64 sn.time,.slice a sn.ents.length c] /\ aM W u1.heap.size (.slice a sn.ents.length c) sn.ents
 | [v,u]=>∃ (l' : List aH) (fl : Int) (g : Bool) (x : aH),RingAt W R l' most fl g (λk=>S2 k /\ k < W.heap.size) /\ x.sn = sn /\ x.key = sn.tick /\ Wp l most floor gone x l' fl g
 | _=>False
theorem LC.below {u1 : World} {S2 : Nat -> Prop} {R : Nat} {l : List aH} {most floor : Int} {gone : Bool} {sn : Sn} {b : List Value} {W W' : World} (h : LC u1 S2 R l most floor gone sn b W) (hb : Below W.heap.size W W') : LC u1 S2 R l most floor gone sn b W':=by
 obtain ⟨h1,h2⟩:=h
 refine ⟨h1.fK hb,?_⟩
 match b,h2 with
 | [],h2=>exact h2.trans (hb.mono h2.size)
 | [v],⟨h2,a,c,e,ho⟩=>exact ⟨h2.trans (hb.mono h2.size),a,c,e,ho.below hb⟩
 | [v,u],⟨l',fl,g,x,hr,q⟩=>exact ⟨l',fl,g,x,(hr.below hb).weaken (λk hk=>⟨hk.1,Nat.lt_of_lt_of_le hk.2 hb.size⟩),q⟩
def afR (l : List aH) (most floor : Int) (gone : Bool) (z : Sn × Int) (l' : List aH) (fl : Int) (g : Bool) : Prop :=
 (z.2 ≠ 0 /\ l' = l /\ fl = floor /\ g = gone) \/ (z.2 = 0 /\ ∃ x : aH,x.sn = z.1 /\ x.key = z.1.tick /\ Wp l most floor gone x l' fl g)
set_option maxHeartbeats 4000000 in
theorem Qk (T R : Nat) (l : List aH) (most floor : Int) (gone : Bool) (S : Nat -> Prop) (a : Option Addr) (len cap : Nat) (zs : List Int) (w : World) (h0 : iy w T R l most floor gone S) (Qb : ∀ k ∈ l,k.sn.ents.length <= 64)
 (hz : BytesAt w a len zs) (hc : a = none -> cap = 0) (hlc : len <= cap) (hl : (len : Int) <= 140737488355000)
 (LD : (eu l most floor gone zs).2 = 0 -> LA l most floor gone (eu l most floor gone zs).1) (hok : ∀ e ∈ (eu l most floor gone zs).1.ents,e.Ok) (hn : (eu l most floor gone zs).1.ents.length <= 64) (her : dR (eu l most floor gone zs).2) :
 Calls Tryz.prog 39 #[.pointer (some ⟨T,0,none⟩),.slice a len cap] w λe w'=>e = .returned (.tuple #[.int .i64 (if (eu l most floor gone zs).2 = 0 then (eu l most floor gone zs).1.tick else 0),.int .i64 (eu l most floor gone zs).2]) /\
  (∃ l' fl g,iy w' T R l' most fl g (λk=>S k \/ (w.heap.size <= k /\ k < w'.heap.size)) /\ afR l most floor gone (eu l most floor gone zs) l' fl g) /\ Only S w w':=by
 have hs:=aa3 T R l most floor gone S a len cap zs w h0 Qb hz hc hlc hl (TM hz.u8);have LG:=ajK h0.cap;have Xx:=ajK hok;have afS:=ajK LD;have XV:=ajK her;have HN:=ajK hn;clear LD hok h0 hz her hn
 generalize eu l most floor gone zs = z at *
 obtain ⟨tk,htk⟩ : ∃ t : Int,(if z.2 = 0 then z.1.tick else 0) = t:=⟨_,rfl⟩
 rw [htk]
 obtain ⟨⟨tick,time,ents⟩,er⟩:=z
 simp only at *
 have HTK:=ajK htk;clear htk
 go_enter Tryz.func39,Tryz.ntmps39
 go_wp2_with fail
 refine hs.mono ?_
 rintro e w1 ⟨v,rfl,hO,hB⟩
 clear hs
 obtain ⟨va,vc,rfl,_⟩:=hO.slice
 have hS1:=LG.out.below hB
 obtain ⟨v1,hv1⟩ : ∃ v,w1.alloc (.cells #[.int .i64 0,.int .i64 0,.slice none 0 0] 36) = v:=⟨_,rfl⟩
 have hB1 : Below w1.heap.size w1 v1:=by rw [← hv1];exact ajL
 have aV : ak v1 w1.heap.size #[.int .i64 0,.int .i64 0,.slice none 0 0] 36:=by rw [← hv1];exact ak.new _ _ _
 have f0:=aV.free 0;have f1:=aV.free 1;have f2:=aV.free 2;have q0:=aV.cell 0;have q1:=aV.cell 1;have q2:=aV.cell 2;simp at q0 q1 q2;have hX1:=jy (v0:=.int .i64 tick) (v1:=.int .i64 time) (v2:=.slice va ents.length vc) aV;have hb1:=eZ (v0:=.int .i64 tick) (v1:=.int .i64 time) (v2:=.slice va ents.length vc) hB1 (Nat.le_refl _)
 obtain ⟨u1,hu1⟩ : ∃ u,((v1.setCell ⟨w1.heap.size,0,none⟩ (.int .i64 tick)).setCell ⟨w1.heap.size,1,none⟩ (.int .i64 time)).setCell ⟨w1.heap.size,2,none⟩ (.slice va ents.length vc) = u:=⟨_,rfl⟩
 rw [hu1] at hX1 hb1
 have gN:=ajK hX1;have iF:=ajK (hS1.below hb1);have HB1:=ajK (hB.trans (hb1.mono hB.size))
 have hE1 : eX u1 va ents /\ (va = none -> vc = 0):=by
  obtain ⟨a',c',e,h1,h2,_⟩:=(aM.below hO hb1).ents Xx.out
  cases e;exact ⟨h1,h2⟩
 have zL:=ajK hE1
 have vT : Hid (w.heap.size <= w1.heap.size /\ w1.heap.size < u1.heap.size):=ajK ⟨hB.size,hX1.lt⟩
 clear hO hB hS1 hB1 aV hX1 hb1 hE1
 by_cases her : er = 0
 ·subst her
  obtain rfl : tick = tk:=by have:=HTK.out;simpa using this
  obtain ⟨d0,d1⟩:=iF.out.cells
  have x0:=gN.out.cell 0;have x1:=gN.out.cell 1;have x2:=gN.out.cell 2;simp at x0 x1 x2
  have HI : Hid (LC u1 (λk=>(S k /\ k < w.heap.size /\ k ≠ T) \/ u1.heap.size <= k) R l most floor gone ⟨tick,time,ents⟩ [] u1.drew):=ajK ⟨Only.of_below (below_drewN ajM 1),below_drewN ajM 1⟩
  have HT : Hid (T < w.heap.size):=ajK LG.out.sT.2
  have JJ : Hid (∀ b W,LC u1 (λk=>(S k /\ k < w.heap.size /\ k ≠ T) \/ u1.heap.size <= k) R l most floor gone ⟨tick,time,ents⟩ b W -> W.cell? ⟨T,0,none⟩ = some (.pointer (some ⟨R,0,none⟩)) /\ W.cell? ⟨w1.heap.size,0,none⟩ = some (.int .i64 tick) /\ W.cell? ⟨w1.heap.size,1,none⟩ = some (.int .i64 time) /\ W.cell? ⟨w1.heap.size,2,none⟩ = some (.slice va ents.length vc)):=ajK (λb W hW=>by
   have hh : ∀ k o,k < u1.heap.size -> ¬ ((S k /\ k < w.heap.size /\ k ≠ T) \/ u1.heap.size <= k) -> W.cell? ⟨k,o,none⟩ = u1.cell? ⟨k,o,none⟩:=λk o h1 h2=>by
    simp only [World.cell?];rw [hW.1.block k h1 h2]
   have a1:=HT.out;have a2:=vT.out
   refine ⟨(hh T 0 (by omega) (by omega)).trans d0,(hh _ 0 (by omega) (by omega)).trans x0,(hh _ 1 (by omega) (by omega)).trans x1,(hh _ 2 (by omega) (by omega)).trans x2⟩)
  obtain ⟨av,bv,hlv⟩ : ∃ av bv,Lx most ⟨l.map (·.sn),floor,gone⟩ ⟨tick,time,ents⟩ = (av,bv):=⟨_,_,rfl⟩
  have HLV:=ajK hlv;clear hlv
  go_wp2_with fail
  clear hv1 hu1 f0 f1 f2 q0 q1 q2 d0 d1 x0 x1 x2
  apply lT 13 [7,8] (LC u1 (λk=>(S k /\ k < w.heap.size /\ k ≠ T) \/ u1.heap.size <= k) R l most floor gone ⟨tick,time,ents⟩)
  case hm=>kernel_rfl
  case hB=>kernel_rfl
  case hp=>kernel_rfl
  case hI=>exact HI.out
  simp only [List.take_succ_cons,List.take_zero,List.drop_succ_cons,List.drop_zero]
  repeat (apply bR;(next=>rfl);(next=>(intro b W hW K hK;obtain ⟨y0,y1,y2,y3⟩:=JJ.out _ _ hW;go_simp;first | exact ⟨hW,hK⟩ | exact hK));(next=>exact ⟨_,HI.out⟩);(try go_simp))
  apply bU (s:=λ_=>True)
  case hk=>rfl
  case hne=>exact ⟨undef,trivial⟩
  case hw=>rfl
  case h =>
   intro W hW
   have hW2 : Below u1.heap.size u1 W:=hW.2
   have ow:=PZ tick time va vc ents W (zL.out.1.below hW2) zL.out.2 (by have:=HN.out;omega)
   have HW:=ajK hW;clear hW hW2
   go_simp
   refine ow.mono ?_
   rintro e w2 ⟨a2,c2,rfl,hO,hB⟩
   have hAc:=LC.below HW.out hB
   first | refine ⟨_,rfl,?_⟩ | refine ⟨_,rfl,trivial,?_⟩
   exact ⟨hAc.1,hAc.2,a2,c2,rfl,aM.base hO (Below.size (show Below u1.heap.size u1 W from HW.out.2))⟩
  intro v2 _
  repeat (apply bR;(next=>rfl);(next=>(intro b W hW K hK;obtain ⟨y0,y1,y2,y3⟩:=JJ.out _ _ hW;go_simp;first | exact ⟨hW,hK⟩ | exact hK));(next=>exact ⟨_,HI.out⟩);(try go_simp))
  apply bU (s:=λv=>v = .tuple #[.int .i64 av,.bool bv,.int .i64 0])
  case hk=>rfl
  case hne=>exact ⟨_,rfl⟩
  case hw=>rfl
  case h =>
   intro W hW
   obtain ⟨hO,hb,a2,c2,rfl,sO⟩:=hW
   have hS2:=(iF.out.below hb).apart.weaken (S':=λk=>((S k /\ k < w.heap.size /\ k ≠ T) \/ u1.heap.size <= k)) (λk hk=>.inl ⟨hk.1.1,hk.1.2,hk.2⟩)
   have ly:=afS.out trivial R _ ⟨tick,⟨tick,time,ents⟩,a2,c2⟩ W rfl rfl hS2 (aM.base sO (Nat.zero_le _)) Xx.out (λj hj=>.inr (sO.lt j hj).1)
   have HO:=ajK hO;have hbs:=hb.size;clear hO hb sO hS2
   unfold XU fZ at ly
   simp only [HLV.out] at ly
   go_simp
   refine ly.mono ?_
   rintro e w2 ⟨l',fl,g,rfl,hR,hO2,Jh⟩
   first | refine ⟨_,rfl,rfl,?_⟩ | refine ⟨_,rfl,trivial,?_⟩ | refine ⟨_,rfl,?_⟩
   exact ⟨HO.out.trans hO2,l',fl,g,_,hR.cap.weaken (λk hk=>⟨by rcases hk.1 with h | h;exact h;exact .inr (by omega),hk.2⟩),rfl,rfl,Jh⟩
  intro v3 hv3
  obtain rfl:=hv3
  try go_simp
  repeat (apply bR;(next=>rfl);(next=>(intro b W hW K hK;obtain ⟨y0,y1,y2,y3⟩:=JJ.out _ _ hW;go_simp;first | exact ⟨hW,hK⟩ | exact hK));(next=>exact ⟨_,HI.out⟩);(try go_simp))
  refine jR ?_
  intro W hW
  have HK:=ajK (JJ.out _ W hW)
  obtain ⟨hO,l',fl,g,x,hR,hx1,hx2,Jh⟩:=hW
  have hT:=HT.out;have hsz:=vT.out;have afT:=hO.size
  have hST : iy W T R l' most fl g (λk=>S k \/ (w.heap.size <= k /\ k < W.heap.size)):=by
   obtain ⟨cs,hcs,hb⟩:=iF.out.blk
   refine ⟨⟨cs,hcs,hO.blk hb (by omega)⟩,hR.weaken (λk hk=>?_),.inl LG.out.sT.1⟩
   rcases hk.1 with h | h
   ·exact .inl h.1
   ·exact .inr ⟨by omega,hk.2⟩
  have HON : Hid (Only S w W):=ajK ((Only.of_below (S:=S) HB1.out).bM hO (λi hi h=>by rcases h with h | h;exact h.1;omega))
  have HLR:=ajK (And.intro hx1 (And.intro hx2 Jh));have HST:=ajK hST;clear hO hR hx1 hx2 Jh HI hST afT
  obtain ⟨c,hc0,hf0,hset⟩:=HST.out.count dR.zero
  simp at hc0 hf0
  obtain ⟨kt,kx0,kx1,kx2⟩:=HK.out
  go_wp2_with fail
  refine aS 9 (by kernel_rfl) (by kernel_rfl) ?_
  simp only [List.take_succ_cons,List.take_zero,List.drop_succ_cons,List.drop_zero]
  repeat (apply aF;(next=>(intro W hW K hK;have y0:=hW.cell kt;have y1:=hW.cell kx0;have y2:=hW.cell kx1;have y3:=hW.cell kx2;have y4:=hW.cell hc0;go_simp;first | exact ⟨hW,hK⟩ | exact hK));(next=>exact aN.self _);(try go_simp))
  refine aX ?_
  intro WC aO
  have bN : Below W.heap.size W WC:=aO
  have Ub:=HST.out.below bN
  obtain ⟨c',hc2,hf2,ji⟩:=Ub.count dR.zero
  simp at hc2 hf2 ji;have kx:=aO.cell kx0;have hc3:=aO.cell hc0;have ai1:=vT.out;have hTl:=HT.out
  have hne1 : ¬ w1.heap.size = T:=by omega
  have hne2 : ¬ T = w1.heap.size:=by omega
  have HF : Hid (∀ v,iy (WC.setCell ⟨T,2,none⟩ (.int .i64 v)) T R l' most fl g (λk=>S k \/ (w.heap.size <= k /\ k < (WC.setCell ⟨T,2,none⟩ (.int .i64 v)).heap.size)) /\ Only S w (WC.setCell ⟨T,2,none⟩ (.int .i64 v))):=ajK (λv=>⟨(ji v).weaken (λk hk=>by
   rcases hk with h | h
   ·exact .inl h
   ·exact .inr ⟨h.1,by have:=bN.size;simp [World.setCell];omega⟩),(HON.out.fK bN).setCell (p:=⟨T,2,none⟩) (.inl LG.out.sT.1) _⟩)
  clear aO bN Ub kt kx0 kx1 kx2 hc0 hf0 hset HK ji hc2
  go_wp2_with fail
  exact bodyPost_ret (v:=.tuple #[.int .i64 tick,.int .i64 0]) (by simp [results,Tryz.results39,go_sem]) rfl ⟨rfl,⟨l',fl,g,(HF.out _).1,.inr ⟨rfl,x,HLR.out.1,HLR.out.2.1,HLR.out.2.2⟩⟩,(HF.out _).2⟩
 ·have hen : (er == 0) = false:=by simpa using her
  have ai2 : (er != 0) = true:=by simpa using her
  obtain ⟨c,hc0,hf0,hset⟩:=iF.out.count XV.out
  obtain ⟨d0,d1⟩:=iF.out.cells
  have hb1 : ¬ er < 0:=by have:=XV.out.1;omega
  have hb2 : er < 18:=by have:=XV.out.2;omega
  go_wp2_with fail
  clear hv1 hu1 f0 f1 f2 q0 q1 q2
  refine aS 9 (by kernel_rfl) (by kernel_rfl) ?_
  simp only [List.take_succ_cons,List.take_zero,List.drop_succ_cons,List.drop_zero]
  repeat (apply aF;(next=>(intro W hW K hK;have y0:=hW.cell d0;have y1:=hW.cell d1;have y2:=hW.cell hc0;go_simp;first | exact ⟨hW,hK⟩ | exact hK));(next=>exact aN.self _);(try go_simp))
  refine aX ?_
  intro WC aO
  have bN : Below u1.heap.size u1 WC:=aO
  have Ub:=iF.out.below bN
  obtain ⟨c',hc2,hf2,ji⟩:=Ub.count XV.out
  have hc3:=aO.cell hc0
  have HF : Hid (∀ v,iy (WC.setCell ⟨T,2 + er.toNat,none⟩ (.int .i64 v)) T R l most floor gone (λk=>S k \/ (w.heap.size <= k /\ k < (WC.setCell ⟨T,2 + er.toNat,none⟩ (.int .i64 v)).heap.size)) /\ Only S w (WC.setCell ⟨T,2 + er.toNat,none⟩ (.int .i64 v))):=ajK (λv=>⟨(ji v).weaken (λk hk=>.inl hk.1),(Only.of_below (HB1.out.trans (bN.mono HB1.out.size))).setCell (p:=⟨T,2 + er.toNat,none⟩) (.inl LG.out.sT.1) _⟩)
  have htk : tk = 0:=by rw [← HTK.out,if_neg her]
  subst htk
  have pE:=ajK her;clear aO bN Ub d0 d1 hc0 hf0 hset ji hc2 her
  go_wp2_with fail
  exact bodyPost_ret (v:=.tuple #[.int .i64 0,.int .i64 er]) (by simp [results,Tryz.results39,go_sem]) rfl ⟨rfl,⟨l,floor,gone,(HF.out _).1,.inl ⟨pE.out,rfl,rfl,rfl⟩⟩,(HF.out _).2⟩
end Go.Proofs.YtklkooeimkedgaaGreat
