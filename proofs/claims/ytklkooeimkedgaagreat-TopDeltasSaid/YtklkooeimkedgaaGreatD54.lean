/- Walk of TopDeltas. -/
import Derived.Test.YtklkooeimkedgaaGreatD53
set_option linter.unusedVariables false
set_option linter.unusedSimpArgs false
namespace Go.Proofs.YtklkooeimkedgaaGreat
open Go.RowKit
set_option maxRecDepth 8000
theorem zQ {a b : Int} (ha : aA a) (hb : aA b) : IntKind.i64.wrap (a + IntKind.i64.wrap (b - a)) = b:=by
 obtain ⟨a1,a2⟩:=ha
 obtain ⟨b1,b2⟩:=hb
 rw [IntKind.wrap_i64,IntKind.wrap_i64];omega
theorem WV {a b : Int} (ha : 0 <= a /\ a <= 65535) (hb : 0 <= b /\ b <= 65535) : IntKind.u16.wrap (a + IntKind.u16.wrap (b - a)) = b:=by
 rw [IntKind.wrap_u16,IntKind.wrap_u16];omega
theorem Nc {x y : ay} (h : (cZ x y).2 = false) : x = y:=by
 unfold cZ at h
 split at h
 ·rename_i hs
  unfold FX at hs
  obtain ⟨a0,a1,a2,a3,a4,a5,a6,a7,a8⟩:=x
  obtain ⟨b0,b1,b2,b3,b4,b5,b6,b7,b8⟩:=y
  simp only [Bool.and_eq_true,beq_iff_eq] at hs
  obtain ⟨⟨⟨⟨e0,⟨e1,e2⟩,e3⟩,⟨e4,e5⟩,e6⟩,e7⟩,e8⟩:=hs
  subst e0 e1 e2 e3 e4 e5 e6 e7 e8
  rfl
 ·cases h
theorem Nf {x y : ay} (hx : x.Ok) (hy : y.Ok) (hid : x.id = y.id) (hg : x.gen = y.gen) (h : (cZ x y).2 = true) (hc : dG (cZ x y).1 = 0) : (cZ x y).1.kind = 1 /\ (cZ x y).1.id = y.id /\ (dV x (cZ x y).1).1 = y:=by
 have hr : (cZ x y).1 = ⟨1,y.id,IntKind.i64.wrap (y.px - x.px),IntKind.i64.wrap (y.py - x.py),IntKind.i64.wrap (y.pz - x.pz),IntKind.i64.wrap (y.vx - x.vx),IntKind.i64.wrap (y.vy - x.vy),IntKind.i64.wrap (y.vz - x.vz),IntKind.u16.wrap (y.aG - x.aG)⟩:=by
  unfold cZ at h ⊢
  split at h
  ·cases h
  ·rename_i hs
   rw [if_neg hs]
   unfold Dp
   rw [if_pos hg]
 rw [hr] at hc ⊢
 refine ⟨rfl,rfl,?_⟩
 unfold dV
 rw [if_neg (by rw [hc];simp),if_neg (by simp [hid]),if_neg (by simp)]
 simp only
 rw [zQ hx.px hy.px,zQ hx.py hy.py,zQ hx.pz hy.pz,zQ hx.vx hy.vx,zQ hx.vy hy.vy,zQ hx.vz hy.vz,WV hx.aG hy.aG,hid,hg]
theorem CY (l : List ay) (e : ay) (i : Int) : aI (eB l e) i = if i = e.id then some e else aI l i:=by
 unfold eB
 by_cases hs : (aI l e.id).isSome = true
 ·rw [if_pos hs]
  have key : ∀ l : List ay,aI (l.map (λx=>if x.id = e.id then e else x)) i = if i = e.id then (aI l e.id).map (λ_=>e) else aI l i:=by
   intro l
   induction l with
   | nil=>unfold aI;simp
   | cons x l ih =>
     unfold aI at ih ⊢
     rw [List.map_cons]
     by_cases hx : x.id = e.id
     ·rw [if_pos hx]
      by_cases hi : i = e.id
      ·rw [if_pos hi,List.find?_cons_of_pos (by simp [hi]),List.find?_cons_of_pos (by simp [hx])];rfl
      ·rw [if_neg hi] at ih ⊢
       rw [List.find?_cons_of_neg (by simp;exact λh=>hi h.symm),List.find?_cons_of_neg (by simp [hx];exact λh=>hi h.symm),ih]
     ·rw [if_neg hx]
      by_cases hi : i = e.id
      ·rw [if_pos hi] at ih ⊢
       rw [List.find?_cons_of_neg (by simp [hi];exact hx),List.find?_cons_of_neg (by simpa using hx),ih]
      ·rw [if_neg hi] at ih ⊢
       by_cases hxi : x.id = i
       ·rw [List.find?_cons_of_pos (by simpa using hxi),List.find?_cons_of_pos (by simpa using hxi)]
       ·rw [List.find?_cons_of_neg (by simpa using hxi),List.find?_cons_of_neg (by simpa using hxi),ih]
  rw [key]
  obtain ⟨y,hy⟩:=Option.isSome_iff_exists.1 hs
  rw [hy];rfl
 ·rw [if_neg hs]
  have hn : aI l e.id = none:=by simpa using hs
  unfold aI at hn ⊢
  rw [List.find?_append]
  by_cases hi : i = e.id
  ·subst hi
   rw [hn,if_pos rfl,List.find?_cons_of_pos (by simp)];rfl
  ·rw [if_neg hi,List.find?_cons_of_neg (by simp;exact λh=>hi h.symm)]
   simp
theorem yP (l : List ay) (j i : Int) : aI (jZ l j) i = if i = j then none else aI l i:=by
 unfold aI jZ
 rw [List.find?_filter]
 by_cases hi : i = j
 ·rw [if_pos hi,List.find?_eq_none]
  intro x _ hx
  simp at hx
  exact hx.1 (by rw [hx.2,hi])
 ·rw [if_neg hi]
  congr 1
  funext x
  by_cases hx : x.id = i
  ·simp [hx,hi]
  ·simp [hx]
def L9 (o : Option ay) (r : Rec) : Option ay:=match o with
 | some x=>if r.kind = 2 then none else some (dV x r).1
 | none=>some ⟨r.id,r.px,r.py,r.pz,r.vx,r.vy,r.vz,r.aG,0⟩
def JN (o : Option ay) (r : Rec) : Prop:=match o with
 | some _=>r.kind ≠ 0
 | none=>r.kind = 0
theorem Qr {l : List ay} {r : Rec} (hf : JN (aI l r.id) r) (hid : ∀ x,aI l r.id = some x -> r.kind ≠ 2 -> (dV x r).1.id = r.id) : ∃ l',iP l r = some l' /\ (∀ i,aI l' i = if i = r.id then L9 (aI l r.id) r else aI l i) /\ ((l.map (·.id)).Nodup -> (l'.map (·.id)).Nodup):=by
 unfold iP
 cases hx : aI l r.id with
 | none =>
   rw [hx] at hf
   have hk : r.kind = 0:=hf
   rw [if_pos hk]
   exact ⟨_,rfl,λi=>CY _ _ _,λh=>uw h⟩
 | some x =>
   rw [hx] at hf
   have hk : r.kind ≠ 0:=hf
   simp only
   rw [if_neg hk]
   by_cases h2 : r.kind = 2
   ·rw [if_pos h2]
    refine ⟨_,rfl,λi=>?_,λh=>h.sublist (List.Sublist.map _ List.filter_sublist)⟩
    rw [yP]
    unfold L9
    simp only
    rw [if_pos h2]
   ·rw [if_neg h2]
    have he:=hid x hx h2
    refine ⟨_,rfl,λi=>?_,λh=>uw h⟩
    rw [CY,he]
    unfold L9
    simp only
    rw [if_neg h2]
theorem Gp : ∀ (rs : List Rec) (l : List ay),(rs.map (·.id)).Nodup -> (∀ r ∈ rs,JN (aI l r.id) r) -> (∀ r ∈ rs,∀ x,aI l r.id = some x -> r.kind ≠ 2 -> (dV x r).1.id = r.id) -> (l.map (·.id)).Nodup ->
 ∃ l',kr l rs = some l' /\ (∀ r ∈ rs,aI l' r.id = L9 (aI l r.id) r) /\ (∀ i,i ∉ rs.map (·.id) -> aI l' i = aI l i) /\ (l'.map (·.id)).Nodup
 | [],l,_,_,_,hn=>⟨l,rfl,by simp,λ_ _=>rfl,hn⟩
 | r :: rs,l,hd,hf,hi,hn=>by
   rw [List.map_cons,List.nodup_cons] at hd
   obtain ⟨l1,h1,h2,h3⟩:=Qr (hf r (List.mem_cons_self ..)) (hi r (List.mem_cons_self ..))
   have hne : ∀ q ∈ rs,q.id ≠ r.id:=λq hq e=>hd.1 (by rw [← e];exact List.mem_map_of_mem hq)
   have hsame : ∀ q ∈ rs,aI l1 q.id = aI l q.id:=λq hq=>by rw [h2,if_neg (hne q hq)]
   obtain ⟨l',g1,g2,g3,g4⟩:=Gp rs l1 hd.2 (λq hq=>by rw [hsame q hq];exact hf q (List.mem_cons_of_mem _ hq)) (λq hq x hx=>by rw [hsame q hq] at hx;exact hi q (List.mem_cons_of_mem _ hq) x hx) (h3 hn)
   refine ⟨l',by rw [kr,h1];exact g1,λq hq=>?_,λi hni=>?_,g4⟩
   ·rcases List.mem_cons.1 hq with rfl | hq
    ·rw [g3 _ hd.1,h2,if_pos rfl]
    ·rw [g2 q hq,hsame q hq]
   ·rw [List.map_cons,List.mem_cons,not_or] at hni
    rw [g3 i hni.2,h2,if_neg hni.1]
theorem mY {l : List ay} (hn : (l.map (·.id)).Nodup) {x : ay} (hx : x ∈ l) : aI l x.id = some x:=by
 cases h : aI l x.id with
 | none=>exact absurd (List.mem_map_of_mem hx) (FU h)
 | some y =>
   obtain ⟨hy,hid⟩:=gW h
   obtain ⟨i,hi,rfl⟩:=List.mem_iff_getElem.1 hx
   obtain ⟨j,hj,rfl⟩:=List.mem_iff_getElem.1 hy
   have hp:=List.pairwise_iff_getElem.1 hn
   rcases Nat.lt_trichotomy i j with h | rfl | h
   ·have:=hp i j (by simpa using hi) (by simpa using hj) h
    simp only [List.getElem_map] at this
    exact absurd hid.symm this
   ·rfl
   ·have:=hp j i (by simpa using hj) (by simpa using hi) h
    simp only [List.getElem_map] at this
    exact absurd hid this
theorem Jv : ∀ (xs ys : List ay),xs.Pairwise (λa b=>a.id < b.id) -> ys.Pairwise (λa b=>a.id < b.id) -> (∀ x,x ∈ xs ↔ x ∈ ys) -> xs = ys
 | [],[],_,_,_=>rfl
 | [],y :: ys,_,_,h=>by have:=(h y).2 (List.mem_cons_self ..);cases this
 | x :: xs,[],_,_,h=>by have:=(h x).1 (List.mem_cons_self ..);cases this
 | x :: xs,y :: ys,hx,hy,h=>by
   have a1:=List.pairwise_cons.1 hx;have a2:=List.pairwise_cons.1 hy
   have hxy : x = y:=by
    rcases List.mem_cons.1 ((h x).1 (List.mem_cons_self ..)) with h1 | h1
    ·exact h1
    rcases List.mem_cons.1 ((h y).2 (List.mem_cons_self ..)) with h2 | h2
    ·exact h2.symm
    have b1:=a2.1 x h1;have b2:=a1.1 y h2
    omega
   subst hxy
   rw [Jv xs ys a1.2 a2.2 (λz=>?_)]
   constructor
   ·intro hz
    rcases List.mem_cons.1 ((h z).1 (List.mem_cons_of_mem _ hz)) with e | e
    ·subst e;have:=a1.1 z hz;omega
    ·exact e
   ·intro hz
    rcases List.mem_cons.1 ((h z).2 (List.mem_cons_of_mem _ hz)) with e | e
    ·subst e;have:=a2.1 z hz;omega
    ·exact e
theorem Zk {l : List ay} (hn : (l.map (·.id)).Nodup) : (qN l).Pairwise (λa b=>a.id < b.id):=by
 have h1:=G9 l
 have h2 : ((qN l).map (·.id)).Nodup:=((nD l).map _).nodup_iff.2 hn
 have h3 : (qN l).Pairwise (λa b=>a.id ≠ b.id):=List.pairwise_map.1 h2
 exact (h1.and h3).imp (λh=>by have h4:=h.1;have h5:=h.2;omega)
theorem Ux {l b : List ay} (hn : (l.map (·.id)).Nodup) (hb : b.Pairwise (λa b=>a.id < b.id)) (h : ∀ i,aI l i = aI b i) : qN l = b:=by
 refine Jv _ _ (Zk hn) hb (λx=>?_)
 have hbn:=pV hb
 constructor
 ·intro hx
  have h1:=mY hn ((nD l).subset hx)
  rw [h] at h1
  exact (gW h1).1
 ·intro hx
  have h1:=mY hbn hx
  rw [← h] at h1
  exact (nD l).symm.subset (gW h1).1
theorem Gq : ∀ (es : List ay) {was : List ay} {out : List Rec} {q : List ay × List Rec},dL was out es = some q -> (es.map (·.id)).Nodup ->
 (∀ i,i ∈ es.map (·.id) -> aI q.1 i = none) /\ (∀ i,i ∉ es.map (·.id) -> aI q.1 i = aI was i) /\
 (∀ r ∈ q.2,r ∈ out \/ ∃ x ∈ es,(aI was x.id = none /\ r = jN x) \/ ∃ o,aI was x.id = some o /\ (cZ o x).2 = true /\ r = (cZ o x).1) /\
 (∀ r ∈ out,r ∈ q.2) /\ (∀ x ∈ es,(aI was x.id = none -> jN x ∈ q.2) /\ ∀ o,aI was x.id = some o -> (cZ o x).2 = true -> (cZ o x).1 ∈ q.2)
 | [],was,out,q,h,_=>by cases h;exact ⟨by simp,λ_ _=>rfl,λr hr=>.inl hr,λr hr=>hr,by simp⟩
 | x :: es,was,out,q,h,hn=>by
   rw [List.map_cons,List.nodup_cons] at hn
   rw [dL] at h
   cases ho : lH was out x with
   | none=>rw [ho] at h;cases h
   | some p =>
     rw [ho] at h
     have hp : p.1 = jZ was x.id /\ ((aI was x.id = none /\ p.2 = out ++ [jN x]) \/ ∃ o,aI was x.id = some o /\ p.2 = if (cZ o x).2 = true then out ++ [(cZ o x).1] else out):=by
      unfold lH at ho
      split at ho
      ·rename_i hx
       split at ho
       ·cases ho;exact ⟨rfl,.inl ⟨hx,rfl⟩⟩
       ·cases ho
      ·rename_i o hx
       split at ho
       ·cases ho
       ·cases ho;exact ⟨rfl,.inr ⟨o,hx,rfl⟩⟩
     obtain ⟨hp1,hp2⟩:=hp
     obtain ⟨a1,a2,a3,a4,a5⟩:=Gq es h hn.2
     have hne : ∀ y ∈ es,y.id ≠ x.id:=λy hy e=>hn.1 (by rw [← e];exact List.mem_map_of_mem hy)
     have hsame : ∀ y ∈ es,aI p.1 y.id = aI was y.id:=λy hy=>by rw [hp1,yP,if_neg (hne y hy)]
     refine ⟨λi hi=>?_,λi hi=>?_,λr hr=>?_,λr hr=>a4 r ?_,λy hy=>?_⟩
     ·by_cases hie : i ∈ es.map (·.id)
      ·exact a1 i hie
      ·rw [a2 i hie,hp1,yP]
       rw [List.map_cons] at hi
       rcases List.mem_cons.1 hi with hi | hi
       ·rw [if_pos hi]
       ·exact absurd hi hie
     ·rw [List.map_cons,List.mem_cons,not_or] at hi
      rw [a2 i hi.2,hp1,yP,if_neg hi.1]
     ·rcases a3 r hr with hr | ⟨y,hy,hr⟩
      ·rcases hp2 with ⟨hx,e⟩ | ⟨o,hx,e⟩
       ·rw [e] at hr
        rcases List.mem_append.1 hr with hr | hr
        ·exact .inl hr
        ·simp at hr;exact .inr ⟨x,List.mem_cons_self ..,.inl ⟨hx,hr⟩⟩
       ·rw [e] at hr
        split at hr
        ·rename_i hd
         rcases List.mem_append.1 hr with hr | hr
         ·exact .inl hr
         ·simp at hr;exact .inr ⟨x,List.mem_cons_self ..,.inr ⟨o,hx,hd,hr⟩⟩
        ·exact .inl hr
      ·rw [hsame y hy] at hr
       exact .inr ⟨y,List.mem_cons_of_mem _ hy,hr⟩
     ·rcases hp2 with ⟨hx,e⟩ | ⟨o,hx,e⟩
      ·rw [e];exact List.mem_append_left _ hr
      ·rw [e];split
       ·exact List.mem_append_left _ hr
       ·exact hr
     ·rcases List.mem_cons.1 hy with rfl | hy
      ·refine ⟨λhx=>a4 _ ?_,λo hx hd=>a4 _ ?_⟩
       ·rcases hp2 with ⟨_,e⟩ | ⟨o',hx',e⟩
        ·rw [e];simp
        ·rw [hx] at hx';cases hx'
       ·rcases hp2 with ⟨hx',e⟩ | ⟨o',hx',e⟩
        ·rw [hx] at hx';cases hx'
        ·rw [hx] at hx';cases hx'
         rw [e,if_pos hd];simp
      ·have:=a5 y hy
       rw [hsame y hy] at this
       exact this
theorem WX {es : List ay} (h : es.Pairwise (λa b=>a.id < b.id)) : ∀ i,aI (dh es) i = aI es i:=by
 have key : ∀ (es l : List ay),(es.map (·.id)).Nodup -> ∀ i,aI (es.foldl eB l) i = (aI es i).or (aI l i):=by
  intro es
  induction es with
  | nil=>intro l _ i;simp [aI]
  | cons x es ih =>
    intro l hn i
    rw [List.map_cons,List.nodup_cons] at hn
    rw [List.foldl_cons,ih _ hn.2,CY]
    by_cases hi : i = x.id
    ·subst hi
     rw [if_pos rfl]
     have hx : aI es x.id = none:=by
      cases hh : aI es x.id with
      | none=>rfl
      | some y=>exact absurd (by rw [← (gW hh).2];exact List.mem_map_of_mem (gW hh).1) hn.1
     rw [hx]
     unfold aI
     rw [List.find?_cons_of_pos (by simp)];rfl
    ·rw [if_neg hi]
     have : aI (x :: es) i = aI es i:=by
      unfold aI
      rw [List.find?_cons_of_neg (by simp;exact λh=>hi h.symm)]
     rw [this]
 intro i
 unfold dh
 rw [key es [] (pV h)]
 simp [aI]
theorem OA {a s : Sn} {g : Gr} (ha : lX a) (hs : lX s) (hao : ∀ e ∈ a.ents,e.Ok) (hso : ∀ e ∈ s.ents,e.Ok) (hag : ∀ e ∈ a.ents,e.gen = 0) (hsg : ∀ e ∈ s.ents,e.gen = 0) (hd : nP a s = (g,0)) (hw : eP g = 0) :
 g.tick = s.tick /\ g.time = s.time /\ g.base = a.tick /\ a.tick < s.tick /\ (∀ r ∈ g.recs,r.Ok) /\ jw a g = (s,0):=by
 have hb : cO g = 0:=by
  unfold eP at hw
  split at hw
  ·rename_i hh;exact absurd hw hh
  ·rename_i hh;exact Decidable.of_not_not hh
 unfold nP at hd
 rw [if_neg (by rw [gq.2 ha];simp),if_neg (by rw [gq.2 hs];simp)] at hd
 split at hd
 ·cases hd
 rename_i hlt
 cases hq : dL (dh a.ents) [] s.ents with
 | none=>rw [hq] at hd;cases hd
 | some q =>
   rw [hq] at hd
   unfold wE at hd
   simp only [Prod.mk.injEq,and_true] at hd
   subst hd
   have hsn:=pV hs.up;have hwn:=zh a.ents
   obtain ⟨t1,t2⟩:=Ga hq hwn hsn hso (Ag hao)
   obtain ⟨f1,f2,f3,f4,f5⟩:=Gq s.ents hq hsn
   have hF:=WX ha.up
   have hperm : (dY q).Perm (q.2 ++ q.1.map vS):=Cz _
   have hrn : ((dY q).map (·.id)).Nodup:=(hperm.map _).nodup_iff.2 t1
   have LU:=Af hb
   have hold : ∀ i o,aI (dh a.ents) i = some o -> o.Ok /\ o.gen = 0 /\ o.id = i:=λi o ho=>by
    have hm:=Jc o (gW ho).1
    exact ⟨hao o hm,hag o hm,(gW ho).2⟩
   have hrec : ∀ r ∈ dY q,(∃ x ∈ s.ents,aI (dh a.ents) x.id = none /\ r = jN x) \/ (∃ x ∈ s.ents,∃ o,aI (dh a.ents) x.id = some o /\ (cZ o x).2 = true /\ r = (cZ o x).1) \/ (∃ o ∈ q.1,r = vS o):=λr hr=>by
    rcases List.mem_append.1 (hperm.subset hr) with h | h
    ·rcases f3 r h with h | ⟨x,hx,h | ⟨o,h⟩⟩
     ·cases h
     ·exact .inl ⟨x,hx,h⟩
     ·exact .inr (.inl ⟨x,hx,o,h⟩)
    ·obtain ⟨o,ho,e⟩:=List.mem_map.1 h
     exact .inr (.inr ⟨o,ho,e.symm⟩)
   have hq1 : ∀ o ∈ q.1,aI (dh a.ents) o.id = some o /\ o.id ∉ s.ents.map (·.id):=λo ho=>by
    have hnq:=(Ak s.ents hq hwn hsn (by simp) (by simp) hso (by simp))
    have hfo:=mY hnq.1 ho
    have hni : o.id ∉ s.ents.map (·.id):=λhm=>by rw [f1 _ hm] at hfo;cases hfo
    exact ⟨by rw [← f2 _ hni];exact hfo,hni⟩
   have Ma : ∀ x ∈ s.ents,∀ o,aI (dh a.ents) x.id = some o -> (cZ o x).2 = true -> (cZ o x).1 ∈ dY q -> (cZ o x).1.kind = 1 /\ (cZ o x).1.id = x.id /\ (dV o (cZ o x).1).1 = x:=λx hx o ho hd hm=>by
    obtain ⟨o1,o2,o3⟩:=hold _ _ ho
    exact Nf o1 (hso x hx) o3 (by rw [o2,hsg x hx]) hd (LU _ hm)
   obtain ⟨l',g1,g2,g3,g4⟩:=Gp (dY q) (dh a.ents) hrn (λr hr=>by
    rcases hrec r hr with ⟨x,hx,hn,rfl⟩ | ⟨x,hx,o,ho,hd,rfl⟩ | ⟨o,ho,rfl⟩
    ·show JN (aI _ x.id) _;rw [hn];rfl
    ·obtain ⟨k1,k2,_⟩:=Ma x hx o ho hd hr
     rw [k2,ho];show _ ≠ _;rw [k1];decide
    ·show JN (aI _ o.id) _;rw [(hq1 o ho).1];show (2 : Int) ≠ 0;decide) (λr hr x hx hk=>by
    rcases hrec r hr with ⟨y,hy,hn,rfl⟩ | ⟨y,hy,o,ho,hd,rfl⟩ | ⟨o,ho,rfl⟩
    ·have hx' : aI (dh a.ents) y.id = some x:=hx
     rw [hn] at hx';cases hx'
    ·obtain ⟨k1,k2,k3⟩:=Ma y hy o ho hd hr
     rw [k2,ho] at hx;cases hx
     rw [k3,k2]
    ·exact absurd rfl hk) hwn
   have hfind : ∀ i,aI l' i = aI s.ents i:=λi=>by
    by_cases hi : i ∈ s.ents.map (·.id)
    ·obtain ⟨x,hx,rfl⟩:=List.mem_map.1 hi
     rw [mY hsn hx]
     cases ho : aI (dh a.ents) x.id with
     | none =>
       have hm : jN x ∈ dY q:=hperm.symm.subset (List.mem_append_left _ ((f5 x hx).1 ho))
       have h2 : aI l' x.id = L9 (aI (dh a.ents) x.id) (jN x):=g2 _ hm
       rw [h2,ho]
       have hgx:=hsg x hx
       obtain ⟨b0,b1,b2,b3,b4,b5,b6,b7,b8⟩:=x
       simp only at hgx
       subst hgx
       rfl
     | some o =>
       cases hd : (cZ o x).2 with
       | true =>
         have hm : (cZ o x).1 ∈ dY q:=hperm.symm.subset (List.mem_append_left _ ((f5 x hx).2 o ho hd))
         obtain ⟨k1,k2,k3⟩:=Ma x hx o ho hd hm
         have h2:=g2 _ hm
         rw [k2,ho] at h2
         rw [h2]
         unfold L9
         simp only
         rw [if_neg (by rw [k1];decide),k3]
       | false =>
         have hno : x.id ∉ (dY q).map (·.id):=λhm=>by
          obtain ⟨r,hr,hid⟩:=List.mem_map.1 hm
          rcases hrec r hr with ⟨y,hy,hn,rfl⟩ | ⟨y,hy,o',ho',hd',rfl⟩ | ⟨o',ho',rfl⟩
          ·have e : y.id = x.id:=hid
           rw [e,ho] at hn;cases hn
          ·obtain ⟨_,k2,_⟩:=Ma y hy o' ho' hd' hr
           rw [k2] at hid
           have e : y = x:=by
            have h1:=mY hsn hy
            rw [hid,mY hsn hx] at h1
            exact (Option.some.inj h1).symm
           subst e
           rw [ho] at ho';cases ho'
           rw [hd] at hd';cases hd'
          ·have e : o'.id = x.id:=hid
           exact (hq1 o' ho').2 (by rw [e];exact hi)
         rw [g3 _ hno,ho,Nc hd]
    ·have LQ : aI s.ents i = none:=by
      cases hh : aI s.ents i with
      | none=>rfl
      | some y=>exact absurd (by rw [← (gW hh).2];exact List.mem_map_of_mem (gW hh).1) hi
     rw [LQ]
     cases ho : aI (dh a.ents) i with
     | none =>
       have hno : i ∉ (dY q).map (·.id):=λhm=>by
        obtain ⟨r,hr,hid⟩:=List.mem_map.1 hm
        rcases hrec r hr with ⟨y,hy,hn,rfl⟩ | ⟨y,hy,o',ho',hd',rfl⟩ | ⟨o',ho',rfl⟩
        ·have e : y.id = i:=hid
         exact hi (by rw [← e];exact List.mem_map_of_mem hy)
        ·obtain ⟨_,k2,_⟩:=Ma y hy o' ho' hd' hr
         rw [k2] at hid
         exact hi (by rw [← hid];exact List.mem_map_of_mem hy)
        ·have e : o'.id = i:=hid
         have:=(hq1 o' ho').1
         rw [e,ho] at this;cases this
       rw [g3 _ hno,ho]
     | some o =>
       have hoi:=(gW ho).2
       have hm1 : o ∈ q.1:=by
        have h2:=f2 i hi
        rw [ho] at h2
        exact (gW h2).1
       have hm : vS o ∈ dY q:=hperm.symm.subset (List.mem_append_right _ (List.mem_map_of_mem hm1))
       have h2 : aI l' o.id = L9 (aI (dh a.ents) o.id) (vS o):=g2 _ hm
       rw [hoi,ho] at h2
       rw [h2];rfl
   have hsrt:=Ux g4 hs.up hfind
   refine ⟨rfl,rfl,rfl,by omega,t2,?_⟩
   unfold jw
   rw [if_neg (by simpa using hb),if_pos (show 0 <= a.tick from ha.tick.1),if_neg (by rw [gq.2 ha];simp),if_neg (show ¬ a.tick ≠ a.tick by simp)]
   unfold fT
   simp only
   rw [g1]
   simp only
   have hlen : l'.length = s.ents.length:=by rw [← hsrt,(nD l').length_eq]
   rw [if_neg (by rw [hlen];have:=hs.len;omega),hsrt]
set_option maxRecDepth 8000
theorem Gs : ∀ (rs : List Rec) (last : Int) (l : List Int),(∀ r ∈ rs,r.Ok) -> lG last rs = 0 -> gD rs.length last (iq last rs ++ l,0) = (rs,(l,0))
 | [],last,l,_,_=>rfl
 | r :: rs,last,l,hr,h=>by
   unfold lG at h
   have h1 : gV r last = 0:=by
    split at h
    ·rename_i hh;exact absurd h hh
    ·rename_i hh;exact Decidable.of_not_not hh
   rw [if_neg (by simpa using h1)] at h
   have hk:=hr r (List.mem_cons_self ..)
   rw [List.length_cons,gD,iq,List.append_assoc,Sg hk h1]
   simp only
   rw [Gs rs r.id l (λr' h'=>hr r' (List.mem_cons_of_mem _ h')) h]
   simp
theorem WY {g : Gr} (h : eP g = 0) (hr : ∀ r ∈ g.recs,r.Ok) : bA (jQ g) = (g,0):=by
 have hb : cO g = 0:=by
  unfold eP at h
  split at h
  ·rename_i hh;exact absurd h hh
  ·rename_i hh;exact Decidable.of_not_not hh
 unfold eP at h
 rw [if_neg (by simpa using hb)] at h
 have hlen : (gM g).length <= 4092:=by
  split at h
  ·cases h
  ·omega
 clear h
 obtain ⟨tick,time,base,rs⟩:=g
 unfold cO at hb
 simp only at hb hr
 have hh : gZ tick time base rs.length = 0:=by
  split at hb
  ·rename_i hh;exact absurd hb hh
  ·rename_i hh;exact Decidable.of_not_not hh
 rw [if_neg (by simpa using hh)] at hb
 unfold gZ at hh
 split at hh
 ·cases hh
 split at hh
 ·cases hh
 split at hh
 ·cases hh
 rename_i a1 a2 a3
 have hz : (uT (iZ (gM ⟨tick,time,base,rs⟩))).length = 4:=rfl
 unfold bA jQ
 rw [if_neg (by rw [List.length_append,hz];omega),FJ]
 simp only
 have ht : aA time:=⟨by omega,by omega⟩
 have hzu:=rJ ht
 have hs : iw (gM ⟨tick,time,base,rs⟩,0) = (⟨tick,time,base,rs⟩,([],0)):=by
  have e1 : jA (gM ⟨tick,time,base,rs⟩,0) = (aB tick ++ (aB (kJ time) ++ (aB (eO tick base) ++ (aB (rs.length : Int) ++ iq (-1) rs))),0):=by
   unfold jA gM uJ
   simp only [List.append_assoc,List.cons_append,List.nil_append]
   rw [uL,uL]
  have e2 : iB (aB tick ++ (aB (kJ time) ++ (aB (eO tick base) ++ (aB (rs.length : Int) ++ iq (-1) rs))),0) = (tick,time,(aB (eO tick base) ++ (aB (rs.length : Int) ++ iq (-1) rs),0)):=by
   unfold iB
   rw [iL ⟨by omega,by omega⟩ (by omega)]
   have:=uh ht (aB (eO tick base) ++ (aB (rs.length : Int) ++ iq (-1) rs))
   unfold zb at this
   simp only
   rw [this]
   simp only
   rw [if_pos ⟨by omega,by omega⟩]
  have hbk : 0 <= eO tick base /\ eO tick base <= tick:=by unfold eO;split <;> omega
  have e3 : oZ tick (aB (eO tick base) ++ (aB (rs.length : Int) ++ iq (-1) rs),0) = (base,(aB (rs.length : Int) ++ iq (-1) rs,0)):=by
   unfold oZ
   rw [iL ⟨by omega,by omega⟩ hbk.2]
   simp only
   congr 1
   unfold eO
   split
   ·rw [if_pos (by omega)];omega
   ·rw [if_neg (by omega)];omega
  have e4 : jX (aB (rs.length : Int) ++ iq (-1) rs,0) = (rs,([],0)):=by
   unfold jX
   rw [iL ⟨by omega,by omega⟩ (by omega)]
   simp only [Int.toNat_natCast]
   have:=Gs rs (-1) [] hr hb
   rwa [List.append_nil] at this
  unfold iw
  rw [e1,e2]
  simp only
  rw [e3]
  simp only
  rw [e4]
 rw [hs]
 simp [lq]
theorem Uy {most : Int} {r : Rg} {ss : List Sn} {a s : Sn} {g : Gr} (hr : r.ss = ss ++ [a]) (hup : Aw r.ss) (Gt : ∀ y ∈ r.ss,y.time < s.time) (hfl : r.gone = true -> r.floor < a.tick)
 (ha : lX a) (hs : lX s) (hao : ∀ e ∈ a.ents,e.Ok) (hso : ∀ e ∈ s.ents,e.Ok) (hag : ∀ e ∈ a.ents,e.gen = 0) (hsg : ∀ e ∈ s.ents,e.gen = 0) (hd : nP a s = (g,0)) (hw : eP g = 0) : fM most r (jQ g) = (s,0):=by
 obtain ⟨e1,e2,e3,e4,e5,e6⟩:=OA ha hs hao hso hag hsg hd hw
 have hrd:=WY hw e5
 have hlt : ∀ y ∈ r.ss,y.tick < s.tick:=λy hy=>by
  rw [hr] at hy hup
  rcases List.mem_append.1 hy with h | h
  ·have:=(List.pairwise_append.1 hup).2.2 y h a (by simp)
   omega
  ·simp at h;subst h;exact e4
 have hhas:=Av hlt
 have hun : dW (r.ss.map gy) s.tick = r.ss.length:=by unfold dW;rw [hhas,ER hlt];simp
 have hpos : 0 < r.ss.length:=by rw [hr];simp
 have hst : gP (r.ss.map gy) most r.floor r.gone s.tick = false:=by
  unfold gP
  rw [hun]
  have h1 : (r.gone && decide (s.tick <= r.floor)) = false:=by
   cases hg : r.gone with
   | false=>rfl
   | true=>have:=hfl hg;simp;omega
  have h2 : ¬ r.ss.length = 0:=by omega
  rw [h1]
  simp [h2]
 have hb1 : fC (r.ss.map gy) a.tick = some (gy a):=Ei (Qq hup) (k:=gy a) (List.mem_map_of_mem (by rw [hr];simp))
 have hb2 : fF (r.ss.map gy) a.tick = true:=by
  unfold fC at hb1
  split at hb1
  ·assumption
  ·cases hb1
 have hti : fO (r.ss.map gy) s.tick s.time = true:=by
  unfold fO
  rw [hun]
  have a2 : eG (r.ss.map gy) (r.ss.length : Int) = none:=by
   unfold eG
   rw [if_neg (by omega)]
   exact List.getElem?_eq_none (by simp)
  have hi : r.ss.length - 1 < r.ss.length:=by omega
  have a1 : eG (r.ss.map gy) ((r.ss.length : Int) - 1) = some (gy r.ss[r.ss.length - 1]):=by
   unfold eG
   rw [if_neg (by omega),show ((r.ss.length : Int) - 1).toNat = r.ss.length - 1 by omega,List.getElem?_map,List.getElem?_eq_getElem hi];rfl
  rw [a1,a2]
  have:=Gt _ (List.getElem_mem hi)
  simp [sV,om,gy,this]
 have hsn : qO (r.ss.map gy) most r.floor r.gone s.tick a.tick = 0:=by
  unfold qO
  rw [hhas,hst,hb2]
  simp
 unfold fM eu
 rw [hrd]
 simp only
 rw [e1,e3,hsn,hb1]
 have hba : jf (some (gy a)) = a:=rfl
 rw [hba,e6]
 simp only [ne_eq,not_true_eq_false,if_false]
 rw [hti]
 simp
theorem Uz {most : Int} {r : Rg} {s : Sn} (h : gu s) (hm : 1 <= most) (hlt : ∀ y ∈ r.ss,y.tick < s.tick) (Gt : ∀ y ∈ r.ss,y.time < s.time) (hfl : r.gone = true -> r.floor < s.tick) : fM most r (gG s) = (s,0):=by
 rw [h.snap]
 have hhas:=Av hlt
 have hun : dW (r.ss.map gy) s.tick = r.ss.length:=by unfold dW;rw [hhas,ER hlt];simp
 have hst : gP (r.ss.map gy) most r.floor r.gone s.tick = false:=by
  unfold gP
  rw [hun,List.length_map]
  have h1 : (r.gone && decide (s.tick <= r.floor)) = false:=by
   cases hg : r.gone with
   | false=>rfl
   | true=>have:=hfl hg;simp;omega
  rw [h1,Bool.false_or,Bool.and_eq_false_iff]
  by_cases h0 : r.ss.length = 0
  ·left;exact decide_eq_false (by omega)
  ·right;exact decide_eq_false h0
 have hti : fO (r.ss.map gy) s.tick s.time = true:=by
  unfold fO
  rw [hun]
  have a2 : eG (r.ss.map gy) (r.ss.length : Int) = none:=by
   unfold eG
   rw [if_neg (by omega)]
   exact List.getElem?_eq_none (by simp)
  rw [a2]
  by_cases h0 : r.ss.length = 0
  ·have a1 : eG (r.ss.map gy) ((r.ss.length : Int) - 1) = none:=by unfold eG;rw [if_pos (by omega)]
   rw [a1];simp [sV]
  ·have hi : r.ss.length - 1 < r.ss.length:=by omega
   have a1 : eG (r.ss.map gy) ((r.ss.length : Int) - 1) = some (gy r.ss[r.ss.length - 1]):=by
    unfold eG
    rw [if_neg (by omega),show ((r.ss.length : Int) - 1).toNat = r.ss.length - 1 by omega,List.getElem?_map,List.getElem?_eq_getElem hi];rfl
   rw [a1]
   have:=Gt _ (List.getElem_mem hi)
   simp [sV,om,gy,this]
 rw [hhas,hst,hti]
 simp
structure vL (c : aP) (x : iU) (a : Sn) : Prop where
 last : ∃ ss,x.ss = ss ++ [a]
 up : Aw x.ss
 tm : ∀ y ∈ x.ss,y.time <= a.time
 fl : x.gone = true -> x.floor < a.tick
 tell : gu a
theorem vL.lt {c : aP} {x : iU} {a s : Sn} (h : vL c x a) (ht : a.tick < s.tick) : ∀ y ∈ x.ss,y.tick < s.tick:=λy hy=>by
 obtain ⟨ss,e⟩:=h.last
 have hu:=h.up
 rw [e] at hy hu
 rcases List.mem_append.1 hy with h1 | h1
 ·have:=(List.pairwise_append.1 hu).2.2 y h1 a (by simp)
  omega
 ·simp at h1;subst h1;exact ht
theorem W9 {most : Int} {r : Rg} {s : Sn} (hm : 1 <= most) (hlt : ∀ y ∈ r.ss,y.tick < s.tick) (hup : Aw r.ss) (hfl : r.gone = true -> r.floor < s.tick) :
 (∃ ss,(fV most r s).ss = ss ++ [s]) /\ Aw (fV most r s).ss /\ (∀ y ∈ (fV most r s).ss,y = s \/ y ∈ r.ss) /\ ((fV most r s).gone = true -> (fV most r s).floor < s.tick):=by
 have hin : jk r.ss s = r.ss ++ [s]:=EF hlt
 have abL : Aw (r.ss ++ [s]):=List.pairwise_append.2 ⟨hup,List.pairwise_singleton _ _,λa ha b hb=>by simp at hb;subst hb;exact hlt a ha⟩
 have hmem : ∀ y ∈ (fV most r s).ss,y = s \/ y ∈ r.ss:=λy hy=>Jq hy
 refine ⟨?_,?_,hmem,?_⟩
 ·unfold fV
  split
  ·exact ⟨r.ss,hin⟩
  ·rename_i hn
   rw [hin] at hn ⊢
   have hl : 0 < r.ss.length:=by rw [List.length_append] at hn;simp at hn;omega
   exact ⟨r.ss.drop 1,by rw [List.drop_append_of_le_length (by omega)]⟩
 ·unfold fV
  split
  ·show Aw (jk r.ss s);rw [hin];exact abL
  ·show Aw ((jk r.ss s).drop 1);rw [hin];exact abL.sublist (List.drop_sublist _ _)
 ·unfold fV
  split
  ·exact hfl
  ·rename_i hn
   intro _
   rw [hin] at hn
   show ((jk r.ss s).headD fu).tick < s.tick
   rw [hin]
   cases hx : r.ss with
   | nil=>rw [hx] at hn;simp at hn;omega
   | cons y ys=>exact hlt y (by rw [hx];simp)
theorem Jw {c : aP} {x : iU} {s : Sn} (hc : fE c = 0) (h : gu s) (hlt : ∀ y ∈ x.ss,y.tick < s.tick) (Gt : ∀ y ∈ x.ss,y.time < s.time) (hup : Aw x.ss) (hfl : x.gone = true -> x.floor < s.tick) (loc : Int) :
 uE c x (gG s) = 0 /\ lI c x loc (gG s) = ⟨(fV c.ring x.rg s).ss,(fV c.ring x.rg s).floor,(fV c.ring x.rg s).gone,vU c x.cs (aQ loc s.time)⟩ /\ vL c (lI c x loc (gG s)) s:=by
 have hs : fM c.ring x.rg (gG s) = (s,0):=Uz h (yM hc).1 hlt Gt hfl
 have hx : lI c x loc (gG s) = ⟨(fV c.ring x.rg s).ss,(fV c.ring x.rg s).floor,(fV c.ring x.rg s).gone,vU c x.cs (aQ loc s.time)⟩:=by
  unfold lI
  rw [hs,if_pos rfl]
 obtain ⟨l1,l2,l3,l4⟩:=W9 (r:=x.rg) (yM hc).1 hlt hup hfl
 refine ⟨by unfold uE;rw [hs],hx,?_⟩
 rw [hx]
 exact ⟨l1,l2,λy hy=>by
  rcases l3 y hy with rfl | hy
  ·exact Int.le_refl _
  ·exact Int.le_of_lt (Gt y hy),l4,h⟩
theorem UA {c : aP} {x : iU} {a s : Sn} {g : Gr} (hc : fE c = 0) (hi : vL c x a) (h : gu s) (ht : a.time < s.time) (hd : nP a s = (g,0)) (hw : eP g = 0) (loc : Int) :
 uE c x (jQ g) = 0 /\ lI c x loc (jQ g) = lI c x loc (gG s) /\ uE c x (gG s) = 0 /\ vL c (lI c x loc (gG s)) s:=by
 obtain ⟨ss,e⟩:=hi.last
 have X5:=(OA hi.tell.good h.good hi.tell.ok h.ok hi.tell.gen h.gen hd hw).2.2.2.1
 have Gt : ∀ y ∈ x.ss,y.time < s.time:=λy hy=>Int.lt_of_le_of_lt (hi.tm y hy) ht
 have h1:=Jw hc h (hi.lt X5) Gt hi.up (λhg=>Int.lt_trans (hi.fl hg) X5) loc
 have hs : fM c.ring x.rg (jQ g) = (s,0):=Uy (r:=x.rg) (ss:=ss) e hi.up Gt hi.fl hi.tell.good h.good hi.tell.ok h.ok hi.tell.gen h.gen hd hw
 refine ⟨by unfold uE;rw [hs],?_,h1.1,h1.2.2⟩
 rw [h1.2.1]
 unfold lI
 rw [hs,if_pos rfl]
set_option maxRecDepth 100000
theorem lF {n k : Nat} (h : k < n) : n - ((k : Int) + 1).toNat < n - (k : Int).toNat:=by omega
set_option maxRecDepth 100000
theorem Me (t : Int) (s1 s2 : Option Addr) (n c1 c2 : Nat) (P : Nat -> Po) (w : World) (h1 : dP w s1 n P) (h2 : dP w s2 n P) (hn : (n : Int) <= 4611686018427387904) :
 Calls Tryz.prog 21 #[.agg #[.bool true,.int .i64 t,.slice s1 n c1],.agg #[.bool true,.int .i64 t,.slice s2 n c2]] w λe w'=>e = .returned (.bool true) /\ Below w.heap.size w w':=by
 obtain ⟨w0,hw0⟩ : ∃ w0,(w.alloc (.cells #[.bool true,.int .i64 t,.slice s1 n c1] 49)).alloc (.cells #[.bool true,.int .i64 t,.slice s2 n c2] 49) = w0:=⟨_,rfl⟩
 have hB0 : Below w.heap.size w w0:=by rw [← hw0];exact (ajL).alloc (by simp) _
 have hX : ak w0 w.heap.size #[.bool true,.int .i64 t,.slice s1 n c1] 49:=by rw [← hw0];exact (ak.new _ _ _).alloc _
 have hY : ak w0 (w.heap.size + 1) #[.bool true,.int .i64 t,.slice s2 n c2] 49:=by
  rw [← hw0]
  have:=ak.new (w.alloc (.cells #[.bool true,.int .i64 t,.slice s1 n c1] 49)) #[.bool true,.int .i64 t,.slice s2 n c2] 49
  simpa using this
 have sm:=aah s1 s2 n c1 c2 P w0 (h1.below hB0) (h2.below hB0) hn;have HB0:=ajK hB0;have x0:=hX.cell 0;have x1:=hX.cell 1;have x2:=hX.cell 2;have y0:=hY.cell 0;have y1:=hY.cell 1;have y2:=hY.cell 2;simp at x0 x1 x2 y0 y1 y2;clear h1 h2 hB0 hX hY
 go_enter Tryz.func21,Tryz.ntmps21
 go_wp2_with fail
 clear hw0
 refine sm.mono ?_
 rintro e w1 ⟨rfl,hb⟩
 have HF:=ajK (HB0.out.trans (hb.mono HB0.out.size));clear hb sm x0 x1 x2 y0 y1 y2
 go_wp2
 go_ret
 exact ⟨rfl,HF.out⟩
theorem UJ {c : aP} {x : iU} {loc : Int} {zs : List Int} : (lI c x loc zs).cs.L.length <= x.cs.L.length + 1:=by
 unfold lI
 split
 ·show (x.cs.L ++ [_]).length <= _;rw [List.length_append];exact Nat.le_refl _
 ·exact Nat.le_succ _
theorem OC {c : aP} {x : iU} {loc : Int} {zs : List Int} (h : uE c x zs = 0) : (lI c x loc zs).cs.L ≠ []:=by
 unfold uE at h
 unfold lI
 rw [if_pos h]
 show (x.cs.L ++ [_]) ≠ []
 simp
theorem Ya (c : aP) (s : CS) (x : Int) : (jo c s x).L = s.L:=by unfold jo;split <;> rfl
theorem vL.cs {c : aP} {x : iU} {a : Sn} (h : vL c x a) (cs : CS) : vL c { x with cs:=cs } a:=⟨h.last,h.up,h.tm,h.fl,h.tell⟩
theorem Qt {a s : Sn} (h : aA s.time) : aA (nP a s).1.time:=by
 unfold nP
 split
 ·exact aU
 split
 ·exact aU
 split
 ·exact aU
 unfold wE
 split
 ·exact aU
 ·exact h
theorem Qu {s : Sn} (h : aA s.time) : aA (dN s).1.time:=by
 unfold dN
 split
 ·exact aU
 split
 ·exact aU
 ·exact h
def vW (g : Gr) : List Int:=if eP g = 0 then jQ g else []
theorem Hz (g : Gr) : ((vW g).length : Int) <= 140737488355000:=by
 unfold vW
 split
 ·rename_i h
  have hz : (uT (iZ (gM g))).length = 4:=rfl
  unfold eP at h
  split at h
  ·rename_i hh;exact absurd h hh
  split at h
  ·cases h
  ·unfold jQ
   rw [List.length_append,hz];omega
 ·simp
def Yb (c : aP) (x : iU) (nw : Int) (s : Sn) (er A9 we we2 : Int) (bs Mf : List Int) (b : Bool) (lm : Int) : Prop :=
 er = 0 -> A9 = 0 -> we = 0 -> we2 = 0 -> (b = true -> lm < s.time) -> uE c x bs = 0 /\ uE c x Mf = 0 /\ lI c x nw Mf = lI c x nw bs /\ vL c (lI c x nw bs) s
theorem Xc {c : aP} {x : iU} {a s : Sn} {g2 : Gr} {A9 nw lm : Int} (hc : fE c = 0) (hi : vL c x a) (hm : a.time = lm) (hok : ∀ e ∈ s.ents,e.Ok) (hd : nP a s = (g2,A9)) : Yb c x nw s (dN s).2 A9 (eP (dN s).1) (eP g2) (vW (dN s).1) (vW g2) true lm:=by
 intro h1 h2 h3 h4 h5
 have ht:=Ej h1 h3 hok
 subst h2
 have hk:=UA hc hi ht (by rw [hm];exact h5 rfl) hd h4 nw
 have e1 : vW (dN s).1 = gG s:=rfl
 have e2 : vW g2 = jQ g2:=if_pos h4
 rw [e1,e2]
 exact ⟨hk.2.2.1,hk.1,hk.2.1,hk.2.2.2⟩
theorem UK {c : aP} {s : Sn} {nw lm : Int} (hc : fE c = 0) (hok : ∀ e ∈ s.ents,e.Ok) : Yb c (qX c) nw s (dN s).2 (dN s).2 (eP (dN s).1) (eP (dN s).1) (vW (dN s).1) (vW (dN s).1) false lm:=by
 intro h1 _ h3 _ _
 have ht:=Ej h1 h3 hok
 have hk:=Jw (x:=qX c) hc ht (by simp [qX]) (by simp [qX]) List.Pairwise.nil (by simp [qX]) nw
 have e1 : vW (dN s).1 = gG s:=rfl
 rw [e1]
 exact ⟨hk.1,hk.1,rfl,hk.2.2⟩
theorem Jz {w w' : World} {base : Nat} {v : Value} {zs : List Int} {S : Nat -> Prop} (h : aY w base v zs) (ho : Only S w w') (hS : ∀ k,S k -> k < base) : aY w' base v zs:=by
 obtain ⟨⟨h1,h2⟩,h8⟩:=h
 refine ⟨⟨h1,?_⟩,h8⟩
 rcases h2 with h2 | ⟨g,cap,cur,hv,hg,hh,r⟩
 ·exact Or.inl h2
 ·exact Or.inr ⟨g,cap,cur,hv,hg,by rw [ho.block g (Array.getElem?_eq_some_iff.1 hh).1 (λhs=>Nat.lt_irrefl _ (Nat.lt_of_le_of_lt hg (hS g hs)))];exact hh,r⟩
theorem UL {w w' : World} {s : Option Addr} {n : Nat} {P : Nat -> Po} {S : Nat -> Prop} (h : dP w s n P) (ho : Only (λk=>S k /\ nT w k) w w') : dP w' s n P:=by
 rcases h with h | ⟨b,off,e,hl,hc⟩
 ·exact .inl h
 ·by_cases hn : n = 0
  ·exact .inl hn
  ·have h0:=(hc 0 (by omega)).2.2.2.2.1
   have hb : w'.heap[b]? = w.heap[b]?:=ho.block b hl (λhs=>hs.2 _ _ h0)
   refine .inr ⟨b,off,e,Nat.lt_of_lt_of_le hl ho.size,λi hi=>?_⟩
   obtain ⟨a0,a1,a2,a3,a4,a5⟩:=hc i hi
   exact ⟨(World.cell?_of_block (a:=⟨b,_,none⟩) hb).trans a0,(World.cell?_of_block (a:=⟨b,_,none⟩) hb).trans a1,(World.cell?_of_block (a:=⟨b,_,none⟩) hb).trans a2,(World.cell?_of_block (a:=⟨b,_,none⟩) hb).trans a3,(World.cell?_of_block (a:=⟨b,_,none⟩) hb).trans a4,(World.cell?_of_block (a:=⟨b,_,none⟩) hb).trans a5⟩
theorem Yc {w : World} {a : Option Addr} {len : Nat} {zs : List Int} (h : iI .u8 w a len zs) {k : Nat} (hk : k < len) : ∃ b off z,a = some ⟨b,off,none⟩ /\ b < w.heap.size /\ w.cell? ⟨b,off + k,none⟩ = some (.int .u8 z) /\ 0 <= z /\ z <= 255:=by
 obtain ⟨zl,zw,zc⟩:=h
 rcases zc with h | ⟨b,off,e,hb,hc⟩
 ·omega
 ·have hm : zs.getD k 0 ∈ zs:=by
   have : k < zs.length:=by omega
   simp [List.getD,List.getElem?_eq_getElem this]
  obtain ⟨z,hz⟩ : ∃ z,zs.getD k 0 = z:=⟨_,rfl⟩
  have hcell:=hc k hk
  rw [hz] at hm hcell
  have h:=zw _ hm
  simp [Lit.wf,IntKind.min,IntKind.max,IntKind.bits,IntKind.signed] at h
  exact ⟨b,off,z,e,hb,hcell,h.1,by omega⟩
theorem OD {z : Int} (h : 0 <= z /\ z <= 255) : IntKind.i64.wrap z = z /\ wrap64 z = z:=by
 constructor
 ·rw [IntKind.wrap_i64];omega
 ·unfold wrap64;omega
theorem OG {w : World} {C : Nat} {c : aP} {x : iU} {S : Nat -> Prop} (h : gQ w C c x S) (c2 : aP) (t : Int) : ((tF c2 t x.ss : Nat) : Int) <= 4611686018427387904:=by
 have:=Zj (c:=c2) (au:=t) (ss:=x.ss) (λs hs=>(gq.1 (h.ok.1 s hs)).len)
 omega
set_option maxRecDepth 100000
theorem Gu {nw : Int} {k n : Nat} (h0 : 0 <= nw) (h1 : nw <= 255 * (k : Int)) (hk : k <= n) (hn : n <= 8) : aA nw:=⟨by omega,by omega⟩
theorem UM {nw z : Int} {k n : Nat} (h0 : 0 <= nw) (h1 : nw <= 255 * (k : Int)) (hk : k < n) (hn : n <= 8) (hz : 0 <= z /\ z <= 255) : wrap64 (nw + z) = nw + z /\ 0 <= nw + z /\ nw + z <= 255 * ((k + 1 : Nat) : Int):=⟨by unfold wrap64;omega,by omega,by omega⟩
theorem Ia {nw : Int} {k : Nat} (h1 : nw <= 255 * (k : Int)) : nw <= 255 * ((k + 1 : Nat) : Int):=by omega
theorem af6 (er we : Int) : ¬ er = 0 \/ (er = 0 /\ ¬ we = 0) \/ (er = 0 /\ we = 0):=by omega
theorem af7 (er A9 we we2 : Int) : (¬ er = 0 \/ (er = 0 /\ ¬ A9 = 0) \/ (er = 0 /\ A9 = 0 /\ ¬ we = 0) \/ (er = 0 /\ A9 = 0 /\ we = 0 /\ ¬ we2 = 0)) \/ (er = 0 /\ A9 = 0 /\ we = 0 /\ we2 = 0):=by omega
structure xK (w : World) (c : aP) (kI : List aH) (A B LB : Nat) (k : Nat) (b : Bool) (nw : Int) (SA SB : Nat -> Prop) (x : iU) (lt lm : Int) (ls : Value) (wx : World) : Prop where
 n0 : 0 <= nw
 n1 : nw <= 255 * (k : Int)
 a : gQ wx A c x SA
 b' : gQ wx B c x SB
 pX : ∀ j,SA j -> ¬ SB j
 ge : ∀ j,SA j \/ SB j -> w.heap.size <= j /\ j ≠ LB
 len : x.cs.L.length <= k
 box : ak wx LB #[.int .i64 lt,.int .i64 lm,ls] 36
 lb : w.heap.size <= LB
 is : (b = false /\ x = qX c) \/ (b = true /\ ∃ q ∈ kI,q.sn.tick = lt /\ q.sn.time = lm /\ fZ q = ls /\ vL c x q.sn)
 mZ : Below w.heap.size w wx
theorem xK.below {w : World} {c : aP} {kI : List aH} {A B LB k : Nat} {b : Bool} {nw : Int} {SA SB : Nat -> Prop} {x : iU} {lt lm : Int} {ls : Value} {wx wy : World} (h : xK w c kI A B LB k b nw SA SB x lt lm ls wx) (hb : Below wx.heap.size wx wy) : xK w c kI A B LB k b nw SA SB x lt lm ls wy :=
 ⟨h.n0,h.n1,h.a.below hb,h.b'.below hb,h.pX,h.ge,h.len,h.box.below hb h.box.lt,h.lb,h.is,h.mZ.trans (hb.mono h.mZ.size)⟩
theorem xK.next {w : World} {c : aP} {kI : List aH} {A B LB k : Nat} {b : Bool} {nw : Int} {SA SB : Nat -> Prop} {x : iU} {lt lm : Int} {ls : Value} {wx : World} (h : xK w c kI A B LB k b nw SA SB x lt lm ls wx) : xK w c kI A B LB (k + 1) b nw SA SB x lt lm ls wx :=
 ⟨h.n0,Ia h.n1,h.a,h.b',h.pX,h.ge,Nat.le_succ_of_le h.len,h.box,h.lb,h.is,h.mZ⟩
theorem xK.only {w : World} {c : aP} {kI : List aH} {A B LB k : Nat} {b : Bool} {nw : Int} {SA SB T : Nat -> Prop} {x : iU} {lt lm : Int} {ls : Value} {wx wy : World} (h : xK w c kI A B LB k b nw SA SB x lt lm ls wx) (ho : Only T wx wy) (hT : ∀ j,T j -> ¬ SA j /\ ¬ SB j /\ j ≠ LB /\ w.heap.size <= j) : xK w c kI A B LB k b nw SA SB x lt lm ls wy :=
 ⟨h.n0,h.n1,h.a.only ho (λj hj ht=>(hT j ht).1 hj),h.b'.only ho (λj hj ht=>(hT j ht).2.1 hj),h.pX,h.ge,h.len,ho.blk h.box (λht=>(hT _ ht).2.2.1 rfl),h.lb,h.is,h.mZ.trans (ho.below h.mZ.size (λj ht=>(hT j ht).2.2.2))⟩
set_option maxHeartbeats 8000000 in
theorem topDeltas_w (c : aP) (ok : c.Ok) (s0 : Option Addr) (cap : Nat) (kI : List aH) (a2 : Option Addr) (len2 cap2 : Nat) (zs : List Int) (w : World) (hS : Mg w s0 kI) (hl0 : (kI.length : Int) <= 4611686018427387904) (hz : iI .u8 w a2 len2 zs) (hl1 : (len2 : Int) <= 4611686018427387904) :
 Calls Tryz.prog 5 #[aT c,.slice s0 kI.length cap,.slice a2 len2 cap2] w λe w'=>e = .returned (.bool true) /\ Below w.heap.size w w':=by
 have al:=λW=>Zn W
 have HS:=ajK hS;have HZ:=ajK hz
 obtain ⟨wb,hwb⟩ : ∃ wb,w.alloc (.cells #[.int .i64 c.ring,.int .i64 c.window,.int .i64 c.base,.int .i64 c.gain,.int .i64 c.least,.int .i64 c.most,.int .i64 c.aD,.int .i64 c.num,.int .i64 c.den,.int .i64 c.extra,.bool c.aC] 29) = wb:=⟨_,rfl⟩
 have HB0 : Hid (Below w.heap.size w wb):=ajK (by rw [← hwb];exact ajL)
 have L8 : Hid (ak wb w.heap.size #[.int .i64 c.ring,.int .i64 c.window,.int .i64 c.base,.int .i64 c.gain,.int .i64 c.least,.int .i64 c.most,.int .i64 c.aD,.int .i64 c.num,.int .i64 c.den,.int .i64 c.extra,.bool c.aC] 29):=ajK (by rw [← hwb];exact ak.new _ _ _)
 unfold aT
 by_cases hg : 8 < kI.length \/ 30 < len2
 ·clear hS hz
  rcases (show (8 : Int) < kI.length \/ (¬ (8 : Int) < kI.length /\ (30 : Int) < len2) by omega) with h1 | ⟨h1,h2⟩
  all_goals
   go_enter Tryz.func5,Tryz.ntmps5
   go_wp2_with fail
   clear hwb
   refine (al wb).mono ?_
   rintro e w1 ⟨rfl,hb1⟩
   have HB1:=ajK (HB0.out.trans (hb1.mono HB0.out.size));clear hb1
   go_wp2_with fail
   refine (al w1).mono ?_
   rintro e w2 ⟨rfl,hb2⟩
   have HF:=ajK (HB1.out.trans (hb2.mono HB1.out.size));clear hb2
   go_wp2
   go_ret
   exact ⟨rfl,HF.out⟩
 have hn0 : ¬ (8 : Int) < kI.length:=by omega
 have hn1 : ¬ (30 : Int) < len2:=by omega
 have JA : Hid (kI.length <= 8 /\ len2 <= 30):=ajK (by omega)
 have rc:=λW=>Vm c W
 unfold aT at rc
 clear hS hz hg
 by_cases hc : fE c = 0
 rotate_left
 ·have h0' : (fE c != 0) = true:=by simpa using hc
  have h0 : ¬ fE c = 0:=hc
  clear hc
  generalize fE c = kc at *
  go_enter Tryz.func5,Tryz.ntmps5
  go_wp2_with fail
  clear hwb
  refine (al wb).mono ?_
  rintro e w1 ⟨rfl,hb1⟩
  have Ib:=ajK (L8.out.below hb1 L8.out.lt);have HB1:=ajK (HB0.out.trans (hb1.mono HB0.out.size));clear hb1
  obtain ⟨q0,q1,q2,q3,q4,q5,q6,q7,q8,q9,jG⟩:=dJ Ib.out
  go_wp2_with fail
  clear q0 q1 q2 q3 q4 q5 q6 q7 q8 q9 jG
  refine (rc w1).mono ?_
  rintro e w2 ⟨rfl,hb2⟩
  have HB2:=ajK (HB1.out.trans (hb2.mono HB1.out.size));clear hb2
  go_wp2_with fail
  refine (al w2).mono ?_
  rintro e w3 ⟨rfl,hb3⟩
  have HF:=ajK (HB2.out.trans (hb3.mono HB2.out.size));clear hb3
  go_wp2
  go_ret
  exact ⟨rfl,HF.out⟩
 have nw:=λW=>LM c ok hc W
 unfold aT at nw
 rw [hc] at rc
 have HC:=ajK hc;clear hc
 go_enter Tryz.func5,Tryz.ntmps5
 go_wp2_with fail
 clear hwb
 refine (al wb).mono ?_
 rintro e w1 ⟨rfl,hb1⟩
 have Ib:=ajK (L8.out.below hb1 L8.out.lt);have HB1:=ajK (HB0.out.trans (hb1.mono HB0.out.size));clear hb1 al
 obtain ⟨q0,q1,q2,q3,q4,q5,q6,q7,q8,q9,jG⟩:=dJ Ib.out
 go_wp2_with fail
 clear q0 q1 q2 q3 q4 q5 q6 q7 q8 q9 jG
 refine (rc w1).mono ?_
 rintro e w2 ⟨rfl,hb2⟩
 have Qv:=ajK (Ib.out.below hb2 Ib.out.lt);have HB2:=ajK (HB1.out.trans (hb2.mono HB1.out.size));clear hb2 rc
 obtain ⟨q0,q1,q2,q3,q4,q5,q6,q7,q8,q9,jG⟩:=dJ Qv.out
 go_wp2_with fail
 clear q0 q1 q2 q3 q4 q5 q6 q7 q8 q9 jG
 refine (nw w2).mono ?_
 rintro e w3 ⟨A,SA,rfl,hA,hSA,hb3⟩
 have ab3:=ajK (Qv.out.below hb3 Qv.out.lt);have HB3:=ajK (HB2.out.trans (hb3.mono HB2.out.size));have yA:=ajK hA
 have HSA : Hid (∀ j,SA j -> w.heap.size <= j):=ajK (λj hj=>Nat.le_trans HB2.out.size (hSA j hj))
 clear hA hSA hb3
 obtain ⟨q0,q1,q2,q3,q4,q5,q6,q7,q8,q9,jG⟩:=dJ ab3.out
 go_wp2_with fail
 clear q0 q1 q2 q3 q4 q5 q6 q7 q8 q9 jG
 refine (nw w3).mono ?_
 rintro e w4 ⟨B,SB,rfl,hB,hSB,hb4⟩
 obtain ⟨u5,hu5⟩ : ∃ v,w4.alloc (.cells #[.int .i64 0,.int .i64 0,.slice none 0 0] 36) = v:=⟨_,rfl⟩
 have hb5 : Below w4.heap.size w4 u5:=by rw [← hu5];exact ajL
 have HD0 : Hid (xK w c kI A B w4.heap.size 0 false 0 SA SB (qX c) 0 0 (.slice none 0 0) u5):=ajK
  ⟨Int.le_refl _,by simp,(yA.out.below hb4).below hb5,hB.below hb5,λj h1 h2=>by
   have a1:=yA.out.lt j h1;have a2:=hSB j h2
   omega,λj hj=>by
   rcases hj with hj | hj
   ·exact ⟨HSA.out j hj,λe=>by have a1:=yA.out.lt j hj;have a2:=hb4.size;omega⟩
   ·exact ⟨Nat.le_trans HB3.out.size (hSB j hj),λe=>by have a1:=hB.lt j hj;omega⟩,Nat.le_refl _,by rw [← hu5];exact ak.new _ _ _,Nat.le_trans HB3.out.size hb4.size,.inl ⟨rfl,rfl⟩,(HB3.out.trans (hb4.mono HB3.out.size)).trans (hb5.mono (Nat.le_trans HB3.out.size hb4.size))⟩
 generalize hLB : w4.heap.size = LB at *
 clear hB hSB hb4 hb5 yA HSA HB3 ab3 HB2 Qv HB1 Ib nw
 go_wp2_with fail
 go_loopw [12,13,68] (λsm nwv i wx=>∃ (k : Nat) (b : Bool) (nw : Int) (SA SB : Nat -> Prop) (x : iU) (lt lm : Int) (ls : Value),k <= kI.length /\ sm = .bool b /\ nwv = .int .i64 nw /\ i = .int .i64 k /\ xK w c kI A B LB k b nw SA SB x lt lm ls wx) (λ_ _ i _=>kI.length - (intOf i).toNat)
 case atStart=>exact ⟨0,false,0,SA,SB,qX c,0,0,_,Nat.zero_le _,rfl,rfl,rfl,HD0.out⟩
 case round =>
  obtain ⟨k,b,nw,qY,qg,x,lt,lm,ls,hk,rfl,rfl,rfl,hD⟩:=hrel
  clear HD0 hu5 hLB
  by_cases hlt : k < kI.length
  ·have hlt' : (k : Int) < kI.length:=Int.ofNat_lt.2 hlt
   obtain ⟨y,hy⟩ : ∃ y,kI[k]? = some y:=⟨_,List.getElem?_eq_getElem hlt⟩
   obtain ⟨⟨hE0,hI1,hI2⟩,b1,off,rfl,hbl,c0,c1,c2⟩:=HS.out.below hD.mZ k y hy
   have Yd : Hid (y ∈ kI):=ajK (List.mem_of_getElem? hy)
   have HD:=ajK hD;have fD:=ajK hlt
   obtain ⟨yk,⟨tk,tm,es⟩,ya,yc⟩:=y
   simp only at *
   obtain ⟨v1,hv1⟩ : ∃ v,wr.alloc (.cells #[.int .i64 0,.int .i64 0,.slice none 0 0] 36) = v:=⟨_,rfl⟩
   have hBb : Below wr.heap.size wr v1:=by rw [← hv1];exact ajL
   have aV : ak v1 wr.heap.size #[.int .i64 0,.int .i64 0,.slice none 0 0] 36:=by rw [← hv1];exact ak.new _ _ _
   have f0:=aV.free 0;have f1:=aV.free 1;have f2:=aV.free 2;have q0:=aV.cell 0;have q1:=aV.cell 1;have q2:=aV.cell 2;simp at q0 q1 q2;have hX1:=jy (v0:=.int .i64 tk) (v1:=.int .i64 tm) (v2:=.slice ya es.length yc) aV;have Mi:=eZ (v0:=.int .i64 tk) (v1:=.int .i64 tm) (v2:=.slice ya es.length yc) hBb (Nat.le_refl _)
   obtain ⟨u1,hu1⟩ : ∃ u,((v1.setCell ⟨wr.heap.size,0,none⟩ (.int .i64 tk)).setCell ⟨wr.heap.size,1,none⟩ (.int .i64 tm)).setCell ⟨wr.heap.size,2,none⟩ (.slice ya es.length yc) = u:=⟨_,rfl⟩
   rw [hu1] at hX1 Mi
   clear hBb aV;have x0:=hX1.cell 0;have x1:=hX1.cell 1;have x2:=hX1.cell 2;simp at x0 x1 x2;have fl:=Om tk tm ya yc es u1 (hE0.below Mi)
   have HT : Hid (aA (dN ⟨tk,tm,es⟩).1.time):=ajK (Qu hI2)
   have HEY : Hid (eX u1 ya es):=ajK (hE0.below Mi)
   have HEO : Hid ((∀ e ∈ es,e.Ok) /\ aA tm):=ajK ⟨hE0.ok,hI2⟩
   obtain ⟨g,hg⟩ : ∃ g,(dN ⟨tk,tm,es⟩).1 = g:=⟨_,rfl⟩
   obtain ⟨er,her⟩ : ∃ er,(dN ⟨tk,tm,es⟩).2 = er:=⟨_,rfl⟩
   rw [hg] at HT
   rw [hg,her] at fl
   have Ls:=ajK (And.intro hg her);have gN:=ajK hX1;have CG:=ajK Mi
   unfold bC at fl
   clear hE0 hI1 hI2 hy hD hX1 Mi hg her
   go_wp2_with fail
   clear hv1 hu1 f0 f1 f2 q0 q1 q2 c0 c1 c2
   refine fl.mono ?_
   rintro e w2 ⟨v,rfl,hR,hb⟩
   clear fl x0 x1 x2
   obtain ⟨ra,rc,rfl,_,_⟩:=hR.recs
   obtain ⟨v2,hv2⟩ : ∃ v,w2.alloc (.cells #[.int .i64 0,.int .i64 0,.int .i64 0,.slice none 0 0] 39) = v:=⟨_,rfl⟩
   have vC : Below w2.heap.size w2 v2:=by rw [← hv2];exact ajL
   have aV : ak v2 w2.heap.size #[.int .i64 0,.int .i64 0,.int .i64 0,.slice none 0 0] 39:=by rw [← hv2];exact ak.new _ _ _
   have fa0:=aV.free 0;have fa1:=aV.free 1;have fa2:=aV.free 2;have fa3:=aV.free 3;have DT:=aV.cell 0;have DU:=aV.cell 1;have DV:=aV.cell 2;have qa3:=aV.cell 3;simp at DT DU DV qa3;have hG:=qM (v0:=.int .i64 g.tick) (v1:=.int .i64 g.time) (v2:=.int .i64 g.base) (v3:=.slice ra g.recs.length rc) aV;have Mj:=wY (v0:=.int .i64 g.tick) (v1:=.int .i64 g.time) (v2:=.int .i64 g.base) (v3:=.slice ra g.recs.length rc) vC (Nat.le_refl _)
   obtain ⟨u2,hu2⟩ : ∃ u,((((v2.setCell ⟨w2.heap.size,0,none⟩ (.int .i64 g.tick)).setCell ⟨w2.heap.size,1,none⟩ (.int .i64 g.time)).setCell ⟨w2.heap.size,2,none⟩ (.int .i64 g.base)).setCell ⟨w2.heap.size,3,none⟩ (.slice ra g.recs.length rc)) = u:=⟨_,rfl⟩
   rw [hu2] at hG Mj
   clear vC aV;have y0:=hG.cell 0;have y1:=hG.cell 1;have y2:=hG.cell 2;have y3:=hG.cell 3;simp at y0 y1 y2 y3
   obtain ⟨v3,hv3⟩ : ∃ v,u2.alloc (.cells #[.int .i64 0,.int .i64 0,.int .i64 0,.slice none 0 0] 39) = v:=⟨_,rfl⟩
   have vC : Below u2.heap.size u2 v3:=by rw [← hv3];exact ajL
   have aV : ak v3 u2.heap.size #[.int .i64 0,.int .i64 0,.int .i64 0,.slice none 0 0] 39:=by rw [← hv3];exact ak.new _ _ _
   have fb0:=aV.free 0;have fb1:=aV.free 1;have fb2:=aV.free 2;have fb3:=aV.free 3;have Fu:=aV.cell 0;have Fv:=aV.cell 1;have Fw:=aV.cell 2;have qb3:=aV.cell 3;simp at Fu Fv Fw qb3;have hY:=qM (v0:=.int .i64 g.tick) (v1:=.int .i64 g.time) (v2:=.int .i64 g.base) (v3:=.slice ra g.recs.length rc) aV;have Mk:=wY (v0:=.int .i64 g.tick) (v1:=.int .i64 g.time) (v2:=.int .i64 g.base) (v3:=.slice ra g.recs.length rc) vC (Nat.le_refl _)
   obtain ⟨u3,hu3⟩ : ∃ u,((((v3.setCell ⟨u2.heap.size,0,none⟩ (.int .i64 g.tick)).setCell ⟨u2.heap.size,1,none⟩ (.int .i64 g.time)).setCell ⟨u2.heap.size,2,none⟩ (.int .i64 g.base)).setCell ⟨u2.heap.size,3,none⟩ (.slice ra g.recs.length rc)) = u:=⟨_,rfl⟩
   rw [hu3] at hY Mk
   clear vC aV
   have hR2:=(hR.below Mj (λj e=>(hR.1.lt j e).2))
   have kg:=(hR2.below Mk (λj e=>(hR2.1.lt j e).2))
   have Qw : Below u1.heap.size u1 u3:=(hb.trans (Mj.mono hb.size)).trans (Mk.mono (Nat.le_trans hb.size Mj.size))
   have iG:=ajK (gN.out.below Qw gN.out.lt);have HB3:=ajK (CG.out.trans (Qw.mono CG.out.size));have HD3:=ajK (HD.out.below HB3.out);have hG3:=hG.below Mk hG.lt;have AU:=ajK hG3;have zM:=ajK hY;have HR3:=ajK kg;have af8:=ajK (HEY.out.below Qw)
   have vT : Hid (u1.heap.size <= w2.heap.size /\ w2.heap.size < u2.heap.size /\ u2.heap.size < u3.heap.size):=ajK ⟨hb.size,hG.lt,hY.lt⟩
   have HRL : Hid (∀ j,(Value.slice ra g.recs.length rc).ownBlock = some j -> j < w2.heap.size):=ajK (λj e=>(hR.1.lt j e).2)
   clear hR hb hR2 kg Qw hG hY Mj Mk
   cases b
   ·have HX : Hid (x = qX c):=ajK (by
     rcases HD.out.is with ⟨_,h⟩ | ⟨h,_⟩
     ·exact h
     ·cases h)
    have z0:=hG3.cell 0;have z1:=hG3.cell 1;have z2:=hG3.cell 2;have z3:=hG3.cell 3;simp at z0 z1 z2 z3
    obtain ⟨we,tL⟩ : ∃ we,eP g = we:=⟨_,rfl⟩
    obtain ⟨bs,hbs⟩ : ∃ bs,vW g = bs:=⟨_,rfl⟩
    have Xe : Hid (Yb c x nw ⟨tk,tm,es⟩ er er we we bs bs false lm):=ajK (by
     have h:=UK (c:=c) (s:=⟨tk,tm,es⟩) (nw:=nw) (lm:=lm) HC.out HEO.out.1
     rw [Ls.out.1,Ls.out.2,tL,hbs,← HX.out] at h
     exact h)
    have wB : lu u3 ra g.recs:=by
     obtain ⟨a',c',e,h,_⟩:=HR3.out.recs
     injection e with e1
     rw [e1];exact h
    have wt:=wU g.tick g.time g.base HT.out ra rc g.recs u3 wB
    have Gv:=λW hW=>wU g.tick g.time g.base HT.out ra rc g.recs W hW
    rw [show (⟨g.tick,g.time,g.base,g.recs⟩ : Gr) = g from rfl,show (if eP g = 0 then jQ g else []) = vW g from rfl,hbs,tL] at wt
    rw [show (⟨g.tick,g.time,g.base,g.recs⟩ : Gr) = g from rfl,show (if eP g = 0 then jQ g else []) = vW g from rfl,hbs,tL] at Gv
    have Gc : Hid ((bs.length : Int) <= 140737488355000):=ajK (by rw [← hbs];exact Hz g)
    have HRW : Hid (∀ W,Below u3.heap.size u3 W -> lu W ra g.recs):=ajK (λW hW=>wB.below hW)
    unfold vP at wt Gv
    clear hG3 tL hbs wB
    go_wp2_with fail
    clear hv2 hu2 hv3 hu3 fa0 fa1 fa2 fa3 DT DU DV qa3 fb0 fb1 fb2 fb3 Fu Fv Fw qb3 y0 y1 y2 y3 z0 z1 z2 z3
    refine wt.mono ?_
    rintro e w5 ⟨v,rfl,hO,hb⟩
    obtain ⟨va,vc,rfl,CZ,C9,hvl,_⟩:=hO.cap
    have Mq:=ajK (And.intro CZ (And.intro C9 hvl));have fI:=ajK (iG.out.below hb iG.out.lt);have HD5:=ajK (HD3.out.below hb);have xL:=zM.out.below hb zM.out.lt;have y0:=xL.cell 0;have y1:=xL.cell 1;have y2:=xL.cell 2;have y3:=xL.cell 3;simp at y0 y1 y2 y3;have UN:=Gv w5 (HRW.out w5 hb)
    have UO : Hid (wr.heap.size <= w5.heap.size):=ajK (Nat.le_trans HB3.out.size hb.size)
    clear hO hb CZ C9 hvl xL wt Gv iG HD3
    go_wp2_with fail
    refine UN.mono ?_
    rintro e w6 ⟨v,rfl,hO,hb⟩
    obtain ⟨va2,vc2,rfl,Xf,Mr,Ms,_⟩:=hO.cap
    have bQ:=ajK hO;have vB:=ajK (And.intro Mr Ms);have bH:=fI.out.below hb fI.out.lt;have hD6:=HD5.out.below hb;have Qx:=hb.size;have Mt:=ajK (Mq.out.1.below hb);have ES:=ajK Mq.out.2;clear hO hb Xf Mr Ms UN y0 y1 y2 y3 Mq
    rcases af6 er we with o1 | ⟨rfl,o1⟩ | ⟨rfl,rfl⟩
    ·have o3:=bne_iff_ne.2 o1
     have HF:=ajK hD6.next;clear bH hD6
     go_wp2
     go_roundw
     case rel=>exact ⟨k + 1,_,nw,qY,qg,x,lt,lm,ls,fD.out,rfl,rfl,rfl,HF.out⟩
     case measure=>exact lF fD.out
    ·have o3:=bne_iff_ne.2 o1
     have HF:=ajK hD6.next;clear bH hD6
     go_wp2
     go_roundw
     case rel=>exact ⟨k + 1,_,nw,qY,qg,x,lt,lm,ls,fD.out,rfl,rfl,rfl,HF.out⟩
     case measure=>exact lF fD.out
    ·have Jr : Hid (false = true -> lm < tm):=ajK (λh=>by cases h)
     obtain ⟨r1,r2,r3,r4⟩:=Xe.out rfl rfl rfl rfl Jr.out
     obtain ⟨x',hx'⟩ : ∃ x',lI c x nw bs = x':=⟨_,rfl⟩
     have hL1 : x'.cs.L.length <= k + 1:=by rw [← hx'];exact Nat.le_trans UJ (Nat.succ_le_succ hD6.len)
     have hL2 : x'.cs.L ≠ []:=by rw [← hx'];exact OC r1
     have hnw:=Gu hD6.n0 hD6.n1 (Nat.le_of_lt fD.out) JA.out.1
     have hLk : x.cs.L.length < 1000:=Nat.lt_of_le_of_lt hD6.len (Nat.lt_of_lt_of_le fD.out (Nat.le_trans JA.out.1 (by decide)))
     have ac:=sj A c ok HC.out x qY nw hnw va bs.length vc bs w6 hD6.a Mt.out ES.out.1 ES.out.2 Gc.out hLk (tC HC.out hD6.a.room)
     have Mv:=λW va hW hby h1 h2=>sj B c ok HC.out x qg nw hnw va bs.length vc2 bs W hW hby h1 h2 Gc.out hLk (tC HC.out (gQ.room hW))
     rw [r1,hx'] at ac
     rw [r2,r3,hx'] at Mv
     rw [hx'] at r4
     have Da:=ajK (And.intro r4 (And.intro hL1 hL2))
     have HSL : Hid (∀ j,qY j \/ qg j -> j < wr.heap.size):=ajK (λj hj=>hj.elim (HD.out.a.lt j) (HD.out.b'.lt j))
     have HD6:=ajK hD6;have qH:=ajK bH
     have Mw : Hid (wr.heap.size <= w6.heap.size):=ajK (Nat.le_trans UO.out (Qx))
     clear hD6 bH r1 r2 r3 r4 hx' hL1 hL2 hnw hLk
     go_wp2_with fail
     refine ac.mono ?_
     rintro e w7 ⟨rfl,UQ,tX⟩
     obtain ⟨va3,vc3,e3,Mx,_⟩:=(Jz bQ.out tX (λj hj=>Nat.lt_of_lt_of_le (HSL.out j (.inl hj)) UO.out)).cap
     injection e3 with e4 e5 e6
     subst e4 e6
     have MB:=HD6.out.b'.only tX (λj hj hs=>HD6.out.pX j hs hj)
     have UR:=Mv w7 va2 MB Mx vB.out.1 vB.out.2;have UU:=ajK UQ;have mF:=ajK MB
     have UW:=ajK (tX.blk qH.out (λh=>Nat.lt_irrefl _ (HSL.out _ (.inl h))))
     have UY:=ajK (tX.blk HD6.out.box (λh=>(HD6.out.ge _ (.inl h)).2 rfl))
     have ET:=ajK (HD6.out.mZ.trans (tX.below HD6.out.mZ.size (λj hj=>(HD6.out.ge j (.inl hj)).1)))
     have H67 : Hid (w6.heap.size <= w7.heap.size):=ajK tX.size
     clear ac Mv UQ tX MB Mx
     go_wp2_with fail
     refine UR.mono ?_
     rintro e w8 ⟨rfl,UZ,xJ⟩
     have MC : ∀ j,Grow qY w6 w7 j -> ¬ qg j:=λj hj hs=>by
      rcases hj.1 with h | h
      ·exact HD6.out.pX j h hs
      ·exact Nat.lt_irrefl _ (Nat.lt_of_lt_of_le (HSL.out j (.inr hs)) (Nat.le_trans Mw.out h))
     have A8:=xJ.blk UW.out (λh=>Nat.lt_irrefl _ (HSL.out _ (.inr h)))
     have vH:=xJ.blk UY.out (λh=>(HD6.out.ge _ (.inr h)).2 rfl)
     have U0:=UU.out.only xJ MC
     have EU:=ET.out.trans (xJ.below ET.out.size (λj hj=>(HD6.out.ge j (.inr hj)).1))
     have x0:=A8.cell 0;have x1:=A8.cell 1;have x2:=A8.cell 2;have l0:=vH.cell 0;have l1:=vH.cell 1;have l2:=vH.cell 2;have f0:=vH.free 0;have f1:=vH.free 1;have f2:=vH.free 2;simp at x0 x1 x2 l0 l1 l2;have ME:=jy (v0:=.int .i64 tk) (v1:=.int .i64 tm) (v2:=.slice ya es.length yc) vH
     have dQ:=rE (S:=λj=>j = LB) (v0:=.int .i64 tk) (v1:=.int .i64 tm) (v2:=.slice ya es.length yc) (Only.refl _ w8) (.inl rfl)
     obtain ⟨u8,Fh⟩ : ∃ u,((w8.setCell ⟨LB,0,none⟩ (.int .i64 tk)).setCell ⟨LB,1,none⟩ (.int .i64 tm)).setCell ⟨LB,2,none⟩ (.slice ya es.length yc) = u:=⟨_,rfl⟩
     rw [Fh] at ME dQ
     have EW : LB < wr.heap.size:=HD.out.box.lt
     have hgA : ∀ j,Grow qY w6 w7 j -> w.heap.size <= j /\ j ≠ LB:=λj hj=>by
      rcases hj.1 with h | h
      ·exact HD6.out.ge j (.inl h)
      ·exact ⟨Nat.le_trans HD6.out.mZ.size h,λe=>Nat.lt_irrefl _ (Nat.lt_of_lt_of_le EW (Nat.le_trans Mw.out (by rw [← e];exact h)))⟩
     have hgB : ∀ j,Grow qg w7 w8 j -> w.heap.size <= j /\ j ≠ LB:=λj hj=>by
      rcases hj.1 with h | h
      ·exact HD6.out.ge j (.inr h)
      ·exact ⟨Nat.le_trans ET.out.size h,λe=>Nat.lt_irrefl _ (Nat.lt_of_lt_of_le EW (Nat.le_trans (Nat.le_trans Mw.out H67.out) (by rw [← e];exact h)))⟩
     have HNW : Hid (nw <= 255 * (k : Int)):=ajK HD6.out.n1
     have HN : Hid (xK w c kI A B LB (k + 1) true nw (Grow qY w6 w7) (Grow qg w7 w8) x' tk tm (.slice ya es.length yc) u8):=ajK
      ⟨HD6.out.n0,Ia HD6.out.n1,U0.only dQ (λj hj e=>(hgA j hj).2 e),UZ.only dQ (λj hj e=>(hgB j hj).2 e),λj h1 h2=>by
       rcases h2.1 with h | h
       ·exact MC j h1 h
       ·exact Nat.lt_irrefl _ (Nat.lt_of_lt_of_le h1.2 h),λj hj=>hj.elim (hgA j) (hgB j),Da.out.2.1,ME,HD6.out.lb,.inr ⟨rfl,⟨yk,⟨tk,tm,es⟩,ya,yc⟩,Yd.out,rfl,rfl,rfl,Da.out.1⟩,EU.trans (dQ.below EU.size (λj hj=>by rw [hj];exact HD6.out.lb))⟩
     have U1 : Hid (x'.cs.L ≠ []):=ajK Da.out.2.2
     have HDV:=ajK Da.out.1;clear UR UZ xJ MC A8 vH U0 EU ME dQ EW hgA hgB HD6 qH UW UY UU mF HD HD5 gN fI Da bQ Mt ES vB
     by_cases hf : k < len2
     ·obtain ⟨b2,o2,z,rfl,hb2,hzc,hz0,hz1⟩:=Yc HZ.out hf
      have hf' : (k : Int) < len2:=Int.ofNat_lt.2 hf
      obtain ⟨hwz,hz3,MF⟩:=UM HN.out.n0 HNW.out fD.out JA.out.1 ⟨hz0,hz1⟩
      obtain ⟨hw1,hw2⟩:=OD ⟨hz0,hz1⟩
      have dz:=(HN.out.mZ.cell (p:=⟨b2,o2 + k,none⟩) hb2).trans hzc;have hi:=Gu (k:=k + 1) hz3 MF fD.out JA.out.1;have fA:=qd A c ok HC.out x' _ (nw + z) hi u8 HN.out.a U1.out
      have fB:=λW hW=>qd B c ok HC.out x' (Grow qg w7 w8) (nw + z) hi W hW U1.out
      have hn:=OG HN.out.a c (jo c x'.cs (nw + z)).au
      generalize tF c (jo c x'.cs (nw + z)).au x'.ss = n at fA fB hn
      generalize zk c (jo c x'.cs (nw + z)).au x'.ss = P at fA fB
      generalize (jo c x'.cs (nw + z)).au = t0 at fA fB
      have HHN:=ajK hn;have MG:=ajK (And.intro hz3 MF);clear hn hi hz0 hz1 hz3 MF hzc hf
      go_wp2_with fail
      refine fA.mono ?_
      rintro e w9 ⟨s1,p1,rfl,hP1,U2,dQ⟩
      have vV:=ajK hP1;have HA9:=ajK U2
      have U3:=fB w9 (HN.out.b'.only dQ (λj hj hs=>HN.out.pX j hs.1 hj))
      have HL9:=ajK (dQ.blk HN.out.box (λh=>(HN.out.ge _ (.inl h.1)).2 rfl))
      have MH:=ajK (HN.out.mZ.trans (dQ.below HN.out.mZ.size (λj hj=>(HN.out.ge j (.inl hj.1)).1)))
      clear hP1 U2 dQ fA fB dz Fh
      go_wp2_with fail
      refine U3.mono ?_
      rintro e wa ⟨s2,p2,rfl,hP2,hBa,Db⟩
      have sm:=Me t0 s1 s2 n p1 p2 P wa (UL vV.out Db) hP2 HHN.out
      have qU : Hid (xK w c kI A B LB (k + 1) true (nw + z) (Grow qY w6 w7) (Grow qg w7 w8) { x' with cs:=jo c x'.cs (nw + z) } tk tm (.slice ya es.length yc) wa):=ajK
       ⟨MG.out.1,MG.out.2,HA9.out.only Db (λj hj hs=>HN.out.pX j hj hs.1),hBa,HN.out.pX,HN.out.ge,by show (jo c x'.cs (nw + z)).L.length <= k + 1;rw [Ya];exact HN.out.len,Db.blk HL9.out (λh=>(HN.out.ge _ (.inr h.1)).2 rfl),HN.out.lb,.inr ⟨rfl,⟨yk,⟨tk,tm,es⟩,ya,yc⟩,Yd.out,rfl,rfl,rfl,HDV.out.cs _⟩,MH.out.trans (Db.below MH.out.size (λj hj=>(HN.out.ge j (.inr hj.1)).1))⟩
      clear hP2 hBa Db U3
      go_wp2_with fail
      refine sm.mono ?_
      rintro e wc ⟨rfl,hb⟩
      have HF:=ajK (qU.out.below hb);clear hb sm
      go_wp2
      go_roundw
      case rel=>exact ⟨k + 1,true,nw + z,_,_,_,tk,tm,_,fD.out,rfl,rfl,rfl,HF.out⟩
      case measure=>exact lF fD.out
     ·have nf : ¬ (k : Int) < len2:=λh=>hf (Int.ofNat_lt.1 h)
      clear hf
      go_wp2
      go_roundw
      case rel=>exact ⟨k + 1,true,nw,_,_,x',tk,tm,_,fD.out,rfl,rfl,rfl,HN.out⟩
      case measure=>exact lF fD.out
   ·obtain ⟨q,hqm,e1,e2,e3,hDI⟩ : ∃ q ∈ kI,q.sn.tick = lt /\ q.sn.time = lm /\ fZ q = ls /\ vL c x q.sn:=by
     rcases HD.out.is with ⟨h,_⟩ | ⟨_,h⟩
     ·cases h
     ·exact h
    obtain ⟨i,hi,hiq⟩:=List.mem_iff_getElem.1 hqm
    have hEq:=(HS.out i _ (List.getElem?_eq_getElem hi)).1.1
    rw [hiq] at hEq
    obtain ⟨qk,⟨qt,qm,qe⟩,qa,qc⟩:=q
    simp only [fZ] at e1 e2 e3 hEq
    subst e1 e2 e3
    have dd:=Y3 qt qm qa qc qe tk tm ya yc es u3 (hEq.below HD3.out.mZ) af8.out
    obtain ⟨⟨g2,A9⟩,hdz⟩ : ∃ z,nP ⟨qt,qm,qe⟩ ⟨tk,tm,es⟩ = z:=⟨_,rfl⟩
    have HT2 : Hid (aA g2.time):=ajK (by have h:=Qt (a:=⟨qt,qm,qe⟩) (s:=⟨tk,tm,es⟩) HEO.out.2;rw [hdz] at h;exact h)
    obtain ⟨we,tL⟩ : ∃ we,eP g = we:=⟨_,rfl⟩
    obtain ⟨bs,hbs⟩ : ∃ bs,vW g = bs:=⟨_,rfl⟩
    obtain ⟨we2,Xg⟩ : ∃ we,eP g2 = we:=⟨_,rfl⟩
    obtain ⟨Mf,GX⟩ : ∃ bs,vW g2 = bs:=⟨_,rfl⟩
    have Xe : Hid (Yb c x nw ⟨tk,tm,es⟩ er A9 we we2 bs Mf true qm):=ajK (by
     have h:=Xc (c:=c) (s:=⟨tk,tm,es⟩) (nw:=nw) (lm:=qm) HC.out hDI rfl HEO.out.1 hdz
     rw [Ls.out.1,Ls.out.2,tL,hbs,Xg,GX] at h
     exact h)
    rw [hdz] at dd
    have HQ:=ajK (And.intro tL (And.intro hbs (And.intro Xg GX)))
    have Gc : Hid ((bs.length : Int) <= 140737488355000):=ajK (by rw [← hbs];exact Hz g)
    have af9 : Hid ((Mf.length : Int) <= 140737488355000):=ajK (by rw [← GX];exact Hz g2)
    have hL3:=HD3.out.box;have fQ:=iG.out;have l0:=hL3.cell 0;have l1:=hL3.cell 1;have l2:=hL3.cell 2;have x0:=fQ.cell 0;have x1:=fQ.cell 1;have x2:=fQ.cell 2;simp at l0 l1 l2 x0 x1 x2
    unfold bC at dd
    simp only at dd
    clear hG3 hqm hi hiq hEq hDI hdz tL hbs Xg GX hL3 fQ
    go_wp2_with fail
    clear hv2 hu2 hv3 hu3 fa0 fa1 fa2 fa3 DT DU DV qa3 fb0 fb1 fb2 fb3 Fu Fv Fw qb3 y0 y1 y2 y3 l0 l1 l2 x0 x1 x2
    refine dd.mono ?_
    rintro e w4 ⟨v,rfl,hR2,hb4⟩
    obtain ⟨OH,Ye,rfl,_,_⟩:=hR2.recs
    have oh:=zM.out.below hb4 zM.out.lt;have f0:=oh.free 0;have f1:=oh.free 1;have f2:=oh.free 2;have f3:=oh.free 3;have c0:=oh.cell 0;have c1:=oh.cell 1;have c2:=oh.cell 2;have c3:=oh.cell 3;simp at c0 c1 c2 c3;have xL:=qM (v0:=.int .i64 g2.tick) (v1:=.int .i64 g2.time) (v2:=.int .i64 g2.base) (v3:=.slice OH g2.recs.length Ye) oh
    have JB:=sP (S:=λj=>j = u2.heap.size) (v0:=.int .i64 g2.tick) (v1:=.int .i64 g2.time) (v2:=.int .i64 g2.base) (v3:=.slice OH g2.recs.length Ye) (Only.refl _ w4) (.inl rfl)
    obtain ⟨u4,hu4⟩ : ∃ u,((((w4.setCell ⟨u2.heap.size,0,none⟩ (.int .i64 g2.tick)).setCell ⟨u2.heap.size,1,none⟩ (.int .i64 g2.time)).setCell ⟨u2.heap.size,2,none⟩ (.int .i64 g2.base)).setCell ⟨u2.heap.size,3,none⟩ (.slice OH g2.recs.length Ye)) = u:=⟨_,rfl⟩
    rw [hu4] at xL JB
    have hsz:=vT.out
    have Yf : wr.heap.size < u1.heap.size:=gN.out.lt
    have hG4:=JB.blk (AU.out.below hb4 AU.out.lt) (λe=>Nat.ne_of_lt hsz.2.1 e)
    have Xh:=ajK (JB.blk (iG.out.below hb4 iG.out.lt) (λe=>Nat.ne_of_lt (Nat.lt_of_lt_of_le Yf (Nat.le_trans hsz.1 (Nat.le_of_lt hsz.2.1))) e))
    have Yg : ∀ j,qY j \/ qg j \/ j = LB -> j < wr.heap.size:=λj hj=>by
     rcases hj with h | h | h
     ·exact HD.out.a.lt j h
     ·exact HD.out.b'.lt j h
     ·rw [h];exact HD.out.box.lt
    have Yh : ¬ u2.heap.size < wr.heap.size:=λh=>Nat.lt_irrefl _ (Nat.lt_trans (Nat.lt_of_lt_of_le (Nat.lt_trans h Yf) hsz.1) hsz.2.1)
    have acn:=ajK ((HD3.out.below hb4).only JB (λj hj=>⟨λh=>Yh (by rw [← hj];exact Yg j (.inl h)),λh=>Yh (by rw [← hj];exact Yg j (.inr (.inl h))),λh=>Yh (by rw [← hj];exact Yg j (.inr (.inr h))),by rw [hj];exact Nat.le_trans (Nat.le_trans HD.out.mZ.size (Nat.le_of_lt Yf)) (Nat.le_trans hsz.1 (Nat.le_of_lt hsz.2.1))⟩))
    have hRg:=(HR3.out.below hb4 (λj e=>(HR3.out.1.lt j e).2)).only JB (λj hj hk=>Nat.lt_irrefl _ (Nat.lt_trans (by rw [← hk];exact HRL.out j hj) hsz.2.1))
    have aco:=hR2.only JB (λj hj hk=>Nat.lt_irrefl _ (Nat.lt_of_lt_of_le hsz.2.2 (by rw [← hk];exact (hR2.1.lt j hj).1)))
    have wB : lu u4 ra g.recs:=by
     obtain ⟨a',c',e,h,_⟩:=hRg.recs
     injection e with e1
     rw [e1];exact h
    have U4 : lu u4 OH g2.recs:=by
     obtain ⟨a',c',e,h,_⟩:=aco.recs
     injection e with e1
     rw [e1];exact h
    have acp:=ajK xL;have wt:=wU g.tick g.time g.base HT.out ra rc g.recs u4 wB
    have Gv:=λW hW=>wU g2.tick g2.time g2.base HT2.out OH Ye g2.recs W hW
    rw [show (⟨g.tick,g.time,g.base,g.recs⟩ : Gr) = g from rfl,show (if eP g = 0 then jQ g else []) = vW g from rfl,HQ.out.2.1,HQ.out.1] at wt
    rw [show (⟨g2.tick,g2.time,g2.base,g2.recs⟩ : Gr) = g2 from rfl,show (if eP g2 = 0 then jQ g2 else []) = vW g2 from rfl,HQ.out.2.2.2,HQ.out.2.2.1] at Gv
    have HRW : Hid (∀ W,Below u4.heap.size u4 W -> lu W OH g2.recs):=ajK (λW hW=>U4.below hW)
    have aga:=ajK (Nat.le_trans (Nat.le_trans HB3.out.size hb4.size) JB.size);have z0:=hG4.cell 0;have z1:=hG4.cell 1;have z2:=hG4.cell 2;have z3:=hG4.cell 3;simp at z0 z1 z2 z3
    unfold vP at wt Gv
    clear hR2 hb4 oh xL JB hsz Yf Yg Yh hRg aco wB U4 hG4 dd iG HD3 zM
    go_wp2_with fail
    clear hu4 f0 f1 f2 f3 c0 c1 c2 c3 z0 z1 z2 z3
    refine wt.mono ?_
    rintro e w5 ⟨v,rfl,hO,hb⟩
    obtain ⟨va,vc,rfl,CZ,C9,hvl,_⟩:=hO.cap
    have Mq:=ajK (And.intro CZ (And.intro C9 hvl));have fI:=ajK (Xh.out.below hb Xh.out.lt);have HD5:=ajK (acn.out.below hb);have xL:=acp.out.below hb acp.out.lt;have y0:=xL.cell 0;have y1:=xL.cell 1;have y2:=xL.cell 2;have y3:=xL.cell 3;simp at y0 y1 y2 y3;have UN:=Gv w5 (HRW.out w5 hb)
    have UO : Hid (wr.heap.size <= w5.heap.size):=ajK (Nat.le_trans aga.out hb.size)
    clear hO hb CZ C9 hvl xL wt Gv Xh acn
    go_wp2_with fail
    refine UN.mono ?_
    rintro e w6 ⟨v,rfl,hO,hb⟩
    obtain ⟨va2,vc2,rfl,Xf,Mr,Ms,_⟩:=hO.cap
    have bQ:=ajK hO;have vB:=ajK (And.intro Mr Ms);have bH:=fI.out.below hb fI.out.lt;have hD6:=HD5.out.below hb;have Qx:=hb.size;have Mt:=ajK (Mq.out.1.below hb);have ES:=ajK Mq.out.2;clear hO hb Xf Mr Ms UN y0 y1 y2 y3 Mq;have x1:=bH.cell 1;have l1:=hD6.box.cell 1;simp at x1 l1
    rcases af7 er A9 we we2 with (o1 | ⟨rfl,o1⟩ | ⟨rfl,rfl,o1⟩ | ⟨rfl,rfl,rfl,o1⟩) | ⟨rfl,rfl,rfl,rfl⟩
    ·have o3:=bne_iff_ne.2 o1
     have HF:=ajK hD6.next;clear bH hD6
     go_wp2
     go_roundw
     case rel=>exact ⟨k + 1,_,nw,qY,qg,x,_,_,_,fD.out,rfl,rfl,rfl,HF.out⟩
     case measure=>exact lF fD.out
    ·have o3:=bne_iff_ne.2 o1
     have HF:=ajK hD6.next;clear bH hD6
     go_wp2
     go_roundw
     case rel=>exact ⟨k + 1,_,nw,qY,qg,x,_,_,_,fD.out,rfl,rfl,rfl,HF.out⟩
     case measure=>exact lF fD.out
    ·have o3:=bne_iff_ne.2 o1
     have HF:=ajK hD6.next;clear bH hD6
     go_wp2
     go_roundw
     case rel=>exact ⟨k + 1,_,nw,qY,qg,x,_,_,_,fD.out,rfl,rfl,rfl,HF.out⟩
     case measure=>exact lF fD.out
    ·have o3:=bne_iff_ne.2 o1
     have HF:=ajK hD6.next;clear bH hD6
     go_wp2
     go_roundw
     case rel=>exact ⟨k + 1,_,nw,qY,qg,x,_,_,_,fD.out,rfl,rfl,rfl,HF.out⟩
     case measure=>exact lF fD.out
    ·by_cases hlm : tm <= qm
     ·have HF:=ajK hD6.next
      clear bH hD6
      go_wp2
      go_roundw
      case rel=>exact ⟨k + 1,_,nw,qY,qg,x,_,_,_,fD.out,rfl,rfl,rfl,HF.out⟩
      case measure=>exact lF fD.out
     ·have Jr : Hid (true = true -> qm < tm):=ajK (λ_=>Int.not_le.1 hlm)
      obtain ⟨r1,r2,r3,r4⟩:=Xe.out rfl rfl rfl rfl Jr.out
      obtain ⟨x',hx'⟩ : ∃ x',lI c x nw bs = x':=⟨_,rfl⟩
      have hL1 : x'.cs.L.length <= k + 1:=by rw [← hx'];exact Nat.le_trans UJ (Nat.succ_le_succ hD6.len)
      have hL2 : x'.cs.L ≠ []:=by rw [← hx'];exact OC r1
      have hnw:=Gu hD6.n0 hD6.n1 (Nat.le_of_lt fD.out) JA.out.1
      have hLk : x.cs.L.length < 1000:=Nat.lt_of_le_of_lt hD6.len (Nat.lt_of_lt_of_le fD.out (Nat.le_trans JA.out.1 (by decide)))
      have ac:=sj A c ok HC.out x qY nw hnw va bs.length vc bs w6 hD6.a Mt.out ES.out.1 ES.out.2 Gc.out hLk (tC HC.out hD6.a.room)
      have Mv:=λW va hW hby h1 h2=>sj B c ok HC.out x qg nw hnw va Mf.length vc2 Mf W hW hby h1 h2 af9.out hLk (tC HC.out (gQ.room hW))
      rw [r1,hx'] at ac
      rw [r2,r3,hx'] at Mv
      rw [hx'] at r4
      have Da:=ajK (And.intro r4 (And.intro hL1 hL2))
      have HSL : Hid (∀ j,qY j \/ qg j -> j < wr.heap.size):=ajK (λj hj=>hj.elim (HD.out.a.lt j) (HD.out.b'.lt j))
      have HD6:=ajK hD6;have qH:=ajK bH
      have Mw : Hid (wr.heap.size <= w6.heap.size):=ajK (Nat.le_trans UO.out (Qx))
      clear hD6 bH r1 r2 r3 r4 hx' hL1 hL2 hnw hLk
      go_wp2_with fail
      refine ac.mono ?_
      rintro e w7 ⟨rfl,UQ,tX⟩
      obtain ⟨va3,vc3,e3,Mx,_⟩:=(Jz bQ.out tX (λj hj=>Nat.lt_of_lt_of_le (HSL.out j (.inl hj)) UO.out)).cap
      injection e3 with e4 e5 e6
      subst e4 e6
      have MB:=HD6.out.b'.only tX (λj hj hs=>HD6.out.pX j hs hj)
      have UR:=Mv w7 va2 MB Mx vB.out.1 vB.out.2;have UU:=ajK UQ;have mF:=ajK MB
      have UW:=ajK (tX.blk qH.out (λh=>Nat.lt_irrefl _ (HSL.out _ (.inl h))))
      have UY:=ajK (tX.blk HD6.out.box (λh=>(HD6.out.ge _ (.inl h)).2 rfl))
      have ET:=ajK (HD6.out.mZ.trans (tX.below HD6.out.mZ.size (λj hj=>(HD6.out.ge j (.inl hj)).1)))
      have H67 : Hid (w6.heap.size <= w7.heap.size):=ajK tX.size
      clear ac Mv UQ tX MB Mx
      go_wp2_with fail
      refine UR.mono ?_
      rintro e w8 ⟨rfl,UZ,xJ⟩
      have MC : ∀ j,Grow qY w6 w7 j -> ¬ qg j:=λj hj hs=>by
       rcases hj.1 with h | h
       ·exact HD6.out.pX j h hs
       ·exact Nat.lt_irrefl _ (Nat.lt_of_lt_of_le (HSL.out j (.inr hs)) (Nat.le_trans Mw.out h))
      have A8:=xJ.blk UW.out (λh=>Nat.lt_irrefl _ (HSL.out _ (.inr h)))
      have vH:=xJ.blk UY.out (λh=>(HD6.out.ge _ (.inr h)).2 rfl)
      have U0:=UU.out.only xJ MC
      have EU:=ET.out.trans (xJ.below ET.out.size (λj hj=>(HD6.out.ge j (.inr hj)).1))
      have x0:=A8.cell 0;have x1:=A8.cell 1;have x2:=A8.cell 2;have l0:=vH.cell 0;have l1:=vH.cell 1;have l2:=vH.cell 2;have f0:=vH.free 0;have f1:=vH.free 1;have f2:=vH.free 2;simp at x0 x1 x2 l0 l1 l2;have ME:=jy (v0:=.int .i64 tk) (v1:=.int .i64 tm) (v2:=.slice ya es.length yc) vH
      have dQ:=rE (S:=λj=>j = LB) (v0:=.int .i64 tk) (v1:=.int .i64 tm) (v2:=.slice ya es.length yc) (Only.refl _ w8) (.inl rfl)
      obtain ⟨u8,Fh⟩ : ∃ u,((w8.setCell ⟨LB,0,none⟩ (.int .i64 tk)).setCell ⟨LB,1,none⟩ (.int .i64 tm)).setCell ⟨LB,2,none⟩ (.slice ya es.length yc) = u:=⟨_,rfl⟩
      rw [Fh] at ME dQ
      have EW : LB < wr.heap.size:=HD.out.box.lt
      have hgA : ∀ j,Grow qY w6 w7 j -> w.heap.size <= j /\ j ≠ LB:=λj hj=>by
       rcases hj.1 with h | h
       ·exact HD6.out.ge j (.inl h)
       ·exact ⟨Nat.le_trans HD6.out.mZ.size h,λe=>Nat.lt_irrefl _ (Nat.lt_of_lt_of_le EW (Nat.le_trans Mw.out (by rw [← e];exact h)))⟩
      have hgB : ∀ j,Grow qg w7 w8 j -> w.heap.size <= j /\ j ≠ LB:=λj hj=>by
       rcases hj.1 with h | h
       ·exact HD6.out.ge j (.inr h)
       ·exact ⟨Nat.le_trans ET.out.size h,λe=>Nat.lt_irrefl _ (Nat.lt_of_lt_of_le EW (Nat.le_trans (Nat.le_trans Mw.out H67.out) (by rw [← e];exact h)))⟩
      have HNW : Hid (nw <= 255 * (k : Int)):=ajK HD6.out.n1
      have HN : Hid (xK w c kI A B LB (k + 1) true nw (Grow qY w6 w7) (Grow qg w7 w8) x' tk tm (.slice ya es.length yc) u8):=ajK
       ⟨HD6.out.n0,Ia HD6.out.n1,U0.only dQ (λj hj e=>(hgA j hj).2 e),UZ.only dQ (λj hj e=>(hgB j hj).2 e),λj h1 h2=>by
        rcases h2.1 with h | h
        ·exact MC j h1 h
        ·exact Nat.lt_irrefl _ (Nat.lt_of_lt_of_le h1.2 h),λj hj=>hj.elim (hgA j) (hgB j),Da.out.2.1,ME,HD6.out.lb,.inr ⟨rfl,⟨yk,⟨tk,tm,es⟩,ya,yc⟩,Yd.out,rfl,rfl,rfl,Da.out.1⟩,EU.trans (dQ.below EU.size (λj hj=>by rw [hj];exact HD6.out.lb))⟩
      have U1 : Hid (x'.cs.L ≠ []):=ajK Da.out.2.2
      have HDV:=ajK Da.out.1;clear UR UZ xJ MC A8 vH U0 EU ME dQ EW hgA hgB HD6 qH UW UY UU mF HD HD5 gN fI Da bQ Mt ES vB
      by_cases hf : k < len2
      ·obtain ⟨b2,o2,z,rfl,hb2,hzc,hz0,hz1⟩:=Yc HZ.out hf
       have hf' : (k : Int) < len2:=Int.ofNat_lt.2 hf
       obtain ⟨hwz,hz3,MF⟩:=UM HN.out.n0 HNW.out fD.out JA.out.1 ⟨hz0,hz1⟩
       obtain ⟨hw1,hw2⟩:=OD ⟨hz0,hz1⟩
       have dz:=(HN.out.mZ.cell (p:=⟨b2,o2 + k,none⟩) hb2).trans hzc;have hi:=Gu (k:=k + 1) hz3 MF fD.out JA.out.1;have fA:=qd A c ok HC.out x' _ (nw + z) hi u8 HN.out.a U1.out
       have fB:=λW hW=>qd B c ok HC.out x' (Grow qg w7 w8) (nw + z) hi W hW U1.out
       have hn:=OG HN.out.a c (jo c x'.cs (nw + z)).au
       generalize tF c (jo c x'.cs (nw + z)).au x'.ss = n at fA fB hn
       generalize zk c (jo c x'.cs (nw + z)).au x'.ss = P at fA fB
       generalize (jo c x'.cs (nw + z)).au = t0 at fA fB
       have HHN:=ajK hn;have MG:=ajK (And.intro hz3 MF);clear hn hi hz0 hz1 hz3 MF hzc hf
       go_wp2_with fail
       refine fA.mono ?_
       rintro e w9 ⟨s1,p1,rfl,hP1,U2,dQ⟩
       have vV:=ajK hP1;have HA9:=ajK U2
       have U3:=fB w9 (HN.out.b'.only dQ (λj hj hs=>HN.out.pX j hs.1 hj))
       have HL9:=ajK (dQ.blk HN.out.box (λh=>(HN.out.ge _ (.inl h.1)).2 rfl))
       have MH:=ajK (HN.out.mZ.trans (dQ.below HN.out.mZ.size (λj hj=>(HN.out.ge j (.inl hj.1)).1)))
       clear hP1 U2 dQ fA fB dz Fh
       go_wp2_with fail
       refine U3.mono ?_
       rintro e wa ⟨s2,p2,rfl,hP2,hBa,Db⟩
       have sm:=Me t0 s1 s2 n p1 p2 P wa (UL vV.out Db) hP2 HHN.out
       have qU : Hid (xK w c kI A B LB (k + 1) true (nw + z) (Grow qY w6 w7) (Grow qg w7 w8) { x' with cs:=jo c x'.cs (nw + z) } tk tm (.slice ya es.length yc) wa):=ajK
        ⟨MG.out.1,MG.out.2,HA9.out.only Db (λj hj hs=>HN.out.pX j hj hs.1),hBa,HN.out.pX,HN.out.ge,by show (jo c x'.cs (nw + z)).L.length <= k + 1;rw [Ya];exact HN.out.len,Db.blk HL9.out (λh=>(HN.out.ge _ (.inr h.1)).2 rfl),HN.out.lb,.inr ⟨rfl,⟨yk,⟨tk,tm,es⟩,ya,yc⟩,Yd.out,rfl,rfl,rfl,HDV.out.cs _⟩,MH.out.trans (Db.below MH.out.size (λj hj=>(HN.out.ge j (.inr hj.1)).1))⟩
       clear hP2 hBa Db U3
       go_wp2_with fail
       refine sm.mono ?_
       rintro e wc ⟨rfl,hb⟩
       have HF:=ajK (qU.out.below hb);clear hb sm
       go_wp2
       go_roundw
       case rel=>exact ⟨k + 1,true,nw + z,_,_,_,tk,tm,_,fD.out,rfl,rfl,rfl,HF.out⟩
       case measure=>exact lF fD.out
      ·have nf : ¬ (k : Int) < len2:=λh=>hf (Int.ofNat_lt.1 h)
       clear hf
       go_wp2
       go_roundw
       case rel=>exact ⟨k + 1,true,nw,_,_,x',tk,tm,_,fD.out,rfl,rfl,rfl,HN.out⟩
       case measure=>exact lF fD.out
  ·obtain rfl : k = kI.length:=by omega
   have kA:=Mc A c x qY wr hD.a;have HD:=ajK hD;clear hD
   go_wp2_with fail
   refine kA.mono ?_
   rintro e w7 ⟨v,rfl,hT,hb⟩
   obtain ⟨ta,tc,rfl,_⟩:=hT.cells
   have kB:=Mc B c x qg w7 (HD.out.b'.below hb);have mF:=ajK (HD.out.mZ.trans (hb.mono HD.out.mZ.size));clear kA hT hb
   go_wp2_with fail
   refine kB.mono ?_
   rintro e w8 ⟨v,rfl,hT,hb⟩
   obtain ⟨ta',tc',rfl,_⟩:=hT.cells
   have HF:=ajK (mF.out.trans (hb.mono mF.out.size));clear kB hT hb
   go_wp2
   go_ret
   exact ⟨by simp,HF.out⟩
theorem topDeltas_walk (r wi bs g l m s n d e : Int) (cu : Bool) (a0 : Option Addr) (EY cap0 : Nat) (K T : Nat -> Int) (E : Nat -> Option Addr × Nat × Nat) (EE : Nat -> Nat -> ay) (a1 : Option Addr) (len1 zi : Nat) (zs : List Int) (w : World) (h1 : aA r) (h2 : aA wi) (h3 : aA bs) (h4 : aA g) (h5 : aA l) (h6 : aA m) (h7 : aA s) (h8 : aA n) (h9 : aA d) (h10 : aA e) (hS : jI w a0 EY K T E) (hx : ∀ i,i < EY -> aA (K i) /\ aA (T i) /\ bV w (E i).1 (E i).2.1 (EE i)) (hy : EY * 40 <= 140737488351232) (hz : iI .u8 w a1 len1 zs) (hy1 : len1 * 1 <= 140737488351232) :
 Calls Tryz.prog 5 #[.agg #[.int .i64 r,.int .i64 wi,.int .i64 bs,.int .i64 g,.int .i64 l,.int .i64 m,.int .i64 s,.int .i64 n,.int .i64 d,.int .i64 e,.bool cu],.slice a0 EY cap0,.slice a1 len1 zi] w λe w'=>e = .returned (.bool true) /\ Below w.heap.size w w':=by
 have hl : ((List.range EY).map (Xd K T E EE)).length = EY:=by simp
 have h:=topDeltas_w ⟨r,wi,bs,g,l,m,s,n,d,e,cu⟩ ⟨h1,h2,h3,h4,h5,h6,h7,h8,h9,h10⟩ a0 cap0 ((List.range EY).map (Xd K T E EE)) a1 len1 zi zs w (Zo hS hx) (by rw [hl];omega) hz (by omega)
 rw [hl] at h
 exact h
end Go.Proofs.YtklkooeimkedgaaGreat
