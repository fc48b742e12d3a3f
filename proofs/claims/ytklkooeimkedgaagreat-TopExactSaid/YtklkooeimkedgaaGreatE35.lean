/- Walk of TopExact. -/
import Derived.Laws.EntriesVeiled
import Derived.Test.YtklkooeimkedgaaGreatE13
import Derived.Test.YtklkooeimkedgaaGreatE34
set_option linter.unusedVariables false
set_option linter.unusedSimpArgs false
namespace Go.Proofs.YtklkooeimkedgaaGreat
open Go.RowKit
set_option maxRecDepth 8000
@[go_sem] theorem aaP (w : World) (n : Nat) (o : Obj) : (w.drewN n).alloc o = (w.alloc o).drewN n:=rfl
abbrev sJ (f : FuncId) : Value:=.func (.func f) #[] #[]
set_option maxHeartbeats 1000000 in
theorem L9 (w : World) :
 Calls Tryz.prog 112 #[] w λe w'=>e = .returned (.agg #[sJ 154,sJ 155,sJ 156,sJ 157,sJ 152,sJ 153,sJ 154,sJ 155]) /\ Below w.heap.size w w':=by
 have HB : ∀ A B t1 t2,Hid (Below w.heap.size w ((w.alloc (.cells A t1)).alloc (.cells B t2))):=λA B t1 t2=>ah6 ((ah7).alloc (by simp) _)
 go_enter Tryz.func112,Tryz.ntmps112
 go_wp2
 exact bodyPost_ret (v:=.agg #[sJ 154,sJ 155,sJ 156,sJ 157,sJ 152,sJ 153,sJ 154,sJ 155]) (by simp [results,Tryz.results112,go_sem]) rfl ⟨rfl,(HB _ _ _ _).out⟩
set_option maxRecDepth 8000
def Ny (r : Rec) : Int:=(if r.px ≠ 0 then 1 else 0) + (if r.py ≠ 0 then 2 else 0) + (if r.pz ≠ 0 then 4 else 0) + (if r.vx ≠ 0 then 8 else 0) + (if r.vy ≠ 0 then 16 else 0) + (if r.vz ≠ 0 then 32 else 0) + (if r.aI ≠ 0 then 64 else 0)
def vo (r : Rec) : List Int:=[Ny r] ++ nb ((aj r).filter (· ≠ 0)) ++ (if r.aI ≠ 0 then aD r.aI else [])
def pK (r : Rec) : List Int:=if r.kind = 2 then [] else if r.kind = 1 then vo r else nb (aj r) ++ aD r.aI
def gU (r : Rec) (last : Int) : Int:=if dJ r ≠ 0 then dJ r else if last < -1 \/ 65535 < last then 3 else if r.id <= last then 10 else 0
def nJ (r : Rec) (last : Int) : List Int:=aD (r.id - last - 1) ++ [r.kind] ++ pK r
set_option maxHeartbeats 1000000 in
theorem WY (r : Rec) (last : Int) (w : World) (h : gU r last ≠ 0) :
 Calls Tryz.prog 75 #[lS r,.int .i64 last] w λe w'=>e = .returned (.tuple #[.slice none 0 0,.int .i64 (gU r last)]) /\ Below w.heap.size w w':=by
 have ck:=λw=>JD r w
 have HE : Hid (gU r last = if dJ r ≠ 0 then dJ r else if last < -1 \/ 65535 < last then 3 else if r.id <= last then 10 else 0):=ah6 rfl
 generalize gU r last = er at *
 generalize dJ r = ce at *
 obtain ⟨k,id,px,py,pz,vx,vy,vz,an⟩:=r
 unfold lS at *
 simp only at *
 have HB : Hid (Below w.heap.size w (w.alloc (.cells #[.int .i64 k,.int .i64 id,.int .i64 px,.int .i64 py,.int .i64 pz,.int .i64 vx,.int .i64 vy,.int .i64 vz,.int .u16 an] 147))):=ah6 (ah7)
 go_enter Tryz.func75,Tryz.ntmps75
 go_wp2_with fail
 refine (ck _).mono ?_;rintro e w1 ⟨rfl,hb1⟩
 have HB1:=ah6 (HB.out.trans (hb1.mono (by simp)))
 have c1:=hb1.cell (p:=⟨w.heap.size,1,none⟩) (by simp)
 simp at c1;clear hb1 ck
 by_cases hce : ce = 0
 ·subst hce
  by_cases hl : last < -1 \/ 65535 < last
  ·have HV : Hid (er = 3):=ah6 (by rw [HE.out,if_neg (by simp),if_pos hl])
   clear HE h
   rcases hl with hl | hl
   ·go_wp2
    exact bodyPost_ret (v:=.tuple #[.slice none 0 0,.int .i64 3]) (by simp [results,Tryz.results75,go_sem]) rfl ⟨by rw [HV.out],HB1.out⟩
   ·have hl2 : ¬ last < -1:=by omega
    go_wp2
    exact bodyPost_ret (v:=.tuple #[.slice none 0 0,.int .i64 3]) (by simp [results,Tryz.results75,go_sem]) rfl ⟨by rw [HV.out],HB1.out⟩
  ·have hl1 : ¬ last < -1:=by omega
   have hl2 : ¬ 65535 < last:=by omega
   have hid : id <= last:=by
    rcases Int.lt_or_le last id with hh | hh
    ·exfalso;apply h;rw [HE.out,if_neg (by simp),if_neg hl,if_neg (by omega)]
    ·exact hh
   have HV : Hid (er = 10):=ah6 (by rw [HE.out,if_neg (by simp),if_neg hl,if_pos hid])
   clear HE h hl
   go_wp2
   exact bodyPost_ret (v:=.tuple #[.slice none 0 0,.int .i64 10]) (by simp [results,Tryz.results75,go_sem]) rfl ⟨by rw [HV.out],HB1.out⟩
 ·have HV : Hid (er = ce):=ah6 (by rw [HE.out,if_pos hce])
  have ag6 : (ce != 0) = true:=by simpa using hce
  clear HE h hce
  go_wp2
  exact bodyPost_ret (v:=.tuple #[.slice none 0 0,.int .i64 ce]) (by simp [results,Tryz.results75,go_sem]) rfl ⟨by rw [HV.out],HB1.out⟩
set_option maxRecDepth 8000
def fD (e : Int) (s : aH) : aH:=(s.1,if s.2 = 0 then e else s.2)
def xE (r : Rec) (s : aH) : Rec × aH :=
 (⟨r.kind,r.id,(dV s).1.1,(dV s).1.2.1,(dV s).1.2.2,(dV (dV s).2).1.1,(dV (dV s).2).1.2.1,(dV (dV s).2).1.2.2,(aZ 65535 (dV (dV s).2).2).1⟩,(aZ 65535 (dV (dV s).2).2).2)
def tu (q : Int × aH) : Int × aH:=(q.1,if q.1 = 0 then fD 7 q.2 else q.2)
def gM (m : Int) (i : Nat) (s : aH) : Int × aH:=if m / 2 ^ i % 2 = 0 then (0,s) else tu (dU s)
def rT (m : Int) (s : aH) : Int × aH:=if m / 64 % 2 = 0 then (0,s) else tu (aZ 65535 s)
def jq (m : Int) : List Nat -> aH -> List Int × aH
 | [],s=>([],s)
 | i :: l,s=>((gM m i s).1 :: (jq m l (gM m i s).2).1,(jq m l (gM m i s).2).2)
def vQ (r : Rec) (s : aH) : Rec × aH :=
 if (bG s).1 = 0 \/ 127 < (bG s).1 then (r,fD 7 (bG s).2) else
 (⟨r.kind,r.id,(jq (bG s).1 [0,1,2,3,4,5] (bG s).2).1.getD 0 0,(jq (bG s).1 [0,1,2,3,4,5] (bG s).2).1.getD 1 0,(jq (bG s).1 [0,1,2,3,4,5] (bG s).2).1.getD 2 0,(jq (bG s).1 [0,1,2,3,4,5] (bG s).2).1.getD 3 0,(jq (bG s).1 [0,1,2,3,4,5] (bG s).2).1.getD 4 0,(jq (bG s).1 [0,1,2,3,4,5] (bG s).2).1.getD 5 0,(rT (bG s).1 (jq (bG s).1 [0,1,2,3,4,5] (bG s).2).2).1⟩,(rT (bG s).1 (jq (bG s).1 [0,1,2,3,4,5] (bG s).2).2).2)
def rdKind (k : Int) (r : Rec) (s : aH) : Rec × aH :=
 if k = 0 \/ k = 3 then xE r s else if k = 1 then vQ r s else if k = 2 then (r,s) else (r,fD 11 s)
def FZ : Rec:=⟨0,0,0,0,0,0,0,0,0⟩
def rU (last : Int) (s : aH) : Rec × aH :=
 (⟨(bG (aZ (65535 - (last + 1)) s).2).1,last + 1 + (aZ (65535 - (last + 1)) s).1,0,0,0,0,0,0,0⟩,(bG (aZ (65535 - (last + 1)) s).2).2)
def qo (last : Int) (s : aH) : Rec × aH:=rdKind (rU last s).1.kind (rU last s).1 (rU last s).2
def dM (last : Int) (s : aH) : Rec × Int × aH :=
 if last = 65535 then (FZ,(fD 10 s).2,fD 10 s) else
 if (qo last s).2.2 ≠ 0 then (FZ,(qo last s).2.2,(qo last s).2) else ((qo last s).1,0,(qo last s).2)
structure Gr where
 tick : Int
 time : Int
 base : Int
 recs : List Rec
def oI : Gr:=⟨0,0,0,[]⟩
def gZ (tick time base : Int) (n : Nat) : Int :=
 if tick < 0 \/ 4294967295 < tick \/ time < -2305843009213693952 \/ 2305843009213693952 < time \/ base < -1 then 3 else if tick <= base then 10 else if 128 < n then 8 else 0
def iG (tick base : Int) : Int:=if 0 <= base then tick - base else 0
def vw (tick time base : Int) (n : Nat) : List Int:=[71,1] ++ aD tick ++ aD (kW time) ++ aD (iG tick base) ++ aD n
def lY : Int -> List Rec -> Int
 | _,[]=>0
 | last,r :: l=>if gU r last ≠ 0 then gU r last else lY r.id l
def kR : Int -> List Rec -> List Int
 | _,[]=>[]
 | last,r :: l=>nJ r last ++ kR r.id l
def dA (g : Gr) : Int:=if gZ g.tick g.time g.base g.recs.length ≠ 0 then gZ g.tick g.time g.base g.recs.length else lY (-1) g.recs
def jr (g : Gr) : List Int:=vw g.tick g.time g.base g.recs.length ++ kR (-1) g.recs
def nZ (g : Gr) : Int:=if dA g ≠ 0 then dA g else if 4092 < (jr g).length then 8 else 0
def xG (g : Gr) : List Int:=jr g ++ vH (jo (jr g))
def jV (c : Int) (s : aH) : aH:=if (bG s).1 = c then (bG s).2 else fD 7 (bG s).2
def jN (s : aH) : aH:=jV 1 (jV 71 s)
def mE (t : Int) : Prop:=-2305843009213693952 <= t /\ t <= 2305843009213693952
instance (t : Int) : Decidable (mE t):=by unfold mE;exact inferInstance
def iH (s : aH) : Int × Int × aH :=
 ((aZ 4294967295 s).1,(dU (aZ 4294967295 s).2).1,if mE (dU (aZ 4294967295 s).2).1 then (dU (aZ 4294967295 s).2).2 else fD 3 (dU (aZ 4294967295 s).2).2)
def rV (tick : Int) (s : aH) : Int × aH:=(if 0 < (aZ tick s).1 then tick - (aZ tick s).1 else -1,(aZ tick s).2)
def gu : Nat -> Int -> aH -> List Rec × aH
 | 0,_,s=>([],s)
 | n + 1,last,s=>if (dM last s).2.1 ≠ 0 then ([],(dM last s).2.2) else
   ((dM last s).1 :: (gu n (dM last s).1.id (dM last s).2.2).1,(gu n (dM last s).1.id (dM last s).2.2).2)
def lF (s : aH) : List Rec × aH:=gu (aZ 128 s).1.toNat (-1) (aZ 128 s).2
def iI (s : aH) : Gr × aH :=
 (⟨(iH (jN s)).1,(iH (jN s)).2.1,(rV (iH (jN s)).1 (iH (jN s)).2.2).1,(lF (rV (iH (jN s)).1 (iH (jN s)).2.2).2).1⟩,(lF (rV (iH (jN s)).1 (iH (jN s)).2.2).2).2)
def lG (s : aH) : Int:=if s.2 ≠ 0 then s.2 else if s.1 = [] then 0 else 8
def bD (zs : List Int) : Gr × Int :=
 if 4096 < zs.length then (oI,8) else match iF zs with
 | none=>(oI,9)
 | some x=>if lG (iI (x,0)).2 ≠ 0 then (oI,lG (iI (x,0)).2) else ((iI (x,0)).1,0)
theorem TM (x : Int) : aD x ≠ []:=by unfold aD;simp
theorem Di (c : Int) (l : List Int) : bG (c :: l,0) = (c,(l,0)):=by
 simp [bG,iM,jX]
theorem nM {most x : Int} (hx : iq x) (hm : x <= most) (l : List Int) : aZ most (aD x ++ l,0) = (x,(l,0)):=by
 have h:=O6 hx l
 have hn : ¬ (aD x ++ l = []):=by simp [TM]
 have hm' : ¬ most < x:=by omega
 simp only [aZ,iM,iU,h,hn,hm',ne_eq,not_true_eq_false,if_false,and_false,true_and]
 rw [← dZ,List.drop_left]
theorem zJ {n : Int} (hn : ay n) (l : List Int) : dU (zb n ++ l,0) = (n,(l,0)):=by
 have hz:=sV hn
 unfold dU zb
 rw [nM hz hz.2,Wu]
theorem JE {x y z : Int} (hx : ay x) (hy : ay y) (hz : ay z) (l : List Int) : dV (zb x ++ (zb y ++ (zb z ++ l)),0) = ((x,y,z),(l,0)) :=
 Je _ (zJ hx _) (zJ hy _) (zJ hz _)
theorem Nz {r : Rec} (hr : r.Ok) (q : Rec) (l : List Int) : xE q (nb (aj r) ++ aD r.aI ++ l,0) = (⟨q.kind,q.id,r.px,r.py,r.pz,r.vx,r.vy,r.vz,r.aI⟩,(l,0)):=by
 have e : nb (aj r) ++ aD r.aI ++ l = zb r.px ++ (zb r.py ++ (zb r.pz ++ (zb r.vx ++ (zb r.vy ++ (zb r.vz ++ (aD r.aI ++ l)))))):=by
  simp [nb,aj]
 have ha:=hr.aI
 have hu : iq r.aI:=⟨by omega,by omega⟩
 rw [e]
 unfold xE
 rw [JE hr.px hr.py hr.pz]
 simp only
 rw [JE hr.vx hr.vy hr.vz]
 simp only
 rw [nM hu (by omega)]
theorem YM {r : Rec} (hk : r.kind = 2) (hc : dJ r = 0) : (⟨2,r.id,0,0,0,0,0,0,0⟩ : Rec) = r:=by
 obtain ⟨k,id,px,py,pz,vx,vy,vz,an⟩:=r
 simp only at hk
 subst hk
 unfold dJ IG at hc
 simp only at hc
 split at hc
 ·cases hc
 split at hc
 ·cases hc
 split at hc
 ·cases hc
 rename_i h
 have h2 : ((px == 0 && py == 0 && pz == 0) && (vx == 0 && vy == 0 && vz == 0) && an == 0) = true:=by
  cases hb : ((px == 0 && py == 0 && pz == 0) && (vx == 0 && vy == 0 && vz == 0) && an == 0)
  ·exact absurd (.inr ⟨by first | rfl | trivial,hb⟩) h
  ·rfl
 simp only [Bool.and_eq_true,beq_iff_eq] at h2
 obtain ⟨⟨⟨⟨a,b⟩,c⟩,⟨d,e⟩,f⟩,g⟩:=h2
 subst a b c d e f g
 rfl
theorem xH {r : Rec} {last : Int} (h : gU r last = 0) : dJ r = 0 /\ -1 <= last /\ last < r.id /\ 0 <= r.kind /\ r.kind <= 3 /\ 0 <= r.id /\ r.id <= 65535:=by
 have hc : dJ r = 0:=by
  unfold gU at h
  split at h
  ·rename_i hh;exact absurd h hh
  ·rename_i hh;exact Decidable.of_not_not hh
 have h2:=h
 unfold gU at h2
 rw [if_neg (by simpa using hc)] at h2
 split at h2
 ·cases h2
 split at h2
 ·cases h2
 have h3:=hc
 unfold dJ at h3
 split at h3
 ·cases h3
 split at h3
 ·cases h3
 exact ⟨hc,by omega,by omega,by omega,by omega,by omega,by omega⟩
theorem TN {r : Rec} (hr : r.Ok) {last : Int} (h : gU r last = 0) (hk : r.kind ≠ 1) (l : List Int) : dM last (nJ r last ++ l,0) = (r,0,(l,0)):=by
 obtain ⟨hc,h1,h2,k0,k3,i0,i1⟩:=xH h
 unfold dM
 rw [if_neg (by omega)]
 have hh : rU last (nJ r last ++ l,0) = (⟨r.kind,r.id,0,0,0,0,0,0,0⟩,(pK r ++ l,0)):=by
  unfold rU nJ
  rw [List.append_assoc,List.append_assoc,nM ⟨by omega,by omega⟩ (by omega)]
  simp only [List.cons_append,List.nil_append]
  rw [Di]
  simp only
  rw [show last + 1 + (r.id - last - 1) = r.id by omega]
 have ha : qo last (nJ r last ++ l,0) = (r,(l,0)):=by
  unfold qo
  rw [hh]
  simp only
  unfold rdKind pK
  by_cases e2 : r.kind = 2
  ·rw [if_neg (by omega),if_neg (by omega),if_pos e2,if_pos e2,e2]
   rw [YM e2 hc];rfl
  ·rw [if_pos (by omega),if_neg e2,if_neg hk,Nz hr]
 rw [ha]
 simp
theorem GH : ∀ (rs : List Rec) (last : Int) (l : List Int),(∀ r ∈ rs,r.Ok /\ r.kind ≠ 1) -> lY last rs = 0 -> gu rs.length last (kR last rs ++ l,0) = (rs,(l,0))
 | [],last,l,_,_=>rfl
 | r :: rs,last,l,hr,h=>by
   unfold lY at h
   have h1 : gU r last = 0:=by
    split at h
    ·rename_i hh;exact absurd h hh
    ·rename_i hh;exact Decidable.of_not_not hh
   rw [if_neg (by simpa using h1)] at h
   have hk:=hr r (List.mem_cons_self ..)
   rw [List.length_cons,gu,kR,List.append_assoc,TN hk.1 h1 hk.2]
   simp only
   rw [GH rs r.id l (λr' h'=>hr r' (List.mem_cons_of_mem _ h')) h]
   simp
theorem xI {y c : Int} (hy : 0 <= y) (hm : y % 256 = 0) (h1 : y < 4294967296) (hc : U8 c) : bits .or .u32 y c = y + c:=by
 obtain ⟨c0,c1⟩:=hc
 have e : bits .or .u32 y c = bits .or .u32 c y:=by simp [bits,BitVec.or_comm]
 rw [e,bits_join_low .u32 32 (by decide) wraps_u32 8 c y c0 (by omega) (by omega) hy (by simpa using hm) (by omega)]
 omega
theorem QA {s : Int} (h : tZ s) : nV 0 (vH s) = s:=by
 obtain ⟨s0,s1⟩:=h
 unfold vH
 simp only [nV]
 rw [xI (by omega) (by omega) (by omega) ⟨by omega,by omega⟩,xI (by omega) (by omega) (by omega) ⟨by omega,by omega⟩,xI (by omega) (by omega) (by omega) ⟨by omega,by omega⟩,xI (by omega) (by omega) (by omega) ⟨by omega,by omega⟩]
 omega
theorem NA (zs : List Int) : iF (zs ++ vH (jo zs)) = some zs:=by
 have hl : (vH (jo zs)).length = 4:=rfl
 unfold iF
 rw [if_neg (by rw [List.length_append,hl];omega)]
 have e : (zs ++ vH (jo zs)).length - 4 = zs.length:=by rw [List.length_append,hl];omega
 rw [e,List.drop_left,List.take_left,QA (zA zs),if_pos rfl]
theorem Dj (c : Int) (l : List Int) : jV c (c :: l,0) = (l,0):=by
 unfold jV;rw [Di,if_pos rfl]
theorem W9 {g : Gr} (h : nZ g = 0) (hr : ∀ r ∈ g.recs,r.Ok /\ r.kind ≠ 1) : bD (xG g) = (g,0):=by
 have hb : dA g = 0:=by
  unfold nZ at h
  split at h
  ·rename_i hh;exact absurd h hh
  ·rename_i hh;exact Decidable.of_not_not hh
 unfold nZ at h
 rw [if_neg (by simpa using hb)] at h
 have hlen : (jr g).length <= 4092:=by
  split at h
  ·cases h
  ·omega
 clear h
 obtain ⟨tick,time,base,rs⟩:=g
 unfold dA at hb
 simp only at hb hr
 have hh : gZ tick time base rs.length = 0:=by
  split at hb
  ·rename_i hh;exact absurd hb hh
  ·rename_i hh;exact Decidable.of_not_not hh
 rw [if_neg (by simpa using hh)] at hb
 unfold gZ at hh
 split at hh
 ·cases hh
 split at hh
 ·cases hh
 split at hh
 ·cases hh
 rename_i a1 a2 a3
 have hz : (vH (jo (jr ⟨tick,time,base,rs⟩))).length = 4:=rfl
 unfold bD xG
 rw [if_neg (by rw [List.length_append,hz];omega),NA]
 simp only
 have ht : ay time:=⟨by omega,by omega⟩
 have hzu:=sV ht
 have hs : iI (jr ⟨tick,time,base,rs⟩,0) = (⟨tick,time,base,rs⟩,([],0)):=by
  have e1 : jN (jr ⟨tick,time,base,rs⟩,0) = (aD tick ++ (aD (kW time) ++ (aD (iG tick base) ++ (aD (rs.length : Int) ++ kR (-1) rs))),0):=by
   unfold jN jr vw
   simp only [List.append_assoc,List.cons_append,List.nil_append]
   rw [Dj,Dj]
  have e2 : iH (aD tick ++ (aD (kW time) ++ (aD (iG tick base) ++ (aD (rs.length : Int) ++ kR (-1) rs))),0) = (tick,time,(aD (iG tick base) ++ (aD (rs.length : Int) ++ kR (-1) rs),0)):=by
   unfold iH
   rw [nM ⟨by omega,by omega⟩ (by omega)]
   have:=zJ ht (aD (iG tick base) ++ (aD (rs.length : Int) ++ kR (-1) rs))
   unfold zb at this
   simp only
   rw [this]
   simp only
   rw [if_pos ⟨by omega,by omega⟩]
  have hbk : 0 <= iG tick base /\ iG tick base <= tick:=by unfold iG;split <;> omega
  have e3 : rV tick (aD (iG tick base) ++ (aD (rs.length : Int) ++ kR (-1) rs),0) = (base,(aD (rs.length : Int) ++ kR (-1) rs,0)):=by
   unfold rV
   rw [nM ⟨by omega,by omega⟩ hbk.2]
   simp only
   congr 1
   unfold iG
   split
   ·rw [if_pos (by omega)];omega
   ·rw [if_neg (by omega)];omega
  have e4 : lF (aD (rs.length : Int) ++ kR (-1) rs,0) = (rs,([],0)):=by
   unfold lF
   rw [nM ⟨by omega,by omega⟩ (by omega)]
   simp only [Int.toNat_natCast]
   have:=GH rs (-1) [] hr hb
   rwa [List.append_nil] at this
  unfold iI
  rw [e1,e2]
  simp only
  rw [e3]
  simp only
  rw [e4]
 rw [hs]
 simp [lG]
set_option maxRecDepth 8000
theorem aa2 (R X : Nat) (w : World) : Calls Tryz.prog 153 #[.pointer (some ⟨R,0,none⟩),.pointer (some ⟨X,0,none⟩)] w λe w'=>e = .returned (.tuple #[]) /\ w = w':=by
 go_enter Tryz.func153,Tryz.ntmps153
 go_wp2
 exact bodyPost_end (v:=.tuple #[]) (by simp [results,Tryz.results153,go_sem]) rfl ⟨rfl,rfl⟩
set_option maxHeartbeats 1000000 in
theorem Xa {B0 : Nat} (R X : Nat) (s : aH) (r : Rec) (w : World) (h : bf w R B0 s) (hX : ak w X (aW r) 147) (vR : B0 <= X) (vS : X ≠ R) :
 Calls Tryz.prog 155 #[.pointer (some ⟨R,0,none⟩),.pointer (some ⟨X,0,none⟩)] w λe w'=>e = .returned (.tuple #[]) /\ bf w' R B0 (xE r s).2 /\ ak w' X (aW (xE r s).1) 147 /\ Only (λk=>k = R \/ k = X) w w':=by
 have hB0 : B0 <= w.heap.size:=by have:=hX.lt;omega
 have v1:=Pn (B0:=B0) R s w h hB0
 have v2:=λw h hB=>Pn (B0:=B0) R (dV s).2 w h hB
 have u1:=λw h=>sW (B0:=B0) R (dV (dV s).2).2 65535 w h
 have ub : aT (dV (dV s).2).2.1 -> 0 <= (aZ 65535 (dV (dV s).2).2).1 /\ (aZ 65535 (dV (dV s).2).2).1 <= 65535:=λh=>je h (by decide)
 unfold xE
 simp only
 generalize dV s = q1 at *
 generalize dV q1.2 = q2 at *
 generalize aZ 65535 q2.2 = q3 at *
 obtain ⟨⟨x,y,z⟩,s1⟩:=q1
 obtain ⟨⟨vx,vy,vz⟩,s2⟩:=q2
 obtain ⟨an,s3⟩:=q3
 simp only at *
 obtain ⟨rk,ri,r1,r2,r3,r4,r5,r6,ra⟩:=r
 simp only at *
 have HX0:=ah6 hX;have mR:=ah6 vS;clear h hX
 go_enter Tryz.func155,Tryz.ntmps155
 go_wp2_with fail
 refine v1.mono ?_;rintro e w1 ⟨rfl,oh,mU⟩
 have JF:=v2 w1 oh (Nat.le_trans hB0 mU.size);have fq:=ah6 (mU.blk HX0.out vS);have oJ:=ah6 mU;clear v1 v2 oh mU
 go_wp2_with fail
 refine JF.mono ?_;rintro e w2 ⟨rfl,hR2,hO2⟩
 have hX2:=hO2.blk fq.out vS;have bR:=ah6 (oJ.out.trans hO2);have d2:=hX2.cell 2;have d3:=hX2.cell 3;have d4:=hX2.cell 4;have d5:=hX2.cell 5;have d6:=hX2.cell 6;have d7:=hX2.cell 7;have d8:=hX2.cell 8;have f2:=hX2.free 2;have f3:=hX2.free 3;have f4:=hX2.free 4;have f5:=hX2.free 5;have f6:=hX2.free 6;have f7:=hX2.free 7;have f8:=hX2.free 8;simp at d2 d3 d4 d5 d6 d7 d8;have iw:=ah6 ((((((hX2.set 2 (.int .i64 x)).set 3 (.int .i64 y)).set 4 (.int .i64 z)).set 5 (.int .i64 vx)).set 6 (.int .i64 vy)).set 7 (.int .i64 vz))
 have HR3:=ah6 ((((((hR2.cZ (p:=⟨X,2,none⟩) (Ne.symm vS) vR (.int .i64 x)).cZ (p:=⟨X,3,none⟩) (Ne.symm vS) vR (.int .i64 y)).cZ (p:=⟨X,4,none⟩) (Ne.symm vS) vR (.int .i64 z)).cZ (p:=⟨X,5,none⟩) (Ne.symm vS) vR (.int .i64 vx)).cZ (p:=⟨X,6,none⟩) (Ne.symm vS) vR (.int .i64 vy)).cZ (p:=⟨X,7,none⟩) (Ne.symm vS) vR (.int .i64 vz))
 have hOX : Only (λk=>k = R \/ k = X) w w2:=bR.out.weaken (λk _ hk=>.inl hk)
 have fJ:=ah6 ((((((hOX.setCell (p:=⟨X,2,none⟩) (.inl (.inr rfl)) (.int .i64 x)).setCell (p:=⟨X,3,none⟩) (.inl (.inr rfl)) (.int .i64 y)).setCell (p:=⟨X,4,none⟩) (.inl (.inr rfl)) (.int .i64 z)).setCell (p:=⟨X,5,none⟩) (.inl (.inr rfl)) (.int .i64 vx)).setCell (p:=⟨X,6,none⟩) (.inl (.inr rfl)) (.int .i64 vy)).setCell (p:=⟨X,7,none⟩) (.inl (.inr rfl)) (.int .i64 vz));have e8:=ub HR3.out.u8
 have hwr : IntKind.u16.wrap an = an:=wraps_u16 _ (by omega) (by omega)
 clear JF hX2 hR2 hO2 hOX HX0 fq oJ bR ub vS
 go_wp2_with fail
 refine (u1 _ HR3.out).mono ?_;rintro e w3 ⟨rfl,QB,hO4⟩
 have bq:=hO4.blk iw.out mR.out;have g8:=bq.cell 8;have k8:=bq.free 8;simp at g8;have fU:=ah6 (bq.set 8 (.int .u16 an));have eP:=ah6 (QB.cZ (p:=⟨X,8,none⟩) (Ne.symm mR.out) vR (.int .u16 an))
 have dX:=ah6 ((fJ.out.trans (hO4.weaken (T:=λk=>k = R \/ k = X) (λk _ hk=>.inl hk))).setCell (p:=⟨X,8,none⟩) (.inl (.inr rfl)) (.int .u16 an))
 clear u1 bq QB hO4 iw HR3 fJ d2 d3 d4 d5 d6 d7 d8 f2 f3 f4 f5 f6 f7 f8
 go_wp2
 exact bodyPost_end (v:=.tuple #[]) (by simp [results,Tryz.results155,go_sem]) rfl ⟨rfl,eP.out,by simpa [aW] using fU.out,dX.out⟩
set_option maxRecDepth 8000
theorem TP : ∀ n : Fin 256,bits .and .u8 (n.val : Int) 1 = (n.val : Int) % 2:=by decide +kernel
theorem vF {y : Int} (h : U8 y) : bits .and .u8 y 1 = y % 2:=by
 obtain ⟨h0,h1⟩:=h
 have:=TP ⟨y.toNat,by omega⟩
 simp only at this
 rwa [Int.toNat_of_nonneg h0] at this
theorem QC : ∀ n : Fin 256,bits .and .u8 (n.val : Int) 64 = 64 * ((n.val : Int) / 64 % 2):=by decide +kernel
theorem TQ {y : Int} (h : U8 y) : bits .and .u8 y 64 = 64 * (y / 64 % 2):=by
 obtain ⟨h0,h1⟩:=h
 have:=QC ⟨y.toNat,by omega⟩
 simp only at this
 rwa [Int.toNat_of_nonneg h0] at this
def jO (w : World) (R X B0 : Nat) (c : List (Array Value × aH)) (k : Nat) (wr : World) : Prop :=
 ∃ q,c[k]? = some q /\ ak wr X q.1 147 /\ bf wr R B0 q.2 /\ Only (λk=>k = R \/ k = X) w wr
set_option maxHeartbeats 4000000 in
theorem TS {B0 : Nat} (R X : Nat) (s : aH) (rk ri : Int) (w : World) (h : bf w R B0 s) (hX : ak w X (aW ⟨rk,ri,0,0,0,0,0,0,0⟩) 147) (vR : B0 <= X) (vS : X ≠ R) :
 Calls Tryz.prog 157 #[.pointer (some ⟨R,0,none⟩),.pointer (some ⟨X,0,none⟩)] w λe w'=>e = .returned (.tuple #[]) /\ bf w' R B0 (vQ ⟨rk,ri,0,0,0,0,0,0,0⟩ s).2 /\ ak w' X (aW (vQ ⟨rk,ri,0,0,0,0,0,0,0⟩ s).1) 147 /\ Only (λk=>k = R \/ k = X) w w':=by
 have bt:=FL (B0:=B0) R s w h
 have fl:=λs e he w h=>yM (B0:=B0) R s e he w h
 have rI:=λs w h=>Jc (B0:=B0) R s w h
 have Vu:=Az h.u8
 unfold aW at hX
 unfold vQ
 simp only
 generalize bG s = q at *
 obtain ⟨m,s0⟩:=q
 simp only at *
 have HX0:=ah6 hX;have mR:=ah6 vS;have adY:=h.lt;have hXlt:=hX.lt
 by_cases hbad : m = 0 \/ 127 < m
 ·rw [if_pos hbad]
  have fl7:=fl s0 7 (by decide)
  have hpk : (m == 0 || decide (127 < m)) = true:=by
   rcases hbad with h | h
   ·simp [h]
   ·simp [h]
  clear h hX rI fl
  go_enter Tryz.func157,Tryz.ntmps157
  go_wp2_with fail
  refine bt.mono ?_;rintro e w1 ⟨rfl,oh,mU⟩
  have fq:=ah6 (mU.blk HX0.out vS);have oJ:=ah6 mU;have f1:=fl7 w1 oh;clear oh mU bt fl7
  rcases hbad with rfl | hbad
  ·go_wp2_with fail
   refine f1.mono ?_;rintro e w2 ⟨rfl,hR2,hO2⟩
   have dR:=ah6 (hO2.blk fq.out mR.out)
   have bR:=ah6 ((oJ.out.trans hO2).weaken (T:=λk=>k = R \/ k = X) (λk _ hk=>.inl hk))
   clear hO2 f1
   go_wp2
   exact bodyPost_ret (v:=.tuple #[]) (by simp [results,Tryz.results157,go_sem]) rfl ⟨rfl,hR2,by simpa [aW] using dR.out,bR.out⟩
  ·have hm0 : (m == 0) = false:=by simp;omega
   go_wp2_with fail
   refine f1.mono ?_;rintro e w2 ⟨rfl,hR2,hO2⟩
   have dR:=ah6 (hO2.blk fq.out mR.out)
   have bR:=ah6 ((oJ.out.trans hO2).weaken (T:=λk=>k = R \/ k = X) (λk _ hk=>.inl hk))
   clear hO2 f1
   go_wp2
   exact bodyPost_ret (v:=.tuple #[]) (by simp [results,Tryz.results157,go_sem]) rfl ⟨rfl,hR2,by simpa [aW] using dR.out,bR.out⟩
 ·rw [if_neg hbad]
  have hm0 : (m == 0) = false:=by simp;omega
  have hm1 : ¬ 127 < m:=by omega
  obtain ⟨x0,s1,e0⟩ : ∃ x t,gM m 0 s0 = (x,t):=⟨_,_,rfl⟩
  obtain ⟨x1,s2,e1⟩ : ∃ x t,gM m 1 s1 = (x,t):=⟨_,_,rfl⟩
  obtain ⟨x2,s3,e2⟩ : ∃ x t,gM m 2 s2 = (x,t):=⟨_,_,rfl⟩
  obtain ⟨x3,s4,e3⟩ : ∃ x t,gM m 3 s3 = (x,t):=⟨_,_,rfl⟩
  obtain ⟨x4,s5,e4⟩ : ∃ x t,gM m 4 s4 = (x,t):=⟨_,_,rfl⟩
  obtain ⟨x5,s6,e5⟩ : ∃ x t,gM m 5 s5 = (x,t):=⟨_,_,rfl⟩
  obtain ⟨an,s7,e6⟩ : ∃ x t,rT m s6 = (x,t):=⟨_,_,rfl⟩
  have HE : Hid (jq m [0,1,2,3,4,5] s0 = ([x0,x1,x2,x3,x4,x5],s6)):=ah6 (by
   simp only [jq,e0,e1,e2,e3,e4,e5])
  rw [HE.out]
  simp only
  rw [e6]
  simp only [List.getD_cons_zero,List.getD_cons_succ]
  have a0:=vF Vu
  have a1:=vF (y:=m / 2 ^ 1) ⟨by omega,by omega⟩
  have a2:=vF (y:=m / 2 ^ 2) ⟨by omega,by omega⟩
  have a3:=vF (y:=m / 2 ^ 3) ⟨by omega,by omega⟩
  have a4:=vF (y:=m / 2 ^ 4) ⟨by omega,by omega⟩
  have a5:=vF (y:=m / 2 ^ 5) ⟨by omega,by omega⟩
  have a6:=TQ Vu
  simp only [Int.reducePow,Nat.reducePow,Int.pow_zero] at a1 a2 a3 a4 a5
  obtain ⟨c,hc⟩ : ∃ c : List (Array Value × aH),c = [(#[.int .i64 rk,.int .i64 ri,.int .i64 0,.int .i64 0,.int .i64 0,.int .i64 0,.int .i64 0,.int .i64 0,.int .u16 0],s0),(#[.int .i64 rk,.int .i64 ri,.int .i64 x0,.int .i64 0,.int .i64 0,.int .i64 0,.int .i64 0,.int .i64 0,.int .u16 0],s1),(#[.int .i64 rk,.int .i64 ri,.int .i64 x0,.int .i64 x1,.int .i64 0,.int .i64 0,.int .i64 0,.int .i64 0,.int .u16 0],s2),(#[.int .i64 rk,.int .i64 ri,.int .i64 x0,.int .i64 x1,.int .i64 x2,.int .i64 0,.int .i64 0,.int .i64 0,.int .u16 0],s3),(#[.int .i64 rk,.int .i64 ri,.int .i64 x0,.int .i64 x1,.int .i64 x2,.int .i64 x3,.int .i64 0,.int .i64 0,.int .u16 0],s4),(#[.int .i64 rk,.int .i64 ri,.int .i64 x0,.int .i64 x1,.int .i64 x2,.int .i64 x3,.int .i64 x4,.int .i64 0,.int .u16 0],s5),(#[.int .i64 rk,.int .i64 ri,.int .i64 x0,.int .i64 x1,.int .i64 x2,.int .i64 x3,.int .i64 x4,.int .i64 x5,.int .u16 0],s6)]:=⟨_,rfl⟩
  have HC:=ah6 hc;have E0:=ah6 e0;have E1:=ah6 e1;have E2:=ah6 e2;have E3:=ah6 e3;have E4:=ah6 e4;have E5:=ah6 e5;have E6:=ah6 e6;have H8:=ah6 Vu;have qp:=ah6 a6
  have nf:=λw=>EF X w
  unfold ptrs at nf
  clear h hX HE e0 e1 e2 e3 e4 e5 e6 hc Vu a6 hbad
  go_enter Tryz.func157,Tryz.ntmps157
  go_wp2_with fail
  refine bt.mono ?_;rintro e w1 ⟨rfl,oh,mU⟩
  have fq:=ah6 (mU.blk HX0.out vS);have HR1:=ah6 oh;have oJ:=ah6 mU;clear oh mU bt HX0
  go_wp2_with fail
  refine (nf _).mono ?_;rintro e w2 ⟨rfl,hb2⟩
  have HS : Hid (jO w R X B0 c 0 w2):=ah6 ⟨_,by rw [HC.out];rfl,fq.out.below hb2 fq.out.lt,HR1.out.below hb2,(oJ.out.eT hb2).weaken (λk _ hk=>.inl hk)⟩
  clear hb2 nf fq HR1 oJ vS
  go_wp2_with fail
  go_loopw [19] (λi wr=>∃ k : Nat,k <= 6 /\ i = .int .i64 k /\ jO w R X B0 c k wr) (λi _=>6 - (intOf i).toNat)
  case atStart=>exact ⟨0,by omega,rfl,HS.out⟩
  case round =>
   rename_i wr
   obtain ⟨k,hk,rfl,q,hq,hX,hR,hO⟩:=hrel
   rw [HC.out] at hq
   rcases (show k = 0 \/ k = 1 \/ k = 2 \/ k = 3 \/ k = 4 \/ k = 5 \/ k = 6 by omega) with rfl | rfl | rfl | rfl | rfl | rfl | rfl
   ·cases hq
    have e:=E0.out;have hX:=hX;have c0:=hX.cell 2;have f0:=hX.free 2;simp at c0
    by_cases hb : m % 2 = 0
    ·have hz : x0 = 0 /\ s1 = s0:=by
      unfold gM at e
      rw [if_pos (by simpa using hb)] at e
      cases e;exact ⟨rfl,rfl⟩
     have HS2 : Hid (jO w R X B0 c 1 wr):=ah6 ⟨_,by rw [HC.out];rfl,by rw [hz.1];exact hX,by rw [hz.2];exact hR,hO⟩
     clear hX hR hO e
     go_wp2
     go_roundw
     case rel=>exact ⟨1,by omega,by first | rfl | go_num,HS2.out⟩
     case measure=>simp [intOf]
    ·unfold gM at e
     rw [if_neg (by simpa using hb)] at e
     have r1:=rI s0 wr hR
     generalize dU s0 = q1 at *
     obtain ⟨y,t1⟩:=q1
     unfold tu at e
     simp only at e r1
     have hb1 : (m % 2 == 0) = false:=by simpa using hb
     have iw:=ah6 hX;have fJ:=ah6 hO
     have hy : x0 = y:=by cases e;rfl
     subst hy
     clear hX hR hO
     go_wp2_with fail
     refine r1.mono ?_;rintro e' w3 ⟨rfl,kK,hO3⟩
     have bq:=hO3.blk iw.out mR.out;have g0:=bq.cell 2;have k0:=bq.free 2;simp at g0;have fU:=ah6 (bq.set 2 (.int .i64 x0));have eP:=ah6 (kK.cZ (p:=⟨X,2,none⟩) (Ne.symm mR.out) vR (.int .i64 x0))
     have dX:=ah6 ((fJ.out.trans (hO3.weaken (T:=λk=>k = R \/ k = X) (λk _ hk=>.inl hk))).setCell (p:=⟨X,2,none⟩) (.inl (.inr rfl)) (.int .i64 x0))
     clear bq kK hO3 iw fJ r1
     by_cases hz : x0 = 0
     ·rw [if_pos hz] at e
      have hz' : s1 = fD 7 t1:=by cases e;rfl
      clear e
      subst hz
      have f1:=fl t1 7 (by decide) _ eP.out
      go_wp2_with fail
      refine f1.mono ?_;rintro e' w4 ⟨rfl,iJ,fK⟩
      have HS2 : Hid (jO w R X B0 c 1 w4):=ah6 ⟨_,by rw [HC.out];rfl,by simpa using fK.blk fU.out mR.out,by rw [hz'];exact iJ,dX.out.trans (fK.weaken (λk _ hk=>.inl hk))⟩
      clear iJ fK fU eP dX f1
      go_wp2
      go_roundw
      case rel=>exact ⟨1,by omega,by first | rfl | go_num,HS2.out⟩
      case measure=>simp [intOf]
     ·rw [if_neg hz] at e
      have hz' : s1 = t1:=by cases e;rfl
      have hz2 : (x0 == 0) = false:=by simpa using hz
      have HS2 : Hid (jO w R X B0 c 1 (w3.setCell ⟨X,2,none⟩ (.int .i64 x0))):=ah6 ⟨_,by rw [HC.out];rfl,by simpa using fU.out,by rw [hz'];exact eP.out,dX.out⟩
      clear fU eP dX e
      go_wp2
      go_roundw
      case rel=>exact ⟨1,by omega,by first | rfl | go_num,HS2.out⟩
      case measure=>simp [intOf]
   ·cases hq
    have e:=E1.out;have hX:=hX;have c0:=hX.cell 3;have f0:=hX.free 3;simp at c0
    by_cases hb : m / 2 % 2 = 0
    ·have hz : x1 = 0 /\ s2 = s1:=by
      unfold gM at e
      rw [if_pos (by simpa using hb)] at e
      cases e;exact ⟨rfl,rfl⟩
     have HS2 : Hid (jO w R X B0 c 2 wr):=ah6 ⟨_,by rw [HC.out];rfl,by rw [hz.1];exact hX,by rw [hz.2];exact hR,hO⟩
     clear hX hR hO e
     go_wp2
     go_roundw
     case rel=>exact ⟨2,by omega,by first | rfl | go_num,HS2.out⟩
     case measure=>simp [intOf]
    ·unfold gM at e
     rw [if_neg (by simpa using hb)] at e
     have r1:=rI s1 wr hR
     generalize dU s1 = q1 at *
     obtain ⟨y,t1⟩:=q1
     unfold tu at e
     simp only at e r1
     have hb1 : (m / 2 % 2 == 0) = false:=by simpa using hb
     have iw:=ah6 hX;have fJ:=ah6 hO
     have hy : x1 = y:=by cases e;rfl
     subst hy
     clear hX hR hO
     go_wp2_with fail
     refine r1.mono ?_;rintro e' w3 ⟨rfl,kK,hO3⟩
     have bq:=hO3.blk iw.out mR.out;have g0:=bq.cell 3;have k0:=bq.free 3;simp at g0;have fU:=ah6 (bq.set 3 (.int .i64 x1));have eP:=ah6 (kK.cZ (p:=⟨X,3,none⟩) (Ne.symm mR.out) vR (.int .i64 x1))
     have dX:=ah6 ((fJ.out.trans (hO3.weaken (T:=λk=>k = R \/ k = X) (λk _ hk=>.inl hk))).setCell (p:=⟨X,3,none⟩) (.inl (.inr rfl)) (.int .i64 x1))
     clear bq kK hO3 iw fJ r1
     by_cases hz : x1 = 0
     ·rw [if_pos hz] at e
      have hz' : s2 = fD 7 t1:=by cases e;rfl
      clear e
      subst hz
      have f1:=fl t1 7 (by decide) _ eP.out
      go_wp2_with fail
      refine f1.mono ?_;rintro e' w4 ⟨rfl,iJ,fK⟩
      have HS2 : Hid (jO w R X B0 c 2 w4):=ah6 ⟨_,by rw [HC.out];rfl,by simpa using fK.blk fU.out mR.out,by rw [hz'];exact iJ,dX.out.trans (fK.weaken (λk _ hk=>.inl hk))⟩
      clear iJ fK fU eP dX f1
      go_wp2
      go_roundw
      case rel=>exact ⟨2,by omega,by first | rfl | go_num,HS2.out⟩
      case measure=>simp [intOf]
     ·rw [if_neg hz] at e
      have hz' : s2 = t1:=by cases e;rfl
      have hz2 : (x1 == 0) = false:=by simpa using hz
      have HS2 : Hid (jO w R X B0 c 2 (w3.setCell ⟨X,3,none⟩ (.int .i64 x1))):=ah6 ⟨_,by rw [HC.out];rfl,by simpa using fU.out,by rw [hz'];exact eP.out,dX.out⟩
      clear fU eP dX e
      go_wp2
      go_roundw
      case rel=>exact ⟨2,by omega,by first | rfl | go_num,HS2.out⟩
      case measure=>simp [intOf]
   ·cases hq
    have e:=E2.out;have hX:=hX;have c0:=hX.cell 4;have f0:=hX.free 4;simp at c0
    by_cases hb : m / 4 % 2 = 0
    ·have hz : x2 = 0 /\ s3 = s2:=by
      unfold gM at e
      rw [if_pos (by simpa using hb)] at e
      cases e;exact ⟨rfl,rfl⟩
     have HS2 : Hid (jO w R X B0 c 3 wr):=ah6 ⟨_,by rw [HC.out];rfl,by rw [hz.1];exact hX,by rw [hz.2];exact hR,hO⟩
     clear hX hR hO e
     go_wp2
     go_roundw
     case rel=>exact ⟨3,by omega,by first | rfl | go_num,HS2.out⟩
     case measure=>simp [intOf]
    ·unfold gM at e
     rw [if_neg (by simpa using hb)] at e
     have r1:=rI s2 wr hR
     generalize dU s2 = q1 at *
     obtain ⟨y,t1⟩:=q1
     unfold tu at e
     simp only at e r1
     have hb1 : (m / 4 % 2 == 0) = false:=by simpa using hb
     have iw:=ah6 hX;have fJ:=ah6 hO
     have hy : x2 = y:=by cases e;rfl
     subst hy
     clear hX hR hO
     go_wp2_with fail
     refine r1.mono ?_;rintro e' w3 ⟨rfl,kK,hO3⟩
     have bq:=hO3.blk iw.out mR.out;have g0:=bq.cell 4;have k0:=bq.free 4;simp at g0;have fU:=ah6 (bq.set 4 (.int .i64 x2));have eP:=ah6 (kK.cZ (p:=⟨X,4,none⟩) (Ne.symm mR.out) vR (.int .i64 x2))
     have dX:=ah6 ((fJ.out.trans (hO3.weaken (T:=λk=>k = R \/ k = X) (λk _ hk=>.inl hk))).setCell (p:=⟨X,4,none⟩) (.inl (.inr rfl)) (.int .i64 x2))
     clear bq kK hO3 iw fJ r1
     by_cases hz : x2 = 0
     ·rw [if_pos hz] at e
      have hz' : s3 = fD 7 t1:=by cases e;rfl
      clear e
      subst hz
      have f1:=fl t1 7 (by decide) _ eP.out
      go_wp2_with fail
      refine f1.mono ?_;rintro e' w4 ⟨rfl,iJ,fK⟩
      have HS2 : Hid (jO w R X B0 c 3 w4):=ah6 ⟨_,by rw [HC.out];rfl,by simpa using fK.blk fU.out mR.out,by rw [hz'];exact iJ,dX.out.trans (fK.weaken (λk _ hk=>.inl hk))⟩
      clear iJ fK fU eP dX f1
      go_wp2
      go_roundw
      case rel=>exact ⟨3,by omega,by first | rfl | go_num,HS2.out⟩
      case measure=>simp [intOf]
     ·rw [if_neg hz] at e
      have hz' : s3 = t1:=by cases e;rfl
      have hz2 : (x2 == 0) = false:=by simpa using hz
      have HS2 : Hid (jO w R X B0 c 3 (w3.setCell ⟨X,4,none⟩ (.int .i64 x2))):=ah6 ⟨_,by rw [HC.out];rfl,by simpa using fU.out,by rw [hz'];exact eP.out,dX.out⟩
      clear fU eP dX e
      go_wp2
      go_roundw
      case rel=>exact ⟨3,by omega,by first | rfl | go_num,HS2.out⟩
      case measure=>simp [intOf]
   ·cases hq
    have e:=E3.out;have hX:=hX;have c0:=hX.cell 5;have f0:=hX.free 5;simp at c0
    by_cases hb : m / 8 % 2 = 0
    ·have hz : x3 = 0 /\ s4 = s3:=by
      unfold gM at e
      rw [if_pos (by simpa using hb)] at e
      cases e;exact ⟨rfl,rfl⟩
     have HS2 : Hid (jO w R X B0 c 4 wr):=ah6 ⟨_,by rw [HC.out];rfl,by rw [hz.1];exact hX,by rw [hz.2];exact hR,hO⟩
     clear hX hR hO e
     go_wp2
     go_roundw
     case rel=>exact ⟨4,by omega,by first | rfl | go_num,HS2.out⟩
     case measure=>simp [intOf]
    ·unfold gM at e
     rw [if_neg (by simpa using hb)] at e
     have r1:=rI s3 wr hR
     generalize dU s3 = q1 at *
     obtain ⟨y,t1⟩:=q1
     unfold tu at e
     simp only at e r1
     have hb1 : (m / 8 % 2 == 0) = false:=by simpa using hb
     have iw:=ah6 hX;have fJ:=ah6 hO
     have hy : x3 = y:=by cases e;rfl
     subst hy
     clear hX hR hO
     go_wp2_with fail
     refine r1.mono ?_;rintro e' w3 ⟨rfl,kK,hO3⟩
     have bq:=hO3.blk iw.out mR.out;have g0:=bq.cell 5;have k0:=bq.free 5;simp at g0;have fU:=ah6 (bq.set 5 (.int .i64 x3));have eP:=ah6 (kK.cZ (p:=⟨X,5,none⟩) (Ne.symm mR.out) vR (.int .i64 x3))
     have dX:=ah6 ((fJ.out.trans (hO3.weaken (T:=λk=>k = R \/ k = X) (λk _ hk=>.inl hk))).setCell (p:=⟨X,5,none⟩) (.inl (.inr rfl)) (.int .i64 x3))
     clear bq kK hO3 iw fJ r1
     by_cases hz : x3 = 0
     ·rw [if_pos hz] at e
      have hz' : s4 = fD 7 t1:=by cases e;rfl
      clear e
      subst hz
      have f1:=fl t1 7 (by decide) _ eP.out
      go_wp2_with fail
      refine f1.mono ?_;rintro e' w4 ⟨rfl,iJ,fK⟩
      have HS2 : Hid (jO w R X B0 c 4 w4):=ah6 ⟨_,by rw [HC.out];rfl,by simpa using fK.blk fU.out mR.out,by rw [hz'];exact iJ,dX.out.trans (fK.weaken (λk _ hk=>.inl hk))⟩
      clear iJ fK fU eP dX f1
      go_wp2
      go_roundw
      case rel=>exact ⟨4,by omega,by first | rfl | go_num,HS2.out⟩
      case measure=>simp [intOf]
     ·rw [if_neg hz] at e
      have hz' : s4 = t1:=by cases e;rfl
      have hz2 : (x3 == 0) = false:=by simpa using hz
      have HS2 : Hid (jO w R X B0 c 4 (w3.setCell ⟨X,5,none⟩ (.int .i64 x3))):=ah6 ⟨_,by rw [HC.out];rfl,by simpa using fU.out,by rw [hz'];exact eP.out,dX.out⟩
      clear fU eP dX e
      go_wp2
      go_roundw
      case rel=>exact ⟨4,by omega,by first | rfl | go_num,HS2.out⟩
      case measure=>simp [intOf]
   ·cases hq
    have e:=E4.out;have hX:=hX;have c0:=hX.cell 6;have f0:=hX.free 6;simp at c0
    by_cases hb : m / 16 % 2 = 0
    ·have hz : x4 = 0 /\ s5 = s4:=by
      unfold gM at e
      rw [if_pos (by simpa using hb)] at e
      cases e;exact ⟨rfl,rfl⟩
     have HS2 : Hid (jO w R X B0 c 5 wr):=ah6 ⟨_,by rw [HC.out];rfl,by rw [hz.1];exact hX,by rw [hz.2];exact hR,hO⟩
     clear hX hR hO e
     go_wp2
     go_roundw
     case rel=>exact ⟨5,by omega,by first | rfl | go_num,HS2.out⟩
     case measure=>simp [intOf]
    ·unfold gM at e
     rw [if_neg (by simpa using hb)] at e
     have r1:=rI s4 wr hR
     generalize dU s4 = q1 at *
     obtain ⟨y,t1⟩:=q1
     unfold tu at e
     simp only at e r1
     have hb1 : (m / 16 % 2 == 0) = false:=by simpa using hb
     have iw:=ah6 hX;have fJ:=ah6 hO
     have hy : x4 = y:=by cases e;rfl
     subst hy
     clear hX hR hO
     go_wp2_with fail
     refine r1.mono ?_;rintro e' w3 ⟨rfl,kK,hO3⟩
     have bq:=hO3.blk iw.out mR.out;have g0:=bq.cell 6;have k0:=bq.free 6;simp at g0;have fU:=ah6 (bq.set 6 (.int .i64 x4));have eP:=ah6 (kK.cZ (p:=⟨X,6,none⟩) (Ne.symm mR.out) vR (.int .i64 x4))
     have dX:=ah6 ((fJ.out.trans (hO3.weaken (T:=λk=>k = R \/ k = X) (λk _ hk=>.inl hk))).setCell (p:=⟨X,6,none⟩) (.inl (.inr rfl)) (.int .i64 x4))
     clear bq kK hO3 iw fJ r1
     by_cases hz : x4 = 0
     ·rw [if_pos hz] at e
      have hz' : s5 = fD 7 t1:=by cases e;rfl
      clear e
      subst hz
      have f1:=fl t1 7 (by decide) _ eP.out
      go_wp2_with fail
      refine f1.mono ?_;rintro e' w4 ⟨rfl,iJ,fK⟩
      have HS2 : Hid (jO w R X B0 c 5 w4):=ah6 ⟨_,by rw [HC.out];rfl,by simpa using fK.blk fU.out mR.out,by rw [hz'];exact iJ,dX.out.trans (fK.weaken (λk _ hk=>.inl hk))⟩
      clear iJ fK fU eP dX f1
      go_wp2
      go_roundw
      case rel=>exact ⟨5,by omega,by first | rfl | go_num,HS2.out⟩
      case measure=>simp [intOf]
     ·rw [if_neg hz] at e
      have hz' : s5 = t1:=by cases e;rfl
      have hz2 : (x4 == 0) = false:=by simpa using hz
      have HS2 : Hid (jO w R X B0 c 5 (w3.setCell ⟨X,6,none⟩ (.int .i64 x4))):=ah6 ⟨_,by rw [HC.out];rfl,by simpa using fU.out,by rw [hz'];exact eP.out,dX.out⟩
      clear fU eP dX e
      go_wp2
      go_roundw
      case rel=>exact ⟨5,by omega,by first | rfl | go_num,HS2.out⟩
      case measure=>simp [intOf]
   ·cases hq
    have e:=E5.out;have hX:=hX;have c0:=hX.cell 7;have f0:=hX.free 7;simp at c0
    by_cases hb : m / 32 % 2 = 0
    ·have hz : x5 = 0 /\ s6 = s5:=by
      unfold gM at e
      rw [if_pos (by simpa using hb)] at e
      cases e;exact ⟨rfl,rfl⟩
     have HS2 : Hid (jO w R X B0 c 6 wr):=ah6 ⟨_,by rw [HC.out];rfl,by rw [hz.1];exact hX,by rw [hz.2];exact hR,hO⟩
     clear hX hR hO e
     go_wp2
     go_roundw
     case rel=>exact ⟨6,by omega,by first | rfl | go_num,HS2.out⟩
     case measure=>simp [intOf]
    ·unfold gM at e
     rw [if_neg (by simpa using hb)] at e
     have r1:=rI s5 wr hR
     generalize dU s5 = q1 at *
     obtain ⟨y,t1⟩:=q1
     unfold tu at e
     simp only at e r1
     have hb1 : (m / 32 % 2 == 0) = false:=by simpa using hb
     have iw:=ah6 hX;have fJ:=ah6 hO
     have hy : x5 = y:=by cases e;rfl
     subst hy
     clear hX hR hO
     go_wp2_with fail
     refine r1.mono ?_;rintro e' w3 ⟨rfl,kK,hO3⟩
     have bq:=hO3.blk iw.out mR.out;have g0:=bq.cell 7;have k0:=bq.free 7;simp at g0;have fU:=ah6 (bq.set 7 (.int .i64 x5));have eP:=ah6 (kK.cZ (p:=⟨X,7,none⟩) (Ne.symm mR.out) vR (.int .i64 x5))
     have dX:=ah6 ((fJ.out.trans (hO3.weaken (T:=λk=>k = R \/ k = X) (λk _ hk=>.inl hk))).setCell (p:=⟨X,7,none⟩) (.inl (.inr rfl)) (.int .i64 x5))
     clear bq kK hO3 iw fJ r1
     by_cases hz : x5 = 0
     ·rw [if_pos hz] at e
      have hz' : s6 = fD 7 t1:=by cases e;rfl
      clear e
      subst hz
      have f1:=fl t1 7 (by decide) _ eP.out
      go_wp2_with fail
      refine f1.mono ?_;rintro e' w4 ⟨rfl,iJ,fK⟩
      have HS2 : Hid (jO w R X B0 c 6 w4):=ah6 ⟨_,by rw [HC.out];rfl,by simpa using fK.blk fU.out mR.out,by rw [hz'];exact iJ,dX.out.trans (fK.weaken (λk _ hk=>.inl hk))⟩
      clear iJ fK fU eP dX f1
      go_wp2
      go_roundw
      case rel=>exact ⟨6,by omega,by first | rfl | go_num,HS2.out⟩
      case measure=>simp [intOf]
     ·rw [if_neg hz] at e
      have hz' : s6 = t1:=by cases e;rfl
      have hz2 : (x5 == 0) = false:=by simpa using hz
      have HS2 : Hid (jO w R X B0 c 6 (w3.setCell ⟨X,7,none⟩ (.int .i64 x5))):=ah6 ⟨_,by rw [HC.out];rfl,by simpa using fU.out,by rw [hz'];exact eP.out,dX.out⟩
      clear fU eP dX e
      go_wp2
      go_roundw
      case rel=>exact ⟨6,by omega,by first | rfl | go_num,HS2.out⟩
      case measure=>simp [intOf]
   ·cases hq
    have e:=E6.out;have a6:=qp.out;have c0:=hX.cell 8;have f0:=hX.free 8;simp at c0
    by_cases hb : m / 64 % 2 = 0
    ·have hz : an = 0 /\ s7 = s6:=by
      unfold rT at e
      rw [if_pos hb] at e
      cases e;exact ⟨rfl,rfl⟩
     have a7 : bits .and .u8 m 64 = 0:=by omega
     have fU:=ah6 hX;have eP:=ah6 hR;have dX:=ah6 hO;clear hX hR hO e a6
     obtain ⟨hz1,hz2⟩:=hz
     subst hz1
     subst hz2
     go_wp2
     exact bodyPost_end (v:=.tuple #[]) (by simp [results,Tryz.results157,go_sem]) rfl ⟨rfl,eP.out,by simpa [aW] using fU.out,dX.out⟩
    ·unfold rT at e
     rw [if_neg hb] at e
     have r1:=sW (B0:=B0) R s6 65535 wr hR
     have ub:=je (most:=65535) hR.u8 (by decide)
     generalize aZ 65535 s6 = q1 at *
     obtain ⟨y,t1⟩:=q1
     unfold tu at e
     simp only at e r1 ub
     have a7 : bits .and .u8 m 64 = 64:=by omega
     have iw:=ah6 hX;have fJ:=ah6 hO
     have hy : an = y:=by cases e;rfl
     subst hy
     have hwr : IntKind.u16.wrap an = an:=wraps_u16 _ (by omega) (by omega)
     clear hX hR hO a6
     go_wp2_with fail
     refine r1.mono ?_;rintro e' w3 ⟨rfl,kK,hO3⟩
     have bq:=hO3.blk iw.out mR.out;have g0:=bq.cell 8;have k0:=bq.free 8;simp at g0;have fU:=ah6 (bq.set 8 (.int .u16 an));have eP:=ah6 (kK.cZ (p:=⟨X,8,none⟩) (Ne.symm mR.out) vR (.int .u16 an))
     have dX:=ah6 ((fJ.out.trans (hO3.weaken (T:=λk=>k = R \/ k = X) (λk _ hk=>.inl hk))).setCell (p:=⟨X,8,none⟩) (.inl (.inr rfl)) (.int .u16 an))
     clear bq kK hO3 iw fJ r1
     by_cases hz : an = 0
     ·rw [if_pos hz] at e
      have hz' : s7 = fD 7 t1:=by cases e;rfl
      clear e
      subst hz
      have f1:=fl t1 7 (by decide) _ eP.out
      go_wp2_with fail
      refine f1.mono ?_;rintro e' w4 ⟨rfl,iJ,fK⟩
      have uR:=ah6 (fK.blk fU.out mR.out)
      have sK:=ah6 (dX.out.trans (fK.weaken (T:=λk=>k = R \/ k = X) (λk _ hk=>.inl hk)))
      clear fK fU eP dX f1
      go_wp2
      exact bodyPost_end (v:=.tuple #[]) (by simp [results,Tryz.results157,go_sem]) rfl ⟨rfl,by rw [hz'];exact iJ,by simpa [aW] using uR.out,sK.out⟩
     ·rw [if_neg hz] at e
      have hz' : s7 = t1:=by cases e;rfl
      have hz2 : (an == 0) = false:=by simpa using hz
      clear e
      go_wp2
      exact bodyPost_end (v:=.tuple #[]) (by simp [results,Tryz.results157,go_sem]) rfl ⟨rfl,by rw [hz'];exact eP.out,by simpa [aW] using fU.out,dX.out⟩
set_option maxRecDepth 8000
theorem mF {w : World} {b : Nat} {t : TypeId} {o0 v0 o1 v1 o2 v2 o3 v3 o4 v4 o5 v5 o6 v6 o7 v7 o8 v8 : Value} (h : ak w b #[o0,o1,o2,o3,o4,o5,o6,o7,o8] t) : ak (((((((((w.setCell ⟨b,0,none⟩ v0).setCell ⟨b,1,none⟩ v1).setCell ⟨b,2,none⟩ v2).setCell ⟨b,3,none⟩ v3).setCell ⟨b,4,none⟩ v4).setCell ⟨b,5,none⟩ v5).setCell ⟨b,6,none⟩ v6).setCell ⟨b,7,none⟩ v7).setCell ⟨b,8,none⟩ v8) b #[v0,v1,v2,v3,v4,v5,v6,v7,v8] t:=by
 simpa using (((((((((h.set 0 v0).set 1 v1).set 2 v2).set 3 v3).set 4 v4).set 5 v5).set 6 v6).set 7 v7).set 8 v8)
theorem pO {S : Nat -> Prop} {w0 w : World} {b : Nat} {v0 v1 v2 v3 v4 v5 v6 v7 v8 : Value} (h : Only S w0 w) (hb : S b \/ w0.heap.size <= b) : Only S w0 (((((((((w.setCell ⟨b,0,none⟩ v0).setCell ⟨b,1,none⟩ v1).setCell ⟨b,2,none⟩ v2).setCell ⟨b,3,none⟩ v3).setCell ⟨b,4,none⟩ v4).setCell ⟨b,5,none⟩ v5).setCell ⟨b,6,none⟩ v6).setCell ⟨b,7,none⟩ v7).setCell ⟨b,8,none⟩ v8) :=
 (((((((((h.setCell (p:=⟨b,0,none⟩) hb v0).setCell (p:=⟨b,1,none⟩) hb v1).setCell (p:=⟨b,2,none⟩) hb v2).setCell (p:=⟨b,3,none⟩) hb v3).setCell (p:=⟨b,4,none⟩) hb v4).setCell (p:=⟨b,5,none⟩) hb v5).setCell (p:=⟨b,6,none⟩) hb v6).setCell (p:=⟨b,7,none⟩) hb v7).setCell (p:=⟨b,8,none⟩) hb v8)
theorem rW {B0 R : Nat} {s : aH} {w : World} {b : Nat} {v0 v1 v2 v3 v4 v5 v6 v7 v8 : Value} (h : bf w R B0 s) (hR : R ≠ b) (hB : B0 <= b) : bf (((((((((w.setCell ⟨b,0,none⟩ v0).setCell ⟨b,1,none⟩ v1).setCell ⟨b,2,none⟩ v2).setCell ⟨b,3,none⟩ v3).setCell ⟨b,4,none⟩ v4).setCell ⟨b,5,none⟩ v5).setCell ⟨b,6,none⟩ v6).setCell ⟨b,7,none⟩ v7).setCell ⟨b,8,none⟩ v8) R B0 s :=
 (((((((((h.cZ (p:=⟨b,0,none⟩) hR hB v0).cZ (p:=⟨b,1,none⟩) hR hB v1).cZ (p:=⟨b,2,none⟩) hR hB v2).cZ (p:=⟨b,3,none⟩) hR hB v3).cZ (p:=⟨b,4,none⟩) hR hB v4).cZ (p:=⟨b,5,none⟩) hR hB v5).cZ (p:=⟨b,6,none⟩) hR hB v6).cZ (p:=⟨b,7,none⟩) hR hB v7).cZ (p:=⟨b,8,none⟩) hR hB v8)
theorem TV {B0 : Nat} (R : Nat) (s : aH) (last : Int) (hl : last = 65535) (w : World) (h : bf w R B0 s) (hB0 : B0 <= w.heap.size) :
 Calls Tryz.prog 197 #[.pointer (some ⟨R,0,none⟩),.int .i64 last] w λe w'=>e = .returned (.tuple #[lS (dM last s).1,.int .i64 (dM last s).2.1]) /\ bf w' R B0 (dM last s).2.2 /\ Only (· = R) w w':=by
 unfold dM
 rw [if_pos hl]
 have l1 : ¬ last < -1:=by omega
 have l2 : ¬ 65535 < last:=by omega
 have l3 : (last == 65535) = true:=by simpa using hl
 clear hl
 have hR0 : bf (w.alloc (.cells #[.int .i64 0,.int .i64 0,.int .i64 0,.int .i64 0,.int .i64 0,.int .i64 0,.int .i64 0,.int .i64 0,.int .u16 0] 147)) R B0 s:=h.below (ah7)
 have mG:=ak.new w #[.int .i64 0,.int .i64 0,.int .i64 0,.int .i64 0,.int .i64 0,.int .i64 0,.int .i64 0,.int .i64 0,.int .u16 0] 147;have Pj:=(Only.refl (· = R) w).alloc (.cells #[.int .i64 0,.int .i64 0,.int .i64 0,.int .i64 0,.int .i64 0,.int .i64 0,.int .i64 0,.int .i64 0,.int .u16 0] 147)
 have fl:=yM (B0:=B0) R s 10 (by decide) _ hR0
 rw [show ((s.1,if s.2 = 0 then 10 else s.2) : aH) = fD 10 s from rfl] at fl
 generalize fD 10 s = st at *
 have uS:=ah6 mG;have HO0:=ah6 Pj
 have er:=λs w h=>yL (B0:=B0) R s w h
 have hne : ¬ w.heap.size = R:=by have:=h.lt;omega
 have oK:=ah6 hne;clear hR0 mG Pj h
 unfold lS FZ
 go_enter Tryz.func197,Tryz.ntmps197
 go_wp2_with fail
 refine fl.mono ?_;rintro e w1 ⟨rfl,oh,mU⟩
 have hA1:=mU.blk uS.out oK.out;have e1:=er _ w1 oh;have HR1:=ah6 oh;have HA1:=ah6 hA1;have oJ:=ah6 (HO0.out.trans mU);clear oh hA1 mU fl er hne
 go_wp2_with fail
 refine e1.mono ?_;rintro e w2 ⟨rfl,rfl⟩
 have hA1:=HA1.out;have c0:=hA1.cell 0;have c1:=hA1.cell 1;have c2:=hA1.cell 2;have c3:=hA1.cell 3;have c4:=hA1.cell 4;have c5:=hA1.cell 5;have c6:=hA1.cell 6;have c7:=hA1.cell 7;have c8:=hA1.cell 8;have f0:=hA1.free 0;have f1:=hA1.free 1;have f2:=hA1.free 2;have f3:=hA1.free 3;have f4:=hA1.free 4;have f5:=hA1.free 5;have f6:=hA1.free 6;have f7:=hA1.free 7;have f8:=hA1.free 8;simp at c0 c1 c2 c3 c4 c5 c6 c7 c8;clear e1 hA1
 go_wp2
 exact bodyPost_ret (v:=.tuple #[.agg #[.int .i64 0,.int .i64 0,.int .i64 0,.int .i64 0,.int .i64 0,.int .i64 0,.int .i64 0,.int .i64 0,.int .u16 0],.int .i64 st.2])
  (by have hh:=mF (v0:=.int .i64 0) (v1:=.int .i64 0) (v2:=.int .i64 0) (v3:=.int .i64 0) (v4:=.int .i64 0) (v5:=.int .i64 0) (v6:=.int .i64 0) (v7:=.int .i64 0) (v8:=.int .u16 0) HA1.out
      have g0:=hh.cell 0;have g1:=hh.cell 1;have g2:=hh.cell 2;have g3:=hh.cell 3;have g4:=hh.cell 4;have g5:=hh.cell 5;have g6:=hh.cell 6;have g7:=hh.cell 7;have g8:=hh.cell 8;simp at g0 g1 g2 g3 g4 g5 g6 g7 g8
      simp [results,Tryz.results197,go_sem,g0,g1,g2,g3,g4,g5,g6,g7,g8]) rfl
  ⟨rfl,rW HR1.out (Ne.symm oK.out) hB0,pO oJ.out (.inr (Nat.le_refl _))⟩
set_option maxRecDepth 8000
def aJ (ns : List Int) : Nat -> Int
 | 0=>0
 | k + 1=>aJ ns k + (if ns.getD k 0 ≠ 0 then 2 ^ k else 0)
def bS (ns : List Int) : Nat -> List Int
 | 0=>[]
 | k + 1=>bS ns k ++ (if ns.getD k 0 ≠ 0 then zb (ns.getD k 0) else [])
theorem QE (ns : List Int) : ∀ k,0 <= aJ ns k /\ aJ ns k < 2 ^ k
 | 0=>⟨Int.le_refl _,by simp [aJ]⟩
 | k + 1=>by
   have h:=QE ns k
   rw [aJ,Int.pow_succ]
   have hp : (0 : Int) < 2 ^ k:=Int.pow_pos (by decide)
   split <;> omega
theorem QF (ns : List Int) : ∀ k,k <= ns.length -> bS ns k = nb ((ns.take k).filter (· ≠ 0))
 | 0,_=>by simp [bS,nb]
 | k + 1,h=>by
   rw [bS,QF ns k (by omega),List.take_add_one,List.filter_append]
   have hk : ns[k]? = some ns[k]:=List.getElem?_eq_getElem (by omega)
   have hd : ns.getD k 0 = ns[k]:=by simp [List.getD,hk]
   rw [hd,hk]
   simp only [Option.toList_some]
   by_cases h0 : ns[k] = 0
   ·simp [h0,nb]
   ·simp [h0,nb]
theorem Ma (ns : List Int) (hn : ∀ n ∈ ns,ay n) : ∀ k,(bS ns k).length <= 10 * k
 | 0=>by simp [bS]
 | k + 1=>by
   have h:=Ma ns hn k
   rw [bS,List.length_append]
   split
   ·have : ay (ns.getD k 0):=by
     unfold List.getD
     cases hx : ns[k]? with
     | none=>exact ⟨by decide,by decide⟩
     | some x=>exact hn x (List.mem_of_getElem? hx)
    have:=Qz this
    omega
   ·simp;omega
theorem or_bit {m : Int} {k : Nat} (hk : k <= 7) (h0 : 0 <= m) (h1 : m < 2 ^ k) : bits .or .u8 m (2 ^ k) = m + 2 ^ k:=by
 have hp : (2 : Int) ^ k <= 128:=by
  have : ∀ j : Fin 8,(2 : Int) ^ j.val <= 128:=by decide +kernel
  exact this ⟨k,by omega⟩
 exact bits_join_low .u8 8 (by decide) wraps_u8 k m (2 ^ k) h0 h1 (by omega) (by omega) (by simp) (by omega)
theorem aX.elem {w : World} {base : Nat} {v : Value} {zs : List Int} (h : aX w base v zs) {i : Nat} {z : Int} (hi : zs[i]? = some z) :
 ∃ g c L,v = .slice (some ⟨g,0,none⟩) L c /\ L = zs.length /\ L <= c /\ base <= g /\ w.cell? ⟨g,i,none⟩ = some (.int .u8 z) /\ w.frozen? ⟨g,i,none⟩ = false /\
  ∀ x,U8 x -> aX (w.setCell ⟨g,i,none⟩ (.int .u8 x)) base v (zs.set i x):=by
 obtain ⟨⟨h1,h2⟩,h3⟩:=h
 have hil : i < zs.length:=(List.getElem?_eq_some_iff.1 hi).1
 rcases h2 with ⟨_,h2⟩ | ⟨g,c,cur,rfl,hb,hh,hc,hm,hs,ht⟩
 ·omega
 ·have hB : ak w g cur 5:=hh
  have hci : cur[i]? = some (.int .u8 z):=by
   have h4 : (cur.toList.take (zs.length * 1))[i]? = some (.int .u8 z):=by rw [ht];simp [hi]
   rw [List.getElem?_take] at h4
   split at h4
   ·simpa using h4
   ·cases h4
  refine ⟨g,c,zs.length,rfl,rfl,hc,hb,by rw [hB.cell i,hci],hB.free i,λx hx=>⟨⟨by simp,.inr ⟨g,c,cur.setIfInBounds i (.int .u8 x),by rw [List.length_set],hb,hB.set i _,by rw [List.length_set];exact hc,hm,by simp [hs],?_⟩⟩,?_⟩⟩
  ·rw [List.length_set,Array.toList_setIfInBounds,List.take_set,ht,List.map_set]
  ·intro y hy
   rcases List.mem_or_eq_of_mem_set hy with h5 | rfl
   ·exact h3 y h5
   ·exact hx
def om (w : World) (base X : Nat) (r : Rec) (zs : List Int) (k : Nat) (v : Value) (wr : World) : Prop :=
 aX wr base v (zs ++ aJ (aj r) k :: bS (aj r) k) /\ ak wr X (aW r) 147 /\ Below base w wr
set_option maxHeartbeats 4000000 in
theorem Le (v : Value) (zs : List Int) (X : Nat) (r : Rec) (hr : r.Ok) (base : Nat) (w : World) (hz : aX w base v zs) (hX : ak w X (aW r) 147) (xD : X < base) (hl : (zs.length : Int) <= 140737488354000) (hb : base <= w.heap.size) :
 Calls Tryz.prog 156 #[v,.pointer (some ⟨X,0,none⟩)] w λe w'=>∃ v',e = .returned v' /\ aX w' base v' (zs ++ vo r) /\ Below base w w':=by
 have nf:=λw=>EF X w
 unfold ptrs at nf
 have hns : ∀ n ∈ aj r,ay n:=by intro n hn;simp [aj] at hn;rcases hn with h | h | h | h | h | h <;> subst h;exact hr.px;exact hr.py;exact hr.pz;exact hr.vx;exact hr.vy;exact hr.vz
 have EJ : Hid (∀ k,(bS (aj r) k).length <= 10 * k):=ah6 (Ma _ hns)
 have A9 : Hid (∀ k,0 <= aJ (aj r) k /\ aJ (aj r) k < 2 ^ k):=ah6 (QE _)
 have ha:=hr.aI
 have hu : iq r.aI:=⟨by omega,by omega⟩
 have hln:=dK hu
 rw [← dZ] at hln
 have HS : Hid (vo r = (if r.aI ≠ 0 then aJ (aj r) 6 + 64 else aJ (aj r) 6) :: (bS (aj r) 6 ++ (if r.aI ≠ 0 then aD r.aI else []))):=ah6 (by
  unfold vo
  rw [QF _ 6 (by simp [aj])]
  have hm : Ny r = (if r.aI ≠ 0 then aJ (aj r) 6 + 64 else aJ (aj r) 6):=by
   unfold Ny
   simp only [aJ,aj,List.getD_cons_zero,List.getD_cons_succ]
   split <;> simp <;> omega
  rw [hm]
  simp [aj])
 have hlen:=hz.bytes
 obtain ⟨az,cz,rfl,hzb,hzc⟩:=hlen
 have HZ:=ah6 hz;have HX:=ah6 hX;have HR:=ah6 hr
 have hB0 : Below base w (w.alloc (.cells #[.int .u8 0] 5)):=ah8.alloc hb _
 have HZ1:=ah6 (hz.below (ah8.alloc (Nat.le_refl _) (.cells #[.int .u8 0] 5)));have HB0:=ah6 hB0
 have hin:=DI w [0] (aT.one ⟨by decide,by decide⟩)
 have HXL:=ah6 hX.lt;clear hz hX hr hzb hzc hns hB0
 go_enter Tryz.func156,Tryz.ntmps156
 go_wp2_with (at_builtin;refine bF _ rfl (.tmp 10) (.tmp 11) rfl base _ zs rfl HZ1.out (some ⟨w.heap.size,0,none⟩) 1 1 [0] rfl hin (by intro h;cases h) (by omega) (by simp;omega) ?_)
 intro v1 w1 ho1 hg1
 have oJ:=ah6 ho1
 have hB1 : Below base w w1:=HB0.out.grown hg1 (by simp;omega) (λj e=>(HZ1.out.lt j e).1)
 have HB1:=ah6 hB1;clear ho1 hg1 hin
 go_wp2_with fail
 refine (nf _).mono ?_;rintro e w2 ⟨rfl,hb2⟩
 have hs1:=hB1.size
 have HSt : Hid (om w base X r zs 0 v1 w2):=ah6 ⟨by simpa [aJ,bS] using oJ.out.below hb2,(HX.out.below hB1 xD).below hb2 (by omega),hB1.trans (hb2.mono (by omega))⟩
 clear hb2 nf hB1
 go_wp2_with fail
 go_loopw [0,15] (λv i wr=>∃ k : Nat,k <= 6 /\ i = .int .i64 k /\ om w base X r zs k v wr) (λ_ i _=>6 - (intOf i).toNat)
 case atStart=>exact ⟨0,by omega,rfl,HSt.out⟩
 case round =>
  rename_i wr
  obtain ⟨k,hk,rfl,hO,hX,hB⟩:=hrel
  have hbs : base <= wr.heap.size:=Nat.le_trans hb hB.size
  have HB:=ah6 hB;have HX:=ah6 hX;have HO:=ah6 hO
  rcases (show k = 0 \/ k = 1 \/ k = 2 \/ k = 3 \/ k = 4 \/ k = 5 \/ k = 6 by omega) with rfl | rfl | rfl | rfl | rfl | rfl | rfl
  ·have c0:=hX.cell 2
   simp at c0
   have mI : Hid (aJ (aj r) 1 = aJ (aj r) 0 + (if r.px ≠ 0 then 1 else 0)):=ah6 rfl
   have oL : Hid (bS (aj r) 1 = bS (aj r) 0 ++ (if r.px ≠ 0 then zb r.px else [])):=ah6 rfl
   have hI:=HR.out.px
   obtain ⟨g,c,L,rfl,qw,hcl,hgb,hc,hf,hset⟩:=hO.elem (i:=zs.length) (z:=aJ (aj r) 0) (by simp)
   have hm : 0 <= aJ (aj r) 0 /\ aJ (aj r) 0 < 1:=A9.out 0
   have hor : bits .or .u8 (aJ (aj r) 0) 1 = aJ (aj r) 0 + 1:=or_bit (k:=0) (by decide) hm.1 hm.2
   have hset':=hset (aJ (aj r) 0 + 1) ⟨by omega,by omega⟩
   have hyl:=EJ.out 0
   rw [show (zs ++ aJ (aj r) 0 :: bS (aj r) 0).set zs.length (aJ (aj r) 0 + 1) = zs ++ (aJ (aj r) 0 + 1) :: bS (aj r) 0 by rw [List.set_append_right _ _ (Nat.le_refl _),Nat.sub_self];rfl] at hset'
   generalize hnn : r.px = n at *
   have za:=ah6 hnn;clear hnn
   by_cases hn : n = 0
   ·subst hn
    have HS2 : Hid (om w base X r zs 1 _ wr):=ah6 ⟨by rw [mI.out,oL.out,if_neg (by simp),if_neg (by simp),Int.add_zero,List.append_nil];exact HO.out,HX.out,HB.out⟩
    clear hX hO hB HO hset hset' hc hf hor
    go_wp2
    go_roundw
    case rel=>exact ⟨1,by omega,by first | rfl | go_num,HS2.out⟩
    case measure=>simp [intOf]
   ·have hn2 : (n != 0) = true:=by simpa using hn
    have vV : Hid (aJ (aj r) 1 = aJ (aj r) 0 + 1):=ah6 (by rw [mI.out,if_pos hn])
    have vW : Hid (bS (aj r) 1 = bS (aj r) 0 ++ zb n):=ah6 (by rw [oL.out,if_pos hn])
    have wT : U8 (aJ (aj r) 0 + 1):=⟨by omega,by omega⟩
    have uq : Hid (∀ W,aX W base (.slice (some ⟨g,0,none⟩) L c) (zs ++ (aJ (aj r) 0 + 1) :: bS (aj r) 0) -> base <= W.heap.size -> Calls Tryz.prog 190 #[.slice (some ⟨g,0,none⟩) L c,.int .i64 n] W λe w'=>∃ v',e = .returned v' /\ aX w' base v' ((zs ++ (aJ (aj r) 0 + 1) :: bS (aj r) 0) ++ aD (kW n)) /\ Below base W w'):=ah6 (λW h1 h2=>qM _ _ n hI base W h1 (by simp;omega) h2)
    have uT : Hid (L = zs.length + 1 + (bS (aj r) 0).length):=ah6 (by rw [qw];simp;omega)
    clear hX hO hB hset hset' mI oL hf
    have Mc : (zs.length : Int) < L:=by have:=uT.out;omega
    have Md : (L : Int) <= c:=by omega
    clear qw
    go_wp2_with fail
    apply bW 8
    case hm=>kernel_rfl
    case hB=>kernel_rfl
    simp only [List.take_succ_cons,List.take_zero,List.drop_succ_cons,List.drop_zero]
    repeat (apply bI;(next=>(intro W hW K hK;have y0:=hW.cell hc;go_simp;first | exact ⟨Below.refl _ _,hK⟩ | exact hK));(try go_simp))
    refine dL ?_
    intro WC aL _
    have hO2:=HO.out.below aL
    obtain ⟨g2,c2,L2,e2,e6,e7,JJ,hc2,hf2,iO⟩:=hO2.elem (i:=zs.length) (z:=aJ (aj r) 0) (by simp)
    simp only [Value.slice.injEq,Option.some.injEq,Addr.mk.injEq] at e2
    obtain ⟨⟨e3,_⟩,e5,e4⟩:=e2
    clear e6 e7
    subst e3
    subst e4
    subst e5
    have hO3:=iO (aJ (aj r) 0 + 1) wT
    rw [show (zs ++ aJ (aj r) 0 :: bS (aj r) 0).set zs.length (aJ (aj r) 0 + 1) = zs ++ (aJ (aj r) 0 + 1) :: bS (aj r) 0 by rw [List.set_append_right _ _ (Nat.le_refl _),Nat.sub_self];rfl] at hO3
    have hB2:=(HB.out.trans (Below.mono aL hbs)).setCell (p:=⟨g,zs.length,none⟩) hgb (.int .u8 (aJ (aj r) 0 + 1))
    have hX2:=(HX.out.below aL HX.out.lt).far (p:=⟨g,zs.length,none⟩) (show X ≠ g by omega) (.int .u8 (aJ (aj r) 0 + 1))
    have hs2:=Nat.le_trans hb hB2.size;have nn:=uq.out _ hO3 hs2;have c1:=hX2.cell 2;simp at c1
    rw [za.out] at c1
    have dR:=ah6 hX2;have HB2:=ah6 hB2;clear hO2 hO3 iO hB2 hX2 aL HO HX HB uq c0 hc
    go_wp2_with fail
    refine nn.mono ?_;rintro e w5 ⟨v5,rfl,lX,hb5⟩
    have HS2 : Hid (om w base X r zs 1 v5 w5):=ah6 ⟨by rw [vV.out,vW.out];simpa [zb] using lX,dR.out.below hb5 xD,HB2.out.trans hb5⟩
    clear lX hb5 nn dR HB2
    go_wp2
    go_roundw
    case rel=>exact ⟨1,by omega,by first | rfl | go_num,HS2.out⟩
    case measure=>simp [intOf]
  ·have c0:=hX.cell 3
   simp at c0
   have mI : Hid (aJ (aj r) 2 = aJ (aj r) 1 + (if r.py ≠ 0 then 2 else 0)):=ah6 rfl
   have oL : Hid (bS (aj r) 2 = bS (aj r) 1 ++ (if r.py ≠ 0 then zb r.py else [])):=ah6 rfl
   have hI:=HR.out.py
   obtain ⟨g,c,L,rfl,qw,hcl,hgb,hc,hf,hset⟩:=hO.elem (i:=zs.length) (z:=aJ (aj r) 1) (by simp)
   have hm : 0 <= aJ (aj r) 1 /\ aJ (aj r) 1 < 2:=A9.out 1
   have hor : bits .or .u8 (aJ (aj r) 1) 2 = aJ (aj r) 1 + 2:=or_bit (k:=1) (by decide) hm.1 hm.2
   have hset':=hset (aJ (aj r) 1 + 2) ⟨by omega,by omega⟩
   have hyl:=EJ.out 1
   rw [show (zs ++ aJ (aj r) 1 :: bS (aj r) 1).set zs.length (aJ (aj r) 1 + 2) = zs ++ (aJ (aj r) 1 + 2) :: bS (aj r) 1 by rw [List.set_append_right _ _ (Nat.le_refl _),Nat.sub_self];rfl] at hset'
   generalize hnn : r.py = n at *
   have za:=ah6 hnn;clear hnn
   by_cases hn : n = 0
   ·subst hn
    have HS2 : Hid (om w base X r zs 2 _ wr):=ah6 ⟨by rw [mI.out,oL.out,if_neg (by simp),if_neg (by simp),Int.add_zero,List.append_nil];exact HO.out,HX.out,HB.out⟩
    clear hX hO hB HO hset hset' hc hf hor
    go_wp2
    go_roundw
    case rel=>exact ⟨2,by omega,by first | rfl | go_num,HS2.out⟩
    case measure=>simp [intOf]
   ·have hn2 : (n != 0) = true:=by simpa using hn
    have vV : Hid (aJ (aj r) 2 = aJ (aj r) 1 + 2):=ah6 (by rw [mI.out,if_pos hn])
    have vW : Hid (bS (aj r) 2 = bS (aj r) 1 ++ zb n):=ah6 (by rw [oL.out,if_pos hn])
    have wT : U8 (aJ (aj r) 1 + 2):=⟨by omega,by omega⟩
    have uq : Hid (∀ W,aX W base (.slice (some ⟨g,0,none⟩) L c) (zs ++ (aJ (aj r) 1 + 2) :: bS (aj r) 1) -> base <= W.heap.size -> Calls Tryz.prog 190 #[.slice (some ⟨g,0,none⟩) L c,.int .i64 n] W λe w'=>∃ v',e = .returned v' /\ aX w' base v' ((zs ++ (aJ (aj r) 1 + 2) :: bS (aj r) 1) ++ aD (kW n)) /\ Below base W w'):=ah6 (λW h1 h2=>qM _ _ n hI base W h1 (by simp;omega) h2)
    have uT : Hid (L = zs.length + 1 + (bS (aj r) 1).length):=ah6 (by rw [qw];simp;omega)
    clear hX hO hB hset hset' mI oL hf
    have Mc : (zs.length : Int) < L:=by have:=uT.out;omega
    have Md : (L : Int) <= c:=by omega
    clear qw
    go_wp2_with fail
    apply bW 8
    case hm=>kernel_rfl
    case hB=>kernel_rfl
    simp only [List.take_succ_cons,List.take_zero,List.drop_succ_cons,List.drop_zero]
    repeat (apply bI;(next=>(intro W hW K hK;have y0:=hW.cell hc;go_simp;first | exact ⟨Below.refl _ _,hK⟩ | exact hK));(try go_simp))
    refine dL ?_
    intro WC aL _
    have hO2:=HO.out.below aL
    obtain ⟨g2,c2,L2,e2,e6,e7,JJ,hc2,hf2,iO⟩:=hO2.elem (i:=zs.length) (z:=aJ (aj r) 1) (by simp)
    simp only [Value.slice.injEq,Option.some.injEq,Addr.mk.injEq] at e2
    obtain ⟨⟨e3,_⟩,e5,e4⟩:=e2
    clear e6 e7
    subst e3
    subst e4
    subst e5
    have hO3:=iO (aJ (aj r) 1 + 2) wT
    rw [show (zs ++ aJ (aj r) 1 :: bS (aj r) 1).set zs.length (aJ (aj r) 1 + 2) = zs ++ (aJ (aj r) 1 + 2) :: bS (aj r) 1 by rw [List.set_append_right _ _ (Nat.le_refl _),Nat.sub_self];rfl] at hO3
    have hB2:=(HB.out.trans (Below.mono aL hbs)).setCell (p:=⟨g,zs.length,none⟩) hgb (.int .u8 (aJ (aj r) 1 + 2))
    have hX2:=(HX.out.below aL HX.out.lt).far (p:=⟨g,zs.length,none⟩) (show X ≠ g by omega) (.int .u8 (aJ (aj r) 1 + 2))
    have hs2:=Nat.le_trans hb hB2.size;have nn:=uq.out _ hO3 hs2;have c1:=hX2.cell 3;simp at c1
    rw [za.out] at c1
    have dR:=ah6 hX2;have HB2:=ah6 hB2;clear hO2 hO3 iO hB2 hX2 aL HO HX HB uq c0 hc
    go_wp2_with fail
    refine nn.mono ?_;rintro e w5 ⟨v5,rfl,lX,hb5⟩
    have HS2 : Hid (om w base X r zs 2 v5 w5):=ah6 ⟨by rw [vV.out,vW.out];simpa [zb] using lX,dR.out.below hb5 xD,HB2.out.trans hb5⟩
    clear lX hb5 nn dR HB2
    go_wp2
    go_roundw
    case rel=>exact ⟨2,by omega,by first | rfl | go_num,HS2.out⟩
    case measure=>simp [intOf]
  ·have c0:=hX.cell 4
   simp at c0
   have mI : Hid (aJ (aj r) 3 = aJ (aj r) 2 + (if r.pz ≠ 0 then 4 else 0)):=ah6 rfl
   have oL : Hid (bS (aj r) 3 = bS (aj r) 2 ++ (if r.pz ≠ 0 then zb r.pz else [])):=ah6 rfl
   have hI:=HR.out.pz
   obtain ⟨g,c,L,rfl,qw,hcl,hgb,hc,hf,hset⟩:=hO.elem (i:=zs.length) (z:=aJ (aj r) 2) (by simp)
   have hm : 0 <= aJ (aj r) 2 /\ aJ (aj r) 2 < 4:=A9.out 2
   have hor : bits .or .u8 (aJ (aj r) 2) 4 = aJ (aj r) 2 + 4:=or_bit (k:=2) (by decide) hm.1 hm.2
   have hset':=hset (aJ (aj r) 2 + 4) ⟨by omega,by omega⟩
   have hyl:=EJ.out 2
   rw [show (zs ++ aJ (aj r) 2 :: bS (aj r) 2).set zs.length (aJ (aj r) 2 + 4) = zs ++ (aJ (aj r) 2 + 4) :: bS (aj r) 2 by rw [List.set_append_right _ _ (Nat.le_refl _),Nat.sub_self];rfl] at hset'
   generalize hnn : r.pz = n at *
   have za:=ah6 hnn;clear hnn
   by_cases hn : n = 0
   ·subst hn
    have HS2 : Hid (om w base X r zs 3 _ wr):=ah6 ⟨by rw [mI.out,oL.out,if_neg (by simp),if_neg (by simp),Int.add_zero,List.append_nil];exact HO.out,HX.out,HB.out⟩
    clear hX hO hB HO hset hset' hc hf hor
    go_wp2
    go_roundw
    case rel=>exact ⟨3,by omega,by first | rfl | go_num,HS2.out⟩
    case measure=>simp [intOf]
   ·have hn2 : (n != 0) = true:=by simpa using hn
    have vV : Hid (aJ (aj r) 3 = aJ (aj r) 2 + 4):=ah6 (by rw [mI.out,if_pos hn])
    have vW : Hid (bS (aj r) 3 = bS (aj r) 2 ++ zb n):=ah6 (by rw [oL.out,if_pos hn])
    have wT : U8 (aJ (aj r) 2 + 4):=⟨by omega,by omega⟩
    have uq : Hid (∀ W,aX W base (.slice (some ⟨g,0,none⟩) L c) (zs ++ (aJ (aj r) 2 + 4) :: bS (aj r) 2) -> base <= W.heap.size -> Calls Tryz.prog 190 #[.slice (some ⟨g,0,none⟩) L c,.int .i64 n] W λe w'=>∃ v',e = .returned v' /\ aX w' base v' ((zs ++ (aJ (aj r) 2 + 4) :: bS (aj r) 2) ++ aD (kW n)) /\ Below base W w'):=ah6 (λW h1 h2=>qM _ _ n hI base W h1 (by simp;omega) h2)
    have uT : Hid (L = zs.length + 1 + (bS (aj r) 2).length):=ah6 (by rw [qw];simp;omega)
    clear hX hO hB hset hset' mI oL hf
    have Mc : (zs.length : Int) < L:=by have:=uT.out;omega
    have Md : (L : Int) <= c:=by omega
    clear qw
    go_wp2_with fail
    apply bW 8
    case hm=>kernel_rfl
    case hB=>kernel_rfl
    simp only [List.take_succ_cons,List.take_zero,List.drop_succ_cons,List.drop_zero]
    repeat (apply bI;(next=>(intro W hW K hK;have y0:=hW.cell hc;go_simp;first | exact ⟨Below.refl _ _,hK⟩ | exact hK));(try go_simp))
    refine dL ?_
    intro WC aL _
    have hO2:=HO.out.below aL
    obtain ⟨g2,c2,L2,e2,e6,e7,JJ,hc2,hf2,iO⟩:=hO2.elem (i:=zs.length) (z:=aJ (aj r) 2) (by simp)
    simp only [Value.slice.injEq,Option.some.injEq,Addr.mk.injEq] at e2
    obtain ⟨⟨e3,_⟩,e5,e4⟩:=e2
    clear e6 e7
    subst e3
    subst e4
    subst e5
    have hO3:=iO (aJ (aj r) 2 + 4) wT
    rw [show (zs ++ aJ (aj r) 2 :: bS (aj r) 2).set zs.length (aJ (aj r) 2 + 4) = zs ++ (aJ (aj r) 2 + 4) :: bS (aj r) 2 by rw [List.set_append_right _ _ (Nat.le_refl _),Nat.sub_self];rfl] at hO3
    have hB2:=(HB.out.trans (Below.mono aL hbs)).setCell (p:=⟨g,zs.length,none⟩) hgb (.int .u8 (aJ (aj r) 2 + 4))
    have hX2:=(HX.out.below aL HX.out.lt).far (p:=⟨g,zs.length,none⟩) (show X ≠ g by omega) (.int .u8 (aJ (aj r) 2 + 4))
    have hs2:=Nat.le_trans hb hB2.size;have nn:=uq.out _ hO3 hs2;have c1:=hX2.cell 4;simp at c1
    rw [za.out] at c1
    have dR:=ah6 hX2;have HB2:=ah6 hB2;clear hO2 hO3 iO hB2 hX2 aL HO HX HB uq c0 hc
    go_wp2_with fail
    refine nn.mono ?_;rintro e w5 ⟨v5,rfl,lX,hb5⟩
    have HS2 : Hid (om w base X r zs 3 v5 w5):=ah6 ⟨by rw [vV.out,vW.out];simpa [zb] using lX,dR.out.below hb5 xD,HB2.out.trans hb5⟩
    clear lX hb5 nn dR HB2
    go_wp2
    go_roundw
    case rel=>exact ⟨3,by omega,by first | rfl | go_num,HS2.out⟩
    case measure=>simp [intOf]
  ·have c0:=hX.cell 5
   simp at c0
   have mI : Hid (aJ (aj r) 4 = aJ (aj r) 3 + (if r.vx ≠ 0 then 8 else 0)):=ah6 rfl
   have oL : Hid (bS (aj r) 4 = bS (aj r) 3 ++ (if r.vx ≠ 0 then zb r.vx else [])):=ah6 rfl
   have hI:=HR.out.vx
   obtain ⟨g,c,L,rfl,qw,hcl,hgb,hc,hf,hset⟩:=hO.elem (i:=zs.length) (z:=aJ (aj r) 3) (by simp)
   have hm : 0 <= aJ (aj r) 3 /\ aJ (aj r) 3 < 8:=A9.out 3
   have hor : bits .or .u8 (aJ (aj r) 3) 8 = aJ (aj r) 3 + 8:=or_bit (k:=3) (by decide) hm.1 hm.2
   have hset':=hset (aJ (aj r) 3 + 8) ⟨by omega,by omega⟩
   have hyl:=EJ.out 3
   rw [show (zs ++ aJ (aj r) 3 :: bS (aj r) 3).set zs.length (aJ (aj r) 3 + 8) = zs ++ (aJ (aj r) 3 + 8) :: bS (aj r) 3 by rw [List.set_append_right _ _ (Nat.le_refl _),Nat.sub_self];rfl] at hset'
   generalize hnn : r.vx = n at *
   have za:=ah6 hnn;clear hnn
   by_cases hn : n = 0
   ·subst hn
    have HS2 : Hid (om w base X r zs 4 _ wr):=ah6 ⟨by rw [mI.out,oL.out,if_neg (by simp),if_neg (by simp),Int.add_zero,List.append_nil];exact HO.out,HX.out,HB.out⟩
    clear hX hO hB HO hset hset' hc hf hor
    go_wp2
    go_roundw
    case rel=>exact ⟨4,by omega,by first | rfl | go_num,HS2.out⟩
    case measure=>simp [intOf]
   ·have hn2 : (n != 0) = true:=by simpa using hn
    have vV : Hid (aJ (aj r) 4 = aJ (aj r) 3 + 8):=ah6 (by rw [mI.out,if_pos hn])
    have vW : Hid (bS (aj r) 4 = bS (aj r) 3 ++ zb n):=ah6 (by rw [oL.out,if_pos hn])
    have wT : U8 (aJ (aj r) 3 + 8):=⟨by omega,by omega⟩
    have uq : Hid (∀ W,aX W base (.slice (some ⟨g,0,none⟩) L c) (zs ++ (aJ (aj r) 3 + 8) :: bS (aj r) 3) -> base <= W.heap.size -> Calls Tryz.prog 190 #[.slice (some ⟨g,0,none⟩) L c,.int .i64 n] W λe w'=>∃ v',e = .returned v' /\ aX w' base v' ((zs ++ (aJ (aj r) 3 + 8) :: bS (aj r) 3) ++ aD (kW n)) /\ Below base W w'):=ah6 (λW h1 h2=>qM _ _ n hI base W h1 (by simp;omega) h2)
    have uT : Hid (L = zs.length + 1 + (bS (aj r) 3).length):=ah6 (by rw [qw];simp;omega)
    clear hX hO hB hset hset' mI oL hf
    have Mc : (zs.length : Int) < L:=by have:=uT.out;omega
    have Md : (L : Int) <= c:=by omega
    clear qw
    go_wp2_with fail
    apply bW 8
    case hm=>kernel_rfl
    case hB=>kernel_rfl
    simp only [List.take_succ_cons,List.take_zero,List.drop_succ_cons,List.drop_zero]
    repeat (apply bI;(next=>(intro W hW K hK;have y0:=hW.cell hc;go_simp;first | exact ⟨Below.refl _ _,hK⟩ | exact hK));(try go_simp))
    refine dL ?_
    intro WC aL _
    have hO2:=HO.out.below aL
    obtain ⟨g2,c2,L2,e2,e6,e7,JJ,hc2,hf2,iO⟩:=hO2.elem (i:=zs.length) (z:=aJ (aj r) 3) (by simp)
    simp only [Value.slice.injEq,Option.some.injEq,Addr.mk.injEq] at e2
    obtain ⟨⟨e3,_⟩,e5,e4⟩:=e2
    clear e6 e7
    subst e3
    subst e4
    subst e5
    have hO3:=iO (aJ (aj r) 3 + 8) wT
    rw [show (zs ++ aJ (aj r) 3 :: bS (aj r) 3).set zs.length (aJ (aj r) 3 + 8) = zs ++ (aJ (aj r) 3 + 8) :: bS (aj r) 3 by rw [List.set_append_right _ _ (Nat.le_refl _),Nat.sub_self];rfl] at hO3
    have hB2:=(HB.out.trans (Below.mono aL hbs)).setCell (p:=⟨g,zs.length,none⟩) hgb (.int .u8 (aJ (aj r) 3 + 8))
    have hX2:=(HX.out.below aL HX.out.lt).far (p:=⟨g,zs.length,none⟩) (show X ≠ g by omega) (.int .u8 (aJ (aj r) 3 + 8))
    have hs2:=Nat.le_trans hb hB2.size;have nn:=uq.out _ hO3 hs2;have c1:=hX2.cell 5;simp at c1
    rw [za.out] at c1
    have dR:=ah6 hX2;have HB2:=ah6 hB2;clear hO2 hO3 iO hB2 hX2 aL HO HX HB uq c0 hc
    go_wp2_with fail
    refine nn.mono ?_;rintro e w5 ⟨v5,rfl,lX,hb5⟩
    have HS2 : Hid (om w base X r zs 4 v5 w5):=ah6 ⟨by rw [vV.out,vW.out];simpa [zb] using lX,dR.out.below hb5 xD,HB2.out.trans hb5⟩
    clear lX hb5 nn dR HB2
    go_wp2
    go_roundw
    case rel=>exact ⟨4,by omega,by first | rfl | go_num,HS2.out⟩
    case measure=>simp [intOf]
  ·have c0:=hX.cell 6
   simp at c0
   have mI : Hid (aJ (aj r) 5 = aJ (aj r) 4 + (if r.vy ≠ 0 then 16 else 0)):=ah6 rfl
   have oL : Hid (bS (aj r) 5 = bS (aj r) 4 ++ (if r.vy ≠ 0 then zb r.vy else [])):=ah6 rfl
   have hI:=HR.out.vy
   obtain ⟨g,c,L,rfl,qw,hcl,hgb,hc,hf,hset⟩:=hO.elem (i:=zs.length) (z:=aJ (aj r) 4) (by simp)
   have hm : 0 <= aJ (aj r) 4 /\ aJ (aj r) 4 < 16:=A9.out 4
   have hor : bits .or .u8 (aJ (aj r) 4) 16 = aJ (aj r) 4 + 16:=or_bit (k:=4) (by decide) hm.1 hm.2
   have hset':=hset (aJ (aj r) 4 + 16) ⟨by omega,by omega⟩
   have hyl:=EJ.out 4
   rw [show (zs ++ aJ (aj r) 4 :: bS (aj r) 4).set zs.length (aJ (aj r) 4 + 16) = zs ++ (aJ (aj r) 4 + 16) :: bS (aj r) 4 by rw [List.set_append_right _ _ (Nat.le_refl _),Nat.sub_self];rfl] at hset'
   generalize hnn : r.vy = n at *
   have za:=ah6 hnn;clear hnn
   by_cases hn : n = 0
   ·subst hn
    have HS2 : Hid (om w base X r zs 5 _ wr):=ah6 ⟨by rw [mI.out,oL.out,if_neg (by simp),if_neg (by simp),Int.add_zero,List.append_nil];exact HO.out,HX.out,HB.out⟩
    clear hX hO hB HO hset hset' hc hf hor
    go_wp2
    go_roundw
    case rel=>exact ⟨5,by omega,by first | rfl | go_num,HS2.out⟩
    case measure=>simp [intOf]
   ·have hn2 : (n != 0) = true:=by simpa using hn
    have vV : Hid (aJ (aj r) 5 = aJ (aj r) 4 + 16):=ah6 (by rw [mI.out,if_pos hn])
    have vW : Hid (bS (aj r) 5 = bS (aj r) 4 ++ zb n):=ah6 (by rw [oL.out,if_pos hn])
    have wT : U8 (aJ (aj r) 4 + 16):=⟨by omega,by omega⟩
    have uq : Hid (∀ W,aX W base (.slice (some ⟨g,0,none⟩) L c) (zs ++ (aJ (aj r) 4 + 16) :: bS (aj r) 4) -> base <= W.heap.size -> Calls Tryz.prog 190 #[.slice (some ⟨g,0,none⟩) L c,.int .i64 n] W λe w'=>∃ v',e = .returned v' /\ aX w' base v' ((zs ++ (aJ (aj r) 4 + 16) :: bS (aj r) 4) ++ aD (kW n)) /\ Below base W w'):=ah6 (λW h1 h2=>qM _ _ n hI base W h1 (by simp;omega) h2)
    have uT : Hid (L = zs.length + 1 + (bS (aj r) 4).length):=ah6 (by rw [qw];simp;omega)
    clear hX hO hB hset hset' mI oL hf
    have Mc : (zs.length : Int) < L:=by have:=uT.out;omega
    have Md : (L : Int) <= c:=by omega
    clear qw
    go_wp2_with fail
    apply bW 8
    case hm=>kernel_rfl
    case hB=>kernel_rfl
    simp only [List.take_succ_cons,List.take_zero,List.drop_succ_cons,List.drop_zero]
    repeat (apply bI;(next=>(intro W hW K hK;have y0:=hW.cell hc;go_simp;first | exact ⟨Below.refl _ _,hK⟩ | exact hK));(try go_simp))
    refine dL ?_
    intro WC aL _
    have hO2:=HO.out.below aL
    obtain ⟨g2,c2,L2,e2,e6,e7,JJ,hc2,hf2,iO⟩:=hO2.elem (i:=zs.length) (z:=aJ (aj r) 4) (by simp)
    simp only [Value.slice.injEq,Option.some.injEq,Addr.mk.injEq] at e2
    obtain ⟨⟨e3,_⟩,e5,e4⟩:=e2
    clear e6 e7
    subst e3
    subst e4
    subst e5
    have hO3:=iO (aJ (aj r) 4 + 16) wT
    rw [show (zs ++ aJ (aj r) 4 :: bS (aj r) 4).set zs.length (aJ (aj r) 4 + 16) = zs ++ (aJ (aj r) 4 + 16) :: bS (aj r) 4 by rw [List.set_append_right _ _ (Nat.le_refl _),Nat.sub_self];rfl] at hO3
    have hB2:=(HB.out.trans (Below.mono aL hbs)).setCell (p:=⟨g,zs.length,none⟩) hgb (.int .u8 (aJ (aj r) 4 + 16))
    have hX2:=(HX.out.below aL HX.out.lt).far (p:=⟨g,zs.length,none⟩) (show X ≠ g by omega) (.int .u8 (aJ (aj r) 4 + 16))
    have hs2:=Nat.le_trans hb hB2.size;have nn:=uq.out _ hO3 hs2;have c1:=hX2.cell 6;simp at c1
    rw [za.out] at c1
    have dR:=ah6 hX2;have HB2:=ah6 hB2;clear hO2 hO3 iO hB2 hX2 aL HO HX HB uq c0 hc
    go_wp2_with fail
    refine nn.mono ?_;rintro e w5 ⟨v5,rfl,lX,hb5⟩
    have HS2 : Hid (om w base X r zs 5 v5 w5):=ah6 ⟨by rw [vV.out,vW.out];simpa [zb] using lX,dR.out.below hb5 xD,HB2.out.trans hb5⟩
    clear lX hb5 nn dR HB2
    go_wp2
    go_roundw
    case rel=>exact ⟨5,by omega,by first | rfl | go_num,HS2.out⟩
    case measure=>simp [intOf]
  ·have c0:=hX.cell 7
   simp at c0
   have mI : Hid (aJ (aj r) 6 = aJ (aj r) 5 + (if r.vz ≠ 0 then 32 else 0)):=ah6 rfl
   have oL : Hid (bS (aj r) 6 = bS (aj r) 5 ++ (if r.vz ≠ 0 then zb r.vz else [])):=ah6 rfl
   have hI:=HR.out.vz
   obtain ⟨g,c,L,rfl,qw,hcl,hgb,hc,hf,hset⟩:=hO.elem (i:=zs.length) (z:=aJ (aj r) 5) (by simp)
   have hm : 0 <= aJ (aj r) 5 /\ aJ (aj r) 5 < 32:=A9.out 5
   have hor : bits .or .u8 (aJ (aj r) 5) 32 = aJ (aj r) 5 + 32:=or_bit (k:=5) (by decide) hm.1 hm.2
   have hset':=hset (aJ (aj r) 5 + 32) ⟨by omega,by omega⟩
   have hyl:=EJ.out 5
   rw [show (zs ++ aJ (aj r) 5 :: bS (aj r) 5).set zs.length (aJ (aj r) 5 + 32) = zs ++ (aJ (aj r) 5 + 32) :: bS (aj r) 5 by rw [List.set_append_right _ _ (Nat.le_refl _),Nat.sub_self];rfl] at hset'
   generalize hnn : r.vz = n at *
   have za:=ah6 hnn;clear hnn
   by_cases hn : n = 0
   ·subst hn
    have HS2 : Hid (om w base X r zs 6 _ wr):=ah6 ⟨by rw [mI.out,oL.out,if_neg (by simp),if_neg (by simp),Int.add_zero,List.append_nil];exact HO.out,HX.out,HB.out⟩
    clear hX hO hB HO hset hset' hc hf hor
    go_wp2
    go_roundw
    case rel=>exact ⟨6,by omega,by first | rfl | go_num,HS2.out⟩
    case measure=>simp [intOf]
   ·have hn2 : (n != 0) = true:=by simpa using hn
    have vV : Hid (aJ (aj r) 6 = aJ (aj r) 5 + 32):=ah6 (by rw [mI.out,if_pos hn])
    have vW : Hid (bS (aj r) 6 = bS (aj r) 5 ++ zb n):=ah6 (by rw [oL.out,if_pos hn])
    have wT : U8 (aJ (aj r) 5 + 32):=⟨by omega,by omega⟩
    have uq : Hid (∀ W,aX W base (.slice (some ⟨g,0,none⟩) L c) (zs ++ (aJ (aj r) 5 + 32) :: bS (aj r) 5) -> base <= W.heap.size -> Calls Tryz.prog 190 #[.slice (some ⟨g,0,none⟩) L c,.int .i64 n] W λe w'=>∃ v',e = .returned v' /\ aX w' base v' ((zs ++ (aJ (aj r) 5 + 32) :: bS (aj r) 5) ++ aD (kW n)) /\ Below base W w'):=ah6 (λW h1 h2=>qM _ _ n hI base W h1 (by simp;omega) h2)
    have uT : Hid (L = zs.length + 1 + (bS (aj r) 5).length):=ah6 (by rw [qw];simp;omega)
    clear hX hO hB hset hset' mI oL hf
    have Mc : (zs.length : Int) < L:=by have:=uT.out;omega
    have Md : (L : Int) <= c:=by omega
    clear qw
    go_wp2_with fail
    apply bW 8
    case hm=>kernel_rfl
    case hB=>kernel_rfl
    simp only [List.take_succ_cons,List.take_zero,List.drop_succ_cons,List.drop_zero]
    repeat (apply bI;(next=>(intro W hW K hK;have y0:=hW.cell hc;go_simp;first | exact ⟨Below.refl _ _,hK⟩ | exact hK));(try go_simp))
    refine dL ?_
    intro WC aL _
    have hO2:=HO.out.below aL
    obtain ⟨g2,c2,L2,e2,e6,e7,JJ,hc2,hf2,iO⟩:=hO2.elem (i:=zs.length) (z:=aJ (aj r) 5) (by simp)
    simp only [Value.slice.injEq,Option.some.injEq,Addr.mk.injEq] at e2
    obtain ⟨⟨e3,_⟩,e5,e4⟩:=e2
    clear e6 e7
    subst e3
    subst e4
    subst e5
    have hO3:=iO (aJ (aj r) 5 + 32) wT
    rw [show (zs ++ aJ (aj r) 5 :: bS (aj r) 5).set zs.length (aJ (aj r) 5 + 32) = zs ++ (aJ (aj r) 5 + 32) :: bS (aj r) 5 by rw [List.set_append_right _ _ (Nat.le_refl _),Nat.sub_self];rfl] at hO3
    have hB2:=(HB.out.trans (Below.mono aL hbs)).setCell (p:=⟨g,zs.length,none⟩) hgb (.int .u8 (aJ (aj r) 5 + 32))
    have hX2:=(HX.out.below aL HX.out.lt).far (p:=⟨g,zs.length,none⟩) (show X ≠ g by omega) (.int .u8 (aJ (aj r) 5 + 32))
    have hs2:=Nat.le_trans hb hB2.size;have nn:=uq.out _ hO3 hs2;have c1:=hX2.cell 7;simp at c1
    rw [za.out] at c1
    have dR:=ah6 hX2;have HB2:=ah6 hB2;clear hO2 hO3 iO hB2 hX2 aL HO HX HB uq c0 hc
    go_wp2_with fail
    refine nn.mono ?_;rintro e w5 ⟨v5,rfl,lX,hb5⟩
    have HS2 : Hid (om w base X r zs 6 v5 w5):=ah6 ⟨by rw [vV.out,vW.out];simpa [zb] using lX,dR.out.below hb5 xD,HB2.out.trans hb5⟩
    clear lX hb5 nn dR HB2
    go_wp2
    go_roundw
    case rel=>exact ⟨6,by omega,by first | rfl | go_num,HS2.out⟩
    case measure=>simp [intOf]
  ·have c0:=hX.cell 8
   simp at c0
   obtain ⟨g,c,L,rfl,qw,hcl,hgb,hc,hf,hset⟩:=hO.elem (i:=zs.length) (z:=aJ (aj r) 6) (by simp)
   have hm : 0 <= aJ (aj r) 6 /\ aJ (aj r) 6 < 64:=A9.out 6
   have hor : bits .or .u8 (aJ (aj r) 6) 64 = aJ (aj r) 6 + 64:=or_bit (k:=6) (by decide) hm.1 hm.2
   have hset':=hset (aJ (aj r) 6 + 64) ⟨by omega,by omega⟩
   have hyl:=EJ.out 6
   rw [show (zs ++ aJ (aj r) 6 :: bS (aj r) 6).set zs.length (aJ (aj r) 6 + 64) = zs ++ (aJ (aj r) 6 + 64) :: bS (aj r) 6 by rw [List.set_append_right _ _ (Nat.le_refl _),Nat.sub_self];rfl] at hset'
   have uT : Hid (L = zs.length + 1 + (bS (aj r) 6).length):=ah6 (by rw [qw];simp;omega)
   have Mc : (zs.length : Int) < L:=by have:=uT.out;omega
   have Md : (L : Int) <= c:=by omega
   generalize hnn : r.aI = n at *
   have za:=ah6 hnn;clear hnn
   by_cases hn : n = 0
   ·subst hn
    have HV : Hid (vo r = aJ (aj r) 6 :: bS (aj r) 6):=ah6 (by rw [HS.out,if_neg (by simp),if_neg (by simp),List.append_nil])
    clear hX hO hB hset hset' hc hf hor qw HS
    go_wp2
    go_ret
    exact ⟨_,rfl,by rw [HV.out];exact HO.out,HB.out⟩
   ·have hn2 : (n != 0) = true:=by simpa using hn
    have HV : Hid (vo r = (aJ (aj r) 6 + 64) :: (bS (aj r) 6 ++ aD n)):=ah6 (by rw [HS.out,if_pos hn,if_pos hn])
    have hX2:=HX.out.far (p:=⟨g,zs.length,none⟩) (show X ≠ g by omega) (.int .u8 (aJ (aj r) 6 + 64))
    have hB2:=HB.out.setCell (p:=⟨g,zs.length,none⟩) hgb (.int .u8 (aJ (aj r) 6 + 64));have hs2:=Nat.le_trans hb hB2.size;have c1:=hX2.cell 8;simp at c1
    rw [za.out] at c1
    have pt:=nH n hu (wr.setCell ⟨g,zs.length,none⟩ (.int .u8 (aJ (aj r) 6 + 64)));have bR:=ah6 hset';have HB2:=ah6 hB2
    have hw : IntKind.u64.wrap n = n:=wraps_u64 _ (by omega) (by omega)
    have HYN : Hid ((zs ++ (aJ (aj r) 6 + 64) :: bS (aj r) 6).length + (aD n).length <= 140737488355328):=ah6 (by simp;omega)
    clear hX hO hB hset hset' qw HS hX2 hB2 HO HX HB
    go_wp2_with fail
    refine pt.mono ?_;rintro e w5 ⟨v5,rfl,lX,hb5⟩
    obtain ⟨ad,c5,rfl,hba,hac⟩:=lX.bytes
    have hs5:=hb5.size;have fJ:=ah6 (bR.out.below hb5);have HB3:=ah6 (HB2.out.trans (hb5.mono hs2));clear lX hb5 pt bR HB2
    go_wp2_with (at_builtin;refine bF _ rfl (.tmp 48) (.tmp 54) rfl base _ (zs ++ (aJ (aj r) 6 + 64) :: bS (aj r) 6) rfl fJ.out ad (aD n).length c5 (aD n) rfl hba hac HYN.out (by omega) ?_)
    intro v6 w6 ho6 hg6
    have mQ : Hid (Below base w w6):=ah6 (HB3.out.grown hg6 (by omega) (λj e=>(fJ.out.lt j e).1))
    have sK:=ah6 ho6;clear ho6 hg6 hba
    go_wp2
    go_ret
    exact ⟨v6,rfl,by rw [HV.out];simpa using sK.out,mQ.out⟩
set_option maxRecDepth 100000
theorem Gg {w0 w : World} {b : Nat} {v0 v1 v2 v3 v4 v5 v6 v7 v8 : Value} (h : Below w0.heap.size w0 w) (hb : w0.heap.size <= b) : Below w0.heap.size w0 (((((((((w.setCell ⟨b,0,none⟩ v0).setCell ⟨b,1,none⟩ v1).setCell ⟨b,2,none⟩ v2).setCell ⟨b,3,none⟩ v3).setCell ⟨b,4,none⟩ v4).setCell ⟨b,5,none⟩ v5).setCell ⟨b,6,none⟩ v6).setCell ⟨b,7,none⟩ v7).setCell ⟨b,8,none⟩ v8) :=
 (pO (S:=λ_=>False) (Only.of_below h) (.inr hb)).below (Nat.le_refl _) (λ_ h=>h.elim)
def IU (a b : aA) : Bool:=a.id == b.id && (a.px == b.px && a.py == b.py && a.pz == b.pz) && (a.vx == b.vx && a.vy == b.vy && a.vz == b.vz) && a.aI == b.aI && a.gen == b.gen
def Gh (a b : aA) : Rec :=
 if a.gen = b.gen then ⟨1,b.id,IntKind.i64.wrap (b.px - a.px),IntKind.i64.wrap (b.py - a.py),IntKind.i64.wrap (b.pz - a.pz),IntKind.i64.wrap (b.vx - a.vx),IntKind.i64.wrap (b.vy - a.vy),IntKind.i64.wrap (b.vz - a.vz),IntKind.u16.wrap (b.aI - a.aI)⟩
 else ⟨3,b.id,b.px,b.py,b.pz,b.vx,b.vy,b.vz,b.aI⟩
def Ot : Rec:=⟨0,0,0,0,0,0,0,0,0⟩
def lK (a b : aA) : Rec × Bool:=if IU a b = true then (Ot,false) else (Gh a b,true)
def xY (w : World) (X Y P : Nat) (ea eb : Array Value) (old : Array Value) (cells : List (Array Value)) (k : Nat) (wr : World) : Prop :=
 ∃ q,cells[k]? = some q /\ ak wr X q 147 /\ ak wr Y old 147 /\ ak wr P #[.pointer (some ⟨Y,2,none⟩),.pointer (some ⟨Y,3,none⟩),.pointer (some ⟨Y,4,none⟩),.pointer (some ⟨Y,5,none⟩),.pointer (some ⟨Y,6,none⟩),.pointer (some ⟨Y,7,none⟩)] 197 /\
  ak wr w.heap.size ea 33 /\ ak wr (w.heap.size + 1) eb 33 /\ ak wr (w.heap.size + 2) #[.int .i64 0,.int .i64 0,.int .i64 0,.int .i64 0,.int .i64 0,.int .i64 0,.int .i64 0,.int .i64 0,.int .u16 0] 147 /\ Below w.heap.size w wr
set_option maxHeartbeats 4000000 in
theorem Ve (a b : aA) (w : World) :
 Calls Tryz.prog 70 #[bN a,bN b] w λe w'=>e = .returned (.tuple #[lS (lK a b).1,.bool (lK a b).2]) /\ Below w.heap.size w w':=by
 have HZ : Hid (lK a b = if IU a b = true then (Ot,false) else (if a.gen = b.gen then ⟨1,b.id,IntKind.i64.wrap (b.px - a.px),IntKind.i64.wrap (b.py - a.py),IntKind.i64.wrap (b.pz - a.pz),IntKind.i64.wrap (b.vx - a.vx),IntKind.i64.wrap (b.vy - a.vy),IntKind.i64.wrap (b.vz - a.vz),IntKind.u16.wrap (b.aI - a.aI)⟩ else ⟨3,b.id,b.px,b.py,b.pz,b.vx,b.vy,b.vz,b.aI⟩,true)):=ah6 rfl
 generalize lK a b = z at *
 have HS : Hid (IU a b = (a.id == b.id && (a.px == b.px && a.py == b.py && a.pz == b.pz) && (a.vx == b.vx && a.vy == b.vy && a.vz == b.vz) && a.aI == b.aI && a.gen == b.gen)):=ah6 rfl
 generalize hsm : IU a b = sm at *
 obtain ⟨ai,a1,a2,a3,a4,a5,a6,aa,ag⟩:=a
 obtain ⟨bi,b1,b2,b3,b4,b5,b6,ba,bg⟩:=b
 unfold bN
 simp only at *
 have hEq : ∀ W : World,(Op.equalIn 10000 33 (.agg #[.int .i64 ai,.int .i64 a1,.int .i64 a2,.int .i64 a3,.int .i64 a4,.int .i64 a5,.int .i64 a6,.int .u16 aa,.int .u8 ag]) (.agg #[.int .i64 bi,.int .i64 b1,.int .i64 b2,.int .i64 b3,.int .i64 b4,.int .i64 b5,.int .i64 b6,.int .u16 ba,.int .u8 bg])).run Tryz.prog W = .ok sm W:=λW=>by
  rw [YL,HS.out]
 clear hsm HS
 obtain ⟨w0,hw0⟩ : ∃ w0,(((w.alloc (.cells #[.int .i64 ai,.int .i64 a1,.int .i64 a2,.int .i64 a3,.int .i64 a4,.int .i64 a5,.int .i64 a6,.int .u16 aa,.int .u8 ag] 33)).alloc (.cells #[.int .i64 bi,.int .i64 b1,.int .i64 b2,.int .i64 b3,.int .i64 b4,.int .i64 b5,.int .i64 b6,.int .u16 ba,.int .u8 bg] 33)).alloc (.cells #[.int .i64 0,.int .i64 0,.int .i64 0,.int .i64 0,.int .i64 0,.int .i64 0,.int .i64 0,.int .i64 0,.int .u16 0] 147)) = w0:=⟨_,rfl⟩
 have mG : ak w0 w.heap.size #[.int .i64 ai,.int .i64 a1,.int .i64 a2,.int .i64 a3,.int .i64 a4,.int .i64 a5,.int .i64 a6,.int .u16 aa,.int .u8 ag] 33:=by rw [← hw0];exact ((ak.new _ _ _).alloc _).alloc _
 have hE0 : ak w0 (w.heap.size + 1) #[.int .i64 bi,.int .i64 b1,.int .i64 b2,.int .i64 b3,.int .i64 b4,.int .i64 b5,.int .i64 b6,.int .u16 ba,.int .u8 bg] 33:=by
  rw [← hw0]
  have:=(ak.new (w.alloc (.cells #[.int .i64 ai,.int .i64 a1,.int .i64 a2,.int .i64 a3,.int .i64 a4,.int .i64 a5,.int .i64 a6,.int .u16 aa,.int .u8 ag] 33)) #[.int .i64 bi,.int .i64 b1,.int .i64 b2,.int .i64 b3,.int .i64 b4,.int .i64 b5,.int .i64 b6,.int .u16 ba,.int .u8 bg] 33).alloc (.cells #[.int .i64 0,.int .i64 0,.int .i64 0,.int .i64 0,.int .i64 0,.int .i64 0,.int .i64 0,.int .i64 0,.int .u16 0] 147)
  simpa using this
 have mW : ak w0 (w.heap.size + 2) #[.int .i64 0,.int .i64 0,.int .i64 0,.int .i64 0,.int .i64 0,.int .i64 0,.int .i64 0,.int .i64 0,.int .u16 0] 147:=by
  rw [← hw0]
  have:=ak.new ((w.alloc (.cells #[.int .i64 ai,.int .i64 a1,.int .i64 a2,.int .i64 a3,.int .i64 a4,.int .i64 a5,.int .i64 a6,.int .u16 aa,.int .u8 ag] 33)).alloc (.cells #[.int .i64 bi,.int .i64 b1,.int .i64 b2,.int .i64 b3,.int .i64 b4,.int .i64 b5,.int .i64 b6,.int .u16 ba,.int .u8 bg] 33)) #[.int .i64 0,.int .i64 0,.int .i64 0,.int .i64 0,.int .i64 0,.int .i64 0,.int .i64 0,.int .i64 0,.int .u16 0] 147
  simpa using this
 have hB0 : Below w.heap.size w w0:=by rw [← hw0];exact ((ah7).alloc (by simp) _).alloc (by simp;omega) _
 have hs0 : w0.heap.size = w.heap.size + 3:=by rw [← hw0];simp
 have uS:=ah6 mG;have MU:=ah6 hE0;have HZ0:=ah6 mW;have HB0:=ah6 hB0;have zf:=ah6 hs0;have c0:=mG.cell 0;have c1:=mG.cell 1;have c2:=mG.cell 2;have c3:=mG.cell 3;have c4:=mG.cell 4;have c5:=mG.cell 5;have c6:=mG.cell 6;have c7:=mG.cell 7;have c8:=mG.cell 8;simp at c0 c1 c2 c3 c4 c5 c6 c7 c8;have d0:=hE0.cell 0;have d1:=hE0.cell 1;have d2:=hE0.cell 2;have d3:=hE0.cell 3;have d4:=hE0.cell 4;have d5:=hE0.cell 5;have d6:=hE0.cell 6;have d7:=hE0.cell 7;have d8:=hE0.cell 8;simp at d0 d1 d2 d3 d4 d5 d6 d7 d8;have z0:=mW.cell 0;have z1:=mW.cell 1;have z2:=mW.cell 2;have z3:=mW.cell 3;have z4:=mW.cell 4;have z5:=mW.cell 5;have z6:=mW.cell 6;have z7:=mW.cell 7;have z8:=mW.cell 8;have y0:=mW.free 0;have y1:=mW.free 1;have y2:=mW.free 2;have y3:=mW.free 3;have y4:=mW.free 4;have y5:=mW.free 5;have y6:=mW.free 6;have y7:=mW.free 7;have y8:=mW.free 8
 simp at z0 z1 z2 z3 z4 z5 z6 z7 z8;clear mG hE0 mW hB0 hs0
 cases sm
 ·have HV : Hid (z = (if ag = bg then ⟨1,bi,IntKind.i64.wrap (b1 - a1),IntKind.i64.wrap (b2 - a2),IntKind.i64.wrap (b3 - a3),IntKind.i64.wrap (b4 - a4),IntKind.i64.wrap (b5 - a5),IntKind.i64.wrap (b6 - a6),IntKind.u16.wrap (ba - aa)⟩ else ⟨3,bi,b1,b2,b3,b4,b5,b6,ba⟩,true)):=ah6 (by rw [HZ.out,if_neg (by decide)])
  clear HZ
  by_cases hg : ag = bg
  ·have ER : Hid (z = (⟨1,bi,IntKind.i64.wrap (b1 - a1),IntKind.i64.wrap (b2 - a2),IntKind.i64.wrap (b3 - a3),IntKind.i64.wrap (b4 - a4),IntKind.i64.wrap (b5 - a5),IntKind.i64.wrap (b6 - a6),IntKind.u16.wrap (ba - aa)⟩,true)):=ah6 (by rw [HV.out,if_pos hg])
   clear HV
   have hg2 : (ag == bg) = true:=by simpa using hg
   clear hg
   obtain ⟨n1,hn1⟩ : ∃ x,IntKind.i64.wrap (b1 - a1) = x:=⟨_,rfl⟩
   have hm1 : wrap64 (b1 - a1) = n1:=by rw [← hn1];exact (IntWalk.i64_left _).symm
   obtain ⟨n2,hn2⟩ : ∃ x,IntKind.i64.wrap (b2 - a2) = x:=⟨_,rfl⟩
   have hm2 : wrap64 (b2 - a2) = n2:=by rw [← hn2];exact (IntWalk.i64_left _).symm
   obtain ⟨n3,Py⟩ : ∃ x,IntKind.i64.wrap (b3 - a3) = x:=⟨_,rfl⟩
   have Il : wrap64 (b3 - a3) = n3:=by rw [← Py];exact (IntWalk.i64_left _).symm
   obtain ⟨n4,V5⟩ : ∃ x,IntKind.i64.wrap (b4 - a4) = x:=⟨_,rfl⟩
   have MS : wrap64 (b4 - a4) = n4:=by rw [← V5];exact (IntWalk.i64_left _).symm
   obtain ⟨n5,V6⟩ : ∃ x,IntKind.i64.wrap (b5 - a5) = x:=⟨_,rfl⟩
   have Im : wrap64 (b5 - a5) = n5:=by rw [← V6];exact (IntWalk.i64_left _).symm
   obtain ⟨n6,V7⟩ : ∃ x,IntKind.i64.wrap (b6 - a6) = x:=⟨_,rfl⟩
   have hm6 : wrap64 (b6 - a6) = n6:=by rw [← V7];exact (IntWalk.i64_left _).symm
   obtain ⟨n7,V8⟩ : ∃ x,IntKind.u16.wrap (ba - aa) = x:=⟨_,rfl⟩
   rw [hn1,hn2,Py,V5,V6,V7,V8] at ER
   have HN:=ah6 (And.intro hn1 (And.intro hn2 (And.intro Py (And.intro V5 (And.intro V6 V7)))));have HN7:=ah6 V8;clear hn1 hn2 Py V5 V6 V7 V8 hm1 hm2 Il MS Im hm6
   obtain ⟨v0,hv0⟩ : ∃ v,w0.alloc (.cells #[.int .i64 3,.int .i64 bi,.int .i64 b1,.int .i64 b2,.int .i64 b3,.int .i64 b4,.int .i64 b5,.int .i64 b6,.int .u16 ba] 147) = v:=⟨_,rfl⟩
   have kQ : ak v0 w0.heap.size #[.int .i64 3,.int .i64 bi,.int .i64 b1,.int .i64 b2,.int .i64 b3,.int .i64 b4,.int .i64 b5,.int .i64 b6,.int .u16 ba] 147:=by rw [← hv0];exact ak.new _ _ _
   have qd : ak v0 w.heap.size #[.int .i64 ai,.int .i64 a1,.int .i64 a2,.int .i64 a3,.int .i64 a4,.int .i64 a5,.int .i64 a6,.int .u16 aa,.int .u8 ag] 33:=by rw [← hv0];exact uS.out.alloc _
   have oz : ak v0 (w.heap.size + 1) #[.int .i64 bi,.int .i64 b1,.int .i64 b2,.int .i64 b3,.int .i64 b4,.int .i64 b5,.int .i64 b6,.int .u16 ba,.int .u8 bg] 33:=by rw [← hv0];exact MU.out.alloc _
   have pE : ak v0 (w.heap.size + 2) #[.int .i64 0,.int .i64 0,.int .i64 0,.int .i64 0,.int .i64 0,.int .i64 0,.int .i64 0,.int .i64 0,.int .u16 0] 147:=by rw [← hv0];exact HZ0.out.alloc _
   have uw : Below w.heap.size w v0:=by rw [← hv0];exact HB0.out.alloc HB0.out.size _
   have V9 : w.heap.size + 3 <= w0.heap.size:=by rw [zf.out];exact Nat.le_refl _
   have hsv : v0.heap.size = w0.heap.size + 1:=by rw [← hv0];simp
   have c0:=qd.cell 0;have c1:=qd.cell 1;have c2:=qd.cell 2;have c3:=qd.cell 3;have c4:=qd.cell 4;have c5:=qd.cell 5;have c6:=qd.cell 6;have c7:=qd.cell 7;have c8:=qd.cell 8;simp at c0 c1 c2 c3 c4 c5 c6 c7 c8;have d0:=oz.cell 0;have d1:=oz.cell 1;have d2:=oz.cell 2;have d3:=oz.cell 3;have d4:=oz.cell 4;have d5:=oz.cell 5;have d6:=oz.cell 6;have d7:=oz.cell 7;have d8:=oz.cell 8;simp at d0 d1 d2 d3 d4 d5 d6 d7 d8;have q0:=kQ.cell 0;have q1:=kQ.cell 1;have q2:=kQ.cell 2;have q3:=kQ.cell 3;have q4:=kQ.cell 4;have q5:=kQ.cell 5;have q6:=kQ.cell 6;have q7:=kQ.cell 7;have q8:=kQ.cell 8;have f0:=kQ.free 0;have f1:=kQ.free 1;have f2:=kQ.free 2;have f3:=kQ.free 3;have f4:=kQ.free 4;have f5:=kQ.free 5;have f6:=kQ.free 6;have f7:=kQ.free 7;have f8:=kQ.free 8;simp at q0 q1 q2 q3 q4 q5 q6 q7 q8
   obtain ⟨v1,hv1⟩ : ∃ v,v0.setCell ⟨w0.heap.size,0,none⟩ (.int .i64 1) = v:=⟨_,rfl⟩
   have hX1 : ak v1 w0.heap.size #[.int .i64 1,.int .i64 bi,.int .i64 b1,.int .i64 b2,.int .i64 b3,.int .i64 b4,.int .i64 b5,.int .i64 b6,.int .u16 ba] 147:=by rw [← hv1];simpa using kQ.set 0 (.int .i64 1)
   have hA1 : ak v1 w.heap.size #[.int .i64 ai,.int .i64 a1,.int .i64 a2,.int .i64 a3,.int .i64 a4,.int .i64 a5,.int .i64 a6,.int .u16 aa,.int .u8 ag] 33:=by rw [← hv1];exact qd.far (by show w.heap.size ≠ w0.heap.size;omega) _
   have hE1 : ak v1 (w.heap.size + 1) #[.int .i64 bi,.int .i64 b1,.int .i64 b2,.int .i64 b3,.int .i64 b4,.int .i64 b5,.int .i64 b6,.int .u16 ba,.int .u8 bg] 33:=by rw [← hv1];exact oz.far (by show w.heap.size + 1 ≠ w0.heap.size;omega) _
   have hZ1 : ak v1 (w.heap.size + 2) #[.int .i64 0,.int .i64 0,.int .i64 0,.int .i64 0,.int .i64 0,.int .i64 0,.int .i64 0,.int .i64 0,.int .u16 0] 147:=by rw [← hv1];exact pE.far (by show w.heap.size + 2 ≠ w0.heap.size;omega) _
   have hB1 : Below w.heap.size w v1:=by rw [← hv1];exact uw.setCell (by show w.heap.size <= w0.heap.size;omega) _
   have hs1 : v1.heap.size = w0.heap.size + 1:=by rw [← hv1];simpa [World.setCell] using hsv
   have ca1:=hA1.cell 1;have ca2:=hA1.cell 2;have ca3:=hA1.cell 3;have ca4:=hA1.cell 4;have ca5:=hA1.cell 5;have ca6:=hA1.cell 6;simp at ca1 ca2 ca3 ca4 ca5 ca6;have fq:=ah6 hX1;have HA1:=ah6 hA1;have zi:=ah6 hE1;have HZ1:=ah6 hZ1;have HB1:=ah6 hB1;have Z5:=ah6 (And.intro V9 hs1)
   have nf:=λX w=>EF X w
   unfold ptrs at nf
   clear kQ qd oz pE uw hX1 hA1 hE1 hZ1 hB1 uS MU HZ0 HB0 V9 hs1 hsv zf
   go_enter Tryz.func70,Tryz.ntmps70
   go_wp2_with fail
   refine (nf _ _).mono ?_
   rintro e w3 ⟨rfl,hb3⟩
   obtain ⟨v2,hv2⟩ : ∃ v,v1.alloc (.cells #[.int .i64 0,.int .i64 0,.int .i64 a1,.int .i64 a2,.int .i64 a3,.int .i64 a4,.int .i64 a5,.int .i64 a6,.int .u16 0] 147) = v:=⟨_,rfl⟩
   have I9:=ah6 (ak.new v1 #[.int .i64 0,.int .i64 0,.int .i64 a1,.int .i64 a2,.int .i64 a3,.int .i64 a4,.int .i64 a5,.int .i64 a6,.int .u16 0] 147);have dR:=ah6 (fq.out.alloc (.cells #[.int .i64 0,.int .i64 0,.int .i64 a1,.int .i64 a2,.int .i64 a3,.int .i64 a4,.int .i64 a5,.int .i64 a6,.int .u16 0] 147));have HA2:=ah6 (HA1.out.alloc (.cells #[.int .i64 0,.int .i64 0,.int .i64 a1,.int .i64 a2,.int .i64 a3,.int .i64 a4,.int .i64 a5,.int .i64 a6,.int .u16 0] 147));have HE2:=ah6 (zi.out.alloc (.cells #[.int .i64 0,.int .i64 0,.int .i64 a1,.int .i64 a2,.int .i64 a3,.int .i64 a4,.int .i64 a5,.int .i64 a6,.int .u16 0] 147));have HZ2:=ah6 (HZ1.out.alloc (.cells #[.int .i64 0,.int .i64 0,.int .i64 a1,.int .i64 a2,.int .i64 a3,.int .i64 a4,.int .i64 a5,.int .i64 a6,.int .u16 0] 147))
   have HB2:=ah6 (HB1.out.alloc HB1.out.size (.cells #[.int .i64 0,.int .i64 0,.int .i64 a1,.int .i64 a2,.int .i64 a3,.int .i64 a4,.int .i64 a5,.int .i64 a6,.int .u16 0] 147))
   rw [hv2] at dR HA2 HE2 HZ2 HB2 I9 hb3
   clear hv2;have aS:=dR.out.below hb3 dR.out.lt;have wL:=I9.out.below hb3 I9.out.lt;have hA3:=HA2.out.below hb3 HA2.out.lt;have hE3:=HE2.out.below hb3 HE2.out.lt;have hZ3:=HZ2.out.below hb3 HZ2.out.lt;have hB3:=HB2.out.trans (hb3.mono HB2.out.size)
   obtain ⟨v4,hv4⟩ : ∃ v,w3.alloc (.cells #[.pointer (some ⟨v1.heap.size,2,none⟩),.pointer (some ⟨v1.heap.size,3,none⟩),.pointer (some ⟨v1.heap.size,4,none⟩),.pointer (some ⟨v1.heap.size,5,none⟩),.pointer (some ⟨v1.heap.size,6,none⟩),.pointer (some ⟨v1.heap.size,7,none⟩)] 197) = v:=⟨_,rfl⟩
   have hP4 : ak v4 w3.heap.size #[.pointer (some ⟨v1.heap.size,2,none⟩),.pointer (some ⟨v1.heap.size,3,none⟩),.pointer (some ⟨v1.heap.size,4,none⟩),.pointer (some ⟨v1.heap.size,5,none⟩),.pointer (some ⟨v1.heap.size,6,none⟩),.pointer (some ⟨v1.heap.size,7,none⟩)] 197:=by rw [← hv4];exact ak.new _ _ _
   have hs4 : v2.heap.size <= w3.heap.size:=hb3.size
   have bq:=aS.alloc (.cells #[.pointer (some ⟨v1.heap.size,2,none⟩),.pointer (some ⟨v1.heap.size,3,none⟩),.pointer (some ⟨v1.heap.size,4,none⟩),.pointer (some ⟨v1.heap.size,5,none⟩),.pointer (some ⟨v1.heap.size,6,none⟩),.pointer (some ⟨v1.heap.size,7,none⟩)] 197);have xZ:=wL.alloc (.cells #[.pointer (some ⟨v1.heap.size,2,none⟩),.pointer (some ⟨v1.heap.size,3,none⟩),.pointer (some ⟨v1.heap.size,4,none⟩),.pointer (some ⟨v1.heap.size,5,none⟩),.pointer (some ⟨v1.heap.size,6,none⟩),.pointer (some ⟨v1.heap.size,7,none⟩)] 197);have Z6:=hA3.alloc (.cells #[.pointer (some ⟨v1.heap.size,2,none⟩),.pointer (some ⟨v1.heap.size,3,none⟩),.pointer (some ⟨v1.heap.size,4,none⟩),.pointer (some ⟨v1.heap.size,5,none⟩),.pointer (some ⟨v1.heap.size,6,none⟩),.pointer (some ⟨v1.heap.size,7,none⟩)] 197)
   have Z7:=hE3.alloc (.cells #[.pointer (some ⟨v1.heap.size,2,none⟩),.pointer (some ⟨v1.heap.size,3,none⟩),.pointer (some ⟨v1.heap.size,4,none⟩),.pointer (some ⟨v1.heap.size,5,none⟩),.pointer (some ⟨v1.heap.size,6,none⟩),.pointer (some ⟨v1.heap.size,7,none⟩)] 197);have Z8:=hZ3.alloc (.cells #[.pointer (some ⟨v1.heap.size,2,none⟩),.pointer (some ⟨v1.heap.size,3,none⟩),.pointer (some ⟨v1.heap.size,4,none⟩),.pointer (some ⟨v1.heap.size,5,none⟩),.pointer (some ⟨v1.heap.size,6,none⟩),.pointer (some ⟨v1.heap.size,7,none⟩)] 197);have hB4:=hB3.alloc hB3.size (.cells #[.pointer (some ⟨v1.heap.size,2,none⟩),.pointer (some ⟨v1.heap.size,3,none⟩),.pointer (some ⟨v1.heap.size,4,none⟩),.pointer (some ⟨v1.heap.size,5,none⟩),.pointer (some ⟨v1.heap.size,6,none⟩),.pointer (some ⟨v1.heap.size,7,none⟩)] 197)
   rw [hv4] at bq xZ Z6 Z7 Z8 hB4
   have HP4:=ah6 hP4;have yZ:=ah6 bq;have HY4:=ah6 xZ;have yY:=ah6 Z6;have MV:=ah6 Z7;have HZ4:=ah6 Z8;have gT:=ah6 hB4
   have HLY : Hid (v1.heap.size < v2.heap.size):=ah6 I9.out.lt
   clear hb3 aS wL hA3 hE3 hZ3 hB3 hP4 bq xZ Z6 Z7 Z8 hB4 dR I9 HA2 HE2 HZ2 HB2
   go_wp2_with fail
   refine (nf _ _).mono ?_
   rintro e w5 ⟨rfl,hb5⟩
   obtain ⟨cl,hcl⟩ : ∃ c : List (Array Value),c = [#[.int .i64 1,.int .i64 bi,.int .i64 b1,.int .i64 b2,.int .i64 b3,.int .i64 b4,.int .i64 b5,.int .i64 b6,.int .u16 ba],#[.int .i64 1,.int .i64 bi,.int .i64 n1,.int .i64 b2,.int .i64 b3,.int .i64 b4,.int .i64 b5,.int .i64 b6,.int .u16 ba],#[.int .i64 1,.int .i64 bi,.int .i64 n1,.int .i64 n2,.int .i64 b3,.int .i64 b4,.int .i64 b5,.int .i64 b6,.int .u16 ba],#[.int .i64 1,.int .i64 bi,.int .i64 n1,.int .i64 n2,.int .i64 n3,.int .i64 b4,.int .i64 b5,.int .i64 b6,.int .u16 ba],#[.int .i64 1,.int .i64 bi,.int .i64 n1,.int .i64 n2,.int .i64 n3,.int .i64 n4,.int .i64 b5,.int .i64 b6,.int .u16 ba],#[.int .i64 1,.int .i64 bi,.int .i64 n1,.int .i64 n2,.int .i64 n3,.int .i64 n4,.int .i64 n5,.int .i64 b6,.int .u16 ba],#[.int .i64 1,.int .i64 bi,.int .i64 n1,.int .i64 n2,.int .i64 n3,.int .i64 n4,.int .i64 n5,.int .i64 n6,.int .u16 ba]]:=⟨_,rfl⟩
   have KP:=ah6 hcl
   have HST : Hid (xY w w0.heap.size v1.heap.size w3.heap.size #[.int .i64 ai,.int .i64 a1,.int .i64 a2,.int .i64 a3,.int .i64 a4,.int .i64 a5,.int .i64 a6,.int .u16 aa,.int .u8 ag] #[.int .i64 bi,.int .i64 b1,.int .i64 b2,.int .i64 b3,.int .i64 b4,.int .i64 b5,.int .i64 b6,.int .u16 ba,.int .u8 bg] #[.int .i64 0,.int .i64 0,.int .i64 a1,.int .i64 a2,.int .i64 a3,.int .i64 a4,.int .i64 a5,.int .i64 a6,.int .u16 0] cl 0 w5):=ah6 ⟨_,by rw [hcl];rfl,yZ.out.below hb5 yZ.out.lt,HY4.out.below hb5 HY4.out.lt,HP4.out.below hb5 HP4.out.lt,yY.out.below hb5 yY.out.lt,MV.out.below hb5 MV.out.lt,HZ4.out.below hb5 HZ4.out.lt,gT.out.trans (hb5.mono gT.out.size)⟩
   have oK : Hid (w.heap.size + 3 <= w0.heap.size /\ w0.heap.size < v1.heap.size /\ v1.heap.size < w3.heap.size):=ah6 ⟨Z5.out.1,by rw [Z5.out.2];omega,by have:=HLY.out;omega⟩
   clear hb5 hcl yZ HY4 HP4 yY MV HZ4 gT Z5 HLY hs4 nf
   generalize w0.heap.size = X at *
   generalize v1.heap.size = Y at *
   generalize w3.heap.size = P at *
   go_wp2_with fail
   go_loopw [37] (λi wr=>∃ k : Nat,k <= 6 /\ i = .int .i64 k /\ xY w X Y P #[.int .i64 ai,.int .i64 a1,.int .i64 a2,.int .i64 a3,.int .i64 a4,.int .i64 a5,.int .i64 a6,.int .u16 aa,.int .u8 ag] #[.int .i64 bi,.int .i64 b1,.int .i64 b2,.int .i64 b3,.int .i64 b4,.int .i64 b5,.int .i64 b6,.int .u16 ba,.int .u8 bg] #[.int .i64 0,.int .i64 0,.int .i64 a1,.int .i64 a2,.int .i64 a3,.int .i64 a4,.int .i64 a5,.int .i64 a6,.int .u16 0] cl k wr) (λi _=>6 - (intOf i).toNat)
   case atStart=>exact ⟨0,by omega,rfl,HST.out⟩
   case round =>
    rename_i wr
    obtain ⟨k,hk,rfl,q,hq,hX,hY,hP,hA,hE,hZ,hB⟩:=hrel
    rw [KP.out] at hq
    obtain ⟨nXa,nXY,nYP⟩:=oK.out
    rcases (show k = 0 \/ k = 1 \/ k = 2 \/ k = 3 \/ k = 4 \/ k = 5 \/ k = 6 by omega) with rfl | rfl | rfl | rfl | rfl | rfl | rfl
    ·cases hq
     have x0:=hX.cell 2;have o0:=hY.cell 2;have p0:=hP.cell 0;simp at x0 o0 p0;have HX:=ah6 hX;have HY:=ah6 hY;have HP:=ah6 hP;have HA:=ah6 hA;have HE:=ah6 hE;have HZ:=ah6 hZ;have HB:=ah6 hB;have hn:=HN.out.1;clear hX hY hP hA hE hZ hB
     go_wp2_with fail
     refine aR 10 (by kernel_rfl) (by kernel_rfl) ?_
     simp only [List.take_succ_cons,List.take_zero,List.drop_succ_cons,List.drop_zero]
     repeat (apply aF;(next=>(intro W hW K hK;have y0:=hW.cell x0;have y1:=hW.cell o0;have y2:=hW.cell p0;go_simp;first | exact ⟨hW,hK⟩ | exact hK));(next=>exact aO.self _);(try go_simp))
     refine aV ?_
     intro WC aL
     have bQ : Below wr.heap.size wr WC:=aL
     have hX1:=HX.out.below bQ HX.out.lt;have f0:=hX1.free 2;have x1:=hX1.cell 2;simp at x1
     have HS2 : Hid (xY w X Y P #[.int .i64 ai,.int .i64 a1,.int .i64 a2,.int .i64 a3,.int .i64 a4,.int .i64 a5,.int .i64 a6,.int .u16 aa,.int .u8 ag] #[.int .i64 bi,.int .i64 b1,.int .i64 b2,.int .i64 b3,.int .i64 b4,.int .i64 b5,.int .i64 b6,.int .u16 ba,.int .u8 bg] #[.int .i64 0,.int .i64 0,.int .i64 a1,.int .i64 a2,.int .i64 a3,.int .i64 a4,.int .i64 a5,.int .i64 a6,.int .u16 0] cl 1 (WC.setCell ⟨X,2,none⟩ (.int .i64 n1))):=ah6 ⟨_,by rw [KP.out];rfl,by simpa using hX1.set 2 (.int .i64 n1),(HY.out.below bQ HY.out.lt).far (by show Y ≠ X;omega) _,(HP.out.below bQ HP.out.lt).far (by show P ≠ X;omega) _,(HA.out.below bQ HA.out.lt).far (by show w.heap.size ≠ X;omega) _,(HE.out.below bQ HE.out.lt).far (by show w.heap.size + 1 ≠ X;omega) _,(HZ.out.below bQ HZ.out.lt).far (by show w.heap.size + 2 ≠ X;omega) _,(HB.out.trans (bQ.mono HB.out.size)).setCell (by show w.heap.size <= X;omega) _⟩
     clear aL bQ hX1 x0 o0 p0 HX HY HP HA HE HZ HB
     go_wp2
     go_roundw
     case rel=>exact ⟨1,by omega,by first | rfl | go_num,HS2.out⟩
     case measure=>simp [intOf]
    ·cases hq
     have x0:=hX.cell 3;have o0:=hY.cell 3;have p0:=hP.cell 1;simp at x0 o0 p0;have HX:=ah6 hX;have HY:=ah6 hY;have HP:=ah6 hP;have HA:=ah6 hA;have HE:=ah6 hE;have HZ:=ah6 hZ;have HB:=ah6 hB;have hn:=HN.out.2.1;clear hX hY hP hA hE hZ hB
     go_wp2_with fail
     refine aR 10 (by kernel_rfl) (by kernel_rfl) ?_
     simp only [List.take_succ_cons,List.take_zero,List.drop_succ_cons,List.drop_zero]
     repeat (apply aF;(next=>(intro W hW K hK;have y0:=hW.cell x0;have y1:=hW.cell o0;have y2:=hW.cell p0;go_simp;first | exact ⟨hW,hK⟩ | exact hK));(next=>exact aO.self _);(try go_simp))
     refine aV ?_
     intro WC aL
     have bQ : Below wr.heap.size wr WC:=aL
     have hX1:=HX.out.below bQ HX.out.lt;have f0:=hX1.free 3;have x1:=hX1.cell 3;simp at x1
     have HS2 : Hid (xY w X Y P #[.int .i64 ai,.int .i64 a1,.int .i64 a2,.int .i64 a3,.int .i64 a4,.int .i64 a5,.int .i64 a6,.int .u16 aa,.int .u8 ag] #[.int .i64 bi,.int .i64 b1,.int .i64 b2,.int .i64 b3,.int .i64 b4,.int .i64 b5,.int .i64 b6,.int .u16 ba,.int .u8 bg] #[.int .i64 0,.int .i64 0,.int .i64 a1,.int .i64 a2,.int .i64 a3,.int .i64 a4,.int .i64 a5,.int .i64 a6,.int .u16 0] cl 2 (WC.setCell ⟨X,3,none⟩ (.int .i64 n2))):=ah6 ⟨_,by rw [KP.out];rfl,by simpa using hX1.set 3 (.int .i64 n2),(HY.out.below bQ HY.out.lt).far (by show Y ≠ X;omega) _,(HP.out.below bQ HP.out.lt).far (by show P ≠ X;omega) _,(HA.out.below bQ HA.out.lt).far (by show w.heap.size ≠ X;omega) _,(HE.out.below bQ HE.out.lt).far (by show w.heap.size + 1 ≠ X;omega) _,(HZ.out.below bQ HZ.out.lt).far (by show w.heap.size + 2 ≠ X;omega) _,(HB.out.trans (bQ.mono HB.out.size)).setCell (by show w.heap.size <= X;omega) _⟩
     clear aL bQ hX1 x0 o0 p0 HX HY HP HA HE HZ HB
     go_wp2
     go_roundw
     case rel=>exact ⟨2,by omega,by first | rfl | go_num,HS2.out⟩
     case measure=>simp [intOf]
    ·cases hq
     have x0:=hX.cell 4;have o0:=hY.cell 4;have p0:=hP.cell 2;simp at x0 o0 p0;have HX:=ah6 hX;have HY:=ah6 hY;have HP:=ah6 hP;have HA:=ah6 hA;have HE:=ah6 hE;have HZ:=ah6 hZ;have HB:=ah6 hB;have hn:=HN.out.2.2.1;clear hX hY hP hA hE hZ hB
     go_wp2_with fail
     refine aR 10 (by kernel_rfl) (by kernel_rfl) ?_
     simp only [List.take_succ_cons,List.take_zero,List.drop_succ_cons,List.drop_zero]
     repeat (apply aF;(next=>(intro W hW K hK;have y0:=hW.cell x0;have y1:=hW.cell o0;have y2:=hW.cell p0;go_simp;first | exact ⟨hW,hK⟩ | exact hK));(next=>exact aO.self _);(try go_simp))
     refine aV ?_
     intro WC aL
     have bQ : Below wr.heap.size wr WC:=aL
     have hX1:=HX.out.below bQ HX.out.lt;have f0:=hX1.free 4;have x1:=hX1.cell 4;simp at x1
     have HS2 : Hid (xY w X Y P #[.int .i64 ai,.int .i64 a1,.int .i64 a2,.int .i64 a3,.int .i64 a4,.int .i64 a5,.int .i64 a6,.int .u16 aa,.int .u8 ag] #[.int .i64 bi,.int .i64 b1,.int .i64 b2,.int .i64 b3,.int .i64 b4,.int .i64 b5,.int .i64 b6,.int .u16 ba,.int .u8 bg] #[.int .i64 0,.int .i64 0,.int .i64 a1,.int .i64 a2,.int .i64 a3,.int .i64 a4,.int .i64 a5,.int .i64 a6,.int .u16 0] cl 3 (WC.setCell ⟨X,4,none⟩ (.int .i64 n3))):=ah6 ⟨_,by rw [KP.out];rfl,by simpa using hX1.set 4 (.int .i64 n3),(HY.out.below bQ HY.out.lt).far (by show Y ≠ X;omega) _,(HP.out.below bQ HP.out.lt).far (by show P ≠ X;omega) _,(HA.out.below bQ HA.out.lt).far (by show w.heap.size ≠ X;omega) _,(HE.out.below bQ HE.out.lt).far (by show w.heap.size + 1 ≠ X;omega) _,(HZ.out.below bQ HZ.out.lt).far (by show w.heap.size + 2 ≠ X;omega) _,(HB.out.trans (bQ.mono HB.out.size)).setCell (by show w.heap.size <= X;omega) _⟩
     clear aL bQ hX1 x0 o0 p0 HX HY HP HA HE HZ HB
     go_wp2
     go_roundw
     case rel=>exact ⟨3,by omega,by first | rfl | go_num,HS2.out⟩
     case measure=>simp [intOf]
    ·cases hq
     have x0:=hX.cell 5;have o0:=hY.cell 5;have p0:=hP.cell 3;simp at x0 o0 p0;have HX:=ah6 hX;have HY:=ah6 hY;have HP:=ah6 hP;have HA:=ah6 hA;have HE:=ah6 hE;have HZ:=ah6 hZ;have HB:=ah6 hB;have hn:=HN.out.2.2.2.1;clear hX hY hP hA hE hZ hB
     go_wp2_with fail
     refine aR 10 (by kernel_rfl) (by kernel_rfl) ?_
     simp only [List.take_succ_cons,List.take_zero,List.drop_succ_cons,List.drop_zero]
     repeat (apply aF;(next=>(intro W hW K hK;have y0:=hW.cell x0;have y1:=hW.cell o0;have y2:=hW.cell p0;go_simp;first | exact ⟨hW,hK⟩ | exact hK));(next=>exact aO.self _);(try go_simp))
     refine aV ?_
     intro WC aL
     have bQ : Below wr.heap.size wr WC:=aL
     have hX1:=HX.out.below bQ HX.out.lt;have f0:=hX1.free 5;have x1:=hX1.cell 5;simp at x1
     have HS2 : Hid (xY w X Y P #[.int .i64 ai,.int .i64 a1,.int .i64 a2,.int .i64 a3,.int .i64 a4,.int .i64 a5,.int .i64 a6,.int .u16 aa,.int .u8 ag] #[.int .i64 bi,.int .i64 b1,.int .i64 b2,.int .i64 b3,.int .i64 b4,.int .i64 b5,.int .i64 b6,.int .u16 ba,.int .u8 bg] #[.int .i64 0,.int .i64 0,.int .i64 a1,.int .i64 a2,.int .i64 a3,.int .i64 a4,.int .i64 a5,.int .i64 a6,.int .u16 0] cl 4 (WC.setCell ⟨X,5,none⟩ (.int .i64 n4))):=ah6 ⟨_,by rw [KP.out];rfl,by simpa using hX1.set 5 (.int .i64 n4),(HY.out.below bQ HY.out.lt).far (by show Y ≠ X;omega) _,(HP.out.below bQ HP.out.lt).far (by show P ≠ X;omega) _,(HA.out.below bQ HA.out.lt).far (by show w.heap.size ≠ X;omega) _,(HE.out.below bQ HE.out.lt).far (by show w.heap.size + 1 ≠ X;omega) _,(HZ.out.below bQ HZ.out.lt).far (by show w.heap.size + 2 ≠ X;omega) _,(HB.out.trans (bQ.mono HB.out.size)).setCell (by show w.heap.size <= X;omega) _⟩
     clear aL bQ hX1 x0 o0 p0 HX HY HP HA HE HZ HB
     go_wp2
     go_roundw
     case rel=>exact ⟨4,by omega,by first | rfl | go_num,HS2.out⟩
     case measure=>simp [intOf]
    ·cases hq
     have x0:=hX.cell 6;have o0:=hY.cell 6;have p0:=hP.cell 4;simp at x0 o0 p0;have HX:=ah6 hX;have HY:=ah6 hY;have HP:=ah6 hP;have HA:=ah6 hA;have HE:=ah6 hE;have HZ:=ah6 hZ;have HB:=ah6 hB;have hn:=HN.out.2.2.2.2.1;clear hX hY hP hA hE hZ hB
     go_wp2_with fail
     refine aR 10 (by kernel_rfl) (by kernel_rfl) ?_
     simp only [List.take_succ_cons,List.take_zero,List.drop_succ_cons,List.drop_zero]
     repeat (apply aF;(next=>(intro W hW K hK;have y0:=hW.cell x0;have y1:=hW.cell o0;have y2:=hW.cell p0;go_simp;first | exact ⟨hW,hK⟩ | exact hK));(next=>exact aO.self _);(try go_simp))
     refine aV ?_
     intro WC aL
     have bQ : Below wr.heap.size wr WC:=aL
     have hX1:=HX.out.below bQ HX.out.lt;have f0:=hX1.free 6;have x1:=hX1.cell 6;simp at x1
     have HS2 : Hid (xY w X Y P #[.int .i64 ai,.int .i64 a1,.int .i64 a2,.int .i64 a3,.int .i64 a4,.int .i64 a5,.int .i64 a6,.int .u16 aa,.int .u8 ag] #[.int .i64 bi,.int .i64 b1,.int .i64 b2,.int .i64 b3,.int .i64 b4,.int .i64 b5,.int .i64 b6,.int .u16 ba,.int .u8 bg] #[.int .i64 0,.int .i64 0,.int .i64 a1,.int .i64 a2,.int .i64 a3,.int .i64 a4,.int .i64 a5,.int .i64 a6,.int .u16 0] cl 5 (WC.setCell ⟨X,6,none⟩ (.int .i64 n5))):=ah6 ⟨_,by rw [KP.out];rfl,by simpa using hX1.set 6 (.int .i64 n5),(HY.out.below bQ HY.out.lt).far (by show Y ≠ X;omega) _,(HP.out.below bQ HP.out.lt).far (by show P ≠ X;omega) _,(HA.out.below bQ HA.out.lt).far (by show w.heap.size ≠ X;omega) _,(HE.out.below bQ HE.out.lt).far (by show w.heap.size + 1 ≠ X;omega) _,(HZ.out.below bQ HZ.out.lt).far (by show w.heap.size + 2 ≠ X;omega) _,(HB.out.trans (bQ.mono HB.out.size)).setCell (by show w.heap.size <= X;omega) _⟩
     clear aL bQ hX1 x0 o0 p0 HX HY HP HA HE HZ HB
     go_wp2
     go_roundw
     case rel=>exact ⟨5,by omega,by first | rfl | go_num,HS2.out⟩
     case measure=>simp [intOf]
    ·cases hq
     have x0:=hX.cell 7;have o0:=hY.cell 7;have p0:=hP.cell 5;simp at x0 o0 p0;have HX:=ah6 hX;have HY:=ah6 hY;have HP:=ah6 hP;have HA:=ah6 hA;have HE:=ah6 hE;have HZ:=ah6 hZ;have HB:=ah6 hB;have hn:=HN.out.2.2.2.2.2;clear hX hY hP hA hE hZ hB
     go_wp2_with fail
     refine aR 10 (by kernel_rfl) (by kernel_rfl) ?_
     simp only [List.take_succ_cons,List.take_zero,List.drop_succ_cons,List.drop_zero]
     repeat (apply aF;(next=>(intro W hW K hK;have y0:=hW.cell x0;have y1:=hW.cell o0;have y2:=hW.cell p0;go_simp;first | exact ⟨hW,hK⟩ | exact hK));(next=>exact aO.self _);(try go_simp))
     refine aV ?_
     intro WC aL
     have bQ : Below wr.heap.size wr WC:=aL
     have hX1:=HX.out.below bQ HX.out.lt;have f0:=hX1.free 7;have x1:=hX1.cell 7;simp at x1
     have HS2 : Hid (xY w X Y P #[.int .i64 ai,.int .i64 a1,.int .i64 a2,.int .i64 a3,.int .i64 a4,.int .i64 a5,.int .i64 a6,.int .u16 aa,.int .u8 ag] #[.int .i64 bi,.int .i64 b1,.int .i64 b2,.int .i64 b3,.int .i64 b4,.int .i64 b5,.int .i64 b6,.int .u16 ba,.int .u8 bg] #[.int .i64 0,.int .i64 0,.int .i64 a1,.int .i64 a2,.int .i64 a3,.int .i64 a4,.int .i64 a5,.int .i64 a6,.int .u16 0] cl 6 (WC.setCell ⟨X,7,none⟩ (.int .i64 n6))):=ah6 ⟨_,by rw [KP.out];rfl,by simpa using hX1.set 7 (.int .i64 n6),(HY.out.below bQ HY.out.lt).far (by show Y ≠ X;omega) _,(HP.out.below bQ HP.out.lt).far (by show P ≠ X;omega) _,(HA.out.below bQ HA.out.lt).far (by show w.heap.size ≠ X;omega) _,(HE.out.below bQ HE.out.lt).far (by show w.heap.size + 1 ≠ X;omega) _,(HZ.out.below bQ HZ.out.lt).far (by show w.heap.size + 2 ≠ X;omega) _,(HB.out.trans (bQ.mono HB.out.size)).setCell (by show w.heap.size <= X;omega) _⟩
     clear aL bQ hX1 x0 o0 p0 HX HY HP HA HE HZ HB
     go_wp2
     go_roundw
     case rel=>exact ⟨6,by omega,by first | rfl | go_num,HS2.out⟩
     case measure=>simp [intOf]
    ·cases hq
     have x0:=hX.cell 0;have x1:=hX.cell 1;have x2:=hX.cell 2;have x3:=hX.cell 3;have x4:=hX.cell 4;have x5:=hX.cell 5;have x6:=hX.cell 6;have x7:=hX.cell 7;have x8:=hX.cell 8;simp at x0 x1 x2 x3 x4 x5 x6 x7 x8;have a7:=hA.cell 7;have g7:=hX.free 8;simp at a7;have V8:=HN7.out;have hX2:=hX.set 8 (.int .u16 n7)
     have HZ2:=ah6 (hZ.far (p:=⟨X,8,none⟩) (by show w.heap.size + 2 ≠ X;omega) (.int .u16 n7))
     have HB2:=ah6 (hB.setCell (p:=⟨X,8,none⟩) (by show w.heap.size <= X;omega) (.int .u16 n7))
     have hZ2:=HZ2.out;simp at hX2;have e0:=hX2.cell 0;have e1:=hX2.cell 1;have e2:=hX2.cell 2;have e3:=hX2.cell 3;have e4:=hX2.cell 4;have e5:=hX2.cell 5;have e6:=hX2.cell 6;have e7:=hX2.cell 7;have e8:=hX2.cell 8;simp at e0 e1 e2 e3 e4 e5 e6 e7 e8;have z0:=hZ2.cell 0;have z1:=hZ2.cell 1;have z2:=hZ2.cell 2;have z3:=hZ2.cell 3;have z4:=hZ2.cell 4;have z5:=hZ2.cell 5;have z6:=hZ2.cell 6;have z7:=hZ2.cell 7;have z8:=hZ2.cell 8;have y0:=hZ2.free 0;have y1:=hZ2.free 1;have y2:=hZ2.free 2;have y3:=hZ2.free 3;have y4:=hZ2.free 4;have y5:=hZ2.free 5;have y6:=hZ2.free 6;have y7:=hZ2.free 7;have y8:=hZ2.free 8;simp at z0 z1 z2 z3 z4 z5 z6 z7 z8;clear hX hX2 hY hP hA hE hZ hB hZ2
     go_wp2
     exact bodyPost_ret (v:=.tuple #[.agg #[.int .i64 1,.int .i64 bi,.int .i64 n1,.int .i64 n2,.int .i64 n3,.int .i64 n4,.int .i64 n5,.int .i64 n6,.int .u16 n7],.bool true])
      (by have hh:=mF (v0:=.int .i64 1) (v1:=.int .i64 bi) (v2:=.int .i64 n1) (v3:=.int .i64 n2) (v4:=.int .i64 n3) (v5:=.int .i64 n4) (v6:=.int .i64 n5) (v7:=.int .i64 n6) (v8:=.int .u16 n7) HZ2.out
          have g0:=hh.cell 0;have g1:=hh.cell 1;have g2:=hh.cell 2;have g3:=hh.cell 3;have g4:=hh.cell 4;have g5:=hh.cell 5;have g6:=hh.cell 6;have g7:=hh.cell 7;have g8:=hh.cell 8;simp at g0 g1 g2 g3 g4 g5 g6 g7 g8
          simp [results,Tryz.results70,go_sem,g0,g1,g2,g3,g4,g5,g6,g7,g8]) rfl
      ⟨by rw [ER.out];rfl,Gg HB2.out (by omega)⟩
  ·have hg2 : (ag == bg) = false:=by simpa using hg
   have ER : Hid (z = (⟨3,bi,b1,b2,b3,b4,b5,b6,ba⟩,true)):=ah6 (by rw [HV.out,if_neg hg])
   clear HV
   obtain ⟨v0,hv0⟩ : ∃ v,w0.alloc (.cells #[.int .i64 3,.int .i64 bi,.int .i64 b1,.int .i64 b2,.int .i64 b3,.int .i64 b4,.int .i64 b5,.int .i64 b6,.int .u16 ba] 147) = v:=⟨_,rfl⟩
   have kQ : ak v0 w0.heap.size #[.int .i64 3,.int .i64 bi,.int .i64 b1,.int .i64 b2,.int .i64 b3,.int .i64 b4,.int .i64 b5,.int .i64 b6,.int .u16 ba] 147:=by rw [← hv0];exact ak.new _ _ _
   have qd : ak v0 w.heap.size #[.int .i64 ai,.int .i64 a1,.int .i64 a2,.int .i64 a3,.int .i64 a4,.int .i64 a5,.int .i64 a6,.int .u16 aa,.int .u8 ag] 33:=by rw [← hv0];exact uS.out.alloc _
   have oz : ak v0 (w.heap.size + 1) #[.int .i64 bi,.int .i64 b1,.int .i64 b2,.int .i64 b3,.int .i64 b4,.int .i64 b5,.int .i64 b6,.int .u16 ba,.int .u8 bg] 33:=by rw [← hv0];exact MU.out.alloc _
   have pE : ak v0 (w.heap.size + 2) #[.int .i64 0,.int .i64 0,.int .i64 0,.int .i64 0,.int .i64 0,.int .i64 0,.int .i64 0,.int .i64 0,.int .u16 0] 147:=by rw [← hv0];exact HZ0.out.alloc _
   have uw : Below w.heap.size w v0:=by rw [← hv0];exact HB0.out.alloc HB0.out.size _
   have V9 : w.heap.size + 3 <= w0.heap.size:=by rw [zf.out];exact Nat.le_refl _
   have hsv : v0.heap.size = w0.heap.size + 1:=by rw [← hv0];simp
   have c0:=qd.cell 0;have c1:=qd.cell 1;have c2:=qd.cell 2;have c3:=qd.cell 3;have c4:=qd.cell 4;have c5:=qd.cell 5;have c6:=qd.cell 6;have c7:=qd.cell 7;have c8:=qd.cell 8;simp at c0 c1 c2 c3 c4 c5 c6 c7 c8;have d0:=oz.cell 0;have d1:=oz.cell 1;have d2:=oz.cell 2;have d3:=oz.cell 3;have d4:=oz.cell 4;have d5:=oz.cell 5;have d6:=oz.cell 6;have d7:=oz.cell 7;have d8:=oz.cell 8;simp at d0 d1 d2 d3 d4 d5 d6 d7 d8;have q0:=kQ.cell 0;have q1:=kQ.cell 1;have q2:=kQ.cell 2;have q3:=kQ.cell 3;have q4:=kQ.cell 4;have q5:=kQ.cell 5;have q6:=kQ.cell 6;have q7:=kQ.cell 7;have q8:=kQ.cell 8;simp at q0 q1 q2 q3 q4 q5 q6 q7 q8;have z0:=pE.cell 0;have z1:=pE.cell 1;have z2:=pE.cell 2;have z3:=pE.cell 3;have z4:=pE.cell 4;have z5:=pE.cell 5;have z6:=pE.cell 6;have z7:=pE.cell 7;have z8:=pE.cell 8;have y0:=pE.free 0;have y1:=pE.free 1;have y2:=pE.free 2
   have y3:=pE.free 3;have y4:=pE.free 4;have y5:=pE.free 5;have y6:=pE.free 6;have y7:=pE.free 7;have y8:=pE.free 8;simp at z0 z1 z2 z3 z4 z5 z6 z7 z8;have HZ1:=ah6 pE;have HB1:=ah6 uw;clear kQ qd oz pE uw uS MU HZ0 HB0 V9 hsv zf
   go_enter Tryz.func70,Tryz.ntmps70
   go_wp2
   exact bodyPost_ret (v:=.tuple #[.agg #[.int .i64 3,.int .i64 bi,.int .i64 b1,.int .i64 b2,.int .i64 b3,.int .i64 b4,.int .i64 b5,.int .i64 b6,.int .u16 ba],.bool true])
    (by have hh:=mF (v0:=.int .i64 3) (v1:=.int .i64 bi) (v2:=.int .i64 b1) (v3:=.int .i64 b2) (v4:=.int .i64 b3) (v5:=.int .i64 b4) (v6:=.int .i64 b5) (v7:=.int .i64 b6) (v8:=.int .u16 ba) HZ1.out
        have g0:=hh.cell 0;have g1:=hh.cell 1;have g2:=hh.cell 2;have g3:=hh.cell 3;have g4:=hh.cell 4;have g5:=hh.cell 5;have g6:=hh.cell 6;have g7:=hh.cell 7;have g8:=hh.cell 8;simp at g0 g1 g2 g3 g4 g5 g6 g7 g8
        simp [results,Tryz.results70,go_sem,g0,g1,g2,g3,g4,g5,g6,g7,g8]) rfl
    ⟨by rw [ER.out];rfl,Gg HB1.out (by omega)⟩
 ·have HV : Hid (z = (Ot,false)):=ah6 (by rw [HZ.out,if_pos rfl])
  clear HZ
  go_enter Tryz.func70,Tryz.ntmps70
  go_wp2
  exact bodyPost_ret (v:=.tuple #[.agg #[.int .i64 0,.int .i64 0,.int .i64 0,.int .i64 0,.int .i64 0,.int .i64 0,.int .i64 0,.int .i64 0,.int .u16 0],.bool false])
   (by have hh:=mF (v0:=.int .i64 0) (v1:=.int .i64 0) (v2:=.int .i64 0) (v3:=.int .i64 0) (v4:=.int .i64 0) (v5:=.int .i64 0) (v6:=.int .i64 0) (v7:=.int .i64 0) (v8:=.int .u16 0) HZ0.out
       have g0:=hh.cell 0;have g1:=hh.cell 1;have g2:=hh.cell 2;have g3:=hh.cell 3;have g4:=hh.cell 4;have g5:=hh.cell 5;have g6:=hh.cell 6;have g7:=hh.cell 7;have g8:=hh.cell 8;simp at g0 g1 g2 g3 g4 g5 g6 g7 g8
       simp [results,Tryz.results70,go_sem,g0,g1,g2,g3,g4,g5,g6,g7,g8]) rfl
   ⟨by rw [HV.out];rfl,Gg HB0.out (by omega)⟩
end Go.Proofs.YtklkooeimkedgaaGreat
