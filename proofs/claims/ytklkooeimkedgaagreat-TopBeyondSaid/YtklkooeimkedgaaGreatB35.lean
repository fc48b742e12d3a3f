/- Walk of TopBeyond. -/
import Derived.Laws.EntriesVeiled
import Derived.Test.YtklkooeimkedgaaGreatB17
import Derived.Test.YtklkooeimkedgaaGreatB34
set_option linter.unusedVariables false
set_option linter.unusedSimpArgs false
namespace Go.Proofs.YtklkooeimkedgaaGreat
open Go.RowKit
set_option maxRecDepth 8000
@[go_sem] theorem abz (w : World) (n : Nat) (o : Obj) : (w.drewN n).alloc o = (w.alloc o).drewN n:=rfl
abbrev sJ (f : FuncId) : Value:=.func (.func f) #[] #[]
set_option maxHeartbeats 1000000 in
theorem Mf (w : World) :
 Calls Tryz.prog 112 #[] w λe w'=>e = .returned (.agg #[sJ 154,sJ 155,sJ 156,sJ 157,sJ 152,sJ 153,sJ 154,sJ 155]) /\ Below w.heap.size w w':=by
 have HB : ∀ A B t1 t2,Hid (Below w.heap.size w ((w.alloc (.cells A t1)).alloc (.cells B t2))):=λA B t1 t2=>aiS ((aiT).alloc (by simp) _)
 go_enter Tryz.func112,Tryz.ntmps112
 go_wp2
 exact bodyPost_ret (v:=.agg #[sJ 154,sJ 155,sJ 156,sJ 157,sJ 152,sJ 153,sJ 154,sJ 155]) (by simp [results,Tryz.results112,go_sem]) rfl ⟨rfl,(HB _ _ _ _).out⟩
set_option maxRecDepth 8000
def NQ (r : Rec) : Int:=(if r.px ≠ 0 then 1 else 0) + (if r.py ≠ 0 then 2 else 0) + (if r.pz ≠ 0 then 4 else 0) + (if r.vx ≠ 0 then 8 else 0) + (if r.vy ≠ 0 then 16 else 0) + (if r.vz ≠ 0 then 32 else 0) + (if r.aJ ≠ 0 then 64 else 0)
def vC (r : Rec) : List Int:=[NQ r] ++ nb ((aj r).filter (· ≠ 0)) ++ (if r.aJ ≠ 0 then aF r.aJ else [])
def pQ (r : Rec) : List Int:=if r.kind = 2 then [] else if r.kind = 1 then vC r else nb (aj r) ++ aF r.aJ
def gQ (r : Rec) (last : Int) : Int:=if dH r ≠ 0 then dH r else if last < -1 \/ 65535 < last then 3 else if r.id <= last then 10 else 0
def nJ (r : Rec) (last : Int) : List Int:=aF (r.id - last - 1) ++ [r.kind] ++ pQ r
set_option maxHeartbeats 1000000 in
theorem XG (r : Rec) (last : Int) (w : World) (h : gQ r last ≠ 0) :
 Calls Tryz.prog 75 #[lT r,.int .i64 last] w λe w'=>e = .returned (.tuple #[.slice none 0 0,.int .i64 (gQ r last)]) /\ Below w.heap.size w w':=by
 have ck:=λw=>JG r w
 have HE : Hid (gQ r last = if dH r ≠ 0 then dH r else if last < -1 \/ 65535 < last then 3 else if r.id <= last then 10 else 0):=aiS rfl
 generalize gQ r last = er at *
 generalize dH r = ce at *
 obtain ⟨k,id,px,py,pz,vx,vy,vz,an⟩:=r
 unfold lT at *
 simp only at *
 have HB : Hid (Below w.heap.size w (w.alloc (.cells #[.int .i64 k,.int .i64 id,.int .i64 px,.int .i64 py,.int .i64 pz,.int .i64 vx,.int .i64 vy,.int .i64 vz,.int .u16 an] 147))):=aiS (aiT)
 go_enter Tryz.func75,Tryz.ntmps75
 go_wp2_with fail
 refine (ck _).mono ?_;rintro e w1 ⟨rfl,hb1⟩
 have HB1:=aiS (HB.out.trans (hb1.mono (by simp)))
 have c1:=hb1.cell (p:=⟨w.heap.size,1,none⟩) (by simp)
 simp at c1;clear hb1 ck
 by_cases hce : ce = 0
 ·subst hce
  by_cases hl : last < -1 \/ 65535 < last
  ·have HV : Hid (er = 3):=aiS (by rw [HE.out,if_neg (by simp),if_pos hl])
   clear HE h
   rcases hl with hl | hl
   ·go_wp2
    exact bodyPost_ret (v:=.tuple #[.slice none 0 0,.int .i64 3]) (by simp [results,Tryz.results75,go_sem]) rfl ⟨by rw [HV.out],HB1.out⟩
   ·have hl2 : ¬ last < -1:=by omega
    go_wp2
    exact bodyPost_ret (v:=.tuple #[.slice none 0 0,.int .i64 3]) (by simp [results,Tryz.results75,go_sem]) rfl ⟨by rw [HV.out],HB1.out⟩
  ·have hl1 : ¬ last < -1:=by omega
   have hl2 : ¬ 65535 < last:=by omega
   have hid : id <= last:=by
    rcases Int.lt_or_le last id with hh | hh
    ·exfalso;apply h;rw [HE.out,if_neg (by simp),if_neg hl,if_neg (by omega)]
    ·exact hh
   have HV : Hid (er = 10):=aiS (by rw [HE.out,if_neg (by simp),if_neg hl,if_pos hid])
   clear HE h hl
   go_wp2
   exact bodyPost_ret (v:=.tuple #[.slice none 0 0,.int .i64 10]) (by simp [results,Tryz.results75,go_sem]) rfl ⟨by rw [HV.out],HB1.out⟩
 ·have HV : Hid (er = ce):=aiS (by rw [HE.out,if_pos hce])
  have ahS : (ce != 0) = true:=by simpa using hce
  clear HE h hce
  go_wp2
  exact bodyPost_ret (v:=.tuple #[.slice none 0 0,.int .i64 ce]) (by simp [results,Tryz.results75,go_sem]) rfl ⟨by rw [HV.out],HB1.out⟩
set_option maxRecDepth 8000
def fE (e : Int) (s : aI) : aI:=(s.1,if s.2 = 0 then e else s.2)
def xH (r : Rec) (s : aI) : Rec × aI :=
 (⟨r.kind,r.id,(dW s).1.1,(dW s).1.2.1,(dW s).1.2.2,(dW (dW s).2).1.1,(dW (dW s).2).1.2.1,(dW (dW s).2).1.2.2,(bf 65535 (dW (dW s).2).2).1⟩,(bf 65535 (dW (dW s).2).2).2)
def tC (q : Int × aI) : Int × aI:=(q.1,if q.1 = 0 then fE 7 q.2 else q.2)
def gM (m : Int) (i : Nat) (s : aI) : Int × aI:=if m / 2 ^ i % 2 = 0 then (0,s) else tC (dV s)
def rT (m : Int) (s : aI) : Int × aI:=if m / 64 % 2 = 0 then (0,s) else tC (bf 65535 s)
def jl (m : Int) : List Nat -> aI -> List Int × aI
 | [],s=>([],s)
 | i :: l,s=>((gM m i s).1 :: (jl m l (gM m i s).2).1,(jl m l (gM m i s).2).2)
def vU (r : Rec) (s : aI) : Rec × aI :=
 if (bG s).1 = 0 \/ 127 < (bG s).1 then (r,fE 7 (bG s).2) else
 (⟨r.kind,r.id,(jl (bG s).1 [0,1,2,3,4,5] (bG s).2).1.getD 0 0,(jl (bG s).1 [0,1,2,3,4,5] (bG s).2).1.getD 1 0,(jl (bG s).1 [0,1,2,3,4,5] (bG s).2).1.getD 2 0,(jl (bG s).1 [0,1,2,3,4,5] (bG s).2).1.getD 3 0,(jl (bG s).1 [0,1,2,3,4,5] (bG s).2).1.getD 4 0,(jl (bG s).1 [0,1,2,3,4,5] (bG s).2).1.getD 5 0,(rT (bG s).1 (jl (bG s).1 [0,1,2,3,4,5] (bG s).2).2).1⟩,(rT (bG s).1 (jl (bG s).1 [0,1,2,3,4,5] (bG s).2).2).2)
def rdKind (k : Int) (r : Rec) (s : aI) : Rec × aI :=
 if k = 0 \/ k = 3 then xH r s else if k = 1 then vU r s else if k = 2 then (r,s) else (r,fE 11 s)
def F7 : Rec:=⟨0,0,0,0,0,0,0,0,0⟩
def rU (last : Int) (s : aI) : Rec × aI :=
 (⟨(bG (bf (65535 - (last + 1)) s).2).1,last + 1 + (bf (65535 - (last + 1)) s).1,0,0,0,0,0,0,0⟩,(bG (bf (65535 - (last + 1)) s).2).2)
def qw (last : Int) (s : aI) : Rec × aI:=rdKind (rU last s).1.kind (rU last s).1 (rU last s).2
def dN (last : Int) (s : aI) : Rec × Int × aI :=
 if last = 65535 then (F7,(fE 10 s).2,fE 10 s) else
 if (qw last s).2.2 ≠ 0 then (F7,(qw last s).2.2,(qw last s).2) else ((qw last s).1,0,(qw last s).2)
structure Gr where
 tick : Int
 time : Int
 base : Int
 recs : List Rec
def oJ : Gr:=⟨0,0,0,[]⟩
def gX (tick time base : Int) (n : Nat) : Int :=
 if tick < 0 \/ 4294967295 < tick \/ time < -2305843009213693952 \/ 2305843009213693952 < time \/ base < -1 then 3 else if tick <= base then 10 else if 128 < n then 8 else 0
def iE (tick base : Int) : Int:=if 0 <= base then tick - base else 0
def vD (tick time base : Int) (n : Nat) : List Int:=[71,1] ++ aF tick ++ aF (kU time) ++ aF (iE tick base) ++ aF n
def lZ : Int -> List Rec -> Int
 | _,[]=>0
 | last,r :: l=>if gQ r last ≠ 0 then gQ r last else lZ r.id l
def kQ : Int -> List Rec -> List Int
 | _,[]=>[]
 | last,r :: l=>nJ r last ++ kQ r.id l
def dx (g : Gr) : Int:=if gX g.tick g.time g.base g.recs.length ≠ 0 then gX g.tick g.time g.base g.recs.length else lZ (-1) g.recs
def jm (g : Gr) : List Int:=vD g.tick g.time g.base g.recs.length ++ kQ (-1) g.recs
def nZ (g : Gr) : Int:=if dx g ≠ 0 then dx g else if 4092 < (jm g).length then 8 else 0
def xI (g : Gr) : List Int:=jm g ++ vL (jk (jm g))
def jU (c : Int) (s : aI) : aI:=if (bG s).1 = c then (bG s).2 else fE 7 (bG s).2
def jL (s : aI) : aI:=jU 1 (jU 71 s)
def mG (t : Int) : Prop:=-2305843009213693952 <= t /\ t <= 2305843009213693952
instance (t : Int) : Decidable (mG t):=by unfold mG;exact inferInstance
def iF (s : aI) : Int × Int × aI :=
 ((bf 4294967295 s).1,(dV (bf 4294967295 s).2).1,if mG (dV (bf 4294967295 s).2).1 then (dV (bf 4294967295 s).2).2 else fE 3 (dV (bf 4294967295 s).2).2)
def rV (tick : Int) (s : aI) : Int × aI:=(if 0 < (bf tick s).1 then tick - (bf tick s).1 else -1,(bf tick s).2)
def gu : Nat -> Int -> aI -> List Rec × aI
 | 0,_,s=>([],s)
 | n + 1,last,s=>if (dN last s).2.1 ≠ 0 then ([],(dN last s).2.2) else
   ((dN last s).1 :: (gu n (dN last s).1.id (dN last s).2.2).1,(gu n (dN last s).1.id (dN last s).2.2).2)
def lC (s : aI) : List Rec × aI:=gu (bf 128 s).1.toNat (-1) (bf 128 s).2
def iG (s : aI) : Gr × aI :=
 (⟨(iF (jL s)).1,(iF (jL s)).2.1,(rV (iF (jL s)).1 (iF (jL s)).2.2).1,(lC (rV (iF (jL s)).1 (iF (jL s)).2.2).2).1⟩,(lC (rV (iF (jL s)).1 (iF (jL s)).2.2).2).2)
def lD (s : aI) : Int:=if s.2 ≠ 0 then s.2 else if s.1 = [] then 0 else 8
def bD (zs : List Int) : Gr × Int :=
 if 4096 < zs.length then (oJ,8) else match iD zs with
 | none=>(oJ,9)
 | some x=>if lD (iG (x,0)).2 ≠ 0 then (oJ,lD (iG (x,0)).2) else ((iG (x,0)).1,0)
theorem Ui (x : Int) : aF x ≠ []:=by unfold aF;simp
theorem Dq (c : Int) (l : List Int) : bG (c :: l,0) = (c,(l,0)):=by
 simp [bG,iK,jW]
theorem nM {most x : Int} (hx : gY x) (hm : x <= most) (l : List Int) : bf most (aF x ++ l,0) = (x,(l,0)):=by
 have h:=Pv hx l
 have hn : ¬ (aF x ++ l = []):=by simp [Ui]
 have hm' : ¬ most < x:=by omega
 simp only [bf,iK,iR,h,hn,hm',ne_eq,not_true_eq_false,if_false,and_false,true_and]
 rw [← d9,List.drop_left]
theorem zJ {n : Int} (hn : ay n) (l : List Int) : dV (zb n ++ l,0) = (n,(l,0)):=by
 have hz:=sV hn
 unfold dV zb
 rw [nM hz hz.2,Xj]
theorem JH {x y z : Int} (hx : ay x) (hy : ay y) (hz : ay z) (l : List Int) : dW (zb x ++ (zb y ++ (zb z ++ l)),0) = ((x,y,z),(l,0)) :=
 Ji _ (zJ hx _) (zJ hy _) (zJ hz _)
theorem NR {r : Rec} (hr : r.Ok) (q : Rec) (l : List Int) : xH q (nb (aj r) ++ aF r.aJ ++ l,0) = (⟨q.kind,q.id,r.px,r.py,r.pz,r.vx,r.vy,r.vz,r.aJ⟩,(l,0)):=by
 have e : nb (aj r) ++ aF r.aJ ++ l = zb r.px ++ (zb r.py ++ (zb r.pz ++ (zb r.vx ++ (zb r.vy ++ (zb r.vz ++ (aF r.aJ ++ l)))))):=by
  simp [nb,aj]
 have ha:=hr.aJ
 have hu : gY r.aJ:=⟨by omega,by omega⟩
 rw [e]
 unfold xH
 rw [JH hr.px hr.py hr.pz]
 simp only
 rw [JH hr.vx hr.vy hr.vz]
 simp only
 rw [nM hu (by omega)]
theorem Zl {r : Rec} (hk : r.kind = 2) (hc : dH r = 0) : (⟨2,r.id,0,0,0,0,0,0,0⟩ : Rec) = r:=by
 obtain ⟨k,id,px,py,pz,vx,vy,vz,an⟩:=r
 simp only at hk
 subst hk
 unfold dH IQ at hc
 simp only at hc
 split at hc
 ·cases hc
 split at hc
 ·cases hc
 split at hc
 ·cases hc
 rename_i h
 have h2 : ((px == 0 && py == 0 && pz == 0) && (vx == 0 && vy == 0 && vz == 0) && an == 0) = true:=by
  cases hb : ((px == 0 && py == 0 && pz == 0) && (vx == 0 && vy == 0 && vz == 0) && an == 0)
  ·exact absurd (.inr ⟨by first | rfl | trivial,hb⟩) h
  ·rfl
 simp only [Bool.and_eq_true,beq_iff_eq] at h2
 obtain ⟨⟨⟨⟨a,b⟩,c⟩,⟨d,e⟩,f⟩,g⟩:=h2
 subst a b c d e f g
 rfl
theorem xJ {r : Rec} {last : Int} (h : gQ r last = 0) : dH r = 0 /\ -1 <= last /\ last < r.id /\ 0 <= r.kind /\ r.kind <= 3 /\ 0 <= r.id /\ r.id <= 65535:=by
 have hc : dH r = 0:=by
  unfold gQ at h
  split at h
  ·rename_i hh;exact absurd h hh
  ·rename_i hh;exact Decidable.of_not_not hh
 have h2:=h
 unfold gQ at h2
 rw [if_neg (by simpa using hc)] at h2
 split at h2
 ·cases h2
 split at h2
 ·cases h2
 have h3:=hc
 unfold dH at h3
 split at h3
 ·cases h3
 split at h3
 ·cases h3
 exact ⟨hc,by omega,by omega,by omega,by omega,by omega,by omega⟩
theorem Uj {r : Rec} (hr : r.Ok) {last : Int} (h : gQ r last = 0) (hk : r.kind ≠ 1) (l : List Int) : dN last (nJ r last ++ l,0) = (r,0,(l,0)):=by
 obtain ⟨hc,h1,h2,k0,k3,i0,i1⟩:=xJ h
 unfold dN
 rw [if_neg (by omega)]
 have hh : rU last (nJ r last ++ l,0) = (⟨r.kind,r.id,0,0,0,0,0,0,0⟩,(pQ r ++ l,0)):=by
  unfold rU nJ
  rw [List.append_assoc,List.append_assoc,nM ⟨by omega,by omega⟩ (by omega)]
  simp only [List.cons_append,List.nil_append]
  rw [Dq]
  simp only
  rw [show last + 1 + (r.id - last - 1) = r.id by omega]
 have ha : qw last (nJ r last ++ l,0) = (r,(l,0)):=by
  unfold qw
  rw [hh]
  simp only
  unfold rdKind pQ
  by_cases e2 : r.kind = 2
  ·rw [if_neg (by omega),if_neg (by omega),if_pos e2,if_pos e2,e2]
   rw [Zl e2 hc];rfl
  ·rw [if_pos (by omega),if_neg e2,if_neg hk,NR hr]
 rw [ha]
 simp
theorem GL : ∀ (rs : List Rec) (last : Int) (l : List Int),(∀ r ∈ rs,r.Ok /\ r.kind ≠ 1) -> lZ last rs = 0 -> gu rs.length last (kQ last rs ++ l,0) = (rs,(l,0))
 | [],last,l,_,_=>rfl
 | r :: rs,last,l,hr,h=>by
   unfold lZ at h
   have h1 : gQ r last = 0:=by
    split at h
    ·rename_i hh;exact absurd h hh
    ·rename_i hh;exact Decidable.of_not_not hh
   rw [if_neg (by simpa using h1)] at h
   have hk:=hr r (List.mem_cons_self ..)
   rw [List.length_cons,gu,kQ,List.append_assoc,Uj hk.1 h1 hk.2]
   simp only
   rw [GL rs r.id l (λr' h'=>hr r' (List.mem_cons_of_mem _ h')) h]
   simp
theorem xK {y c : Int} (hy : 0 <= y) (hm : y % 256 = 0) (h1 : y < 4294967296) (hc : U8 c) : bits .or .u32 y c = y + c:=by
 obtain ⟨c0,c1⟩:=hc
 have e : bits .or .u32 y c = bits .or .u32 c y:=by simp [bits,BitVec.or_comm]
 rw [e,bits_join_low .u32 32 (by decide) wraps_u32 8 c y c0 (by omega) (by omega) hy (by simpa using hm) (by omega)]
 omega
theorem QT {s : Int} (h : uj s) : nV 0 (vL s) = s:=by
 obtain ⟨s0,s1⟩:=h
 unfold vL
 simp only [nV]
 rw [xK (by omega) (by omega) (by omega) ⟨by omega,by omega⟩,xK (by omega) (by omega) (by omega) ⟨by omega,by omega⟩,xK (by omega) (by omega) (by omega) ⟨by omega,by omega⟩,xK (by omega) (by omega) (by omega) ⟨by omega,by omega⟩]
 omega
theorem NS (zs : List Int) : iD (zs ++ vL (jk zs)) = some zs:=by
 have hl : (vL (jk zs)).length = 4:=rfl
 unfold iD
 rw [if_neg (by rw [List.length_append,hl];omega)]
 have e : (zs ++ vL (jk zs)).length - 4 = zs.length:=by rw [List.length_append,hl];omega
 rw [e,List.drop_left,List.take_left,QT (zB zs),if_pos rfl]
theorem Dr (c : Int) (l : List Int) : jU c (c :: l,0) = (l,0):=by
 unfold jU;rw [Dq,if_pos rfl]
theorem XH {g : Gr} (h : nZ g = 0) (hr : ∀ r ∈ g.recs,r.Ok /\ r.kind ≠ 1) : bD (xI g) = (g,0):=by
 have hb : dx g = 0:=by
  unfold nZ at h
  split at h
  ·rename_i hh;exact absurd h hh
  ·rename_i hh;exact Decidable.of_not_not hh
 unfold nZ at h
 rw [if_neg (by simpa using hb)] at h
 have hlen : (jm g).length <= 4092:=by
  split at h
  ·cases h
  ·omega
 clear h
 obtain ⟨tick,time,base,rs⟩:=g
 unfold dx at hb
 simp only at hb hr
 have hh : gX tick time base rs.length = 0:=by
  split at hb
  ·rename_i hh;exact absurd hb hh
  ·rename_i hh;exact Decidable.of_not_not hh
 rw [if_neg (by simpa using hh)] at hb
 unfold gX at hh
 split at hh
 ·cases hh
 split at hh
 ·cases hh
 split at hh
 ·cases hh
 rename_i a1 a2 a3
 have hz : (vL (jk (jm ⟨tick,time,base,rs⟩))).length = 4:=rfl
 unfold bD xI
 rw [if_neg (by rw [List.length_append,hz];omega),NS]
 simp only
 have ht : ay time:=⟨by omega,by omega⟩
 have hzu:=sV ht
 have hs : iG (jm ⟨tick,time,base,rs⟩,0) = (⟨tick,time,base,rs⟩,([],0)):=by
  have e1 : jL (jm ⟨tick,time,base,rs⟩,0) = (aF tick ++ (aF (kU time) ++ (aF (iE tick base) ++ (aF (rs.length : Int) ++ kQ (-1) rs))),0):=by
   unfold jL jm vD
   simp only [List.append_assoc,List.cons_append,List.nil_append]
   rw [Dr,Dr]
  have e2 : iF (aF tick ++ (aF (kU time) ++ (aF (iE tick base) ++ (aF (rs.length : Int) ++ kQ (-1) rs))),0) = (tick,time,(aF (iE tick base) ++ (aF (rs.length : Int) ++ kQ (-1) rs),0)):=by
   unfold iF
   rw [nM ⟨by omega,by omega⟩ (by omega)]
   have:=zJ ht (aF (iE tick base) ++ (aF (rs.length : Int) ++ kQ (-1) rs))
   unfold zb at this
   simp only
   rw [this]
   simp only
   rw [if_pos ⟨by omega,by omega⟩]
  have hbk : 0 <= iE tick base /\ iE tick base <= tick:=by unfold iE;split <;> omega
  have e3 : rV tick (aF (iE tick base) ++ (aF (rs.length : Int) ++ kQ (-1) rs),0) = (base,(aF (rs.length : Int) ++ kQ (-1) rs,0)):=by
   unfold rV
   rw [nM ⟨by omega,by omega⟩ hbk.2]
   simp only
   congr 1
   unfold iE
   split
   ·rw [if_pos (by omega)];omega
   ·rw [if_neg (by omega)];omega
  have e4 : lC (aF (rs.length : Int) ++ kQ (-1) rs,0) = (rs,([],0)):=by
   unfold lC
   rw [nM ⟨by omega,by omega⟩ (by omega)]
   simp only [Int.toNat_natCast]
   have:=GL rs (-1) [] hr hb
   rwa [List.append_nil] at this
  unfold iG
  rw [e1,e2]
  simp only
  rw [e3]
  simp only
  rw [e4]
 rw [hs]
 simp [lD]
set_option maxRecDepth 8000
theorem abM (R X : Nat) (w : World) : Calls Tryz.prog 153 #[.pointer (some ⟨R,0,none⟩),.pointer (some ⟨X,0,none⟩)] w λe w'=>e = .returned (.tuple #[]) /\ w = w':=by
 go_enter Tryz.func153,Tryz.ntmps153
 go_wp2
 exact bodyPost_end (v:=.tuple #[]) (by simp [results,Tryz.results153,go_sem]) rfl ⟨rfl,rfl⟩
set_option maxHeartbeats 1000000 in
theorem XI {B0 : Nat} (R X : Nat) (s : aI) (r : Rec) (w : World) (h : bq w R B0 s) (hX : ak w X (aX r) 147) (vV : B0 <= X) (vW : X ≠ R) :
 Calls Tryz.prog 155 #[.pointer (some ⟨R,0,none⟩),.pointer (some ⟨X,0,none⟩)] w λe w'=>e = .returned (.tuple #[]) /\ bq w' R B0 (xH r s).2 /\ ak w' X (aX (xH r s).1) 147 /\ Only (λk=>k = R \/ k = X) w w':=by
 have hB0 : B0 <= w.heap.size:=by have:=hX.lt;omega
 have v1:=PX (B0:=B0) R s w h hB0
 have v2:=λw h hB=>PX (B0:=B0) R (dW s).2 w h hB
 have u1:=λw h=>sW (B0:=B0) R (dW (dW s).2).2 65535 w h
 have ub : aV (dW (dW s).2).2.1 -> 0 <= (bf 65535 (dW (dW s).2).2).1 /\ (bf 65535 (dW (dW s).2).2).1 <= 65535:=λh=>iZ h (by decide)
 unfold xH
 simp only
 generalize dW s = q1 at *
 generalize dW q1.2 = q2 at *
 generalize bf 65535 q2.2 = q3 at *
 obtain ⟨⟨x,y,z⟩,s1⟩:=q1
 obtain ⟨⟨vx,vy,vz⟩,s2⟩:=q2
 obtain ⟨an,s3⟩:=q3
 simp only at *
 obtain ⟨rk,ri,r1,r2,r3,r4,r5,r6,ra⟩:=r
 simp only at *
 have HX0:=aiS hX;have mR:=aiS vW;clear h hX
 go_enter Tryz.func155,Tryz.ntmps155
 go_wp2_with fail
 refine v1.mono ?_;rintro e w1 ⟨rfl,oh,mU⟩
 have JI:=v2 w1 oh (Nat.le_trans hB0 mU.size);have fu:=aiS (mU.blk HX0.out vW);have oK:=aiS mU;clear v1 v2 oh mU
 go_wp2_with fail
 refine JI.mono ?_;rintro e w2 ⟨rfl,hR2,hO2⟩
 have hX2:=hO2.blk fu.out vW;have bQ:=aiS (oK.out.trans hO2);have d2:=hX2.cell 2;have d3:=hX2.cell 3;have d4:=hX2.cell 4;have d5:=hX2.cell 5;have d6:=hX2.cell 6;have d7:=hX2.cell 7;have d8:=hX2.cell 8;have f2:=hX2.free 2;have f3:=hX2.free 3;have f4:=hX2.free 4;have f5:=hX2.free 5;have f6:=hX2.free 6;have f7:=hX2.free 7;have f8:=hX2.free 8;simp at d2 d3 d4 d5 d6 d7 d8;have jB:=aiS ((((((hX2.set 2 (.int .i64 x)).set 3 (.int .i64 y)).set 4 (.int .i64 z)).set 5 (.int .i64 vx)).set 6 (.int .i64 vy)).set 7 (.int .i64 vz))
 have HR3:=aiS ((((((hR2.cZ (p:=⟨X,2,none⟩) (Ne.symm vW) vV (.int .i64 x)).cZ (p:=⟨X,3,none⟩) (Ne.symm vW) vV (.int .i64 y)).cZ (p:=⟨X,4,none⟩) (Ne.symm vW) vV (.int .i64 z)).cZ (p:=⟨X,5,none⟩) (Ne.symm vW) vV (.int .i64 vx)).cZ (p:=⟨X,6,none⟩) (Ne.symm vW) vV (.int .i64 vy)).cZ (p:=⟨X,7,none⟩) (Ne.symm vW) vV (.int .i64 vz))
 have hOX : Only (λk=>k = R \/ k = X) w w2:=bQ.out.weaken (λk _ hk=>.inl hk)
 have fK:=aiS ((((((hOX.setCell (p:=⟨X,2,none⟩) (.inl (.inr rfl)) (.int .i64 x)).setCell (p:=⟨X,3,none⟩) (.inl (.inr rfl)) (.int .i64 y)).setCell (p:=⟨X,4,none⟩) (.inl (.inr rfl)) (.int .i64 z)).setCell (p:=⟨X,5,none⟩) (.inl (.inr rfl)) (.int .i64 vx)).setCell (p:=⟨X,6,none⟩) (.inl (.inr rfl)) (.int .i64 vy)).setCell (p:=⟨X,7,none⟩) (.inl (.inr rfl)) (.int .i64 vz));have e8:=ub HR3.out.u8
 have hwr : IntKind.u16.wrap an = an:=wraps_u16 _ (by omega) (by omega)
 clear JI hX2 hR2 hO2 hOX HX0 fu oK bQ ub vW
 go_wp2_with fail
 refine (u1 _ HR3.out).mono ?_;rintro e w3 ⟨rfl,QU,hO4⟩
 have bA:=hO4.blk jB.out mR.out;have g8:=bA.cell 8;have k8:=bA.free 8;simp at g8;have fV:=aiS (bA.set 8 (.int .u16 an));have eT:=aiS (QU.cZ (p:=⟨X,8,none⟩) (Ne.symm mR.out) vV (.int .u16 an))
 have dY:=aiS ((fK.out.trans (hO4.weaken (T:=λk=>k = R \/ k = X) (λk _ hk=>.inl hk))).setCell (p:=⟨X,8,none⟩) (.inl (.inr rfl)) (.int .u16 an))
 clear u1 bA QU hO4 jB HR3 fK d2 d3 d4 d5 d6 d7 d8 f2 f3 f4 f5 f6 f7 f8
 go_wp2
 exact bodyPost_end (v:=.tuple #[]) (by simp [results,Tryz.results155,go_sem]) rfl ⟨rfl,eT.out,by simpa [aX] using fV.out,dY.out⟩
set_option maxRecDepth 8000
theorem Uk : ∀ n : Fin 256,bits .and .u8 (n.val : Int) 1 = (n.val : Int) % 2:=by decide +kernel
theorem vI {y : Int} (h : U8 y) : bits .and .u8 y 1 = y % 2:=by
 obtain ⟨h0,h1⟩:=h
 have:=Uk ⟨y.toNat,by omega⟩
 simp only at this
 rwa [Int.toNat_of_nonneg h0] at this
theorem QV : ∀ n : Fin 256,bits .and .u8 (n.val : Int) 64 = 64 * ((n.val : Int) / 64 % 2):=by decide +kernel
theorem Ul {y : Int} (h : U8 y) : bits .and .u8 y 64 = 64 * (y / 64 % 2):=by
 obtain ⟨h0,h1⟩:=h
 have:=QV ⟨y.toNat,by omega⟩
 simp only at this
 rwa [Int.toNat_of_nonneg h0] at this
def jM (w : World) (R X B0 : Nat) (c : List (Array Value × aI)) (k : Nat) (wr : World) : Prop :=
 ∃ q,c[k]? = some q /\ ak wr X q.1 147 /\ bq wr R B0 q.2 /\ Only (λk=>k = R \/ k = X) w wr
set_option maxHeartbeats 4000000 in
theorem Um {B0 : Nat} (R X : Nat) (s : aI) (rk ri : Int) (w : World) (h : bq w R B0 s) (hX : ak w X (aX ⟨rk,ri,0,0,0,0,0,0,0⟩) 147) (vV : B0 <= X) (vW : X ≠ R) :
 Calls Tryz.prog 157 #[.pointer (some ⟨R,0,none⟩),.pointer (some ⟨X,0,none⟩)] w λe w'=>e = .returned (.tuple #[]) /\ bq w' R B0 (vU ⟨rk,ri,0,0,0,0,0,0,0⟩ s).2 /\ ak w' X (aX (vU ⟨rk,ri,0,0,0,0,0,0,0⟩ s).1) 147 /\ Only (λk=>k = R \/ k = X) w w':=by
 have bt:=FR (B0:=B0) R s w h
 have fl:=λs e he w h=>yM (B0:=B0) R s e he w h
 have rI:=λs w h=>Jg (B0:=B0) R s w h
 have V4:=Az h.u8
 unfold aX at hX
 unfold vU
 simp only
 generalize bG s = q at *
 obtain ⟨m,s0⟩:=q
 simp only at *
 have HX0:=aiS hX;have mR:=aiS vW;have aeI:=h.lt;have hXlt:=hX.lt
 by_cases hbad : m = 0 \/ 127 < m
 ·rw [if_pos hbad]
  have fl7:=fl s0 7 (by decide)
  have hpk : (m == 0 || decide (127 < m)) = true:=by
   rcases hbad with h | h
   ·simp [h]
   ·simp [h]
  clear h hX rI fl
  go_enter Tryz.func157,Tryz.ntmps157
  go_wp2_with fail
  refine bt.mono ?_;rintro e w1 ⟨rfl,oh,mU⟩
  have fu:=aiS (mU.blk HX0.out vW);have oK:=aiS mU;have f1:=fl7 w1 oh;clear oh mU bt fl7
  rcases hbad with rfl | hbad
  ·go_wp2_with fail
   refine f1.mono ?_;rintro e w2 ⟨rfl,hR2,hO2⟩
   have dU:=aiS (hO2.blk fu.out mR.out)
   have bQ:=aiS ((oK.out.trans hO2).weaken (T:=λk=>k = R \/ k = X) (λk _ hk=>.inl hk))
   clear hO2 f1
   go_wp2
   exact bodyPost_ret (v:=.tuple #[]) (by simp [results,Tryz.results157,go_sem]) rfl ⟨rfl,hR2,by simpa [aX] using dU.out,bQ.out⟩
  ·have hm0 : (m == 0) = false:=by simp;omega
   go_wp2_with fail
   refine f1.mono ?_;rintro e w2 ⟨rfl,hR2,hO2⟩
   have dU:=aiS (hO2.blk fu.out mR.out)
   have bQ:=aiS ((oK.out.trans hO2).weaken (T:=λk=>k = R \/ k = X) (λk _ hk=>.inl hk))
   clear hO2 f1
   go_wp2
   exact bodyPost_ret (v:=.tuple #[]) (by simp [results,Tryz.results157,go_sem]) rfl ⟨rfl,hR2,by simpa [aX] using dU.out,bQ.out⟩
 ·rw [if_neg hbad]
  have hm0 : (m == 0) = false:=by simp;omega
  have hm1 : ¬ 127 < m:=by omega
  obtain ⟨x0,s1,e0⟩ : ∃ x t,gM m 0 s0 = (x,t):=⟨_,_,rfl⟩
  obtain ⟨x1,s2,e1⟩ : ∃ x t,gM m 1 s1 = (x,t):=⟨_,_,rfl⟩
  obtain ⟨x2,s3,e2⟩ : ∃ x t,gM m 2 s2 = (x,t):=⟨_,_,rfl⟩
  obtain ⟨x3,s4,e3⟩ : ∃ x t,gM m 3 s3 = (x,t):=⟨_,_,rfl⟩
  obtain ⟨x4,s5,e4⟩ : ∃ x t,gM m 4 s4 = (x,t):=⟨_,_,rfl⟩
  obtain ⟨x5,s6,e5⟩ : ∃ x t,gM m 5 s5 = (x,t):=⟨_,_,rfl⟩
  obtain ⟨an,s7,e6⟩ : ∃ x t,rT m s6 = (x,t):=⟨_,_,rfl⟩
  have HE : Hid (jl m [0,1,2,3,4,5] s0 = ([x0,x1,x2,x3,x4,x5],s6)):=aiS (by
   simp only [jl,e0,e1,e2,e3,e4,e5])
  rw [HE.out]
  simp only
  rw [e6]
  simp only [List.getD_cons_zero,List.getD_cons_succ]
  have a0:=vI V4
  have a1:=vI (y:=m / 2 ^ 1) ⟨by omega,by omega⟩
  have a2:=vI (y:=m / 2 ^ 2) ⟨by omega,by omega⟩
  have a3:=vI (y:=m / 2 ^ 3) ⟨by omega,by omega⟩
  have a4:=vI (y:=m / 2 ^ 4) ⟨by omega,by omega⟩
  have a5:=vI (y:=m / 2 ^ 5) ⟨by omega,by omega⟩
  have a6:=Ul V4
  simp only [Int.reducePow,Nat.reducePow,Int.pow_zero] at a1 a2 a3 a4 a5
  obtain ⟨c,hc⟩ : ∃ c : List (Array Value × aI),c = [(#[.int .i64 rk,.int .i64 ri,.int .i64 0,.int .i64 0,.int .i64 0,.int .i64 0,.int .i64 0,.int .i64 0,.int .u16 0],s0),(#[.int .i64 rk,.int .i64 ri,.int .i64 x0,.int .i64 0,.int .i64 0,.int .i64 0,.int .i64 0,.int .i64 0,.int .u16 0],s1),(#[.int .i64 rk,.int .i64 ri,.int .i64 x0,.int .i64 x1,.int .i64 0,.int .i64 0,.int .i64 0,.int .i64 0,.int .u16 0],s2),(#[.int .i64 rk,.int .i64 ri,.int .i64 x0,.int .i64 x1,.int .i64 x2,.int .i64 0,.int .i64 0,.int .i64 0,.int .u16 0],s3),(#[.int .i64 rk,.int .i64 ri,.int .i64 x0,.int .i64 x1,.int .i64 x2,.int .i64 x3,.int .i64 0,.int .i64 0,.int .u16 0],s4),(#[.int .i64 rk,.int .i64 ri,.int .i64 x0,.int .i64 x1,.int .i64 x2,.int .i64 x3,.int .i64 x4,.int .i64 0,.int .u16 0],s5),(#[.int .i64 rk,.int .i64 ri,.int .i64 x0,.int .i64 x1,.int .i64 x2,.int .i64 x3,.int .i64 x4,.int .i64 x5,.int .u16 0],s6)]:=⟨_,rfl⟩
  have HC:=aiS hc;have E0:=aiS e0;have E1:=aiS e1;have E2:=aiS e2;have E3:=aiS e3;have E4:=aiS e4;have E5:=aiS e5;have E6:=aiS e6;have H8:=aiS V4;have qA:=aiS a6
  have nf:=λw=>EL X w
  unfold ptrs at nf
  clear h hX HE e0 e1 e2 e3 e4 e5 e6 hc V4 a6 hbad
  go_enter Tryz.func157,Tryz.ntmps157
  go_wp2_with fail
  refine bt.mono ?_;rintro e w1 ⟨rfl,oh,mU⟩
  have fu:=aiS (mU.blk HX0.out vW);have HR1:=aiS oh;have oK:=aiS mU;clear oh mU bt HX0
  go_wp2_with fail
  refine (nf _).mono ?_;rintro e w2 ⟨rfl,hb2⟩
  have HS : Hid (jM w R X B0 c 0 w2):=aiS ⟨_,by rw [HC.out];rfl,fu.out.below hb2 fu.out.lt,HR1.out.below hb2,(oK.out.eX hb2).weaken (λk _ hk=>.inl hk)⟩
  clear hb2 nf fu HR1 oK vW
  go_wp2_with fail
  go_loopw [19] (λi wr=>∃ k : Nat,k <= 6 /\ i = .int .i64 k /\ jM w R X B0 c k wr) (λi _=>6 - (intOf i).toNat)
  case atStart=>exact ⟨0,by omega,rfl,HS.out⟩
  case round =>
   rename_i wr
   obtain ⟨k,hk,rfl,q,hq,hX,hR,hO⟩:=hrel
   rw [HC.out] at hq
   rcases (show k = 0 \/ k = 1 \/ k = 2 \/ k = 3 \/ k = 4 \/ k = 5 \/ k = 6 by omega) with rfl | rfl | rfl | rfl | rfl | rfl | rfl
   ·cases hq
    have e:=E0.out;have hX:=hX;have c0:=hX.cell 2;have f0:=hX.free 2;simp at c0
    by_cases hb : m % 2 = 0
    ·have hz : x0 = 0 /\ s1 = s0:=by
      unfold gM at e
      rw [if_pos (by simpa using hb)] at e
      cases e;exact ⟨rfl,rfl⟩
     have HS2 : Hid (jM w R X B0 c 1 wr):=aiS ⟨_,by rw [HC.out];rfl,by rw [hz.1];exact hX,by rw [hz.2];exact hR,hO⟩
     clear hX hR hO e
     go_wp2
     go_roundw
     case rel=>exact ⟨1,by omega,by first | rfl | go_num,HS2.out⟩
     case measure=>simp [intOf]
    ·unfold gM at e
     rw [if_neg (by simpa using hb)] at e
     have r1:=rI s0 wr hR
     generalize dV s0 = q1 at *
     obtain ⟨y,t1⟩:=q1
     unfold tC at e
     simp only at e r1
     have hb1 : (m % 2 == 0) = false:=by simpa using hb
     have jB:=aiS hX;have fK:=aiS hO
     have hy : x0 = y:=by cases e;rfl
     subst hy
     clear hX hR hO
     go_wp2_with fail
     refine r1.mono ?_;rintro e' w3 ⟨rfl,kJ,hO3⟩
     have bA:=hO3.blk jB.out mR.out;have g0:=bA.cell 2;have k0:=bA.free 2;simp at g0;have fV:=aiS (bA.set 2 (.int .i64 x0));have eT:=aiS (kJ.cZ (p:=⟨X,2,none⟩) (Ne.symm mR.out) vV (.int .i64 x0))
     have dY:=aiS ((fK.out.trans (hO3.weaken (T:=λk=>k = R \/ k = X) (λk _ hk=>.inl hk))).setCell (p:=⟨X,2,none⟩) (.inl (.inr rfl)) (.int .i64 x0))
     clear bA kJ hO3 jB fK r1
     by_cases hz : x0 = 0
     ·rw [if_pos hz] at e
      have hz' : s1 = fE 7 t1:=by cases e;rfl
      clear e
      subst hz
      have f1:=fl t1 7 (by decide) _ eT.out
      go_wp2_with fail
      refine f1.mono ?_;rintro e' w4 ⟨rfl,iH,fM⟩
      have HS2 : Hid (jM w R X B0 c 1 w4):=aiS ⟨_,by rw [HC.out];rfl,by simpa using fM.blk fV.out mR.out,by rw [hz'];exact iH,dY.out.trans (fM.weaken (λk _ hk=>.inl hk))⟩
      clear iH fM fV eT dY f1
      go_wp2
      go_roundw
      case rel=>exact ⟨1,by omega,by first | rfl | go_num,HS2.out⟩
      case measure=>simp [intOf]
     ·rw [if_neg hz] at e
      have hz' : s1 = t1:=by cases e;rfl
      have hz2 : (x0 == 0) = false:=by simpa using hz
      have HS2 : Hid (jM w R X B0 c 1 (w3.setCell ⟨X,2,none⟩ (.int .i64 x0))):=aiS ⟨_,by rw [HC.out];rfl,by simpa using fV.out,by rw [hz'];exact eT.out,dY.out⟩
      clear fV eT dY e
      go_wp2
      go_roundw
      case rel=>exact ⟨1,by omega,by first | rfl | go_num,HS2.out⟩
      case measure=>simp [intOf]
   ·cases hq
    have e:=E1.out;have hX:=hX;have c0:=hX.cell 3;have f0:=hX.free 3;simp at c0
    by_cases hb : m / 2 % 2 = 0
    ·have hz : x1 = 0 /\ s2 = s1:=by
      unfold gM at e
      rw [if_pos (by simpa using hb)] at e
      cases e;exact ⟨rfl,rfl⟩
     have HS2 : Hid (jM w R X B0 c 2 wr):=aiS ⟨_,by rw [HC.out];rfl,by rw [hz.1];exact hX,by rw [hz.2];exact hR,hO⟩
     clear hX hR hO e
     go_wp2
     go_roundw
     case rel=>exact ⟨2,by omega,by first | rfl | go_num,HS2.out⟩
     case measure=>simp [intOf]
    ·unfold gM at e
     rw [if_neg (by simpa using hb)] at e
     have r1:=rI s1 wr hR
     generalize dV s1 = q1 at *
     obtain ⟨y,t1⟩:=q1
     unfold tC at e
     simp only at e r1
     have hb1 : (m / 2 % 2 == 0) = false:=by simpa using hb
     have jB:=aiS hX;have fK:=aiS hO
     have hy : x1 = y:=by cases e;rfl
     subst hy
     clear hX hR hO
     go_wp2_with fail
     refine r1.mono ?_;rintro e' w3 ⟨rfl,kJ,hO3⟩
     have bA:=hO3.blk jB.out mR.out;have g0:=bA.cell 3;have k0:=bA.free 3;simp at g0;have fV:=aiS (bA.set 3 (.int .i64 x1));have eT:=aiS (kJ.cZ (p:=⟨X,3,none⟩) (Ne.symm mR.out) vV (.int .i64 x1))
     have dY:=aiS ((fK.out.trans (hO3.weaken (T:=λk=>k = R \/ k = X) (λk _ hk=>.inl hk))).setCell (p:=⟨X,3,none⟩) (.inl (.inr rfl)) (.int .i64 x1))
     clear bA kJ hO3 jB fK r1
     by_cases hz : x1 = 0
     ·rw [if_pos hz] at e
      have hz' : s2 = fE 7 t1:=by cases e;rfl
      clear e
      subst hz
      have f1:=fl t1 7 (by decide) _ eT.out
      go_wp2_with fail
      refine f1.mono ?_;rintro e' w4 ⟨rfl,iH,fM⟩
      have HS2 : Hid (jM w R X B0 c 2 w4):=aiS ⟨_,by rw [HC.out];rfl,by simpa using fM.blk fV.out mR.out,by rw [hz'];exact iH,dY.out.trans (fM.weaken (λk _ hk=>.inl hk))⟩
      clear iH fM fV eT dY f1
      go_wp2
      go_roundw
      case rel=>exact ⟨2,by omega,by first | rfl | go_num,HS2.out⟩
      case measure=>simp [intOf]
     ·rw [if_neg hz] at e
      have hz' : s2 = t1:=by cases e;rfl
      have hz2 : (x1 == 0) = false:=by simpa using hz
      have HS2 : Hid (jM w R X B0 c 2 (w3.setCell ⟨X,3,none⟩ (.int .i64 x1))):=aiS ⟨_,by rw [HC.out];rfl,by simpa using fV.out,by rw [hz'];exact eT.out,dY.out⟩
      clear fV eT dY e
      go_wp2
      go_roundw
      case rel=>exact ⟨2,by omega,by first | rfl | go_num,HS2.out⟩
      case measure=>simp [intOf]
   ·cases hq
    have e:=E2.out;have hX:=hX;have c0:=hX.cell 4;have f0:=hX.free 4;simp at c0
    by_cases hb : m / 4 % 2 = 0
    ·have hz : x2 = 0 /\ s3 = s2:=by
      unfold gM at e
      rw [if_pos (by simpa using hb)] at e
      cases e;exact ⟨rfl,rfl⟩
     have HS2 : Hid (jM w R X B0 c 3 wr):=aiS ⟨_,by rw [HC.out];rfl,by rw [hz.1];exact hX,by rw [hz.2];exact hR,hO⟩
     clear hX hR hO e
     go_wp2
     go_roundw
     case rel=>exact ⟨3,by omega,by first | rfl | go_num,HS2.out⟩
     case measure=>simp [intOf]
    ·unfold gM at e
     rw [if_neg (by simpa using hb)] at e
     have r1:=rI s2 wr hR
     generalize dV s2 = q1 at *
     obtain ⟨y,t1⟩:=q1
     unfold tC at e
     simp only at e r1
     have hb1 : (m / 4 % 2 == 0) = false:=by simpa using hb
     have jB:=aiS hX;have fK:=aiS hO
     have hy : x2 = y:=by cases e;rfl
     subst hy
     clear hX hR hO
     go_wp2_with fail
     refine r1.mono ?_;rintro e' w3 ⟨rfl,kJ,hO3⟩
     have bA:=hO3.blk jB.out mR.out;have g0:=bA.cell 4;have k0:=bA.free 4;simp at g0;have fV:=aiS (bA.set 4 (.int .i64 x2));have eT:=aiS (kJ.cZ (p:=⟨X,4,none⟩) (Ne.symm mR.out) vV (.int .i64 x2))
     have dY:=aiS ((fK.out.trans (hO3.weaken (T:=λk=>k = R \/ k = X) (λk _ hk=>.inl hk))).setCell (p:=⟨X,4,none⟩) (.inl (.inr rfl)) (.int .i64 x2))
     clear bA kJ hO3 jB fK r1
     by_cases hz : x2 = 0
     ·rw [if_pos hz] at e
      have hz' : s3 = fE 7 t1:=by cases e;rfl
      clear e
      subst hz
      have f1:=fl t1 7 (by decide) _ eT.out
      go_wp2_with fail
      refine f1.mono ?_;rintro e' w4 ⟨rfl,iH,fM⟩
      have HS2 : Hid (jM w R X B0 c 3 w4):=aiS ⟨_,by rw [HC.out];rfl,by simpa using fM.blk fV.out mR.out,by rw [hz'];exact iH,dY.out.trans (fM.weaken (λk _ hk=>.inl hk))⟩
      clear iH fM fV eT dY f1
      go_wp2
      go_roundw
      case rel=>exact ⟨3,by omega,by first | rfl | go_num,HS2.out⟩
      case measure=>simp [intOf]
     ·rw [if_neg hz] at e
      have hz' : s3 = t1:=by cases e;rfl
      have hz2 : (x2 == 0) = false:=by simpa using hz
      have HS2 : Hid (jM w R X B0 c 3 (w3.setCell ⟨X,4,none⟩ (.int .i64 x2))):=aiS ⟨_,by rw [HC.out];rfl,by simpa using fV.out,by rw [hz'];exact eT.out,dY.out⟩
      clear fV eT dY e
      go_wp2
      go_roundw
      case rel=>exact ⟨3,by omega,by first | rfl | go_num,HS2.out⟩
      case measure=>simp [intOf]
   ·cases hq
    have e:=E3.out;have hX:=hX;have c0:=hX.cell 5;have f0:=hX.free 5;simp at c0
    by_cases hb : m / 8 % 2 = 0
    ·have hz : x3 = 0 /\ s4 = s3:=by
      unfold gM at e
      rw [if_pos (by simpa using hb)] at e
      cases e;exact ⟨rfl,rfl⟩
     have HS2 : Hid (jM w R X B0 c 4 wr):=aiS ⟨_,by rw [HC.out];rfl,by rw [hz.1];exact hX,by rw [hz.2];exact hR,hO⟩
     clear hX hR hO e
     go_wp2
     go_roundw
     case rel=>exact ⟨4,by omega,by first | rfl | go_num,HS2.out⟩
     case measure=>simp [intOf]
    ·unfold gM at e
     rw [if_neg (by simpa using hb)] at e
     have r1:=rI s3 wr hR
     generalize dV s3 = q1 at *
     obtain ⟨y,t1⟩:=q1
     unfold tC at e
     simp only at e r1
     have hb1 : (m / 8 % 2 == 0) = false:=by simpa using hb
     have jB:=aiS hX;have fK:=aiS hO
     have hy : x3 = y:=by cases e;rfl
     subst hy
     clear hX hR hO
     go_wp2_with fail
     refine r1.mono ?_;rintro e' w3 ⟨rfl,kJ,hO3⟩
     have bA:=hO3.blk jB.out mR.out;have g0:=bA.cell 5;have k0:=bA.free 5;simp at g0;have fV:=aiS (bA.set 5 (.int .i64 x3));have eT:=aiS (kJ.cZ (p:=⟨X,5,none⟩) (Ne.symm mR.out) vV (.int .i64 x3))
     have dY:=aiS ((fK.out.trans (hO3.weaken (T:=λk=>k = R \/ k = X) (λk _ hk=>.inl hk))).setCell (p:=⟨X,5,none⟩) (.inl (.inr rfl)) (.int .i64 x3))
     clear bA kJ hO3 jB fK r1
     by_cases hz : x3 = 0
     ·rw [if_pos hz] at e
      have hz' : s4 = fE 7 t1:=by cases e;rfl
      clear e
      subst hz
      have f1:=fl t1 7 (by decide) _ eT.out
      go_wp2_with fail
      refine f1.mono ?_;rintro e' w4 ⟨rfl,iH,fM⟩
      have HS2 : Hid (jM w R X B0 c 4 w4):=aiS ⟨_,by rw [HC.out];rfl,by simpa using fM.blk fV.out mR.out,by rw [hz'];exact iH,dY.out.trans (fM.weaken (λk _ hk=>.inl hk))⟩
      clear iH fM fV eT dY f1
      go_wp2
      go_roundw
      case rel=>exact ⟨4,by omega,by first | rfl | go_num,HS2.out⟩
      case measure=>simp [intOf]
     ·rw [if_neg hz] at e
      have hz' : s4 = t1:=by cases e;rfl
      have hz2 : (x3 == 0) = false:=by simpa using hz
      have HS2 : Hid (jM w R X B0 c 4 (w3.setCell ⟨X,5,none⟩ (.int .i64 x3))):=aiS ⟨_,by rw [HC.out];rfl,by simpa using fV.out,by rw [hz'];exact eT.out,dY.out⟩
      clear fV eT dY e
      go_wp2
      go_roundw
      case rel=>exact ⟨4,by omega,by first | rfl | go_num,HS2.out⟩
      case measure=>simp [intOf]
   ·cases hq
    have e:=E4.out;have hX:=hX;have c0:=hX.cell 6;have f0:=hX.free 6;simp at c0
    by_cases hb : m / 16 % 2 = 0
    ·have hz : x4 = 0 /\ s5 = s4:=by
      unfold gM at e
      rw [if_pos (by simpa using hb)] at e
      cases e;exact ⟨rfl,rfl⟩
     have HS2 : Hid (jM w R X B0 c 5 wr):=aiS ⟨_,by rw [HC.out];rfl,by rw [hz.1];exact hX,by rw [hz.2];exact hR,hO⟩
     clear hX hR hO e
     go_wp2
     go_roundw
     case rel=>exact ⟨5,by omega,by first | rfl | go_num,HS2.out⟩
     case measure=>simp [intOf]
    ·unfold gM at e
     rw [if_neg (by simpa using hb)] at e
     have r1:=rI s4 wr hR
     generalize dV s4 = q1 at *
     obtain ⟨y,t1⟩:=q1
     unfold tC at e
     simp only at e r1
     have hb1 : (m / 16 % 2 == 0) = false:=by simpa using hb
     have jB:=aiS hX;have fK:=aiS hO
     have hy : x4 = y:=by cases e;rfl
     subst hy
     clear hX hR hO
     go_wp2_with fail
     refine r1.mono ?_;rintro e' w3 ⟨rfl,kJ,hO3⟩
     have bA:=hO3.blk jB.out mR.out;have g0:=bA.cell 6;have k0:=bA.free 6;simp at g0;have fV:=aiS (bA.set 6 (.int .i64 x4));have eT:=aiS (kJ.cZ (p:=⟨X,6,none⟩) (Ne.symm mR.out) vV (.int .i64 x4))
     have dY:=aiS ((fK.out.trans (hO3.weaken (T:=λk=>k = R \/ k = X) (λk _ hk=>.inl hk))).setCell (p:=⟨X,6,none⟩) (.inl (.inr rfl)) (.int .i64 x4))
     clear bA kJ hO3 jB fK r1
     by_cases hz : x4 = 0
     ·rw [if_pos hz] at e
      have hz' : s5 = fE 7 t1:=by cases e;rfl
      clear e
      subst hz
      have f1:=fl t1 7 (by decide) _ eT.out
      go_wp2_with fail
      refine f1.mono ?_;rintro e' w4 ⟨rfl,iH,fM⟩
      have HS2 : Hid (jM w R X B0 c 5 w4):=aiS ⟨_,by rw [HC.out];rfl,by simpa using fM.blk fV.out mR.out,by rw [hz'];exact iH,dY.out.trans (fM.weaken (λk _ hk=>.inl hk))⟩
      clear iH fM fV eT dY f1
      go_wp2
      go_roundw
      case rel=>exact ⟨5,by omega,by first | rfl | go_num,HS2.out⟩
      case measure=>simp [intOf]
     ·rw [if_neg hz] at e
      have hz' : s5 = t1:=by cases e;rfl
      have hz2 : (x4 == 0) = false:=by simpa using hz
      have HS2 : Hid (jM w R X B0 c 5 (w3.setCell ⟨X,6,none⟩ (.int .i64 x4))):=aiS ⟨_,by rw [HC.out];rfl,by simpa using fV.out,by rw [hz'];exact eT.out,dY.out⟩
      clear fV eT dY e
      go_wp2
      go_roundw
      case rel=>exact ⟨5,by omega,by first | rfl | go_num,HS2.out⟩
      case measure=>simp [intOf]
   ·cases hq
    have e:=E5.out;have hX:=hX;have c0:=hX.cell 7;have f0:=hX.free 7;simp at c0
    by_cases hb : m / 32 % 2 = 0
    ·have hz : x5 = 0 /\ s6 = s5:=by
      unfold gM at e
      rw [if_pos (by simpa using hb)] at e
      cases e;exact ⟨rfl,rfl⟩
     have HS2 : Hid (jM w R X B0 c 6 wr):=aiS ⟨_,by rw [HC.out];rfl,by rw [hz.1];exact hX,by rw [hz.2];exact hR,hO⟩
     clear hX hR hO e
     go_wp2
     go_roundw
     case rel=>exact ⟨6,by omega,by first | rfl | go_num,HS2.out⟩
     case measure=>simp [intOf]
    ·unfold gM at e
     rw [if_neg (by simpa using hb)] at e
     have r1:=rI s5 wr hR
     generalize dV s5 = q1 at *
     obtain ⟨y,t1⟩:=q1
     unfold tC at e
     simp only at e r1
     have hb1 : (m / 32 % 2 == 0) = false:=by simpa using hb
     have jB:=aiS hX;have fK:=aiS hO
     have hy : x5 = y:=by cases e;rfl
     subst hy
     clear hX hR hO
     go_wp2_with fail
     refine r1.mono ?_;rintro e' w3 ⟨rfl,kJ,hO3⟩
     have bA:=hO3.blk jB.out mR.out;have g0:=bA.cell 7;have k0:=bA.free 7;simp at g0;have fV:=aiS (bA.set 7 (.int .i64 x5));have eT:=aiS (kJ.cZ (p:=⟨X,7,none⟩) (Ne.symm mR.out) vV (.int .i64 x5))
     have dY:=aiS ((fK.out.trans (hO3.weaken (T:=λk=>k = R \/ k = X) (λk _ hk=>.inl hk))).setCell (p:=⟨X,7,none⟩) (.inl (.inr rfl)) (.int .i64 x5))
     clear bA kJ hO3 jB fK r1
     by_cases hz : x5 = 0
     ·rw [if_pos hz] at e
      have hz' : s6 = fE 7 t1:=by cases e;rfl
      clear e
      subst hz
      have f1:=fl t1 7 (by decide) _ eT.out
      go_wp2_with fail
      refine f1.mono ?_;rintro e' w4 ⟨rfl,iH,fM⟩
      have HS2 : Hid (jM w R X B0 c 6 w4):=aiS ⟨_,by rw [HC.out];rfl,by simpa using fM.blk fV.out mR.out,by rw [hz'];exact iH,dY.out.trans (fM.weaken (λk _ hk=>.inl hk))⟩
      clear iH fM fV eT dY f1
      go_wp2
      go_roundw
      case rel=>exact ⟨6,by omega,by first | rfl | go_num,HS2.out⟩
      case measure=>simp [intOf]
     ·rw [if_neg hz] at e
      have hz' : s6 = t1:=by cases e;rfl
      have hz2 : (x5 == 0) = false:=by simpa using hz
      have HS2 : Hid (jM w R X B0 c 6 (w3.setCell ⟨X,7,none⟩ (.int .i64 x5))):=aiS ⟨_,by rw [HC.out];rfl,by simpa using fV.out,by rw [hz'];exact eT.out,dY.out⟩
      clear fV eT dY e
      go_wp2
      go_roundw
      case rel=>exact ⟨6,by omega,by first | rfl | go_num,HS2.out⟩
      case measure=>simp [intOf]
   ·cases hq
    have e:=E6.out;have a6:=qA.out;have c0:=hX.cell 8;have f0:=hX.free 8;simp at c0
    by_cases hb : m / 64 % 2 = 0
    ·have hz : an = 0 /\ s7 = s6:=by
      unfold rT at e
      rw [if_pos hb] at e
      cases e;exact ⟨rfl,rfl⟩
     have a7 : bits .and .u8 m 64 = 0:=by omega
     have fV:=aiS hX;have eT:=aiS hR;have dY:=aiS hO;clear hX hR hO e a6
     obtain ⟨hz1,hz2⟩:=hz
     subst hz1
     subst hz2
     go_wp2
     exact bodyPost_end (v:=.tuple #[]) (by simp [results,Tryz.results157,go_sem]) rfl ⟨rfl,eT.out,by simpa [aX] using fV.out,dY.out⟩
    ·unfold rT at e
     rw [if_neg hb] at e
     have r1:=sW (B0:=B0) R s6 65535 wr hR
     have ub:=iZ (most:=65535) hR.u8 (by decide)
     generalize bf 65535 s6 = q1 at *
     obtain ⟨y,t1⟩:=q1
     unfold tC at e
     simp only at e r1 ub
     have a7 : bits .and .u8 m 64 = 64:=by omega
     have jB:=aiS hX;have fK:=aiS hO
     have hy : an = y:=by cases e;rfl
     subst hy
     have hwr : IntKind.u16.wrap an = an:=wraps_u16 _ (by omega) (by omega)
     clear hX hR hO a6
     go_wp2_with fail
     refine r1.mono ?_;rintro e' w3 ⟨rfl,kJ,hO3⟩
     have bA:=hO3.blk jB.out mR.out;have g0:=bA.cell 8;have k0:=bA.free 8;simp at g0;have fV:=aiS (bA.set 8 (.int .u16 an));have eT:=aiS (kJ.cZ (p:=⟨X,8,none⟩) (Ne.symm mR.out) vV (.int .u16 an))
     have dY:=aiS ((fK.out.trans (hO3.weaken (T:=λk=>k = R \/ k = X) (λk _ hk=>.inl hk))).setCell (p:=⟨X,8,none⟩) (.inl (.inr rfl)) (.int .u16 an))
     clear bA kJ hO3 jB fK r1
     by_cases hz : an = 0
     ·rw [if_pos hz] at e
      have hz' : s7 = fE 7 t1:=by cases e;rfl
      clear e
      subst hz
      have f1:=fl t1 7 (by decide) _ eT.out
      go_wp2_with fail
      refine f1.mono ?_;rintro e' w4 ⟨rfl,iH,fM⟩
      have uW:=aiS (fM.blk fV.out mR.out)
      have sK:=aiS (dY.out.trans (fM.weaken (T:=λk=>k = R \/ k = X) (λk _ hk=>.inl hk)))
      clear fM fV eT dY f1
      go_wp2
      exact bodyPost_end (v:=.tuple #[]) (by simp [results,Tryz.results157,go_sem]) rfl ⟨rfl,by rw [hz'];exact iH,by simpa [aX] using uW.out,sK.out⟩
     ·rw [if_neg hz] at e
      have hz' : s7 = t1:=by cases e;rfl
      have hz2 : (an == 0) = false:=by simpa using hz
      clear e
      go_wp2
      exact bodyPost_end (v:=.tuple #[]) (by simp [results,Tryz.results157,go_sem]) rfl ⟨rfl,by rw [hz'];exact eT.out,by simpa [aX] using fV.out,dY.out⟩
set_option maxRecDepth 8000
theorem mH {w : World} {b : Nat} {t : TypeId} {o0 v0 o1 v1 o2 v2 o3 v3 o4 v4 o5 v5 o6 v6 o7 v7 o8 v8 : Value} (h : ak w b #[o0,o1,o2,o3,o4,o5,o6,o7,o8] t) : ak (((((((((w.setCell ⟨b,0,none⟩ v0).setCell ⟨b,1,none⟩ v1).setCell ⟨b,2,none⟩ v2).setCell ⟨b,3,none⟩ v3).setCell ⟨b,4,none⟩ v4).setCell ⟨b,5,none⟩ v5).setCell ⟨b,6,none⟩ v6).setCell ⟨b,7,none⟩ v7).setCell ⟨b,8,none⟩ v8) b #[v0,v1,v2,v3,v4,v5,v6,v7,v8] t:=by
 simpa using (((((((((h.set 0 v0).set 1 v1).set 2 v2).set 3 v3).set 4 v4).set 5 v5).set 6 v6).set 7 v7).set 8 v8)
theorem pR {S : Nat -> Prop} {w0 w : World} {b : Nat} {v0 v1 v2 v3 v4 v5 v6 v7 v8 : Value} (h : Only S w0 w) (hb : S b \/ w0.heap.size <= b) : Only S w0 (((((((((w.setCell ⟨b,0,none⟩ v0).setCell ⟨b,1,none⟩ v1).setCell ⟨b,2,none⟩ v2).setCell ⟨b,3,none⟩ v3).setCell ⟨b,4,none⟩ v4).setCell ⟨b,5,none⟩ v5).setCell ⟨b,6,none⟩ v6).setCell ⟨b,7,none⟩ v7).setCell ⟨b,8,none⟩ v8) :=
 (((((((((h.setCell (p:=⟨b,0,none⟩) hb v0).setCell (p:=⟨b,1,none⟩) hb v1).setCell (p:=⟨b,2,none⟩) hb v2).setCell (p:=⟨b,3,none⟩) hb v3).setCell (p:=⟨b,4,none⟩) hb v4).setCell (p:=⟨b,5,none⟩) hb v5).setCell (p:=⟨b,6,none⟩) hb v6).setCell (p:=⟨b,7,none⟩) hb v7).setCell (p:=⟨b,8,none⟩) hb v8)
theorem rW {B0 R : Nat} {s : aI} {w : World} {b : Nat} {v0 v1 v2 v3 v4 v5 v6 v7 v8 : Value} (h : bq w R B0 s) (hR : R ≠ b) (hB : B0 <= b) : bq (((((((((w.setCell ⟨b,0,none⟩ v0).setCell ⟨b,1,none⟩ v1).setCell ⟨b,2,none⟩ v2).setCell ⟨b,3,none⟩ v3).setCell ⟨b,4,none⟩ v4).setCell ⟨b,5,none⟩ v5).setCell ⟨b,6,none⟩ v6).setCell ⟨b,7,none⟩ v7).setCell ⟨b,8,none⟩ v8) R B0 s :=
 (((((((((h.cZ (p:=⟨b,0,none⟩) hR hB v0).cZ (p:=⟨b,1,none⟩) hR hB v1).cZ (p:=⟨b,2,none⟩) hR hB v2).cZ (p:=⟨b,3,none⟩) hR hB v3).cZ (p:=⟨b,4,none⟩) hR hB v4).cZ (p:=⟨b,5,none⟩) hR hB v5).cZ (p:=⟨b,6,none⟩) hR hB v6).cZ (p:=⟨b,7,none⟩) hR hB v7).cZ (p:=⟨b,8,none⟩) hR hB v8)
theorem Uq {B0 : Nat} (R : Nat) (s : aI) (last : Int) (hl : last = 65535) (w : World) (h : bq w R B0 s) (hB0 : B0 <= w.heap.size) :
 Calls Tryz.prog 197 #[.pointer (some ⟨R,0,none⟩),.int .i64 last] w λe w'=>e = .returned (.tuple #[lT (dN last s).1,.int .i64 (dN last s).2.1]) /\ bq w' R B0 (dN last s).2.2 /\ Only (· = R) w w':=by
 unfold dN
 rw [if_pos hl]
 have l1 : ¬ last < -1:=by omega
 have l2 : ¬ 65535 < last:=by omega
 have l3 : (last == 65535) = true:=by simpa using hl
 clear hl
 have hR0 : bq (w.alloc (.cells #[.int .i64 0,.int .i64 0,.int .i64 0,.int .i64 0,.int .i64 0,.int .i64 0,.int .i64 0,.int .i64 0,.int .u16 0] 147)) R B0 s:=h.below (aiT)
 have mI:=ak.new w #[.int .i64 0,.int .i64 0,.int .i64 0,.int .i64 0,.int .i64 0,.int .i64 0,.int .i64 0,.int .i64 0,.int .u16 0] 147;have PU:=(Only.refl (· = R) w).alloc (.cells #[.int .i64 0,.int .i64 0,.int .i64 0,.int .i64 0,.int .i64 0,.int .i64 0,.int .i64 0,.int .i64 0,.int .u16 0] 147)
 have fl:=yM (B0:=B0) R s 10 (by decide) _ hR0
 rw [show ((s.1,if s.2 = 0 then 10 else s.2) : aI) = fE 10 s from rfl] at fl
 generalize fE 10 s = st at *
 have uX:=aiS mI;have HO0:=aiS PU
 have er:=λs w h=>yL (B0:=B0) R s w h
 have hne : ¬ w.heap.size = R:=by have:=h.lt;omega
 have oL:=aiS hne;clear hR0 mI PU h
 unfold lT F7
 go_enter Tryz.func197,Tryz.ntmps197
 go_wp2_with fail
 refine fl.mono ?_;rintro e w1 ⟨rfl,oh,mU⟩
 have hA1:=mU.blk uX.out oL.out;have e1:=er _ w1 oh;have HR1:=aiS oh;have HA1:=aiS hA1;have oK:=aiS (HO0.out.trans mU);clear oh hA1 mU fl er hne
 go_wp2_with fail
 refine e1.mono ?_;rintro e w2 ⟨rfl,rfl⟩
 have hA1:=HA1.out;have c0:=hA1.cell 0;have c1:=hA1.cell 1;have c2:=hA1.cell 2;have c3:=hA1.cell 3;have c4:=hA1.cell 4;have c5:=hA1.cell 5;have c6:=hA1.cell 6;have c7:=hA1.cell 7;have c8:=hA1.cell 8;have f0:=hA1.free 0;have f1:=hA1.free 1;have f2:=hA1.free 2;have f3:=hA1.free 3;have f4:=hA1.free 4;have f5:=hA1.free 5;have f6:=hA1.free 6;have f7:=hA1.free 7;have f8:=hA1.free 8;simp at c0 c1 c2 c3 c4 c5 c6 c7 c8;clear e1 hA1
 go_wp2
 exact bodyPost_ret (v:=.tuple #[.agg #[.int .i64 0,.int .i64 0,.int .i64 0,.int .i64 0,.int .i64 0,.int .i64 0,.int .i64 0,.int .i64 0,.int .u16 0],.int .i64 st.2])
  (by have hh:=mH (v0:=.int .i64 0) (v1:=.int .i64 0) (v2:=.int .i64 0) (v3:=.int .i64 0) (v4:=.int .i64 0) (v5:=.int .i64 0) (v6:=.int .i64 0) (v7:=.int .i64 0) (v8:=.int .u16 0) HA1.out
      have g0:=hh.cell 0;have g1:=hh.cell 1;have g2:=hh.cell 2;have g3:=hh.cell 3;have g4:=hh.cell 4;have g5:=hh.cell 5;have g6:=hh.cell 6;have g7:=hh.cell 7;have g8:=hh.cell 8;simp at g0 g1 g2 g3 g4 g5 g6 g7 g8
      simp [results,Tryz.results197,go_sem,g0,g1,g2,g3,g4,g5,g6,g7,g8]) rfl
  ⟨rfl,rW HR1.out (Ne.symm oL.out) hB0,pR oK.out (.inr (Nat.le_refl _))⟩
set_option maxRecDepth 8000
def aL (ns : List Int) : Nat -> Int
 | 0=>0
 | k + 1=>aL ns k + (if ns.getD k 0 ≠ 0 then 2 ^ k else 0)
def bR (ns : List Int) : Nat -> List Int
 | 0=>[]
 | k + 1=>bR ns k ++ (if ns.getD k 0 ≠ 0 then zb (ns.getD k 0) else [])
theorem QX (ns : List Int) : ∀ k,0 <= aL ns k /\ aL ns k < 2 ^ k
 | 0=>⟨Int.le_refl _,by simp [aL]⟩
 | k + 1=>by
   have h:=QX ns k
   rw [aL,Int.pow_succ]
   have hp : (0 : Int) < 2 ^ k:=Int.pow_pos (by decide)
   split <;> omega
theorem QY (ns : List Int) : ∀ k,k <= ns.length -> bR ns k = nb ((ns.take k).filter (· ≠ 0))
 | 0,_=>by simp [bR,nb]
 | k + 1,h=>by
   rw [bR,QY ns k (by omega),List.take_add_one,List.filter_append]
   have hk : ns[k]? = some ns[k]:=List.getElem?_eq_getElem (by omega)
   have hd : ns.getD k 0 = ns[k]:=by simp [List.getD,hk]
   rw [hd,hk]
   simp only [Option.toList_some]
   by_cases h0 : ns[k] = 0
   ·simp [h0,nb]
   ·simp [h0,nb]
theorem Mg (ns : List Int) (hn : ∀ n ∈ ns,ay n) : ∀ k,(bR ns k).length <= 10 * k
 | 0=>by simp [bR]
 | k + 1=>by
   have h:=Mg ns hn k
   rw [bR,List.length_append]
   split
   ·have : ay (ns.getD k 0):=by
     unfold List.getD
     cases hx : ns[k]? with
     | none=>exact ⟨by decide,by decide⟩
     | some x=>exact hn x (List.mem_of_getElem? hx)
    have:=QS this
    omega
   ·simp;omega
theorem or_bit {m : Int} {k : Nat} (hk : k <= 7) (h0 : 0 <= m) (h1 : m < 2 ^ k) : bits .or .u8 m (2 ^ k) = m + 2 ^ k:=by
 have hp : (2 : Int) ^ k <= 128:=by
  have : ∀ j : Fin 8,(2 : Int) ^ j.val <= 128:=by decide +kernel
  exact this ⟨k,by omega⟩
 exact bits_join_low .u8 8 (by decide) wraps_u8 k m (2 ^ k) h0 h1 (by omega) (by omega) (by simp) (by omega)
theorem aY.elem {w : World} {base : Nat} {v : Value} {zs : List Int} (h : aY w base v zs) {i : Nat} {z : Int} (hi : zs[i]? = some z) :
 ∃ g c L,v = .slice (some ⟨g,0,none⟩) L c /\ L = zs.length /\ L <= c /\ base <= g /\ w.cell? ⟨g,i,none⟩ = some (.int .u8 z) /\ w.frozen? ⟨g,i,none⟩ = false /\
  ∀ x,U8 x -> aY (w.setCell ⟨g,i,none⟩ (.int .u8 x)) base v (zs.set i x):=by
 obtain ⟨⟨h1,h2⟩,h3⟩:=h
 have hil : i < zs.length:=(List.getElem?_eq_some_iff.1 hi).1
 rcases h2 with ⟨_,h2⟩ | ⟨g,c,cur,rfl,hb,hh,hc,hm,hs,ht⟩
 ·omega
 ·have hB : ak w g cur 5:=hh
  have hci : cur[i]? = some (.int .u8 z):=by
   have h4 : (cur.toList.take (zs.length * 1))[i]? = some (.int .u8 z):=by rw [ht];simp [hi]
   rw [List.getElem?_take] at h4
   split at h4
   ·simpa using h4
   ·cases h4
  refine ⟨g,c,zs.length,rfl,rfl,hc,hb,by rw [hB.cell i,hci],hB.free i,λx hx=>⟨⟨by simp,.inr ⟨g,c,cur.setIfInBounds i (.int .u8 x),by rw [List.length_set],hb,hB.set i _,by rw [List.length_set];exact hc,hm,by simp [hs],?_⟩⟩,?_⟩⟩
  ·rw [List.length_set,Array.toList_setIfInBounds,List.take_set,ht,List.map_set]
  ·intro y hy
   rcases List.mem_or_eq_of_mem_set hy with h5 | rfl
   ·exact h3 y h5
   ·exact hx
def om (w : World) (base X : Nat) (r : Rec) (zs : List Int) (k : Nat) (v : Value) (wr : World) : Prop :=
 aY wr base v (zs ++ aL (aj r) k :: bR (aj r) k) /\ ak wr X (aX r) 147 /\ Below base w wr
set_option maxHeartbeats 4000000 in
theorem Lj (v : Value) (zs : List Int) (X : Nat) (r : Rec) (hr : r.Ok) (base : Nat) (w : World) (hz : aY w base v zs) (hX : ak w X (aX r) 147) (xG : X < base) (hl : (zs.length : Int) <= 140737488354000) (hb : base <= w.heap.size) :
 Calls Tryz.prog 156 #[v,.pointer (some ⟨X,0,none⟩)] w λe w'=>∃ v',e = .returned v' /\ aY w' base v' (zs ++ vC r) /\ Below base w w':=by
 have nf:=λw=>EL X w
 unfold ptrs at nf
 have hns : ∀ n ∈ aj r,ay n:=by intro n hn;simp [aj] at hn;rcases hn with h | h | h | h | h | h <;> subst h;exact hr.px;exact hr.py;exact hr.pz;exact hr.vx;exact hr.vy;exact hr.vz
 have EP : Hid (∀ k,(bR (aj r) k).length <= 10 * k):=aiS (Mg _ hns)
 have Bc : Hid (∀ k,0 <= aL (aj r) k /\ aL (aj r) k < 2 ^ k):=aiS (QX _)
 have ha:=hr.aJ
 have hu : gY r.aJ:=⟨by omega,by omega⟩
 have hln:=dJ hu
 rw [← d9] at hln
 have HS : Hid (vC r = (if r.aJ ≠ 0 then aL (aj r) 6 + 64 else aL (aj r) 6) :: (bR (aj r) 6 ++ (if r.aJ ≠ 0 then aF r.aJ else []))):=aiS (by
  unfold vC
  rw [QY _ 6 (by simp [aj])]
  have hm : NQ r = (if r.aJ ≠ 0 then aL (aj r) 6 + 64 else aL (aj r) 6):=by
   unfold NQ
   simp only [aL,aj,List.getD_cons_zero,List.getD_cons_succ]
   split <;> simp <;> omega
  rw [hm]
  simp [aj])
 have hlen:=hz.bytes
 obtain ⟨az,cz,rfl,hzb,hzc⟩:=hlen
 have HZ:=aiS hz;have HX:=aiS hX;have HR:=aiS hr
 have hB0 : Below base w (w.alloc (.cells #[.int .u8 0] 5)):=aiU.alloc hb _
 have HZ1:=aiS (hz.below (aiU.alloc (Nat.le_refl _) (.cells #[.int .u8 0] 5)));have HB0:=aiS hB0
 have hin:=DT w [0] (aV.one ⟨by decide,by decide⟩)
 have HXL:=aiS hX.lt;clear hz hX hr hzb hzc hns hB0
 go_enter Tryz.func156,Tryz.ntmps156
 go_wp2_with (at_builtin;refine bF _ rfl (.tmp 10) (.tmp 11) rfl base _ zs rfl HZ1.out (some ⟨w.heap.size,0,none⟩) 1 1 [0] rfl hin (by intro h;cases h) (by omega) (by simp;omega) ?_)
 intro v1 w1 ho1 hg1
 have oK:=aiS ho1
 have hB1 : Below base w w1:=HB0.out.grown hg1 (by simp;omega) (λj e=>(HZ1.out.lt j e).1)
 have HB1:=aiS hB1;clear ho1 hg1 hin
 go_wp2_with fail
 refine (nf _).mono ?_;rintro e w2 ⟨rfl,hb2⟩
 have hs1:=hB1.size
 have HSt : Hid (om w base X r zs 0 v1 w2):=aiS ⟨by simpa [aL,bR] using oK.out.below hb2,(HX.out.below hB1 xG).below hb2 (by omega),hB1.trans (hb2.mono (by omega))⟩
 clear hb2 nf hB1
 go_wp2_with fail
 go_loopw [0,15] (λv i wr=>∃ k : Nat,k <= 6 /\ i = .int .i64 k /\ om w base X r zs k v wr) (λ_ i _=>6 - (intOf i).toNat)
 case atStart=>exact ⟨0,by omega,rfl,HSt.out⟩
 case round =>
  rename_i wr
  obtain ⟨k,hk,rfl,hO,hX,hB⟩:=hrel
  have hbs : base <= wr.heap.size:=Nat.le_trans hb hB.size
  have HB:=aiS hB;have HX:=aiS hX;have HO:=aiS hO
  rcases (show k = 0 \/ k = 1 \/ k = 2 \/ k = 3 \/ k = 4 \/ k = 5 \/ k = 6 by omega) with rfl | rfl | rfl | rfl | rfl | rfl | rfl
  ·have c0:=hX.cell 2
   simp at c0
   have mK : Hid (aL (aj r) 1 = aL (aj r) 0 + (if r.px ≠ 0 then 1 else 0)):=aiS rfl
   have oM : Hid (bR (aj r) 1 = bR (aj r) 0 ++ (if r.px ≠ 0 then zb r.px else [])):=aiS rfl
   have hI:=HR.out.px
   obtain ⟨g,c,L,rfl,qB,hcl,hgb,hc,hf,hset⟩:=hO.elem (i:=zs.length) (z:=aL (aj r) 0) (by simp)
   have hm : 0 <= aL (aj r) 0 /\ aL (aj r) 0 < 1:=Bc.out 0
   have hor : bits .or .u8 (aL (aj r) 0) 1 = aL (aj r) 0 + 1:=or_bit (k:=0) (by decide) hm.1 hm.2
   have hset':=hset (aL (aj r) 0 + 1) ⟨by omega,by omega⟩
   have hyl:=EP.out 0
   rw [show (zs ++ aL (aj r) 0 :: bR (aj r) 0).set zs.length (aL (aj r) 0 + 1) = zs ++ (aL (aj r) 0 + 1) :: bR (aj r) 0 by rw [List.set_append_right _ _ (Nat.le_refl _),Nat.sub_self];rfl] at hset'
   generalize hnn : r.px = n at *
   have ze:=aiS hnn;clear hnn
   by_cases hn : n = 0
   ·subst hn
    have HS2 : Hid (om w base X r zs 1 _ wr):=aiS ⟨by rw [mK.out,oM.out,if_neg (by simp),if_neg (by simp),Int.add_zero,List.append_nil];exact HO.out,HX.out,HB.out⟩
    clear hX hO hB HO hset hset' hc hf hor
    go_wp2
    go_roundw
    case rel=>exact ⟨1,by omega,by first | rfl | go_num,HS2.out⟩
    case measure=>simp [intOf]
   ·have hn2 : (n != 0) = true:=by simpa using hn
    have vZ : Hid (aL (aj r) 1 = aL (aj r) 0 + 1):=aiS (by rw [mK.out,if_pos hn])
    have wo : Hid (bR (aj r) 1 = bR (aj r) 0 ++ zb n):=aiS (by rw [oM.out,if_pos hn])
    have wW : U8 (aL (aj r) 0 + 1):=⟨by omega,by omega⟩
    have uG : Hid (∀ W,aY W base (.slice (some ⟨g,0,none⟩) L c) (zs ++ (aL (aj r) 0 + 1) :: bR (aj r) 0) -> base <= W.heap.size -> Calls Tryz.prog 190 #[.slice (some ⟨g,0,none⟩) L c,.int .i64 n] W λe w'=>∃ v',e = .returned v' /\ aY w' base v' ((zs ++ (aL (aj r) 0 + 1) :: bR (aj r) 0) ++ aF (kU n)) /\ Below base W w'):=aiS (λW h1 h2=>qQ _ _ n hI base W h1 (by simp;omega) h2)
    have zf : Hid (L = zs.length + 1 + (bR (aj r) 0).length):=aiS (by rw [qB];simp;omega)
    clear hX hO hB hset hset' mK oM hf
    have Mi : (zs.length : Int) < L:=by have:=zf.out;omega
    have Mj : (L : Int) <= c:=by omega
    clear qB
    go_wp2_with fail
    apply bV 8
    case hm=>kernel_rfl
    case hB=>kernel_rfl
    simp only [List.take_succ_cons,List.take_zero,List.drop_succ_cons,List.drop_zero]
    repeat (apply bI;(next=>(intro W hW K hK;have y0:=hW.cell hc;go_simp;first | exact ⟨Below.refl _ _,hK⟩ | exact hK));(try go_simp))
    refine dK ?_
    intro WC aP _
    have hO2:=HO.out.below aP
    obtain ⟨g2,c2,L2,e2,e6,e7,JM,hc2,hf2,iM⟩:=hO2.elem (i:=zs.length) (z:=aL (aj r) 0) (by simp)
    simp only [Value.slice.injEq,Option.some.injEq,Addr.mk.injEq] at e2
    obtain ⟨⟨e3,_⟩,e5,e4⟩:=e2
    clear e6 e7
    subst e3
    subst e4
    subst e5
    have hO3:=iM (aL (aj r) 0 + 1) wW
    rw [show (zs ++ aL (aj r) 0 :: bR (aj r) 0).set zs.length (aL (aj r) 0 + 1) = zs ++ (aL (aj r) 0 + 1) :: bR (aj r) 0 by rw [List.set_append_right _ _ (Nat.le_refl _),Nat.sub_self];rfl] at hO3
    have hB2:=(HB.out.trans (Below.mono aP hbs)).setCell (p:=⟨g,zs.length,none⟩) hgb (.int .u8 (aL (aj r) 0 + 1))
    have hX2:=(HX.out.below aP HX.out.lt).far (p:=⟨g,zs.length,none⟩) (show X ≠ g by omega) (.int .u8 (aL (aj r) 0 + 1))
    have hs2:=Nat.le_trans hb hB2.size;have nn:=uG.out _ hO3 hs2;have c1:=hX2.cell 2;simp at c1
    rw [ze.out] at c1
    have dU:=aiS hX2;have HB2:=aiS hB2;clear hO2 hO3 iM hB2 hX2 aP HO HX HB uG c0 hc
    go_wp2_with fail
    refine nn.mono ?_;rintro e w5 ⟨v5,rfl,lY,hb5⟩
    have HS2 : Hid (om w base X r zs 1 v5 w5):=aiS ⟨by rw [vZ.out,wo.out];simpa [zb] using lY,dU.out.below hb5 xG,HB2.out.trans hb5⟩
    clear lY hb5 nn dU HB2
    go_wp2
    go_roundw
    case rel=>exact ⟨1,by omega,by first | rfl | go_num,HS2.out⟩
    case measure=>simp [intOf]
  ·have c0:=hX.cell 3
   simp at c0
   have mK : Hid (aL (aj r) 2 = aL (aj r) 1 + (if r.py ≠ 0 then 2 else 0)):=aiS rfl
   have oM : Hid (bR (aj r) 2 = bR (aj r) 1 ++ (if r.py ≠ 0 then zb r.py else [])):=aiS rfl
   have hI:=HR.out.py
   obtain ⟨g,c,L,rfl,qB,hcl,hgb,hc,hf,hset⟩:=hO.elem (i:=zs.length) (z:=aL (aj r) 1) (by simp)
   have hm : 0 <= aL (aj r) 1 /\ aL (aj r) 1 < 2:=Bc.out 1
   have hor : bits .or .u8 (aL (aj r) 1) 2 = aL (aj r) 1 + 2:=or_bit (k:=1) (by decide) hm.1 hm.2
   have hset':=hset (aL (aj r) 1 + 2) ⟨by omega,by omega⟩
   have hyl:=EP.out 1
   rw [show (zs ++ aL (aj r) 1 :: bR (aj r) 1).set zs.length (aL (aj r) 1 + 2) = zs ++ (aL (aj r) 1 + 2) :: bR (aj r) 1 by rw [List.set_append_right _ _ (Nat.le_refl _),Nat.sub_self];rfl] at hset'
   generalize hnn : r.py = n at *
   have ze:=aiS hnn;clear hnn
   by_cases hn : n = 0
   ·subst hn
    have HS2 : Hid (om w base X r zs 2 _ wr):=aiS ⟨by rw [mK.out,oM.out,if_neg (by simp),if_neg (by simp),Int.add_zero,List.append_nil];exact HO.out,HX.out,HB.out⟩
    clear hX hO hB HO hset hset' hc hf hor
    go_wp2
    go_roundw
    case rel=>exact ⟨2,by omega,by first | rfl | go_num,HS2.out⟩
    case measure=>simp [intOf]
   ·have hn2 : (n != 0) = true:=by simpa using hn
    have vZ : Hid (aL (aj r) 2 = aL (aj r) 1 + 2):=aiS (by rw [mK.out,if_pos hn])
    have wo : Hid (bR (aj r) 2 = bR (aj r) 1 ++ zb n):=aiS (by rw [oM.out,if_pos hn])
    have wW : U8 (aL (aj r) 1 + 2):=⟨by omega,by omega⟩
    have uG : Hid (∀ W,aY W base (.slice (some ⟨g,0,none⟩) L c) (zs ++ (aL (aj r) 1 + 2) :: bR (aj r) 1) -> base <= W.heap.size -> Calls Tryz.prog 190 #[.slice (some ⟨g,0,none⟩) L c,.int .i64 n] W λe w'=>∃ v',e = .returned v' /\ aY w' base v' ((zs ++ (aL (aj r) 1 + 2) :: bR (aj r) 1) ++ aF (kU n)) /\ Below base W w'):=aiS (λW h1 h2=>qQ _ _ n hI base W h1 (by simp;omega) h2)
    have zf : Hid (L = zs.length + 1 + (bR (aj r) 1).length):=aiS (by rw [qB];simp;omega)
    clear hX hO hB hset hset' mK oM hf
    have Mi : (zs.length : Int) < L:=by have:=zf.out;omega
    have Mj : (L : Int) <= c:=by omega
    clear qB
    go_wp2_with fail
    apply bV 8
    case hm=>kernel_rfl
    case hB=>kernel_rfl
    simp only [List.take_succ_cons,List.take_zero,List.drop_succ_cons,List.drop_zero]
    repeat (apply bI;(next=>(intro W hW K hK;have y0:=hW.cell hc;go_simp;first | exact ⟨Below.refl _ _,hK⟩ | exact hK));(try go_simp))
    refine dK ?_
    intro WC aP _
    have hO2:=HO.out.below aP
    obtain ⟨g2,c2,L2,e2,e6,e7,JM,hc2,hf2,iM⟩:=hO2.elem (i:=zs.length) (z:=aL (aj r) 1) (by simp)
    simp only [Value.slice.injEq,Option.some.injEq,Addr.mk.injEq] at e2
    obtain ⟨⟨e3,_⟩,e5,e4⟩:=e2
    clear e6 e7
    subst e3
    subst e4
    subst e5
    have hO3:=iM (aL (aj r) 1 + 2) wW
    rw [show (zs ++ aL (aj r) 1 :: bR (aj r) 1).set zs.length (aL (aj r) 1 + 2) = zs ++ (aL (aj r) 1 + 2) :: bR (aj r) 1 by rw [List.set_append_right _ _ (Nat.le_refl _),Nat.sub_self];rfl] at hO3
    have hB2:=(HB.out.trans (Below.mono aP hbs)).setCell (p:=⟨g,zs.length,none⟩) hgb (.int .u8 (aL (aj r) 1 + 2))
    have hX2:=(HX.out.below aP HX.out.lt).far (p:=⟨g,zs.length,none⟩) (show X ≠ g by omega) (.int .u8 (aL (aj r) 1 + 2))
    have hs2:=Nat.le_trans hb hB2.size;have nn:=uG.out _ hO3 hs2;have c1:=hX2.cell 3;simp at c1
    rw [ze.out] at c1
    have dU:=aiS hX2;have HB2:=aiS hB2;clear hO2 hO3 iM hB2 hX2 aP HO HX HB uG c0 hc
    go_wp2_with fail
    refine nn.mono ?_;rintro e w5 ⟨v5,rfl,lY,hb5⟩
    have HS2 : Hid (om w base X r zs 2 v5 w5):=aiS ⟨by rw [vZ.out,wo.out];simpa [zb] using lY,dU.out.below hb5 xG,HB2.out.trans hb5⟩
    clear lY hb5 nn dU HB2
    go_wp2
    go_roundw
    case rel=>exact ⟨2,by omega,by first | rfl | go_num,HS2.out⟩
    case measure=>simp [intOf]
  ·have c0:=hX.cell 4
   simp at c0
   have mK : Hid (aL (aj r) 3 = aL (aj r) 2 + (if r.pz ≠ 0 then 4 else 0)):=aiS rfl
   have oM : Hid (bR (aj r) 3 = bR (aj r) 2 ++ (if r.pz ≠ 0 then zb r.pz else [])):=aiS rfl
   have hI:=HR.out.pz
   obtain ⟨g,c,L,rfl,qB,hcl,hgb,hc,hf,hset⟩:=hO.elem (i:=zs.length) (z:=aL (aj r) 2) (by simp)
   have hm : 0 <= aL (aj r) 2 /\ aL (aj r) 2 < 4:=Bc.out 2
   have hor : bits .or .u8 (aL (aj r) 2) 4 = aL (aj r) 2 + 4:=or_bit (k:=2) (by decide) hm.1 hm.2
   have hset':=hset (aL (aj r) 2 + 4) ⟨by omega,by omega⟩
   have hyl:=EP.out 2
   rw [show (zs ++ aL (aj r) 2 :: bR (aj r) 2).set zs.length (aL (aj r) 2 + 4) = zs ++ (aL (aj r) 2 + 4) :: bR (aj r) 2 by rw [List.set_append_right _ _ (Nat.le_refl _),Nat.sub_self];rfl] at hset'
   generalize hnn : r.pz = n at *
   have ze:=aiS hnn;clear hnn
   by_cases hn : n = 0
   ·subst hn
    have HS2 : Hid (om w base X r zs 3 _ wr):=aiS ⟨by rw [mK.out,oM.out,if_neg (by simp),if_neg (by simp),Int.add_zero,List.append_nil];exact HO.out,HX.out,HB.out⟩
    clear hX hO hB HO hset hset' hc hf hor
    go_wp2
    go_roundw
    case rel=>exact ⟨3,by omega,by first | rfl | go_num,HS2.out⟩
    case measure=>simp [intOf]
   ·have hn2 : (n != 0) = true:=by simpa using hn
    have vZ : Hid (aL (aj r) 3 = aL (aj r) 2 + 4):=aiS (by rw [mK.out,if_pos hn])
    have wo : Hid (bR (aj r) 3 = bR (aj r) 2 ++ zb n):=aiS (by rw [oM.out,if_pos hn])
    have wW : U8 (aL (aj r) 2 + 4):=⟨by omega,by omega⟩
    have uG : Hid (∀ W,aY W base (.slice (some ⟨g,0,none⟩) L c) (zs ++ (aL (aj r) 2 + 4) :: bR (aj r) 2) -> base <= W.heap.size -> Calls Tryz.prog 190 #[.slice (some ⟨g,0,none⟩) L c,.int .i64 n] W λe w'=>∃ v',e = .returned v' /\ aY w' base v' ((zs ++ (aL (aj r) 2 + 4) :: bR (aj r) 2) ++ aF (kU n)) /\ Below base W w'):=aiS (λW h1 h2=>qQ _ _ n hI base W h1 (by simp;omega) h2)
    have zf : Hid (L = zs.length + 1 + (bR (aj r) 2).length):=aiS (by rw [qB];simp;omega)
    clear hX hO hB hset hset' mK oM hf
    have Mi : (zs.length : Int) < L:=by have:=zf.out;omega
    have Mj : (L : Int) <= c:=by omega
    clear qB
    go_wp2_with fail
    apply bV 8
    case hm=>kernel_rfl
    case hB=>kernel_rfl
    simp only [List.take_succ_cons,List.take_zero,List.drop_succ_cons,List.drop_zero]
    repeat (apply bI;(next=>(intro W hW K hK;have y0:=hW.cell hc;go_simp;first | exact ⟨Below.refl _ _,hK⟩ | exact hK));(try go_simp))
    refine dK ?_
    intro WC aP _
    have hO2:=HO.out.below aP
    obtain ⟨g2,c2,L2,e2,e6,e7,JM,hc2,hf2,iM⟩:=hO2.elem (i:=zs.length) (z:=aL (aj r) 2) (by simp)
    simp only [Value.slice.injEq,Option.some.injEq,Addr.mk.injEq] at e2
    obtain ⟨⟨e3,_⟩,e5,e4⟩:=e2
    clear e6 e7
    subst e3
    subst e4
    subst e5
    have hO3:=iM (aL (aj r) 2 + 4) wW
    rw [show (zs ++ aL (aj r) 2 :: bR (aj r) 2).set zs.length (aL (aj r) 2 + 4) = zs ++ (aL (aj r) 2 + 4) :: bR (aj r) 2 by rw [List.set_append_right _ _ (Nat.le_refl _),Nat.sub_self];rfl] at hO3
    have hB2:=(HB.out.trans (Below.mono aP hbs)).setCell (p:=⟨g,zs.length,none⟩) hgb (.int .u8 (aL (aj r) 2 + 4))
    have hX2:=(HX.out.below aP HX.out.lt).far (p:=⟨g,zs.length,none⟩) (show X ≠ g by omega) (.int .u8 (aL (aj r) 2 + 4))
    have hs2:=Nat.le_trans hb hB2.size;have nn:=uG.out _ hO3 hs2;have c1:=hX2.cell 4;simp at c1
    rw [ze.out] at c1
    have dU:=aiS hX2;have HB2:=aiS hB2;clear hO2 hO3 iM hB2 hX2 aP HO HX HB uG c0 hc
    go_wp2_with fail
    refine nn.mono ?_;rintro e w5 ⟨v5,rfl,lY,hb5⟩
    have HS2 : Hid (om w base X r zs 3 v5 w5):=aiS ⟨by rw [vZ.out,wo.out];simpa [zb] using lY,dU.out.below hb5 xG,HB2.out.trans hb5⟩
    clear lY hb5 nn dU HB2
    go_wp2
    go_roundw
    case rel=>exact ⟨3,by omega,by first | rfl | go_num,HS2.out⟩
    case measure=>simp [intOf]
  ·have c0:=hX.cell 5
   simp at c0
   have mK : Hid (aL (aj r) 4 = aL (aj r) 3 + (if r.vx ≠ 0 then 8 else 0)):=aiS rfl
   have oM : Hid (bR (aj r) 4 = bR (aj r) 3 ++ (if r.vx ≠ 0 then zb r.vx else [])):=aiS rfl
   have hI:=HR.out.vx
   obtain ⟨g,c,L,rfl,qB,hcl,hgb,hc,hf,hset⟩:=hO.elem (i:=zs.length) (z:=aL (aj r) 3) (by simp)
   have hm : 0 <= aL (aj r) 3 /\ aL (aj r) 3 < 8:=Bc.out 3
   have hor : bits .or .u8 (aL (aj r) 3) 8 = aL (aj r) 3 + 8:=or_bit (k:=3) (by decide) hm.1 hm.2
   have hset':=hset (aL (aj r) 3 + 8) ⟨by omega,by omega⟩
   have hyl:=EP.out 3
   rw [show (zs ++ aL (aj r) 3 :: bR (aj r) 3).set zs.length (aL (aj r) 3 + 8) = zs ++ (aL (aj r) 3 + 8) :: bR (aj r) 3 by rw [List.set_append_right _ _ (Nat.le_refl _),Nat.sub_self];rfl] at hset'
   generalize hnn : r.vx = n at *
   have ze:=aiS hnn;clear hnn
   by_cases hn : n = 0
   ·subst hn
    have HS2 : Hid (om w base X r zs 4 _ wr):=aiS ⟨by rw [mK.out,oM.out,if_neg (by simp),if_neg (by simp),Int.add_zero,List.append_nil];exact HO.out,HX.out,HB.out⟩
    clear hX hO hB HO hset hset' hc hf hor
    go_wp2
    go_roundw
    case rel=>exact ⟨4,by omega,by first | rfl | go_num,HS2.out⟩
    case measure=>simp [intOf]
   ·have hn2 : (n != 0) = true:=by simpa using hn
    have vZ : Hid (aL (aj r) 4 = aL (aj r) 3 + 8):=aiS (by rw [mK.out,if_pos hn])
    have wo : Hid (bR (aj r) 4 = bR (aj r) 3 ++ zb n):=aiS (by rw [oM.out,if_pos hn])
    have wW : U8 (aL (aj r) 3 + 8):=⟨by omega,by omega⟩
    have uG : Hid (∀ W,aY W base (.slice (some ⟨g,0,none⟩) L c) (zs ++ (aL (aj r) 3 + 8) :: bR (aj r) 3) -> base <= W.heap.size -> Calls Tryz.prog 190 #[.slice (some ⟨g,0,none⟩) L c,.int .i64 n] W λe w'=>∃ v',e = .returned v' /\ aY w' base v' ((zs ++ (aL (aj r) 3 + 8) :: bR (aj r) 3) ++ aF (kU n)) /\ Below base W w'):=aiS (λW h1 h2=>qQ _ _ n hI base W h1 (by simp;omega) h2)
    have zf : Hid (L = zs.length + 1 + (bR (aj r) 3).length):=aiS (by rw [qB];simp;omega)
    clear hX hO hB hset hset' mK oM hf
    have Mi : (zs.length : Int) < L:=by have:=zf.out;omega
    have Mj : (L : Int) <= c:=by omega
    clear qB
    go_wp2_with fail
    apply bV 8
    case hm=>kernel_rfl
    case hB=>kernel_rfl
    simp only [List.take_succ_cons,List.take_zero,List.drop_succ_cons,List.drop_zero]
    repeat (apply bI;(next=>(intro W hW K hK;have y0:=hW.cell hc;go_simp;first | exact ⟨Below.refl _ _,hK⟩ | exact hK));(try go_simp))
    refine dK ?_
    intro WC aP _
    have hO2:=HO.out.below aP
    obtain ⟨g2,c2,L2,e2,e6,e7,JM,hc2,hf2,iM⟩:=hO2.elem (i:=zs.length) (z:=aL (aj r) 3) (by simp)
    simp only [Value.slice.injEq,Option.some.injEq,Addr.mk.injEq] at e2
    obtain ⟨⟨e3,_⟩,e5,e4⟩:=e2
    clear e6 e7
    subst e3
    subst e4
    subst e5
    have hO3:=iM (aL (aj r) 3 + 8) wW
    rw [show (zs ++ aL (aj r) 3 :: bR (aj r) 3).set zs.length (aL (aj r) 3 + 8) = zs ++ (aL (aj r) 3 + 8) :: bR (aj r) 3 by rw [List.set_append_right _ _ (Nat.le_refl _),Nat.sub_self];rfl] at hO3
    have hB2:=(HB.out.trans (Below.mono aP hbs)).setCell (p:=⟨g,zs.length,none⟩) hgb (.int .u8 (aL (aj r) 3 + 8))
    have hX2:=(HX.out.below aP HX.out.lt).far (p:=⟨g,zs.length,none⟩) (show X ≠ g by omega) (.int .u8 (aL (aj r) 3 + 8))
    have hs2:=Nat.le_trans hb hB2.size;have nn:=uG.out _ hO3 hs2;have c1:=hX2.cell 5;simp at c1
    rw [ze.out] at c1
    have dU:=aiS hX2;have HB2:=aiS hB2;clear hO2 hO3 iM hB2 hX2 aP HO HX HB uG c0 hc
    go_wp2_with fail
    refine nn.mono ?_;rintro e w5 ⟨v5,rfl,lY,hb5⟩
    have HS2 : Hid (om w base X r zs 4 v5 w5):=aiS ⟨by rw [vZ.out,wo.out];simpa [zb] using lY,dU.out.below hb5 xG,HB2.out.trans hb5⟩
    clear lY hb5 nn dU HB2
    go_wp2
    go_roundw
    case rel=>exact ⟨4,by omega,by first | rfl | go_num,HS2.out⟩
    case measure=>simp [intOf]
  ·have c0:=hX.cell 6
   simp at c0
   have mK : Hid (aL (aj r) 5 = aL (aj r) 4 + (if r.vy ≠ 0 then 16 else 0)):=aiS rfl
   have oM : Hid (bR (aj r) 5 = bR (aj r) 4 ++ (if r.vy ≠ 0 then zb r.vy else [])):=aiS rfl
   have hI:=HR.out.vy
   obtain ⟨g,c,L,rfl,qB,hcl,hgb,hc,hf,hset⟩:=hO.elem (i:=zs.length) (z:=aL (aj r) 4) (by simp)
   have hm : 0 <= aL (aj r) 4 /\ aL (aj r) 4 < 16:=Bc.out 4
   have hor : bits .or .u8 (aL (aj r) 4) 16 = aL (aj r) 4 + 16:=or_bit (k:=4) (by decide) hm.1 hm.2
   have hset':=hset (aL (aj r) 4 + 16) ⟨by omega,by omega⟩
   have hyl:=EP.out 4
   rw [show (zs ++ aL (aj r) 4 :: bR (aj r) 4).set zs.length (aL (aj r) 4 + 16) = zs ++ (aL (aj r) 4 + 16) :: bR (aj r) 4 by rw [List.set_append_right _ _ (Nat.le_refl _),Nat.sub_self];rfl] at hset'
   generalize hnn : r.vy = n at *
   have ze:=aiS hnn;clear hnn
   by_cases hn : n = 0
   ·subst hn
    have HS2 : Hid (om w base X r zs 5 _ wr):=aiS ⟨by rw [mK.out,oM.out,if_neg (by simp),if_neg (by simp),Int.add_zero,List.append_nil];exact HO.out,HX.out,HB.out⟩
    clear hX hO hB HO hset hset' hc hf hor
    go_wp2
    go_roundw
    case rel=>exact ⟨5,by omega,by first | rfl | go_num,HS2.out⟩
    case measure=>simp [intOf]
   ·have hn2 : (n != 0) = true:=by simpa using hn
    have vZ : Hid (aL (aj r) 5 = aL (aj r) 4 + 16):=aiS (by rw [mK.out,if_pos hn])
    have wo : Hid (bR (aj r) 5 = bR (aj r) 4 ++ zb n):=aiS (by rw [oM.out,if_pos hn])
    have wW : U8 (aL (aj r) 4 + 16):=⟨by omega,by omega⟩
    have uG : Hid (∀ W,aY W base (.slice (some ⟨g,0,none⟩) L c) (zs ++ (aL (aj r) 4 + 16) :: bR (aj r) 4) -> base <= W.heap.size -> Calls Tryz.prog 190 #[.slice (some ⟨g,0,none⟩) L c,.int .i64 n] W λe w'=>∃ v',e = .returned v' /\ aY w' base v' ((zs ++ (aL (aj r) 4 + 16) :: bR (aj r) 4) ++ aF (kU n)) /\ Below base W w'):=aiS (λW h1 h2=>qQ _ _ n hI base W h1 (by simp;omega) h2)
    have zf : Hid (L = zs.length + 1 + (bR (aj r) 4).length):=aiS (by rw [qB];simp;omega)
    clear hX hO hB hset hset' mK oM hf
    have Mi : (zs.length : Int) < L:=by have:=zf.out;omega
    have Mj : (L : Int) <= c:=by omega
    clear qB
    go_wp2_with fail
    apply bV 8
    case hm=>kernel_rfl
    case hB=>kernel_rfl
    simp only [List.take_succ_cons,List.take_zero,List.drop_succ_cons,List.drop_zero]
    repeat (apply bI;(next=>(intro W hW K hK;have y0:=hW.cell hc;go_simp;first | exact ⟨Below.refl _ _,hK⟩ | exact hK));(try go_simp))
    refine dK ?_
    intro WC aP _
    have hO2:=HO.out.below aP
    obtain ⟨g2,c2,L2,e2,e6,e7,JM,hc2,hf2,iM⟩:=hO2.elem (i:=zs.length) (z:=aL (aj r) 4) (by simp)
    simp only [Value.slice.injEq,Option.some.injEq,Addr.mk.injEq] at e2
    obtain ⟨⟨e3,_⟩,e5,e4⟩:=e2
    clear e6 e7
    subst e3
    subst e4
    subst e5
    have hO3:=iM (aL (aj r) 4 + 16) wW
    rw [show (zs ++ aL (aj r) 4 :: bR (aj r) 4).set zs.length (aL (aj r) 4 + 16) = zs ++ (aL (aj r) 4 + 16) :: bR (aj r) 4 by rw [List.set_append_right _ _ (Nat.le_refl _),Nat.sub_self];rfl] at hO3
    have hB2:=(HB.out.trans (Below.mono aP hbs)).setCell (p:=⟨g,zs.length,none⟩) hgb (.int .u8 (aL (aj r) 4 + 16))
    have hX2:=(HX.out.below aP HX.out.lt).far (p:=⟨g,zs.length,none⟩) (show X ≠ g by omega) (.int .u8 (aL (aj r) 4 + 16))
    have hs2:=Nat.le_trans hb hB2.size;have nn:=uG.out _ hO3 hs2;have c1:=hX2.cell 6;simp at c1
    rw [ze.out] at c1
    have dU:=aiS hX2;have HB2:=aiS hB2;clear hO2 hO3 iM hB2 hX2 aP HO HX HB uG c0 hc
    go_wp2_with fail
    refine nn.mono ?_;rintro e w5 ⟨v5,rfl,lY,hb5⟩
    have HS2 : Hid (om w base X r zs 5 v5 w5):=aiS ⟨by rw [vZ.out,wo.out];simpa [zb] using lY,dU.out.below hb5 xG,HB2.out.trans hb5⟩
    clear lY hb5 nn dU HB2
    go_wp2
    go_roundw
    case rel=>exact ⟨5,by omega,by first | rfl | go_num,HS2.out⟩
    case measure=>simp [intOf]
  ·have c0:=hX.cell 7
   simp at c0
   have mK : Hid (aL (aj r) 6 = aL (aj r) 5 + (if r.vz ≠ 0 then 32 else 0)):=aiS rfl
   have oM : Hid (bR (aj r) 6 = bR (aj r) 5 ++ (if r.vz ≠ 0 then zb r.vz else [])):=aiS rfl
   have hI:=HR.out.vz
   obtain ⟨g,c,L,rfl,qB,hcl,hgb,hc,hf,hset⟩:=hO.elem (i:=zs.length) (z:=aL (aj r) 5) (by simp)
   have hm : 0 <= aL (aj r) 5 /\ aL (aj r) 5 < 32:=Bc.out 5
   have hor : bits .or .u8 (aL (aj r) 5) 32 = aL (aj r) 5 + 32:=or_bit (k:=5) (by decide) hm.1 hm.2
   have hset':=hset (aL (aj r) 5 + 32) ⟨by omega,by omega⟩
   have hyl:=EP.out 5
   rw [show (zs ++ aL (aj r) 5 :: bR (aj r) 5).set zs.length (aL (aj r) 5 + 32) = zs ++ (aL (aj r) 5 + 32) :: bR (aj r) 5 by rw [List.set_append_right _ _ (Nat.le_refl _),Nat.sub_self];rfl] at hset'
   generalize hnn : r.vz = n at *
   have ze:=aiS hnn;clear hnn
   by_cases hn : n = 0
   ·subst hn
    have HS2 : Hid (om w base X r zs 6 _ wr):=aiS ⟨by rw [mK.out,oM.out,if_neg (by simp),if_neg (by simp),Int.add_zero,List.append_nil];exact HO.out,HX.out,HB.out⟩
    clear hX hO hB HO hset hset' hc hf hor
    go_wp2
    go_roundw
    case rel=>exact ⟨6,by omega,by first | rfl | go_num,HS2.out⟩
    case measure=>simp [intOf]
   ·have hn2 : (n != 0) = true:=by simpa using hn
    have vZ : Hid (aL (aj r) 6 = aL (aj r) 5 + 32):=aiS (by rw [mK.out,if_pos hn])
    have wo : Hid (bR (aj r) 6 = bR (aj r) 5 ++ zb n):=aiS (by rw [oM.out,if_pos hn])
    have wW : U8 (aL (aj r) 5 + 32):=⟨by omega,by omega⟩
    have uG : Hid (∀ W,aY W base (.slice (some ⟨g,0,none⟩) L c) (zs ++ (aL (aj r) 5 + 32) :: bR (aj r) 5) -> base <= W.heap.size -> Calls Tryz.prog 190 #[.slice (some ⟨g,0,none⟩) L c,.int .i64 n] W λe w'=>∃ v',e = .returned v' /\ aY w' base v' ((zs ++ (aL (aj r) 5 + 32) :: bR (aj r) 5) ++ aF (kU n)) /\ Below base W w'):=aiS (λW h1 h2=>qQ _ _ n hI base W h1 (by simp;omega) h2)
    have zf : Hid (L = zs.length + 1 + (bR (aj r) 5).length):=aiS (by rw [qB];simp;omega)
    clear hX hO hB hset hset' mK oM hf
    have Mi : (zs.length : Int) < L:=by have:=zf.out;omega
    have Mj : (L : Int) <= c:=by omega
    clear qB
    go_wp2_with fail
    apply bV 8
    case hm=>kernel_rfl
    case hB=>kernel_rfl
    simp only [List.take_succ_cons,List.take_zero,List.drop_succ_cons,List.drop_zero]
    repeat (apply bI;(next=>(intro W hW K hK;have y0:=hW.cell hc;go_simp;first | exact ⟨Below.refl _ _,hK⟩ | exact hK));(try go_simp))
    refine dK ?_
    intro WC aP _
    have hO2:=HO.out.below aP
    obtain ⟨g2,c2,L2,e2,e6,e7,JM,hc2,hf2,iM⟩:=hO2.elem (i:=zs.length) (z:=aL (aj r) 5) (by simp)
    simp only [Value.slice.injEq,Option.some.injEq,Addr.mk.injEq] at e2
    obtain ⟨⟨e3,_⟩,e5,e4⟩:=e2
    clear e6 e7
    subst e3
    subst e4
    subst e5
    have hO3:=iM (aL (aj r) 5 + 32) wW
    rw [show (zs ++ aL (aj r) 5 :: bR (aj r) 5).set zs.length (aL (aj r) 5 + 32) = zs ++ (aL (aj r) 5 + 32) :: bR (aj r) 5 by rw [List.set_append_right _ _ (Nat.le_refl _),Nat.sub_self];rfl] at hO3
    have hB2:=(HB.out.trans (Below.mono aP hbs)).setCell (p:=⟨g,zs.length,none⟩) hgb (.int .u8 (aL (aj r) 5 + 32))
    have hX2:=(HX.out.below aP HX.out.lt).far (p:=⟨g,zs.length,none⟩) (show X ≠ g by omega) (.int .u8 (aL (aj r) 5 + 32))
    have hs2:=Nat.le_trans hb hB2.size;have nn:=uG.out _ hO3 hs2;have c1:=hX2.cell 7;simp at c1
    rw [ze.out] at c1
    have dU:=aiS hX2;have HB2:=aiS hB2;clear hO2 hO3 iM hB2 hX2 aP HO HX HB uG c0 hc
    go_wp2_with fail
    refine nn.mono ?_;rintro e w5 ⟨v5,rfl,lY,hb5⟩
    have HS2 : Hid (om w base X r zs 6 v5 w5):=aiS ⟨by rw [vZ.out,wo.out];simpa [zb] using lY,dU.out.below hb5 xG,HB2.out.trans hb5⟩
    clear lY hb5 nn dU HB2
    go_wp2
    go_roundw
    case rel=>exact ⟨6,by omega,by first | rfl | go_num,HS2.out⟩
    case measure=>simp [intOf]
  ·have c0:=hX.cell 8
   simp at c0
   obtain ⟨g,c,L,rfl,qB,hcl,hgb,hc,hf,hset⟩:=hO.elem (i:=zs.length) (z:=aL (aj r) 6) (by simp)
   have hm : 0 <= aL (aj r) 6 /\ aL (aj r) 6 < 64:=Bc.out 6
   have hor : bits .or .u8 (aL (aj r) 6) 64 = aL (aj r) 6 + 64:=or_bit (k:=6) (by decide) hm.1 hm.2
   have hset':=hset (aL (aj r) 6 + 64) ⟨by omega,by omega⟩
   have hyl:=EP.out 6
   rw [show (zs ++ aL (aj r) 6 :: bR (aj r) 6).set zs.length (aL (aj r) 6 + 64) = zs ++ (aL (aj r) 6 + 64) :: bR (aj r) 6 by rw [List.set_append_right _ _ (Nat.le_refl _),Nat.sub_self];rfl] at hset'
   have zf : Hid (L = zs.length + 1 + (bR (aj r) 6).length):=aiS (by rw [qB];simp;omega)
   have Mi : (zs.length : Int) < L:=by have:=zf.out;omega
   have Mj : (L : Int) <= c:=by omega
   generalize hnn : r.aJ = n at *
   have ze:=aiS hnn;clear hnn
   by_cases hn : n = 0
   ·subst hn
    have HV : Hid (vC r = aL (aj r) 6 :: bR (aj r) 6):=aiS (by rw [HS.out,if_neg (by simp),if_neg (by simp),List.append_nil])
    clear hX hO hB hset hset' hc hf hor qB HS
    go_wp2
    go_ret
    exact ⟨_,rfl,by rw [HV.out];exact HO.out,HB.out⟩
   ·have hn2 : (n != 0) = true:=by simpa using hn
    have HV : Hid (vC r = (aL (aj r) 6 + 64) :: (bR (aj r) 6 ++ aF n)):=aiS (by rw [HS.out,if_pos hn,if_pos hn])
    have hX2:=HX.out.far (p:=⟨g,zs.length,none⟩) (show X ≠ g by omega) (.int .u8 (aL (aj r) 6 + 64))
    have hB2:=HB.out.setCell (p:=⟨g,zs.length,none⟩) hgb (.int .u8 (aL (aj r) 6 + 64));have hs2:=Nat.le_trans hb hB2.size;have c1:=hX2.cell 8;simp at c1
    rw [ze.out] at c1
    have pt:=nH n hu (wr.setCell ⟨g,zs.length,none⟩ (.int .u8 (aL (aj r) 6 + 64)));have bQ:=aiS hset';have HB2:=aiS hB2
    have hw : IntKind.u64.wrap n = n:=wraps_u64 _ (by omega) (by omega)
    have HYN : Hid ((zs ++ (aL (aj r) 6 + 64) :: bR (aj r) 6).length + (aF n).length <= 140737488355328):=aiS (by simp;omega)
    clear hX hO hB hset hset' qB HS hX2 hB2 HO HX HB
    go_wp2_with fail
    refine pt.mono ?_;rintro e w5 ⟨v5,rfl,lY,hb5⟩
    obtain ⟨ad,c5,rfl,hba,hac⟩:=lY.bytes
    have hs5:=hb5.size;have fK:=aiS (bQ.out.below hb5);have HB3:=aiS (HB2.out.trans (hb5.mono hs2));clear lY hb5 pt bQ HB2
    go_wp2_with (at_builtin;refine bF _ rfl (.tmp 48) (.tmp 54) rfl base _ (zs ++ (aL (aj r) 6 + 64) :: bR (aj r) 6) rfl fK.out ad (aF n).length c5 (aF n) rfl hba hac HYN.out (by omega) ?_)
    intro v6 w6 ho6 hg6
    have lu : Hid (Below base w w6):=aiS (HB3.out.grown hg6 (by omega) (λj e=>(fK.out.lt j e).1))
    have sK:=aiS ho6;clear ho6 hg6 hba
    go_wp2
    go_ret
    exact ⟨v6,rfl,by rw [HV.out];simpa using sK.out,lu.out⟩
set_option maxRecDepth 100000
theorem Gm {w0 w : World} {b : Nat} {v0 v1 v2 v3 v4 v5 v6 v7 v8 : Value} (h : Below w0.heap.size w0 w) (hb : w0.heap.size <= b) : Below w0.heap.size w0 (((((((((w.setCell ⟨b,0,none⟩ v0).setCell ⟨b,1,none⟩ v1).setCell ⟨b,2,none⟩ v2).setCell ⟨b,3,none⟩ v3).setCell ⟨b,4,none⟩ v4).setCell ⟨b,5,none⟩ v5).setCell ⟨b,6,none⟩ v6).setCell ⟨b,7,none⟩ v7).setCell ⟨b,8,none⟩ v8) :=
 (pR (S:=λ_=>False) (Only.of_below h) (.inr hb)).below (Nat.le_refl _) (λ_ h=>h.elim)
def IZ (a b : aB) : Bool:=a.id == b.id && (a.px == b.px && a.py == b.py && a.pz == b.pz) && (a.vx == b.vx && a.vy == b.vy && a.vz == b.vz) && a.aJ == b.aJ && a.gen == b.gen
def Gn (a b : aB) : Rec :=
 if a.gen = b.gen then ⟨1,b.id,IntKind.i64.wrap (b.px - a.px),IntKind.i64.wrap (b.py - a.py),IntKind.i64.wrap (b.pz - a.pz),IntKind.i64.wrap (b.vx - a.vx),IntKind.i64.wrap (b.vy - a.vy),IntKind.i64.wrap (b.vz - a.vz),IntKind.u16.wrap (b.aJ - a.aJ)⟩
 else ⟨3,b.id,b.px,b.py,b.pz,b.vx,b.vy,b.vz,b.aJ⟩
def OH : Rec:=⟨0,0,0,0,0,0,0,0,0⟩
def lK (a b : aB) : Rec × Bool:=if IZ a b = true then (OH,false) else (Gn a b,true)
def x9 (w : World) (X Y P : Nat) (ea eb : Array Value) (old : Array Value) (cells : List (Array Value)) (k : Nat) (wr : World) : Prop :=
 ∃ q,cells[k]? = some q /\ ak wr X q 147 /\ ak wr Y old 147 /\ ak wr P #[.pointer (some ⟨Y,2,none⟩),.pointer (some ⟨Y,3,none⟩),.pointer (some ⟨Y,4,none⟩),.pointer (some ⟨Y,5,none⟩),.pointer (some ⟨Y,6,none⟩),.pointer (some ⟨Y,7,none⟩)] 197 /\
  ak wr w.heap.size ea 33 /\ ak wr (w.heap.size + 1) eb 33 /\ ak wr (w.heap.size + 2) #[.int .i64 0,.int .i64 0,.int .i64 0,.int .i64 0,.int .i64 0,.int .i64 0,.int .i64 0,.int .i64 0,.int .u16 0] 147 /\ Below w.heap.size w wr
set_option maxHeartbeats 4000000 in
theorem Vw (a b : aB) (w : World) :
 Calls Tryz.prog 70 #[bM a,bM b] w λe w'=>e = .returned (.tuple #[lT (lK a b).1,.bool (lK a b).2]) /\ Below w.heap.size w w':=by
 have HZ : Hid (lK a b = if IZ a b = true then (OH,false) else (if a.gen = b.gen then ⟨1,b.id,IntKind.i64.wrap (b.px - a.px),IntKind.i64.wrap (b.py - a.py),IntKind.i64.wrap (b.pz - a.pz),IntKind.i64.wrap (b.vx - a.vx),IntKind.i64.wrap (b.vy - a.vy),IntKind.i64.wrap (b.vz - a.vz),IntKind.u16.wrap (b.aJ - a.aJ)⟩ else ⟨3,b.id,b.px,b.py,b.pz,b.vx,b.vy,b.vz,b.aJ⟩,true)):=aiS rfl
 generalize lK a b = z at *
 have HS : Hid (IZ a b = (a.id == b.id && (a.px == b.px && a.py == b.py && a.pz == b.pz) && (a.vx == b.vx && a.vy == b.vy && a.vz == b.vz) && a.aJ == b.aJ && a.gen == b.gen)):=aiS rfl
 generalize hsm : IZ a b = sm at *
 obtain ⟨ai,a1,a2,a3,a4,a5,a6,aa,ag⟩:=a
 obtain ⟨bi,b1,b2,b3,b4,b5,b6,ba,bg⟩:=b
 unfold bM
 simp only at *
 have hEq : ∀ W : World,(Op.equalIn 10000 33 (.agg #[.int .i64 ai,.int .i64 a1,.int .i64 a2,.int .i64 a3,.int .i64 a4,.int .i64 a5,.int .i64 a6,.int .u16 aa,.int .u8 ag]) (.agg #[.int .i64 bi,.int .i64 b1,.int .i64 b2,.int .i64 b3,.int .i64 b4,.int .i64 b5,.int .i64 b6,.int .u16 ba,.int .u8 bg])).run Tryz.prog W = .ok sm W:=λW=>by
  rw [Zk,HS.out]
 clear hsm HS
 obtain ⟨w0,hw0⟩ : ∃ w0,(((w.alloc (.cells #[.int .i64 ai,.int .i64 a1,.int .i64 a2,.int .i64 a3,.int .i64 a4,.int .i64 a5,.int .i64 a6,.int .u16 aa,.int .u8 ag] 33)).alloc (.cells #[.int .i64 bi,.int .i64 b1,.int .i64 b2,.int .i64 b3,.int .i64 b4,.int .i64 b5,.int .i64 b6,.int .u16 ba,.int .u8 bg] 33)).alloc (.cells #[.int .i64 0,.int .i64 0,.int .i64 0,.int .i64 0,.int .i64 0,.int .i64 0,.int .i64 0,.int .i64 0,.int .u16 0] 147)) = w0:=⟨_,rfl⟩
 have mI : ak w0 w.heap.size #[.int .i64 ai,.int .i64 a1,.int .i64 a2,.int .i64 a3,.int .i64 a4,.int .i64 a5,.int .i64 a6,.int .u16 aa,.int .u8 ag] 33:=by rw [← hw0];exact ((ak.new _ _ _).alloc _).alloc _
 have hE0 : ak w0 (w.heap.size + 1) #[.int .i64 bi,.int .i64 b1,.int .i64 b2,.int .i64 b3,.int .i64 b4,.int .i64 b5,.int .i64 b6,.int .u16 ba,.int .u8 bg] 33:=by
  rw [← hw0]
  have:=(ak.new (w.alloc (.cells #[.int .i64 ai,.int .i64 a1,.int .i64 a2,.int .i64 a3,.int .i64 a4,.int .i64 a5,.int .i64 a6,.int .u16 aa,.int .u8 ag] 33)) #[.int .i64 bi,.int .i64 b1,.int .i64 b2,.int .i64 b3,.int .i64 b4,.int .i64 b5,.int .i64 b6,.int .u16 ba,.int .u8 bg] 33).alloc (.cells #[.int .i64 0,.int .i64 0,.int .i64 0,.int .i64 0,.int .i64 0,.int .i64 0,.int .i64 0,.int .i64 0,.int .u16 0] 147)
  simpa using this
 have mW : ak w0 (w.heap.size + 2) #[.int .i64 0,.int .i64 0,.int .i64 0,.int .i64 0,.int .i64 0,.int .i64 0,.int .i64 0,.int .i64 0,.int .u16 0] 147:=by
  rw [← hw0]
  have:=ak.new ((w.alloc (.cells #[.int .i64 ai,.int .i64 a1,.int .i64 a2,.int .i64 a3,.int .i64 a4,.int .i64 a5,.int .i64 a6,.int .u16 aa,.int .u8 ag] 33)).alloc (.cells #[.int .i64 bi,.int .i64 b1,.int .i64 b2,.int .i64 b3,.int .i64 b4,.int .i64 b5,.int .i64 b6,.int .u16 ba,.int .u8 bg] 33)) #[.int .i64 0,.int .i64 0,.int .i64 0,.int .i64 0,.int .i64 0,.int .i64 0,.int .i64 0,.int .i64 0,.int .u16 0] 147
  simpa using this
 have hB0 : Below w.heap.size w w0:=by rw [← hw0];exact ((aiT).alloc (by simp) _).alloc (by simp;omega) _
 have hs0 : w0.heap.size = w.heap.size + 3:=by rw [← hw0];simp
 have uX:=aiS mI;have M4:=aiS hE0;have HZ0:=aiS mW;have HB0:=aiS hB0;have zi:=aiS hs0;have c0:=mI.cell 0;have c1:=mI.cell 1;have c2:=mI.cell 2;have c3:=mI.cell 3;have c4:=mI.cell 4;have c5:=mI.cell 5;have c6:=mI.cell 6;have c7:=mI.cell 7;have c8:=mI.cell 8;simp at c0 c1 c2 c3 c4 c5 c6 c7 c8;have d0:=hE0.cell 0;have d1:=hE0.cell 1;have d2:=hE0.cell 2;have d3:=hE0.cell 3;have d4:=hE0.cell 4;have d5:=hE0.cell 5;have d6:=hE0.cell 6;have d7:=hE0.cell 7;have d8:=hE0.cell 8;simp at d0 d1 d2 d3 d4 d5 d6 d7 d8;have z0:=mW.cell 0;have z1:=mW.cell 1;have z2:=mW.cell 2;have z3:=mW.cell 3;have z4:=mW.cell 4;have z5:=mW.cell 5;have z6:=mW.cell 6;have z7:=mW.cell 7;have z8:=mW.cell 8;have y0:=mW.free 0;have y1:=mW.free 1;have y2:=mW.free 2;have y3:=mW.free 3;have y4:=mW.free 4;have y5:=mW.free 5;have y6:=mW.free 6;have y7:=mW.free 7;have y8:=mW.free 8
 simp at z0 z1 z2 z3 z4 z5 z6 z7 z8;clear mI hE0 mW hB0 hs0
 cases sm
 ·have HV : Hid (z = (if ag = bg then ⟨1,bi,IntKind.i64.wrap (b1 - a1),IntKind.i64.wrap (b2 - a2),IntKind.i64.wrap (b3 - a3),IntKind.i64.wrap (b4 - a4),IntKind.i64.wrap (b5 - a5),IntKind.i64.wrap (b6 - a6),IntKind.u16.wrap (ba - aa)⟩ else ⟨3,bi,b1,b2,b3,b4,b5,b6,ba⟩,true)):=aiS (by rw [HZ.out,if_neg (by decide)])
  clear HZ
  by_cases hg : ag = bg
  ·have EZ : Hid (z = (⟨1,bi,IntKind.i64.wrap (b1 - a1),IntKind.i64.wrap (b2 - a2),IntKind.i64.wrap (b3 - a3),IntKind.i64.wrap (b4 - a4),IntKind.i64.wrap (b5 - a5),IntKind.i64.wrap (b6 - a6),IntKind.u16.wrap (ba - aa)⟩,true)):=aiS (by rw [HV.out,if_pos hg])
   clear HV
   have hg2 : (ag == bg) = true:=by simpa using hg
   clear hg
   obtain ⟨n1,hn1⟩ : ∃ x,IntKind.i64.wrap (b1 - a1) = x:=⟨_,rfl⟩
   have hm1 : wrap64 (b1 - a1) = n1:=by rw [← hn1];exact (IntWalk.i64_left _).symm
   obtain ⟨n2,hn2⟩ : ∃ x,IntKind.i64.wrap (b2 - a2) = x:=⟨_,rfl⟩
   have hm2 : wrap64 (b2 - a2) = n2:=by rw [← hn2];exact (IntWalk.i64_left _).symm
   obtain ⟨n3,zY⟩ : ∃ x,IntKind.i64.wrap (b3 - a3) = x:=⟨_,rfl⟩
   have SQ : wrap64 (b3 - a3) = n3:=by rw [← zY];exact (IntWalk.i64_left _).symm
   obtain ⟨n4,SV⟩ : ∃ x,IntKind.i64.wrap (b4 - a4) = x:=⟨_,rfl⟩
   have KR : wrap64 (b4 - a4) = n4:=by rw [← SV];exact (IntWalk.i64_left _).symm
   obtain ⟨n5,WO⟩ : ∃ x,IntKind.i64.wrap (b5 - a5) = x:=⟨_,rfl⟩
   have Ir : wrap64 (b5 - a5) = n5:=by rw [← WO];exact (IntWalk.i64_left _).symm
   obtain ⟨n6,WQ⟩ : ∃ x,IntKind.i64.wrap (b6 - a6) = x:=⟨_,rfl⟩
   have hm6 : wrap64 (b6 - a6) = n6:=by rw [← WQ];exact (IntWalk.i64_left _).symm
   obtain ⟨n7,WR⟩ : ∃ x,IntKind.u16.wrap (ba - aa) = x:=⟨_,rfl⟩
   rw [hn1,hn2,zY,SV,WO,WQ,WR] at EZ
   have HN:=aiS (And.intro hn1 (And.intro hn2 (And.intro zY (And.intro SV (And.intro WO WQ)))));have HN7:=aiS WR;clear hn1 hn2 zY SV WO WQ WR hm1 hm2 SQ KR Ir hm6
   obtain ⟨v0,hv0⟩ : ∃ v,w0.alloc (.cells #[.int .i64 3,.int .i64 bi,.int .i64 b1,.int .i64 b2,.int .i64 b3,.int .i64 b4,.int .i64 b5,.int .i64 b6,.int .u16 ba] 147) = v:=⟨_,rfl⟩
   have kN : ak v0 w0.heap.size #[.int .i64 3,.int .i64 bi,.int .i64 b1,.int .i64 b2,.int .i64 b3,.int .i64 b4,.int .i64 b5,.int .i64 b6,.int .u16 ba] 147:=by rw [← hv0];exact ak.new _ _ _
   have qj : ak v0 w.heap.size #[.int .i64 ai,.int .i64 a1,.int .i64 a2,.int .i64 a3,.int .i64 a4,.int .i64 a5,.int .i64 a6,.int .u16 aa,.int .u8 ag] 33:=by rw [← hv0];exact uX.out.alloc _
   have oz : ak v0 (w.heap.size + 1) #[.int .i64 bi,.int .i64 b1,.int .i64 b2,.int .i64 b3,.int .i64 b4,.int .i64 b5,.int .i64 b6,.int .u16 ba,.int .u8 bg] 33:=by rw [← hv0];exact M4.out.alloc _
   have pF : ak v0 (w.heap.size + 2) #[.int .i64 0,.int .i64 0,.int .i64 0,.int .i64 0,.int .i64 0,.int .i64 0,.int .i64 0,.int .i64 0,.int .u16 0] 147:=by rw [← hv0];exact HZ0.out.alloc _
   have uH : Below w.heap.size w v0:=by rw [← hv0];exact HB0.out.alloc HB0.out.size _
   have WS : w.heap.size + 3 <= w0.heap.size:=by rw [zi.out];exact Nat.le_refl _
   have hsv : v0.heap.size = w0.heap.size + 1:=by rw [← hv0];simp
   have c0:=qj.cell 0;have c1:=qj.cell 1;have c2:=qj.cell 2;have c3:=qj.cell 3;have c4:=qj.cell 4;have c5:=qj.cell 5;have c6:=qj.cell 6;have c7:=qj.cell 7;have c8:=qj.cell 8;simp at c0 c1 c2 c3 c4 c5 c6 c7 c8;have d0:=oz.cell 0;have d1:=oz.cell 1;have d2:=oz.cell 2;have d3:=oz.cell 3;have d4:=oz.cell 4;have d5:=oz.cell 5;have d6:=oz.cell 6;have d7:=oz.cell 7;have d8:=oz.cell 8;simp at d0 d1 d2 d3 d4 d5 d6 d7 d8;have q0:=kN.cell 0;have q1:=kN.cell 1;have q2:=kN.cell 2;have q3:=kN.cell 3;have q4:=kN.cell 4;have q5:=kN.cell 5;have q6:=kN.cell 6;have q7:=kN.cell 7;have q8:=kN.cell 8;have f0:=kN.free 0;have f1:=kN.free 1;have f2:=kN.free 2;have f3:=kN.free 3;have f4:=kN.free 4;have f5:=kN.free 5;have f6:=kN.free 6;have f7:=kN.free 7;have f8:=kN.free 8;simp at q0 q1 q2 q3 q4 q5 q6 q7 q8
   obtain ⟨v1,hv1⟩ : ∃ v,v0.setCell ⟨w0.heap.size,0,none⟩ (.int .i64 1) = v:=⟨_,rfl⟩
   have hX1 : ak v1 w0.heap.size #[.int .i64 1,.int .i64 bi,.int .i64 b1,.int .i64 b2,.int .i64 b3,.int .i64 b4,.int .i64 b5,.int .i64 b6,.int .u16 ba] 147:=by rw [← hv1];simpa using kN.set 0 (.int .i64 1)
   have hA1 : ak v1 w.heap.size #[.int .i64 ai,.int .i64 a1,.int .i64 a2,.int .i64 a3,.int .i64 a4,.int .i64 a5,.int .i64 a6,.int .u16 aa,.int .u8 ag] 33:=by rw [← hv1];exact qj.far (by show w.heap.size ≠ w0.heap.size;omega) _
   have hE1 : ak v1 (w.heap.size + 1) #[.int .i64 bi,.int .i64 b1,.int .i64 b2,.int .i64 b3,.int .i64 b4,.int .i64 b5,.int .i64 b6,.int .u16 ba,.int .u8 bg] 33:=by rw [← hv1];exact oz.far (by show w.heap.size + 1 ≠ w0.heap.size;omega) _
   have hZ1 : ak v1 (w.heap.size + 2) #[.int .i64 0,.int .i64 0,.int .i64 0,.int .i64 0,.int .i64 0,.int .i64 0,.int .i64 0,.int .i64 0,.int .u16 0] 147:=by rw [← hv1];exact pF.far (by show w.heap.size + 2 ≠ w0.heap.size;omega) _
   have hB1 : Below w.heap.size w v1:=by rw [← hv1];exact uH.setCell (by show w.heap.size <= w0.heap.size;omega) _
   have hs1 : v1.heap.size = w0.heap.size + 1:=by rw [← hv1];simpa [World.setCell] using hsv
   have ca1:=hA1.cell 1;have ca2:=hA1.cell 2;have ca3:=hA1.cell 3;have ca4:=hA1.cell 4;have ca5:=hA1.cell 5;have ca6:=hA1.cell 6;simp at ca1 ca2 ca3 ca4 ca5 ca6;have fu:=aiS hX1;have HA1:=aiS hA1;have zl:=aiS hE1;have HZ1:=aiS hZ1;have HB1:=aiS hB1;have HSV:=aiS (And.intro WS hs1)
   have nf:=λX w=>EL X w
   unfold ptrs at nf
   clear kN qj oz pF uH hX1 hA1 hE1 hZ1 hB1 uX M4 HZ0 HB0 WS hs1 hsv zi
   go_enter Tryz.func70,Tryz.ntmps70
   go_wp2_with fail
   refine (nf _ _).mono ?_
   rintro e w3 ⟨rfl,hb3⟩
   obtain ⟨v2,hv2⟩ : ∃ v,v1.alloc (.cells #[.int .i64 0,.int .i64 0,.int .i64 a1,.int .i64 a2,.int .i64 a3,.int .i64 a4,.int .i64 a5,.int .i64 a6,.int .u16 0] 147) = v:=⟨_,rfl⟩
   have Jd:=aiS (ak.new v1 #[.int .i64 0,.int .i64 0,.int .i64 a1,.int .i64 a2,.int .i64 a3,.int .i64 a4,.int .i64 a5,.int .i64 a6,.int .u16 0] 147);have dU:=aiS (fu.out.alloc (.cells #[.int .i64 0,.int .i64 0,.int .i64 a1,.int .i64 a2,.int .i64 a3,.int .i64 a4,.int .i64 a5,.int .i64 a6,.int .u16 0] 147));have HA2:=aiS (HA1.out.alloc (.cells #[.int .i64 0,.int .i64 0,.int .i64 a1,.int .i64 a2,.int .i64 a3,.int .i64 a4,.int .i64 a5,.int .i64 a6,.int .u16 0] 147));have HE2:=aiS (zl.out.alloc (.cells #[.int .i64 0,.int .i64 0,.int .i64 a1,.int .i64 a2,.int .i64 a3,.int .i64 a4,.int .i64 a5,.int .i64 a6,.int .u16 0] 147));have HZ2:=aiS (HZ1.out.alloc (.cells #[.int .i64 0,.int .i64 0,.int .i64 a1,.int .i64 a2,.int .i64 a3,.int .i64 a4,.int .i64 a5,.int .i64 a6,.int .u16 0] 147))
   have HB2:=aiS (HB1.out.alloc HB1.out.size (.cells #[.int .i64 0,.int .i64 0,.int .i64 a1,.int .i64 a2,.int .i64 a3,.int .i64 a4,.int .i64 a5,.int .i64 a6,.int .u16 0] 147))
   rw [hv2] at dU HA2 HE2 HZ2 HB2 Jd hb3
   clear hv2;have aS:=dU.out.below hb3 dU.out.lt;have wP:=Jd.out.below hb3 Jd.out.lt;have hA3:=HA2.out.below hb3 HA2.out.lt;have hE3:=HE2.out.below hb3 HE2.out.lt;have hZ3:=HZ2.out.below hb3 HZ2.out.lt;have hB3:=HB2.out.trans (hb3.mono HB2.out.size)
   obtain ⟨v4,hv4⟩ : ∃ v,w3.alloc (.cells #[.pointer (some ⟨v1.heap.size,2,none⟩),.pointer (some ⟨v1.heap.size,3,none⟩),.pointer (some ⟨v1.heap.size,4,none⟩),.pointer (some ⟨v1.heap.size,5,none⟩),.pointer (some ⟨v1.heap.size,6,none⟩),.pointer (some ⟨v1.heap.size,7,none⟩)] 197) = v:=⟨_,rfl⟩
   have hP4 : ak v4 w3.heap.size #[.pointer (some ⟨v1.heap.size,2,none⟩),.pointer (some ⟨v1.heap.size,3,none⟩),.pointer (some ⟨v1.heap.size,4,none⟩),.pointer (some ⟨v1.heap.size,5,none⟩),.pointer (some ⟨v1.heap.size,6,none⟩),.pointer (some ⟨v1.heap.size,7,none⟩)] 197:=by rw [← hv4];exact ak.new _ _ _
   have hs4 : v2.heap.size <= w3.heap.size:=hb3.size
   have bA:=aS.alloc (.cells #[.pointer (some ⟨v1.heap.size,2,none⟩),.pointer (some ⟨v1.heap.size,3,none⟩),.pointer (some ⟨v1.heap.size,4,none⟩),.pointer (some ⟨v1.heap.size,5,none⟩),.pointer (some ⟨v1.heap.size,6,none⟩),.pointer (some ⟨v1.heap.size,7,none⟩)] 197);have yg:=wP.alloc (.cells #[.pointer (some ⟨v1.heap.size,2,none⟩),.pointer (some ⟨v1.heap.size,3,none⟩),.pointer (some ⟨v1.heap.size,4,none⟩),.pointer (some ⟨v1.heap.size,5,none⟩),.pointer (some ⟨v1.heap.size,6,none⟩),.pointer (some ⟨v1.heap.size,7,none⟩)] 197);have hA4:=hA3.alloc (.cells #[.pointer (some ⟨v1.heap.size,2,none⟩),.pointer (some ⟨v1.heap.size,3,none⟩),.pointer (some ⟨v1.heap.size,4,none⟩),.pointer (some ⟨v1.heap.size,5,none⟩),.pointer (some ⟨v1.heap.size,6,none⟩),.pointer (some ⟨v1.heap.size,7,none⟩)] 197)
   have hE4:=hE3.alloc (.cells #[.pointer (some ⟨v1.heap.size,2,none⟩),.pointer (some ⟨v1.heap.size,3,none⟩),.pointer (some ⟨v1.heap.size,4,none⟩),.pointer (some ⟨v1.heap.size,5,none⟩),.pointer (some ⟨v1.heap.size,6,none⟩),.pointer (some ⟨v1.heap.size,7,none⟩)] 197);have hZ4:=hZ3.alloc (.cells #[.pointer (some ⟨v1.heap.size,2,none⟩),.pointer (some ⟨v1.heap.size,3,none⟩),.pointer (some ⟨v1.heap.size,4,none⟩),.pointer (some ⟨v1.heap.size,5,none⟩),.pointer (some ⟨v1.heap.size,6,none⟩),.pointer (some ⟨v1.heap.size,7,none⟩)] 197);have hB4:=hB3.alloc hB3.size (.cells #[.pointer (some ⟨v1.heap.size,2,none⟩),.pointer (some ⟨v1.heap.size,3,none⟩),.pointer (some ⟨v1.heap.size,4,none⟩),.pointer (some ⟨v1.heap.size,5,none⟩),.pointer (some ⟨v1.heap.size,6,none⟩),.pointer (some ⟨v1.heap.size,7,none⟩)] 197)
   rw [hv4] at bA yg hA4 hE4 hZ4 hB4
   have HP4:=aiS hP4;have za:=aiS bA;have HY4:=aiS yg;have GN:=aiS hA4;have M5:=aiS hE4;have HZ4:=aiS hZ4;have gP:=aiS hB4
   have HLY : Hid (v1.heap.size < v2.heap.size):=aiS Jd.out.lt
   clear hb3 aS wP hA3 hE3 hZ3 hB3 hP4 bA yg hA4 hE4 hZ4 hB4 dU Jd HA2 HE2 HZ2 HB2
   go_wp2_with fail
   refine (nf _ _).mono ?_
   rintro e w5 ⟨rfl,hb5⟩
   obtain ⟨cl,hcl⟩ : ∃ c : List (Array Value),c = [#[.int .i64 1,.int .i64 bi,.int .i64 b1,.int .i64 b2,.int .i64 b3,.int .i64 b4,.int .i64 b5,.int .i64 b6,.int .u16 ba],#[.int .i64 1,.int .i64 bi,.int .i64 n1,.int .i64 b2,.int .i64 b3,.int .i64 b4,.int .i64 b5,.int .i64 b6,.int .u16 ba],#[.int .i64 1,.int .i64 bi,.int .i64 n1,.int .i64 n2,.int .i64 b3,.int .i64 b4,.int .i64 b5,.int .i64 b6,.int .u16 ba],#[.int .i64 1,.int .i64 bi,.int .i64 n1,.int .i64 n2,.int .i64 n3,.int .i64 b4,.int .i64 b5,.int .i64 b6,.int .u16 ba],#[.int .i64 1,.int .i64 bi,.int .i64 n1,.int .i64 n2,.int .i64 n3,.int .i64 n4,.int .i64 b5,.int .i64 b6,.int .u16 ba],#[.int .i64 1,.int .i64 bi,.int .i64 n1,.int .i64 n2,.int .i64 n3,.int .i64 n4,.int .i64 n5,.int .i64 b6,.int .u16 ba],#[.int .i64 1,.int .i64 bi,.int .i64 n1,.int .i64 n2,.int .i64 n3,.int .i64 n4,.int .i64 n5,.int .i64 n6,.int .u16 ba]]:=⟨_,rfl⟩
   have KS:=aiS hcl
   have HST : Hid (x9 w w0.heap.size v1.heap.size w3.heap.size #[.int .i64 ai,.int .i64 a1,.int .i64 a2,.int .i64 a3,.int .i64 a4,.int .i64 a5,.int .i64 a6,.int .u16 aa,.int .u8 ag] #[.int .i64 bi,.int .i64 b1,.int .i64 b2,.int .i64 b3,.int .i64 b4,.int .i64 b5,.int .i64 b6,.int .u16 ba,.int .u8 bg] #[.int .i64 0,.int .i64 0,.int .i64 a1,.int .i64 a2,.int .i64 a3,.int .i64 a4,.int .i64 a5,.int .i64 a6,.int .u16 0] cl 0 w5):=aiS ⟨_,by rw [hcl];rfl,za.out.below hb5 za.out.lt,HY4.out.below hb5 HY4.out.lt,HP4.out.below hb5 HP4.out.lt,GN.out.below hb5 GN.out.lt,M5.out.below hb5 M5.out.lt,HZ4.out.below hb5 HZ4.out.lt,gP.out.trans (hb5.mono gP.out.size)⟩
   have oL : Hid (w.heap.size + 3 <= w0.heap.size /\ w0.heap.size < v1.heap.size /\ v1.heap.size < w3.heap.size):=aiS ⟨HSV.out.1,by rw [HSV.out.2];omega,by have:=HLY.out;omega⟩
   clear hb5 hcl za HY4 HP4 GN M5 HZ4 gP HSV HLY hs4 nf
   generalize w0.heap.size = X at *
   generalize v1.heap.size = Y at *
   generalize w3.heap.size = P at *
   go_wp2_with fail
   go_loopw [37] (λi wr=>∃ k : Nat,k <= 6 /\ i = .int .i64 k /\ x9 w X Y P #[.int .i64 ai,.int .i64 a1,.int .i64 a2,.int .i64 a3,.int .i64 a4,.int .i64 a5,.int .i64 a6,.int .u16 aa,.int .u8 ag] #[.int .i64 bi,.int .i64 b1,.int .i64 b2,.int .i64 b3,.int .i64 b4,.int .i64 b5,.int .i64 b6,.int .u16 ba,.int .u8 bg] #[.int .i64 0,.int .i64 0,.int .i64 a1,.int .i64 a2,.int .i64 a3,.int .i64 a4,.int .i64 a5,.int .i64 a6,.int .u16 0] cl k wr) (λi _=>6 - (intOf i).toNat)
   case atStart=>exact ⟨0,by omega,rfl,HST.out⟩
   case round =>
    rename_i wr
    obtain ⟨k,hk,rfl,q,hq,hX,hY,hP,hA,hE,hZ,hB⟩:=hrel
    rw [KS.out] at hq
    obtain ⟨nXa,nXY,nYP⟩:=oL.out
    rcases (show k = 0 \/ k = 1 \/ k = 2 \/ k = 3 \/ k = 4 \/ k = 5 \/ k = 6 by omega) with rfl | rfl | rfl | rfl | rfl | rfl | rfl
    ·cases hq
     have x0:=hX.cell 2;have o0:=hY.cell 2;have p0:=hP.cell 0;simp at x0 o0 p0;have HX:=aiS hX;have HY:=aiS hY;have HP:=aiS hP;have HA:=aiS hA;have HE:=aiS hE;have HZ:=aiS hZ;have HB:=aiS hB;have hn:=HN.out.1;clear hX hY hP hA hE hZ hB
     go_wp2_with fail
     refine aQ 10 (by kernel_rfl) (by kernel_rfl) ?_
     simp only [List.take_succ_cons,List.take_zero,List.drop_succ_cons,List.drop_zero]
     repeat (apply aA;(next=>(intro W hW K hK;have y0:=hW.cell x0;have y1:=hW.cell o0;have y2:=hW.cell p0;go_simp;first | exact ⟨hW,hK⟩ | exact hK));(next=>exact aH.self _);(try go_simp))
     refine aT ?_
     intro WC aP
     have bP : Below wr.heap.size wr WC:=aP
     have hX1:=HX.out.below bP HX.out.lt;have f0:=hX1.free 2;have x1:=hX1.cell 2;simp at x1
     have HS2 : Hid (x9 w X Y P #[.int .i64 ai,.int .i64 a1,.int .i64 a2,.int .i64 a3,.int .i64 a4,.int .i64 a5,.int .i64 a6,.int .u16 aa,.int .u8 ag] #[.int .i64 bi,.int .i64 b1,.int .i64 b2,.int .i64 b3,.int .i64 b4,.int .i64 b5,.int .i64 b6,.int .u16 ba,.int .u8 bg] #[.int .i64 0,.int .i64 0,.int .i64 a1,.int .i64 a2,.int .i64 a3,.int .i64 a4,.int .i64 a5,.int .i64 a6,.int .u16 0] cl 1 (WC.setCell ⟨X,2,none⟩ (.int .i64 n1))):=aiS ⟨_,by rw [KS.out];rfl,by simpa using hX1.set 2 (.int .i64 n1),(HY.out.below bP HY.out.lt).far (by show Y ≠ X;omega) _,(HP.out.below bP HP.out.lt).far (by show P ≠ X;omega) _,(HA.out.below bP HA.out.lt).far (by show w.heap.size ≠ X;omega) _,(HE.out.below bP HE.out.lt).far (by show w.heap.size + 1 ≠ X;omega) _,(HZ.out.below bP HZ.out.lt).far (by show w.heap.size + 2 ≠ X;omega) _,(HB.out.trans (bP.mono HB.out.size)).setCell (by show w.heap.size <= X;omega) _⟩
     clear aP bP hX1 x0 o0 p0 HX HY HP HA HE HZ HB
     go_wp2
     go_roundw
     case rel=>exact ⟨1,by omega,by first | rfl | go_num,HS2.out⟩
     case measure=>simp [intOf]
    ·cases hq
     have x0:=hX.cell 3;have o0:=hY.cell 3;have p0:=hP.cell 1;simp at x0 o0 p0;have HX:=aiS hX;have HY:=aiS hY;have HP:=aiS hP;have HA:=aiS hA;have HE:=aiS hE;have HZ:=aiS hZ;have HB:=aiS hB;have hn:=HN.out.2.1;clear hX hY hP hA hE hZ hB
     go_wp2_with fail
     refine aQ 10 (by kernel_rfl) (by kernel_rfl) ?_
     simp only [List.take_succ_cons,List.take_zero,List.drop_succ_cons,List.drop_zero]
     repeat (apply aA;(next=>(intro W hW K hK;have y0:=hW.cell x0;have y1:=hW.cell o0;have y2:=hW.cell p0;go_simp;first | exact ⟨hW,hK⟩ | exact hK));(next=>exact aH.self _);(try go_simp))
     refine aT ?_
     intro WC aP
     have bP : Below wr.heap.size wr WC:=aP
     have hX1:=HX.out.below bP HX.out.lt;have f0:=hX1.free 3;have x1:=hX1.cell 3;simp at x1
     have HS2 : Hid (x9 w X Y P #[.int .i64 ai,.int .i64 a1,.int .i64 a2,.int .i64 a3,.int .i64 a4,.int .i64 a5,.int .i64 a6,.int .u16 aa,.int .u8 ag] #[.int .i64 bi,.int .i64 b1,.int .i64 b2,.int .i64 b3,.int .i64 b4,.int .i64 b5,.int .i64 b6,.int .u16 ba,.int .u8 bg] #[.int .i64 0,.int .i64 0,.int .i64 a1,.int .i64 a2,.int .i64 a3,.int .i64 a4,.int .i64 a5,.int .i64 a6,.int .u16 0] cl 2 (WC.setCell ⟨X,3,none⟩ (.int .i64 n2))):=aiS ⟨_,by rw [KS.out];rfl,by simpa using hX1.set 3 (.int .i64 n2),(HY.out.below bP HY.out.lt).far (by show Y ≠ X;omega) _,(HP.out.below bP HP.out.lt).far (by show P ≠ X;omega) _,(HA.out.below bP HA.out.lt).far (by show w.heap.size ≠ X;omega) _,(HE.out.below bP HE.out.lt).far (by show w.heap.size + 1 ≠ X;omega) _,(HZ.out.below bP HZ.out.lt).far (by show w.heap.size + 2 ≠ X;omega) _,(HB.out.trans (bP.mono HB.out.size)).setCell (by show w.heap.size <= X;omega) _⟩
     clear aP bP hX1 x0 o0 p0 HX HY HP HA HE HZ HB
     go_wp2
     go_roundw
     case rel=>exact ⟨2,by omega,by first | rfl | go_num,HS2.out⟩
     case measure=>simp [intOf]
    ·cases hq
     have x0:=hX.cell 4;have o0:=hY.cell 4;have p0:=hP.cell 2;simp at x0 o0 p0;have HX:=aiS hX;have HY:=aiS hY;have HP:=aiS hP;have HA:=aiS hA;have HE:=aiS hE;have HZ:=aiS hZ;have HB:=aiS hB;have hn:=HN.out.2.2.1;clear hX hY hP hA hE hZ hB
     go_wp2_with fail
     refine aQ 10 (by kernel_rfl) (by kernel_rfl) ?_
     simp only [List.take_succ_cons,List.take_zero,List.drop_succ_cons,List.drop_zero]
     repeat (apply aA;(next=>(intro W hW K hK;have y0:=hW.cell x0;have y1:=hW.cell o0;have y2:=hW.cell p0;go_simp;first | exact ⟨hW,hK⟩ | exact hK));(next=>exact aH.self _);(try go_simp))
     refine aT ?_
     intro WC aP
     have bP : Below wr.heap.size wr WC:=aP
     have hX1:=HX.out.below bP HX.out.lt;have f0:=hX1.free 4;have x1:=hX1.cell 4;simp at x1
     have HS2 : Hid (x9 w X Y P #[.int .i64 ai,.int .i64 a1,.int .i64 a2,.int .i64 a3,.int .i64 a4,.int .i64 a5,.int .i64 a6,.int .u16 aa,.int .u8 ag] #[.int .i64 bi,.int .i64 b1,.int .i64 b2,.int .i64 b3,.int .i64 b4,.int .i64 b5,.int .i64 b6,.int .u16 ba,.int .u8 bg] #[.int .i64 0,.int .i64 0,.int .i64 a1,.int .i64 a2,.int .i64 a3,.int .i64 a4,.int .i64 a5,.int .i64 a6,.int .u16 0] cl 3 (WC.setCell ⟨X,4,none⟩ (.int .i64 n3))):=aiS ⟨_,by rw [KS.out];rfl,by simpa using hX1.set 4 (.int .i64 n3),(HY.out.below bP HY.out.lt).far (by show Y ≠ X;omega) _,(HP.out.below bP HP.out.lt).far (by show P ≠ X;omega) _,(HA.out.below bP HA.out.lt).far (by show w.heap.size ≠ X;omega) _,(HE.out.below bP HE.out.lt).far (by show w.heap.size + 1 ≠ X;omega) _,(HZ.out.below bP HZ.out.lt).far (by show w.heap.size + 2 ≠ X;omega) _,(HB.out.trans (bP.mono HB.out.size)).setCell (by show w.heap.size <= X;omega) _⟩
     clear aP bP hX1 x0 o0 p0 HX HY HP HA HE HZ HB
     go_wp2
     go_roundw
     case rel=>exact ⟨3,by omega,by first | rfl | go_num,HS2.out⟩
     case measure=>simp [intOf]
    ·cases hq
     have x0:=hX.cell 5;have o0:=hY.cell 5;have p0:=hP.cell 3;simp at x0 o0 p0;have HX:=aiS hX;have HY:=aiS hY;have HP:=aiS hP;have HA:=aiS hA;have HE:=aiS hE;have HZ:=aiS hZ;have HB:=aiS hB;have hn:=HN.out.2.2.2.1;clear hX hY hP hA hE hZ hB
     go_wp2_with fail
     refine aQ 10 (by kernel_rfl) (by kernel_rfl) ?_
     simp only [List.take_succ_cons,List.take_zero,List.drop_succ_cons,List.drop_zero]
     repeat (apply aA;(next=>(intro W hW K hK;have y0:=hW.cell x0;have y1:=hW.cell o0;have y2:=hW.cell p0;go_simp;first | exact ⟨hW,hK⟩ | exact hK));(next=>exact aH.self _);(try go_simp))
     refine aT ?_
     intro WC aP
     have bP : Below wr.heap.size wr WC:=aP
     have hX1:=HX.out.below bP HX.out.lt;have f0:=hX1.free 5;have x1:=hX1.cell 5;simp at x1
     have HS2 : Hid (x9 w X Y P #[.int .i64 ai,.int .i64 a1,.int .i64 a2,.int .i64 a3,.int .i64 a4,.int .i64 a5,.int .i64 a6,.int .u16 aa,.int .u8 ag] #[.int .i64 bi,.int .i64 b1,.int .i64 b2,.int .i64 b3,.int .i64 b4,.int .i64 b5,.int .i64 b6,.int .u16 ba,.int .u8 bg] #[.int .i64 0,.int .i64 0,.int .i64 a1,.int .i64 a2,.int .i64 a3,.int .i64 a4,.int .i64 a5,.int .i64 a6,.int .u16 0] cl 4 (WC.setCell ⟨X,5,none⟩ (.int .i64 n4))):=aiS ⟨_,by rw [KS.out];rfl,by simpa using hX1.set 5 (.int .i64 n4),(HY.out.below bP HY.out.lt).far (by show Y ≠ X;omega) _,(HP.out.below bP HP.out.lt).far (by show P ≠ X;omega) _,(HA.out.below bP HA.out.lt).far (by show w.heap.size ≠ X;omega) _,(HE.out.below bP HE.out.lt).far (by show w.heap.size + 1 ≠ X;omega) _,(HZ.out.below bP HZ.out.lt).far (by show w.heap.size + 2 ≠ X;omega) _,(HB.out.trans (bP.mono HB.out.size)).setCell (by show w.heap.size <= X;omega) _⟩
     clear aP bP hX1 x0 o0 p0 HX HY HP HA HE HZ HB
     go_wp2
     go_roundw
     case rel=>exact ⟨4,by omega,by first | rfl | go_num,HS2.out⟩
     case measure=>simp [intOf]
    ·cases hq
     have x0:=hX.cell 6;have o0:=hY.cell 6;have p0:=hP.cell 4;simp at x0 o0 p0;have HX:=aiS hX;have HY:=aiS hY;have HP:=aiS hP;have HA:=aiS hA;have HE:=aiS hE;have HZ:=aiS hZ;have HB:=aiS hB;have hn:=HN.out.2.2.2.2.1;clear hX hY hP hA hE hZ hB
     go_wp2_with fail
     refine aQ 10 (by kernel_rfl) (by kernel_rfl) ?_
     simp only [List.take_succ_cons,List.take_zero,List.drop_succ_cons,List.drop_zero]
     repeat (apply aA;(next=>(intro W hW K hK;have y0:=hW.cell x0;have y1:=hW.cell o0;have y2:=hW.cell p0;go_simp;first | exact ⟨hW,hK⟩ | exact hK));(next=>exact aH.self _);(try go_simp))
     refine aT ?_
     intro WC aP
     have bP : Below wr.heap.size wr WC:=aP
     have hX1:=HX.out.below bP HX.out.lt;have f0:=hX1.free 6;have x1:=hX1.cell 6;simp at x1
     have HS2 : Hid (x9 w X Y P #[.int .i64 ai,.int .i64 a1,.int .i64 a2,.int .i64 a3,.int .i64 a4,.int .i64 a5,.int .i64 a6,.int .u16 aa,.int .u8 ag] #[.int .i64 bi,.int .i64 b1,.int .i64 b2,.int .i64 b3,.int .i64 b4,.int .i64 b5,.int .i64 b6,.int .u16 ba,.int .u8 bg] #[.int .i64 0,.int .i64 0,.int .i64 a1,.int .i64 a2,.int .i64 a3,.int .i64 a4,.int .i64 a5,.int .i64 a6,.int .u16 0] cl 5 (WC.setCell ⟨X,6,none⟩ (.int .i64 n5))):=aiS ⟨_,by rw [KS.out];rfl,by simpa using hX1.set 6 (.int .i64 n5),(HY.out.below bP HY.out.lt).far (by show Y ≠ X;omega) _,(HP.out.below bP HP.out.lt).far (by show P ≠ X;omega) _,(HA.out.below bP HA.out.lt).far (by show w.heap.size ≠ X;omega) _,(HE.out.below bP HE.out.lt).far (by show w.heap.size + 1 ≠ X;omega) _,(HZ.out.below bP HZ.out.lt).far (by show w.heap.size + 2 ≠ X;omega) _,(HB.out.trans (bP.mono HB.out.size)).setCell (by show w.heap.size <= X;omega) _⟩
     clear aP bP hX1 x0 o0 p0 HX HY HP HA HE HZ HB
     go_wp2
     go_roundw
     case rel=>exact ⟨5,by omega,by first | rfl | go_num,HS2.out⟩
     case measure=>simp [intOf]
    ·cases hq
     have x0:=hX.cell 7;have o0:=hY.cell 7;have p0:=hP.cell 5;simp at x0 o0 p0;have HX:=aiS hX;have HY:=aiS hY;have HP:=aiS hP;have HA:=aiS hA;have HE:=aiS hE;have HZ:=aiS hZ;have HB:=aiS hB;have hn:=HN.out.2.2.2.2.2;clear hX hY hP hA hE hZ hB
     go_wp2_with fail
     refine aQ 10 (by kernel_rfl) (by kernel_rfl) ?_
     simp only [List.take_succ_cons,List.take_zero,List.drop_succ_cons,List.drop_zero]
     repeat (apply aA;(next=>(intro W hW K hK;have y0:=hW.cell x0;have y1:=hW.cell o0;have y2:=hW.cell p0;go_simp;first | exact ⟨hW,hK⟩ | exact hK));(next=>exact aH.self _);(try go_simp))
     refine aT ?_
     intro WC aP
     have bP : Below wr.heap.size wr WC:=aP
     have hX1:=HX.out.below bP HX.out.lt;have f0:=hX1.free 7;have x1:=hX1.cell 7;simp at x1
     have HS2 : Hid (x9 w X Y P #[.int .i64 ai,.int .i64 a1,.int .i64 a2,.int .i64 a3,.int .i64 a4,.int .i64 a5,.int .i64 a6,.int .u16 aa,.int .u8 ag] #[.int .i64 bi,.int .i64 b1,.int .i64 b2,.int .i64 b3,.int .i64 b4,.int .i64 b5,.int .i64 b6,.int .u16 ba,.int .u8 bg] #[.int .i64 0,.int .i64 0,.int .i64 a1,.int .i64 a2,.int .i64 a3,.int .i64 a4,.int .i64 a5,.int .i64 a6,.int .u16 0] cl 6 (WC.setCell ⟨X,7,none⟩ (.int .i64 n6))):=aiS ⟨_,by rw [KS.out];rfl,by simpa using hX1.set 7 (.int .i64 n6),(HY.out.below bP HY.out.lt).far (by show Y ≠ X;omega) _,(HP.out.below bP HP.out.lt).far (by show P ≠ X;omega) _,(HA.out.below bP HA.out.lt).far (by show w.heap.size ≠ X;omega) _,(HE.out.below bP HE.out.lt).far (by show w.heap.size + 1 ≠ X;omega) _,(HZ.out.below bP HZ.out.lt).far (by show w.heap.size + 2 ≠ X;omega) _,(HB.out.trans (bP.mono HB.out.size)).setCell (by show w.heap.size <= X;omega) _⟩
     clear aP bP hX1 x0 o0 p0 HX HY HP HA HE HZ HB
     go_wp2
     go_roundw
     case rel=>exact ⟨6,by omega,by first | rfl | go_num,HS2.out⟩
     case measure=>simp [intOf]
    ·cases hq
     have x0:=hX.cell 0;have x1:=hX.cell 1;have x2:=hX.cell 2;have x3:=hX.cell 3;have x4:=hX.cell 4;have x5:=hX.cell 5;have x6:=hX.cell 6;have x7:=hX.cell 7;have x8:=hX.cell 8;simp at x0 x1 x2 x3 x4 x5 x6 x7 x8;have a7:=hA.cell 7;have g7:=hX.free 8;simp at a7;have WR:=HN7.out;have hX2:=hX.set 8 (.int .u16 n7)
     have HZ2:=aiS (hZ.far (p:=⟨X,8,none⟩) (by show w.heap.size + 2 ≠ X;omega) (.int .u16 n7))
     have HB2:=aiS (hB.setCell (p:=⟨X,8,none⟩) (by show w.heap.size <= X;omega) (.int .u16 n7))
     have hZ2:=HZ2.out;simp at hX2;have e0:=hX2.cell 0;have e1:=hX2.cell 1;have e2:=hX2.cell 2;have e3:=hX2.cell 3;have e4:=hX2.cell 4;have e5:=hX2.cell 5;have e6:=hX2.cell 6;have e7:=hX2.cell 7;have e8:=hX2.cell 8;simp at e0 e1 e2 e3 e4 e5 e6 e7 e8;have z0:=hZ2.cell 0;have z1:=hZ2.cell 1;have z2:=hZ2.cell 2;have z3:=hZ2.cell 3;have z4:=hZ2.cell 4;have z5:=hZ2.cell 5;have z6:=hZ2.cell 6;have z7:=hZ2.cell 7;have z8:=hZ2.cell 8;have y0:=hZ2.free 0;have y1:=hZ2.free 1;have y2:=hZ2.free 2;have y3:=hZ2.free 3;have y4:=hZ2.free 4;have y5:=hZ2.free 5;have y6:=hZ2.free 6;have y7:=hZ2.free 7;have y8:=hZ2.free 8;simp at z0 z1 z2 z3 z4 z5 z6 z7 z8;clear hX hX2 hY hP hA hE hZ hB hZ2
     go_wp2
     exact bodyPost_ret (v:=.tuple #[.agg #[.int .i64 1,.int .i64 bi,.int .i64 n1,.int .i64 n2,.int .i64 n3,.int .i64 n4,.int .i64 n5,.int .i64 n6,.int .u16 n7],.bool true])
      (by have hh:=mH (v0:=.int .i64 1) (v1:=.int .i64 bi) (v2:=.int .i64 n1) (v3:=.int .i64 n2) (v4:=.int .i64 n3) (v5:=.int .i64 n4) (v6:=.int .i64 n5) (v7:=.int .i64 n6) (v8:=.int .u16 n7) HZ2.out
          have g0:=hh.cell 0;have g1:=hh.cell 1;have g2:=hh.cell 2;have g3:=hh.cell 3;have g4:=hh.cell 4;have g5:=hh.cell 5;have g6:=hh.cell 6;have g7:=hh.cell 7;have g8:=hh.cell 8;simp at g0 g1 g2 g3 g4 g5 g6 g7 g8
          simp [results,Tryz.results70,go_sem,g0,g1,g2,g3,g4,g5,g6,g7,g8]) rfl
      ⟨by rw [EZ.out];rfl,Gm HB2.out (by omega)⟩
  ·have hg2 : (ag == bg) = false:=by simpa using hg
   have EZ : Hid (z = (⟨3,bi,b1,b2,b3,b4,b5,b6,ba⟩,true)):=aiS (by rw [HV.out,if_neg hg])
   clear HV
   obtain ⟨v0,hv0⟩ : ∃ v,w0.alloc (.cells #[.int .i64 3,.int .i64 bi,.int .i64 b1,.int .i64 b2,.int .i64 b3,.int .i64 b4,.int .i64 b5,.int .i64 b6,.int .u16 ba] 147) = v:=⟨_,rfl⟩
   have kN : ak v0 w0.heap.size #[.int .i64 3,.int .i64 bi,.int .i64 b1,.int .i64 b2,.int .i64 b3,.int .i64 b4,.int .i64 b5,.int .i64 b6,.int .u16 ba] 147:=by rw [← hv0];exact ak.new _ _ _
   have qj : ak v0 w.heap.size #[.int .i64 ai,.int .i64 a1,.int .i64 a2,.int .i64 a3,.int .i64 a4,.int .i64 a5,.int .i64 a6,.int .u16 aa,.int .u8 ag] 33:=by rw [← hv0];exact uX.out.alloc _
   have oz : ak v0 (w.heap.size + 1) #[.int .i64 bi,.int .i64 b1,.int .i64 b2,.int .i64 b3,.int .i64 b4,.int .i64 b5,.int .i64 b6,.int .u16 ba,.int .u8 bg] 33:=by rw [← hv0];exact M4.out.alloc _
   have pF : ak v0 (w.heap.size + 2) #[.int .i64 0,.int .i64 0,.int .i64 0,.int .i64 0,.int .i64 0,.int .i64 0,.int .i64 0,.int .i64 0,.int .u16 0] 147:=by rw [← hv0];exact HZ0.out.alloc _
   have uH : Below w.heap.size w v0:=by rw [← hv0];exact HB0.out.alloc HB0.out.size _
   have WS : w.heap.size + 3 <= w0.heap.size:=by rw [zi.out];exact Nat.le_refl _
   have hsv : v0.heap.size = w0.heap.size + 1:=by rw [← hv0];simp
   have c0:=qj.cell 0;have c1:=qj.cell 1;have c2:=qj.cell 2;have c3:=qj.cell 3;have c4:=qj.cell 4;have c5:=qj.cell 5;have c6:=qj.cell 6;have c7:=qj.cell 7;have c8:=qj.cell 8;simp at c0 c1 c2 c3 c4 c5 c6 c7 c8;have d0:=oz.cell 0;have d1:=oz.cell 1;have d2:=oz.cell 2;have d3:=oz.cell 3;have d4:=oz.cell 4;have d5:=oz.cell 5;have d6:=oz.cell 6;have d7:=oz.cell 7;have d8:=oz.cell 8;simp at d0 d1 d2 d3 d4 d5 d6 d7 d8;have q0:=kN.cell 0;have q1:=kN.cell 1;have q2:=kN.cell 2;have q3:=kN.cell 3;have q4:=kN.cell 4;have q5:=kN.cell 5;have q6:=kN.cell 6;have q7:=kN.cell 7;have q8:=kN.cell 8;simp at q0 q1 q2 q3 q4 q5 q6 q7 q8;have z0:=pF.cell 0;have z1:=pF.cell 1;have z2:=pF.cell 2;have z3:=pF.cell 3;have z4:=pF.cell 4;have z5:=pF.cell 5;have z6:=pF.cell 6;have z7:=pF.cell 7;have z8:=pF.cell 8;have y0:=pF.free 0;have y1:=pF.free 1;have y2:=pF.free 2
   have y3:=pF.free 3;have y4:=pF.free 4;have y5:=pF.free 5;have y6:=pF.free 6;have y7:=pF.free 7;have y8:=pF.free 8;simp at z0 z1 z2 z3 z4 z5 z6 z7 z8;have HZ1:=aiS pF;have HB1:=aiS uH;clear kN qj oz pF uH uX M4 HZ0 HB0 WS hsv zi
   go_enter Tryz.func70,Tryz.ntmps70
   go_wp2
   exact bodyPost_ret (v:=.tuple #[.agg #[.int .i64 3,.int .i64 bi,.int .i64 b1,.int .i64 b2,.int .i64 b3,.int .i64 b4,.int .i64 b5,.int .i64 b6,.int .u16 ba],.bool true])
    (by have hh:=mH (v0:=.int .i64 3) (v1:=.int .i64 bi) (v2:=.int .i64 b1) (v3:=.int .i64 b2) (v4:=.int .i64 b3) (v5:=.int .i64 b4) (v6:=.int .i64 b5) (v7:=.int .i64 b6) (v8:=.int .u16 ba) HZ1.out
        have g0:=hh.cell 0;have g1:=hh.cell 1;have g2:=hh.cell 2;have g3:=hh.cell 3;have g4:=hh.cell 4;have g5:=hh.cell 5;have g6:=hh.cell 6;have g7:=hh.cell 7;have g8:=hh.cell 8;simp at g0 g1 g2 g3 g4 g5 g6 g7 g8
        simp [results,Tryz.results70,go_sem,g0,g1,g2,g3,g4,g5,g6,g7,g8]) rfl
    ⟨by rw [EZ.out];rfl,Gm HB1.out (by omega)⟩
 ·have HV : Hid (z = (OH,false)):=aiS (by rw [HZ.out,if_pos rfl])
  clear HZ
  go_enter Tryz.func70,Tryz.ntmps70
  go_wp2
  exact bodyPost_ret (v:=.tuple #[.agg #[.int .i64 0,.int .i64 0,.int .i64 0,.int .i64 0,.int .i64 0,.int .i64 0,.int .i64 0,.int .i64 0,.int .u16 0],.bool false])
   (by have hh:=mH (v0:=.int .i64 0) (v1:=.int .i64 0) (v2:=.int .i64 0) (v3:=.int .i64 0) (v4:=.int .i64 0) (v5:=.int .i64 0) (v6:=.int .i64 0) (v7:=.int .i64 0) (v8:=.int .u16 0) HZ0.out
       have g0:=hh.cell 0;have g1:=hh.cell 1;have g2:=hh.cell 2;have g3:=hh.cell 3;have g4:=hh.cell 4;have g5:=hh.cell 5;have g6:=hh.cell 6;have g7:=hh.cell 7;have g8:=hh.cell 8;simp at g0 g1 g2 g3 g4 g5 g6 g7 g8
       simp [results,Tryz.results70,go_sem,g0,g1,g2,g3,g4,g5,g6,g7,g8]) rfl
   ⟨by rw [HV.out];rfl,Gm HB0.out (by omega)⟩
end Go.Proofs.YtklkooeimkedgaaGreat
