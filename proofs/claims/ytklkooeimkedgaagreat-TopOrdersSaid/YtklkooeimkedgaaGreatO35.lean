/- Parts of the walk of TopOrders: Rec4, Rec5, Plain1, Rec7, Rec8, Rec9, Rec11, RDiff. -/
import Derived.Test.YtklkooeimkedgaaGreatO0
import Derived.Laws.EntriesVeiled
import Derived.Test.YtklkooeimkedgaaGreatO28
import Derived.Test.YtklkooeimkedgaaGreatO34
set_option linter.unusedVariables false
set_option linter.unusedSimpArgs false
namespace Go.Proofs.YtklkooeimkedgaaGreat
open Go.RowKit
set_option maxRecDepth 8000
@[go_sem] theorem abx (w : World) (n : Nat) (o : Obj) : (w.drewN n).alloc o = (w.alloc o).drewN n:=rfl
abbrev sK (f : FuncId) : Value:=.func (.func f) #[] #[]
set_option maxHeartbeats 1000000 in
theorem MN (w : World) :
  Calls Tryz.prog 112 #[] w λe w'=>e = .returned (.agg #[sK 154,sK 155,sK 156,sK 157,sK 152,sK 153,sK 154,sK 155]) /\ Below w.heap.size w w':=by
 have HB : ∀ A B t1 t2,Hid (Below w.heap.size w ((w.alloc (.cells A t1)).alloc (.cells B t2))):=λA B t1 t2=>ahZ (((Below.refl _ _).alloc (Nat.le_refl _) _).alloc (by simp) _)
 go_enter Tryz.func112,Tryz.ntmps112
 go_wp2
 exact bodyPost_ret (v:=.agg #[sK 154,sK 155,sK 156,sK 157,sK 152,sK 153,sK 154,sK 155]) (by simp [results,Tryz.results112,go_sem]) rfl ⟨rfl,(HB _ _ _ _).out⟩
set_option maxRecDepth 8000
def Ow (r : Rec) : Int:=(if r.px ≠ 0 then 1 else 0) + (if r.py ≠ 0 then 2 else 0) + (if r.pz ≠ 0 then 4 else 0) + (if r.vx ≠ 0 then 8 else 0) + (if r.vy ≠ 0 then 16 else 0) + (if r.vz ≠ 0 then 32 else 0) + (if r.aI ≠ 0 then 64 else 0)
def vB (r : Rec) : List Int:=[Ow r] ++ nb ((aj r).filter (· ≠ 0)) ++ (if r.aI ≠ 0 then aD r.aI else [])
def pW (r : Rec) : List Int:=if r.kind = 2 then [] else if r.kind = 1 then vB r else nb (aj r) ++ aD r.aI
def iq (r : Rec) (last : Int) : Int:=if dI r ≠ 0 then dI r else if last < -1 \/ 65535 < last then 3 else if r.id <= last then 10 else 0
def nN (r : Rec) (last : Int) : List Int:=aD (r.id - last - 1) ++ [r.kind] ++ pW r
set_option maxHeartbeats 1000000 in
theorem XP (r : Rec) (last : Int) (w : World) (h : iq r last ≠ 0) :
  Calls Tryz.prog 75 #[lI r,.int .i64 last] w λe w'=>e = .returned (.tuple #[.slice none 0 0,.int .i64 (iq r last)]) /\ Below w.heap.size w w':=by
 have ck:=λw=>J6 r w
 have HE : Hid (iq r last = if dI r ≠ 0 then dI r else if last < -1 \/ 65535 < last then 3 else if r.id <= last then 10 else 0):=ahZ rfl
 generalize iq r last = er at *
 generalize dI r = ce at *
 obtain ⟨k,id,px,py,pz,vx,vy,vz,an⟩:=r
 unfold lI at *
 simp only at *
 have HB : Hid (Below w.heap.size w (w.alloc (.cells #[.int .i64 k,.int .i64 id,.int .i64 px,.int .i64 py,.int .i64 pz,.int .i64 vx,.int .i64 vy,.int .i64 vz,.int .u16 an] 147))):=ahZ ((Below.refl _ _).alloc (Nat.le_refl _) _)
 go_enter Tryz.func75,Tryz.ntmps75
 go_wp2_with fail
 refine (ck _).mono ?_;rintro e w1 ⟨rfl,hb1⟩
 have HB1:=ahZ (HB.out.trans (hb1.mono (by simp)))
 have c1:=hb1.cell (p:=⟨w.heap.size,1,none⟩) (by simp)
 simp at c1
 clear hb1 ck
 by_cases hce : ce = 0
 ·subst hce
  by_cases hl : last < -1 \/ 65535 < last
  ·have HV : Hid (er = 3):=ahZ (by rw [HE.out,if_neg (by simp),if_pos hl])
   clear HE h
   rcases hl with hl | hl
   ·go_wp2
    exact bodyPost_ret (v:=.tuple #[.slice none 0 0,.int .i64 3]) (by simp [results,Tryz.results75,go_sem]) rfl ⟨by rw [HV.out],HB1.out⟩
   ·have hl2 : ¬ last < -1:=by omega
    go_wp2
    exact bodyPost_ret (v:=.tuple #[.slice none 0 0,.int .i64 3]) (by simp [results,Tryz.results75,go_sem]) rfl ⟨by rw [HV.out],HB1.out⟩
  ·have hl1 : ¬ last < -1:=by omega
   have hl2 : ¬ 65535 < last:=by omega
   have hid : id <= last:=by
    rcases Int.lt_or_le last id with hh | hh
    ·exfalso;apply h;rw [HE.out,if_neg (by simp),if_neg hl,if_neg (by omega)]
    ·exact hh
   have HV : Hid (er = 10):=ahZ (by rw [HE.out,if_neg (by simp),if_neg hl,if_pos hid])
   clear HE h hl
   go_wp2
   exact bodyPost_ret (v:=.tuple #[.slice none 0 0,.int .i64 10]) (by simp [results,Tryz.results75,go_sem]) rfl ⟨by rw [HV.out],HB1.out⟩
 ·have HV : Hid (er = ce):=ahZ (by rw [HE.out,if_pos hce])
  have agO : (ce != 0) = true:=by simpa using hce
  clear HE h hce
  go_wp2
  exact bodyPost_ret (v:=.tuple #[.slice none 0 0,.int .i64 ce]) (by simp [results,Tryz.results75,go_sem]) rfl ⟨by rw [HV.out],HB1.out⟩
set_option maxRecDepth 8000
def fI (e : Int) (s : aH) : aH:=(s.1,if s.2 = 0 then e else s.2)
def xG (r : Rec) (s : aH) : Rec × aH :=
 (⟨r.kind,r.id,(dX s).1.1,(dX s).1.2.1,(dX s).1.2.2,(dX (dX s).2).1.1,(dX (dX s).2).1.2.1,(dX (dX s).2).1.2.2,(bA 65535 (dX (dX s).2).2).1⟩,(bA 65535 (dX (dX s).2).2).2)
def tu (q : Int × aH) : Int × aH:=(q.1,if q.1 = 0 then fI 7 q.2 else q.2)
def gY (m : Int) (i : Nat) (s : aH) : Int × aH:=if m / 2 ^ i % 2 = 0 then (0,s) else tu (dW s)
def rR (m : Int) (s : aH) : Int × aH:=if m / 64 % 2 = 0 then (0,s) else tu (bA 65535 s)
def jo (m : Int) : List Nat -> aH -> List Int × aH
 | [],s=>([],s)
 | i :: l,s=>((gY m i s).1 :: (jo m l (gY m i s).2).1,(jo m l (gY m i s).2).2)
def vW (r : Rec) (s : aH) : Rec × aH :=
 if (bH s).1 = 0 \/ 127 < (bH s).1 then (r,fI 7 (bH s).2) else
 (⟨r.kind,r.id,(jo (bH s).1 [0,1,2,3,4,5] (bH s).2).1.getD 0 0,(jo (bH s).1 [0,1,2,3,4,5] (bH s).2).1.getD 1 0,(jo (bH s).1 [0,1,2,3,4,5] (bH s).2).1.getD 2 0,(jo (bH s).1 [0,1,2,3,4,5] (bH s).2).1.getD 3 0,(jo (bH s).1 [0,1,2,3,4,5] (bH s).2).1.getD 4 0,(jo (bH s).1 [0,1,2,3,4,5] (bH s).2).1.getD 5 0,(rR (bH s).1 (jo (bH s).1 [0,1,2,3,4,5] (bH s).2).2).1⟩,(rR (bH s).1 (jo (bH s).1 [0,1,2,3,4,5] (bH s).2).2).2)
def rdKind (k : Int) (r : Rec) (s : aH) : Rec × aH :=
 if k = 0 \/ k = 3 then xG r s else if k = 1 then vW r s else if k = 2 then (r,s) else (r,fI 11 s)
def Gl : Rec:=⟨0,0,0,0,0,0,0,0,0⟩
def rT (last : Int) (s : aH) : Rec × aH :=
 (⟨(bH (bA (65535 - (last + 1)) s).2).1,last + 1 + (bA (65535 - (last + 1)) s).1,0,0,0,0,0,0,0⟩,(bH (bA (65535 - (last + 1)) s).2).2)
def qD (last : Int) (s : aH) : Rec × aH:=rdKind (rT last s).1.kind (rT last s).1 (rT last s).2
def dN (last : Int) (s : aH) : Rec × Int × aH :=
 if last = 65535 then (Gl,(fI 10 s).2,fI 10 s) else
 if (qD last s).2.2 ≠ 0 then (Gl,(qD last s).2.2,(qD last s).2) else ((qD last s).1,0,(qD last s).2)
structure Gr where
 tick : Int
 time : Int
 base : Int
 recs : List Rec
def oN : Gr:=⟨0,0,0,[]⟩
def iB (tick time base : Int) (n : Nat) : Int :=
 if tick < 0 \/ 4294967295 < tick \/ time < -2305843009213693952 \/ 2305843009213693952 < time \/ base < -1 then 3 else if tick <= base then 10 else if 128 < n then 8 else 0
def iK (tick base : Int) : Int:=if 0 <= base then tick - base else 0
def vC (tick time base : Int) (n : Nat) : List Int:=[71,1] ++ aD tick ++ aD (kS time) ++ aD (iK tick base) ++ aD n
def lU : Int -> List Rec -> Int
 | _,[]=>0
 | last,r :: l=>if iq r last ≠ 0 then iq r last else lU r.id l
def kQ : Int -> List Rec -> List Int
 | _,[]=>[]
 | last,r :: l=>nN r last ++ kQ r.id l
def dF (g : Gr) : Int:=if iB g.tick g.time g.base g.recs.length ≠ 0 then iB g.tick g.time g.base g.recs.length else lU (-1) g.recs
def jq (g : Gr) : List Int:=vC g.tick g.time g.base g.recs.length ++ kQ (-1) g.recs
def jk (g : Gr) : Int:=if dF g ≠ 0 then dF g else if 4092 < (jq g).length then 8 else 0
def rU (g : Gr) : List Int:=jq g ++ uT (jm (jq g))
def jW (c : Int) (s : aH) : aH:=if (bH s).1 = c then (bH s).2 else fI 7 (bH s).2
def jP (s : aH) : aH:=jW 1 (jW 71 s)
def mq (t : Int) : Prop:=-2305843009213693952 <= t /\ t <= 2305843009213693952
instance (t : Int) : Decidable (mq t):=by unfold mq;exact inferInstance
def iL (s : aH) : Int × Int × aH :=
 ((bA 4294967295 s).1,(dW (bA 4294967295 s).2).1,if mq (dW (bA 4294967295 s).2).1 then (dW (bA 4294967295 s).2).2 else fI 3 (dW (bA 4294967295 s).2).2)
def rV (tick : Int) (s : aH) : Int × aH:=(if 0 < (bA tick s).1 then tick - (bA tick s).1 else -1,(bA tick s).2)
def gH : Nat -> Int -> aH -> List Rec × aH
 | 0,_,s=>([],s)
 | n + 1,last,s=>if (dN last s).2.1 ≠ 0 then ([],(dN last s).2.2) else
  ((dN last s).1 :: (gH n (dN last s).1.id (dN last s).2.2).1,(gH n (dN last s).1.id (dN last s).2.2).2)
def lq (s : aH) : List Rec × aH:=gH (bA 128 s).1.toNat (-1) (bA 128 s).2
def iM (s : aH) : Gr × aH :=
 (⟨(iL (jP s)).1,(iL (jP s)).2.1,(rV (iL (jP s)).1 (iL (jP s)).2.2).1,(lq (rV (iL (jP s)).1 (iL (jP s)).2.2).2).1⟩,(lq (rV (iL (jP s)).1 (iL (jP s)).2.2).2).2)
def lu (s : aH) : Int:=if s.2 ≠ 0 then s.2 else if s.1 = [] then 0 else 8
def bF (zs : List Int) : Gr × Int :=
 if 4096 < zs.length then (oN,8) else match iJ zs with
 | none=>(oN,9)
 | some x=>if lu (iM (x,0)).2 ≠ 0 then (oN,lu (iM (x,0)).2) else ((iM (x,0)).1,0)
theorem UG (x : Int) : aD x ≠ []:=by unfold aD;simp
theorem Du (c : Int) (l : List Int) : bH (c :: l,0) = (c,(l,0)):=by
 simp [bH,iQ,jY]
theorem nS {most x : Int} (hx : iD x) (hm : x <= most) (l : List Int) : bA most (aD x ++ l,0) = (x,(l,0)):=by
 have h:=Qj hx l
 have hn : ¬ (aD x ++ l = []):=by simp [UG]
 have hm' : ¬ most < x:=by omega
 simp only [bA,iQ,iZ,h,hn,hm',ne_eq,not_true_eq_false,if_false,and_false,true_and]
 rw [← eu,List.drop_left]
theorem zO {n : Int} (hn : aA n) (l : List Int) : dW (zb n ++ l,0) = (n,(l,0)):=by
 have hz:=sV hn
 unfold dW zb
 rw [nS hz hz.2,Xt]
theorem J7 {x y z : Int} (hx : aA x) (hy : aA y) (hz : aA z) (l : List Int) : dX (zb x ++ (zb y ++ (zb z ++ l)),0) = ((x,y,z),(l,0)) :=
 JF _ (zO hx _) (zO hy _) (zO hz _)
theorem Ox {r : Rec} (hr : r.Ok) (q : Rec) (l : List Int) : xG q (nb (aj r) ++ aD r.aI ++ l,0) = (⟨q.kind,q.id,r.px,r.py,r.pz,r.vx,r.vy,r.vz,r.aI⟩,(l,0)):=by
 have e : nb (aj r) ++ aD r.aI ++ l = zb r.px ++ (zb r.py ++ (zb r.pz ++ (zb r.vx ++ (zb r.vy ++ (zb r.vz ++ (aD r.aI ++ l)))))):=by
  simp [nb,aj]
 have ha:=hr.aI
 have hu : iD r.aI:=⟨by omega,by omega⟩
 rw [e]
 unfold xG
 rw [J7 hr.px hr.py hr.pz]
 simp only
 rw [J7 hr.vx hr.vy hr.vz]
 simp only
 rw [nS hu (by omega)]
theorem Zn {r : Rec} (hk : r.kind = 2) (hc : dI r = 0) : (⟨2,r.id,0,0,0,0,0,0,0⟩ : Rec) = r:=by
 obtain ⟨k,id,px,py,pz,vx,vy,vz,an⟩:=r
 simp only at hk
 subst hk
 unfold dI Jf at hc
 simp only at hc
 split at hc
 ·cases hc
 split at hc
 ·cases hc
 split at hc
 ·cases hc
 rename_i h
 have h2 : ((px == 0 && py == 0 && pz == 0) && (vx == 0 && vy == 0 && vz == 0) && an == 0) = true:=by
  cases hb : ((px == 0 && py == 0 && pz == 0) && (vx == 0 && vy == 0 && vz == 0) && an == 0)
  ·exact absurd (.inr ⟨by first | rfl | trivial,hb⟩) h
  ·rfl
 simp only [Bool.and_eq_true,beq_iff_eq] at h2
 obtain ⟨⟨⟨⟨a,b⟩,c⟩,⟨d,e⟩,f⟩,g⟩:=h2
 subst a b c d e f g
 rfl
theorem xH {r : Rec} {last : Int} (h : iq r last = 0) : dI r = 0 /\ -1 <= last /\ last < r.id /\ 0 <= r.kind /\ r.kind <= 3 /\ 0 <= r.id /\ r.id <= 65535:=by
 have hc : dI r = 0:=by
  unfold iq at h
  split at h
  ·rename_i hh;exact absurd h hh
  ·rename_i hh;exact Decidable.of_not_not hh
 have h2:=h
 unfold iq at h2
 rw [if_neg (by simpa using hc)] at h2
 split at h2
 ·cases h2
 split at h2
 ·cases h2
 have h3:=hc
 unfold dI at h3
 split at h3
 ·cases h3
 split at h3
 ·cases h3
 exact ⟨hc,by omega,by omega,by omega,by omega,by omega,by omega⟩
theorem UH {r : Rec} (hr : r.Ok) {last : Int} (h : iq r last = 0) (hk : r.kind ≠ 1) (l : List Int) : dN last (nN r last ++ l,0) = (r,0,(l,0)):=by
 obtain ⟨hc,h1,h2,k0,k3,i0,i1⟩:=xH h
 unfold dN
 rw [if_neg (by omega)]
 have hh : rT last (nN r last ++ l,0) = (⟨r.kind,r.id,0,0,0,0,0,0,0⟩,(pW r ++ l,0)):=by
  unfold rT nN
  rw [List.append_assoc,List.append_assoc,nS ⟨by omega,by omega⟩ (by omega)]
  simp only [List.cons_append,List.nil_append]
  rw [Du]
  simp only
  rw [show last + 1 + (r.id - last - 1) = r.id by omega]
 have ha : qD last (nN r last ++ l,0) = (r,(l,0)):=by
  unfold qD
  rw [hh]
  simp only
  unfold rdKind pW
  by_cases e2 : r.kind = 2
  ·rw [if_neg (by omega),if_neg (by omega),if_pos e2,if_pos e2,e2]
   rw [Zn e2 hc];rfl
  ·rw [if_pos (by omega),if_neg e2,if_neg hk,Ox hr]
 rw [ha]
 simp
theorem Hq : ∀ (rs : List Rec) (last : Int) (l : List Int),(∀ r ∈ rs,r.Ok /\ r.kind ≠ 1) -> lU last rs = 0 -> gH rs.length last (kQ last rs ++ l,0) = (rs,(l,0))
 | [],last,l,_,_=>rfl
 | r :: rs,last,l,hr,h=>by
  unfold lU at h
  have h1 : iq r last = 0:=by
   split at h
   ·rename_i hh;exact absurd h hh
   ·rename_i hh;exact Decidable.of_not_not hh
  rw [if_neg (by simpa using h1)] at h
  have hk:=hr r (List.mem_cons_self ..)
  rw [List.length_cons,gH,kQ,List.append_assoc,UH hk.1 h1 hk.2]
  simp only
  rw [Hq rs r.id l (λr' h'=>hr r' (List.mem_cons_of_mem _ h')) h]
  simp
theorem xI {y c : Int} (hy : 0 <= y) (hm : y % 256 = 0) (h1 : y < 4294967296) (hc : U8 c) : bits .or .u32 y c = y + c:=by
 obtain ⟨c0,c1⟩:=hc
 have e : bits .or .u32 y c = bits .or .u32 c y:=by simp [bits,BitVec.or_comm]
 rw [e,bits_join_low .u32 32 (by decide) wraps_u32 8 c y c0 (by omega) (by omega) hy (by simpa using hm) (by omega)]
 omega
theorem Rs {s : Int} (h : uo s) : oh 0 (uT s) = s:=by
 obtain ⟨s0,s1⟩:=h
 unfold uT
 simp only [oh]
 rw [xI (by omega) (by omega) (by omega) ⟨by omega,by omega⟩,xI (by omega) (by omega) (by omega) ⟨by omega,by omega⟩,xI (by omega) (by omega) (by omega) ⟨by omega,by omega⟩,xI (by omega) (by omega) (by omega) ⟨by omega,by omega⟩]
 omega
theorem Oy (zs : List Int) : iJ (zs ++ uT (jm zs)) = some zs:=by
 have hl : (uT (jm zs)).length = 4:=rfl
 unfold iJ
 rw [if_neg (by rw [List.length_append,hl];omega)]
 have e : (zs ++ uT (jm zs)).length - 4 = zs.length:=by rw [List.length_append,hl];omega
 rw [e,List.drop_left,List.take_left,Rs (zH zs),if_pos rfl]
theorem Dv (c : Int) (l : List Int) : jW c (c :: l,0) = (l,0):=by
 unfold jW;rw [Du,if_pos rfl]
theorem XQ {g : Gr} (h : jk g = 0) (hr : ∀ r ∈ g.recs,r.Ok /\ r.kind ≠ 1) : bF (rU g) = (g,0):=by
 have hb : dF g = 0:=by
  unfold jk at h
  split at h
  ·rename_i hh;exact absurd h hh
  ·rename_i hh;exact Decidable.of_not_not hh
 unfold jk at h
 rw [if_neg (by simpa using hb)] at h
 have hlen : (jq g).length <= 4092:=by
  split at h
  ·cases h
  ·omega
 clear h
 obtain ⟨tick,time,base,rs⟩:=g
 unfold dF at hb
 simp only at hb hr
 have hh : iB tick time base rs.length = 0:=by
  split at hb
  ·rename_i hh;exact absurd hb hh
  ·rename_i hh;exact Decidable.of_not_not hh
 rw [if_neg (by simpa using hh)] at hb
 unfold iB at hh
 split at hh
 ·cases hh
 split at hh
 ·cases hh
 split at hh
 ·cases hh
 rename_i a1 a2 a3
 have hz : (uT (jm (jq ⟨tick,time,base,rs⟩))).length = 4:=rfl
 unfold bF rU
 rw [if_neg (by rw [List.length_append,hz];omega),Oy]
 simp only
 have ht : aA time:=⟨by omega,by omega⟩
 have hzu:=sV ht
 have hs : iM (jq ⟨tick,time,base,rs⟩,0) = (⟨tick,time,base,rs⟩,([],0)):=by
  have e1 : jP (jq ⟨tick,time,base,rs⟩,0) = (aD tick ++ (aD (kS time) ++ (aD (iK tick base) ++ (aD (rs.length : Int) ++ kQ (-1) rs))),0):=by
   unfold jP jq vC
   simp only [List.append_assoc,List.cons_append,List.nil_append]
   rw [Dv,Dv]
  have e2 : iL (aD tick ++ (aD (kS time) ++ (aD (iK tick base) ++ (aD (rs.length : Int) ++ kQ (-1) rs))),0) = (tick,time,(aD (iK tick base) ++ (aD (rs.length : Int) ++ kQ (-1) rs),0)):=by
   unfold iL
   rw [nS ⟨by omega,by omega⟩ (by omega)]
   have:=zO ht (aD (iK tick base) ++ (aD (rs.length : Int) ++ kQ (-1) rs))
   unfold zb at this
   simp only
   rw [this]
   simp only
   rw [if_pos ⟨by omega,by omega⟩]
  have hbk : 0 <= iK tick base /\ iK tick base <= tick:=by unfold iK;split <;> omega
  have e3 : rV tick (aD (iK tick base) ++ (aD (rs.length : Int) ++ kQ (-1) rs),0) = (base,(aD (rs.length : Int) ++ kQ (-1) rs,0)):=by
   unfold rV
   rw [nS ⟨by omega,by omega⟩ hbk.2]
   simp only
   congr 1
   unfold iK
   split
   ·rw [if_pos (by omega)];omega
   ·rw [if_neg (by omega)];omega
  have e4 : lq (aD (rs.length : Int) ++ kQ (-1) rs,0) = (rs,([],0)):=by
   unfold lq
   rw [nS ⟨by omega,by omega⟩ (by omega)]
   simp only [Int.toNat_natCast]
   have:=Hq rs (-1) [] hr hb
   rwa [List.append_nil] at this
  unfold iM
  rw [e1,e2]
  simp only
  rw [e3]
  simp only
  rw [e4]
 rw [hs]
 simp [lu]
set_option maxRecDepth 8000
theorem abI (R X : Nat) (w : World) : Calls Tryz.prog 153 #[.pointer (some ⟨R,0,none⟩),.pointer (some ⟨X,0,none⟩)] w λe w'=>e = .returned (.tuple #[]) /\ w = w':=by
 go_enter Tryz.func153,Tryz.ntmps153
 go_wp2
 exact bodyPost_end (v:=.tuple #[]) (by simp [results,Tryz.results153,go_sem]) rfl ⟨rfl,rfl⟩
set_option maxHeartbeats 1000000 in
theorem XR {B0 : Nat} (R X : Nat) (s : aH) (r : Rec) (w : World) (h : bB w R B0 s) (hX : ak w X (aZ r) 147) (vX : B0 <= X) (vY : X ≠ R) :
  Calls Tryz.prog 155 #[.pointer (some ⟨R,0,none⟩),.pointer (some ⟨X,0,none⟩)] w λe w'=>e = .returned (.tuple #[]) /\ bB w' R B0 (xG r s).2 /\ ak w' X (aZ (xG r s).1) 147 /\ Only (λk=>k = R \/ k = X) w w':=by
 have hB0 : B0 <= w.heap.size:=by have:=hX.lt;omega
 have v1:=Qv (B0:=B0) R s w h hB0
 have v2:=λw h hB=>Qv (B0:=B0) R (dX s).2 w h hB
 have u1:=λw h=>sW (B0:=B0) R (dX (dX s).2).2 65535 w h
 have ub : aX (dX (dX s).2).2.1 -> 0 <= (bA 65535 (dX (dX s).2).2).1 /\ (bA 65535 (dX (dX s).2).2).1 <= 65535:=λh=>jh h (by decide)
 unfold xG
 simp only
 generalize dX s = q1 at *
 generalize dX q1.2 = q2 at *
 generalize bA 65535 q2.2 = q3 at *
 obtain ⟨⟨x,y,z⟩,s1⟩:=q1
 obtain ⟨⟨vx,vy,vz⟩,s2⟩:=q2
 obtain ⟨an,s3⟩:=q3
 simp only at *
 obtain ⟨rk,ri,r1,r2,r3,r4,r5,r6,ra⟩:=r
 simp only at *
 have HX0:=ahZ hX
 have mQ:=ahZ vY
 clear h hX
 go_enter Tryz.func155,Tryz.ntmps155
 go_wp2_with fail
 refine v1.mono ?_;rintro e w1 ⟨rfl,oq,mR⟩
 have J8:=v2 w1 oq (Nat.le_trans hB0 mR.size)
 have gJ:=ahZ (mR.blk HX0.out vY)
 have oO:=ahZ mR
 clear v1 v2 oq mR
 go_wp2_with fail
 refine J8.mono ?_;rintro e w2 ⟨rfl,hR2,hO2⟩
 have hX2:=hO2.blk gJ.out vY
 have bT:=ahZ (oO.out.trans hO2)
 have d2:=hX2.cell 2
 have d3:=hX2.cell 3
 have d4:=hX2.cell 4
 have d5:=hX2.cell 5
 have d6:=hX2.cell 6
 have d7:=hX2.cell 7
 have d8:=hX2.cell 8
 have f2:=hX2.free 2
 have f3:=hX2.free 3
 have f4:=hX2.free 4
 have f5:=hX2.free 5
 have f6:=hX2.free 6
 have f7:=hX2.free 7
 have f8:=hX2.free 8
 simp at d2 d3 d4 d5 d6 d7 d8
 have iN:=ahZ ((((((hX2.set 2 (.int .i64 x)).set 3 (.int .i64 y)).set 4 (.int .i64 z)).set 5 (.int .i64 vx)).set 6 (.int .i64 vy)).set 7 (.int .i64 vz))
 have HR3:=ahZ ((((((hR2.dB (p:=⟨X,2,none⟩) (Ne.symm vY) vX (.int .i64 x)).dB (p:=⟨X,3,none⟩) (Ne.symm vY) vX (.int .i64 y)).dB (p:=⟨X,4,none⟩) (Ne.symm vY) vX (.int .i64 z)).dB (p:=⟨X,5,none⟩) (Ne.symm vY) vX (.int .i64 vx)).dB (p:=⟨X,6,none⟩) (Ne.symm vY) vX (.int .i64 vy)).dB (p:=⟨X,7,none⟩) (Ne.symm vY) vX (.int .i64 vz))
 have hOX : Only (λk=>k = R \/ k = X) w w2:=bT.out.weaken (λk _ hk=>.inl hk)
 have fT:=ahZ ((((((hOX.setCell (p:=⟨X,2,none⟩) (.inl (.inr rfl)) (.int .i64 x)).setCell (p:=⟨X,3,none⟩) (.inl (.inr rfl)) (.int .i64 y)).setCell (p:=⟨X,4,none⟩) (.inl (.inr rfl)) (.int .i64 z)).setCell (p:=⟨X,5,none⟩) (.inl (.inr rfl)) (.int .i64 vx)).setCell (p:=⟨X,6,none⟩) (.inl (.inr rfl)) (.int .i64 vy)).setCell (p:=⟨X,7,none⟩) (.inl (.inr rfl)) (.int .i64 vz))
 have e8:=ub HR3.out.u8
 have hwr : IntKind.u16.wrap an = an:=wraps_u16 _ (by omega) (by omega)
 clear J8 hX2 hR2 hO2 hOX HX0 gJ oO bT ub vY
 go_wp2_with fail
 refine (u1 _ HR3.out).mono ?_;rintro e w3 ⟨rfl,Rt,hO4⟩
 have dG:=hO4.blk iN.out mQ.out
 have g8:=dG.cell 8
 have k8:=dG.free 8
 simp at g8
 have fH:=ahZ (dG.set 8 (.int .u16 an))
 have dS:=ahZ (Rt.dB (p:=⟨X,8,none⟩) (Ne.symm mQ.out) vX (.int .u16 an))
 have d9:=ahZ ((fT.out.trans (hO4.weaken (T:=λk=>k = R \/ k = X) (λk _ hk=>.inl hk))).setCell (p:=⟨X,8,none⟩) (.inl (.inr rfl)) (.int .u16 an))
 clear u1 dG Rt hO4 iN HR3 fT d2 d3 d4 d5 d6 d7 d8 f2 f3 f4 f5 f6 f7 f8
 go_wp2
 exact bodyPost_end (v:=.tuple #[]) (by simp [results,Tryz.results155,go_sem]) rfl ⟨rfl,dS.out,by simpa [aZ] using fH.out,d9.out⟩
set_option maxRecDepth 8000
theorem UJ : ∀ n : Fin 256,bits .and .u8 (n.val : Int) 1 = (n.val : Int) % 2:=by decide +kernel
theorem vH {y : Int} (h : U8 y) : bits .and .u8 y 1 = y % 2:=by
 obtain ⟨h0,h1⟩:=h
 have:=UJ ⟨y.toNat,by omega⟩
 simp only at this
 rwa [Int.toNat_of_nonneg h0] at this
theorem Ru : ∀ n : Fin 256,bits .and .u8 (n.val : Int) 64 = 64 * ((n.val : Int) / 64 % 2):=by decide +kernel
theorem UK {y : Int} (h : U8 y) : bits .and .u8 y 64 = 64 * (y / 64 % 2):=by
 obtain ⟨h0,h1⟩:=h
 have:=Ru ⟨y.toNat,by omega⟩
 simp only at this
 rwa [Int.toNat_of_nonneg h0] at this
def jQ (w : World) (R X B0 : Nat) (c : List (Array Value × aH)) (k : Nat) (wr : World) : Prop :=
 ∃ q,c[k]? = some q /\ ak wr X q.1 147 /\ bB wr R B0 q.2 /\ Only (λk=>k = R \/ k = X) w wr
set_option maxHeartbeats 4000000 in
theorem UL {B0 : Nat} (R X : Nat) (s : aH) (rk ri : Int) (w : World) (h : bB w R B0 s) (hX : ak w X (aZ ⟨rk,ri,0,0,0,0,0,0,0⟩) 147) (vX : B0 <= X) (vY : X ≠ R) :
  Calls Tryz.prog 157 #[.pointer (some ⟨R,0,none⟩),.pointer (some ⟨X,0,none⟩)] w λe w'=>e = .returned (.tuple #[]) /\ bB w' R B0 (vW ⟨rk,ri,0,0,0,0,0,0,0⟩ s).2 /\ ak w' X (aZ (vW ⟨rk,ri,0,0,0,0,0,0,0⟩ s).1) 147 /\ Only (λk=>k = R \/ k = X) w w':=by
 have bt:=Ga (B0:=B0) R s w h
 have fl:=λs e he w h=>yP (B0:=B0) R s e he w h
 have rI:=λs w h=>JD (B0:=B0) R s w h
 have MO:=AO h.u8
 unfold aZ at hX
 unfold vW
 simp only
 generalize bH s = q at *
 obtain ⟨m,s0⟩:=q
 simp only at *
 have HX0:=ahZ hX
 have mQ:=ahZ vY
 have aeh:=h.lt
 have hXlt:=hX.lt
 by_cases hbad : m = 0 \/ 127 < m
 ·rw [if_pos hbad]
  have fl7:=fl s0 7 (by decide)
  have hpk : (m == 0 || decide (127 < m)) = true:=by
   rcases hbad with h | h
   ·simp [h]
   ·simp [h]
  clear h hX rI fl
  go_enter Tryz.func157,Tryz.ntmps157
  go_wp2_with fail
  refine bt.mono ?_;rintro e w1 ⟨rfl,oq,mR⟩
  have gJ:=ahZ (mR.blk HX0.out vY)
  have oO:=ahZ mR
  have f1:=fl7 w1 oq
  clear oq mR bt fl7
  rcases hbad with rfl | hbad
  ·go_wp2_with fail
   refine f1.mono ?_;rintro e w2 ⟨rfl,hR2,hO2⟩
   have gy:=ahZ (hO2.blk gJ.out mQ.out)
   have bT:=ahZ ((oO.out.trans hO2).weaken (T:=λk=>k = R \/ k = X) (λk _ hk=>.inl hk))
   clear hO2 f1
   go_wp2
   exact bodyPost_ret (v:=.tuple #[]) (by simp [results,Tryz.results157,go_sem]) rfl ⟨rfl,hR2,by simpa [aZ] using gy.out,bT.out⟩
  ·have hm0 : (m == 0) = false:=by simp;omega
   go_wp2_with fail
   refine f1.mono ?_;rintro e w2 ⟨rfl,hR2,hO2⟩
   have gy:=ahZ (hO2.blk gJ.out mQ.out)
   have bT:=ahZ ((oO.out.trans hO2).weaken (T:=λk=>k = R \/ k = X) (λk _ hk=>.inl hk))
   clear hO2 f1
   go_wp2
   exact bodyPost_ret (v:=.tuple #[]) (by simp [results,Tryz.results157,go_sem]) rfl ⟨rfl,hR2,by simpa [aZ] using gy.out,bT.out⟩
 ·rw [if_neg hbad]
  have hm0 : (m == 0) = false:=by simp;omega
  have hm1 : ¬ 127 < m:=by omega
  obtain ⟨x0,s1,e0⟩ : ∃ x t,gY m 0 s0 = (x,t):=⟨_,_,rfl⟩
  obtain ⟨x1,s2,e1⟩ : ∃ x t,gY m 1 s1 = (x,t):=⟨_,_,rfl⟩
  obtain ⟨x2,s3,e2⟩ : ∃ x t,gY m 2 s2 = (x,t):=⟨_,_,rfl⟩
  obtain ⟨x3,s4,e3⟩ : ∃ x t,gY m 3 s3 = (x,t):=⟨_,_,rfl⟩
  obtain ⟨x4,s5,e4⟩ : ∃ x t,gY m 4 s4 = (x,t):=⟨_,_,rfl⟩
  obtain ⟨x5,s6,e5⟩ : ∃ x t,gY m 5 s5 = (x,t):=⟨_,_,rfl⟩
  obtain ⟨an,s7,e6⟩ : ∃ x t,rR m s6 = (x,t):=⟨_,_,rfl⟩
  have HE : Hid (jo m [0,1,2,3,4,5] s0 = ([x0,x1,x2,x3,x4,x5],s6)):=ahZ (by
   simp only [jo,e0,e1,e2,e3,e4,e5])
  rw [HE.out]
  simp only
  rw [e6]
  simp only [List.getD_cons_zero,List.getD_cons_succ]
  have a0:=vH MO
  have a1:=vH (y:=m / 2 ^ 1) ⟨by omega,by omega⟩
  have a2:=vH (y:=m / 2 ^ 2) ⟨by omega,by omega⟩
  have a3:=vH (y:=m / 2 ^ 3) ⟨by omega,by omega⟩
  have a4:=vH (y:=m / 2 ^ 4) ⟨by omega,by omega⟩
  have a5:=vH (y:=m / 2 ^ 5) ⟨by omega,by omega⟩
  have a6:=UK MO
  simp only [Int.reducePow,Nat.reducePow,Int.pow_zero] at a1 a2 a3 a4 a5
  obtain ⟨c,hc⟩ : ∃ c : List (Array Value × aH),c = [(#[.int .i64 rk,.int .i64 ri,.int .i64 0,.int .i64 0,.int .i64 0,.int .i64 0,.int .i64 0,.int .i64 0,.int .u16 0],s0),(#[.int .i64 rk,.int .i64 ri,.int .i64 x0,.int .i64 0,.int .i64 0,.int .i64 0,.int .i64 0,.int .i64 0,.int .u16 0],s1),(#[.int .i64 rk,.int .i64 ri,.int .i64 x0,.int .i64 x1,.int .i64 0,.int .i64 0,.int .i64 0,.int .i64 0,.int .u16 0],s2),(#[.int .i64 rk,.int .i64 ri,.int .i64 x0,.int .i64 x1,.int .i64 x2,.int .i64 0,.int .i64 0,.int .i64 0,.int .u16 0],s3),(#[.int .i64 rk,.int .i64 ri,.int .i64 x0,.int .i64 x1,.int .i64 x2,.int .i64 x3,.int .i64 0,.int .i64 0,.int .u16 0],s4),(#[.int .i64 rk,.int .i64 ri,.int .i64 x0,.int .i64 x1,.int .i64 x2,.int .i64 x3,.int .i64 x4,.int .i64 0,.int .u16 0],s5),(#[.int .i64 rk,.int .i64 ri,.int .i64 x0,.int .i64 x1,.int .i64 x2,.int .i64 x3,.int .i64 x4,.int .i64 x5,.int .u16 0],s6)]:=⟨_,rfl⟩
  have HC:=ahZ hc
  have E0:=ahZ e0
  have E1:=ahZ e1
  have E2:=ahZ e2
  have E3:=ahZ e3
  have E4:=ahZ e4
  have E5:=ahZ e5
  have E6:=ahZ e6
  have H8:=ahZ MO
  have qE:=ahZ a6
  have nf:=λw=>EY X w
  unfold ptrs at nf
  clear h hX HE e0 e1 e2 e3 e4 e5 e6 hc MO a6 hbad
  go_enter Tryz.func157,Tryz.ntmps157
  go_wp2_with fail
  refine bt.mono ?_;rintro e w1 ⟨rfl,oq,mR⟩
  have gJ:=ahZ (mR.blk HX0.out vY)
  have HR1:=ahZ oq
  have oO:=ahZ mR
  clear oq mR bt HX0
  go_wp2_with fail
  refine (nf _).mono ?_;rintro e w2 ⟨rfl,hb2⟩
  have HS : Hid (jQ w R X B0 c 0 w2):=ahZ ⟨_,by rw [HC.out];rfl,gJ.out.below hb2 gJ.out.lt,HR1.out.below hb2,(oO.out.fu hb2).weaken (λk _ hk=>.inl hk)⟩
  clear hb2 nf gJ HR1 oO vY
  go_wp2_with fail
  go_loopw [19] (λi wr=>∃ k : Nat,k <= 6 /\ i = .int .i64 k /\ jQ w R X B0 c k wr) (λi _=>6 - (intOf i).toNat)
  case atStart=>exact ⟨0,by omega,rfl,HS.out⟩
  case round =>
   rename_i wr
   obtain ⟨k,hk,rfl,q,hq,hX,hR,hO⟩:=hrel
   rw [HC.out] at hq
   rcases (show k = 0 \/ k = 1 \/ k = 2 \/ k = 3 \/ k = 4 \/ k = 5 \/ k = 6 by omega) with rfl | rfl | rfl | rfl | rfl | rfl | rfl
   ·cases hq
    have e:=E0.out
    have hX:=hX
    have c0:=hX.cell 2
    have f0:=hX.free 2
    simp at c0
    by_cases hb : m % 2 = 0
    ·have hz : x0 = 0 /\ s1 = s0:=by
      unfold gY at e
      rw [if_pos (by simpa using hb)] at e
      cases e;exact ⟨rfl,rfl⟩
     have HS2 : Hid (jQ w R X B0 c 1 wr):=ahZ ⟨_,by rw [HC.out];rfl,by rw [hz.1];exact hX,by rw [hz.2];exact hR,hO⟩
     clear hX hR hO e
     go_wp2
     go_roundw
     case rel=>exact ⟨1,by omega,by first | rfl | go_num,HS2.out⟩
     case measure=>simp [intOf]
    ·unfold gY at e
     rw [if_neg (by simpa using hb)] at e
     have r1:=rI s0 wr hR
     generalize dW s0 = q1 at *
     obtain ⟨y,t1⟩:=q1
     unfold tu at e
     simp only at e r1
     have hb1 : (m % 2 == 0) = false:=by simpa using hb
     have iN:=ahZ hX
     have fT:=ahZ hO
     have hy : x0 = y:=by cases e;rfl
     subst hy
     clear hX hR hO
     go_wp2_with fail
     refine r1.mono ?_;rintro e' w3 ⟨rfl,kL,hO3⟩
     have dG:=hO3.blk iN.out mQ.out
     have g0:=dG.cell 2
     have k0:=dG.free 2
     simp at g0
     have fH:=ahZ (dG.set 2 (.int .i64 x0))
     have dS:=ahZ (kL.dB (p:=⟨X,2,none⟩) (Ne.symm mQ.out) vX (.int .i64 x0))
     have d9:=ahZ ((fT.out.trans (hO3.weaken (T:=λk=>k = R \/ k = X) (λk _ hk=>.inl hk))).setCell (p:=⟨X,2,none⟩) (.inl (.inr rfl)) (.int .i64 x0))
     clear dG kL hO3 iN fT r1
     by_cases hz : x0 = 0
     ·rw [if_pos hz] at e
      have hz' : s1 = fI 7 t1:=by cases e;rfl
      clear e
      subst hz
      have f1:=fl t1 7 (by decide) _ dS.out
      go_wp2_with fail
      refine f1.mono ?_;rintro e' w4 ⟨rfl,iO,fU⟩
      have HS2 : Hid (jQ w R X B0 c 1 w4):=ahZ ⟨_,by rw [HC.out];rfl,by simpa using fU.blk fH.out mQ.out,by rw [hz'];exact iO,d9.out.trans (fU.weaken (λk _ hk=>.inl hk))⟩
      clear iO fU fH dS d9 f1
      go_wp2
      go_roundw
      case rel=>exact ⟨1,by omega,by first | rfl | go_num,HS2.out⟩
      case measure=>simp [intOf]
     ·rw [if_neg hz] at e
      have hz' : s1 = t1:=by cases e;rfl
      have hz2 : (x0 == 0) = false:=by simpa using hz
      have HS2 : Hid (jQ w R X B0 c 1 (w3.setCell ⟨X,2,none⟩ (.int .i64 x0))):=ahZ ⟨_,by rw [HC.out];rfl,by simpa using fH.out,by rw [hz'];exact dS.out,d9.out⟩
      clear fH dS d9 e
      go_wp2
      go_roundw
      case rel=>exact ⟨1,by omega,by first | rfl | go_num,HS2.out⟩
      case measure=>simp [intOf]
   ·cases hq
    have e:=E1.out
    have hX:=hX
    have c0:=hX.cell 3
    have f0:=hX.free 3
    simp at c0
    by_cases hb : m / 2 % 2 = 0
    ·have hz : x1 = 0 /\ s2 = s1:=by
      unfold gY at e
      rw [if_pos (by simpa using hb)] at e
      cases e;exact ⟨rfl,rfl⟩
     have HS2 : Hid (jQ w R X B0 c 2 wr):=ahZ ⟨_,by rw [HC.out];rfl,by rw [hz.1];exact hX,by rw [hz.2];exact hR,hO⟩
     clear hX hR hO e
     go_wp2
     go_roundw
     case rel=>exact ⟨2,by omega,by first | rfl | go_num,HS2.out⟩
     case measure=>simp [intOf]
    ·unfold gY at e
     rw [if_neg (by simpa using hb)] at e
     have r1:=rI s1 wr hR
     generalize dW s1 = q1 at *
     obtain ⟨y,t1⟩:=q1
     unfold tu at e
     simp only at e r1
     have hb1 : (m / 2 % 2 == 0) = false:=by simpa using hb
     have iN:=ahZ hX
     have fT:=ahZ hO
     have hy : x1 = y:=by cases e;rfl
     subst hy
     clear hX hR hO
     go_wp2_with fail
     refine r1.mono ?_;rintro e' w3 ⟨rfl,kL,hO3⟩
     have dG:=hO3.blk iN.out mQ.out
     have g0:=dG.cell 3
     have k0:=dG.free 3
     simp at g0
     have fH:=ahZ (dG.set 3 (.int .i64 x1))
     have dS:=ahZ (kL.dB (p:=⟨X,3,none⟩) (Ne.symm mQ.out) vX (.int .i64 x1))
     have d9:=ahZ ((fT.out.trans (hO3.weaken (T:=λk=>k = R \/ k = X) (λk _ hk=>.inl hk))).setCell (p:=⟨X,3,none⟩) (.inl (.inr rfl)) (.int .i64 x1))
     clear dG kL hO3 iN fT r1
     by_cases hz : x1 = 0
     ·rw [if_pos hz] at e
      have hz' : s2 = fI 7 t1:=by cases e;rfl
      clear e
      subst hz
      have f1:=fl t1 7 (by decide) _ dS.out
      go_wp2_with fail
      refine f1.mono ?_;rintro e' w4 ⟨rfl,iO,fU⟩
      have HS2 : Hid (jQ w R X B0 c 2 w4):=ahZ ⟨_,by rw [HC.out];rfl,by simpa using fU.blk fH.out mQ.out,by rw [hz'];exact iO,d9.out.trans (fU.weaken (λk _ hk=>.inl hk))⟩
      clear iO fU fH dS d9 f1
      go_wp2
      go_roundw
      case rel=>exact ⟨2,by omega,by first | rfl | go_num,HS2.out⟩
      case measure=>simp [intOf]
     ·rw [if_neg hz] at e
      have hz' : s2 = t1:=by cases e;rfl
      have hz2 : (x1 == 0) = false:=by simpa using hz
      have HS2 : Hid (jQ w R X B0 c 2 (w3.setCell ⟨X,3,none⟩ (.int .i64 x1))):=ahZ ⟨_,by rw [HC.out];rfl,by simpa using fH.out,by rw [hz'];exact dS.out,d9.out⟩
      clear fH dS d9 e
      go_wp2
      go_roundw
      case rel=>exact ⟨2,by omega,by first | rfl | go_num,HS2.out⟩
      case measure=>simp [intOf]
   ·cases hq
    have e:=E2.out
    have hX:=hX
    have c0:=hX.cell 4
    have f0:=hX.free 4
    simp at c0
    by_cases hb : m / 4 % 2 = 0
    ·have hz : x2 = 0 /\ s3 = s2:=by
      unfold gY at e
      rw [if_pos (by simpa using hb)] at e
      cases e;exact ⟨rfl,rfl⟩
     have HS2 : Hid (jQ w R X B0 c 3 wr):=ahZ ⟨_,by rw [HC.out];rfl,by rw [hz.1];exact hX,by rw [hz.2];exact hR,hO⟩
     clear hX hR hO e
     go_wp2
     go_roundw
     case rel=>exact ⟨3,by omega,by first | rfl | go_num,HS2.out⟩
     case measure=>simp [intOf]
    ·unfold gY at e
     rw [if_neg (by simpa using hb)] at e
     have r1:=rI s2 wr hR
     generalize dW s2 = q1 at *
     obtain ⟨y,t1⟩:=q1
     unfold tu at e
     simp only at e r1
     have hb1 : (m / 4 % 2 == 0) = false:=by simpa using hb
     have iN:=ahZ hX
     have fT:=ahZ hO
     have hy : x2 = y:=by cases e;rfl
     subst hy
     clear hX hR hO
     go_wp2_with fail
     refine r1.mono ?_;rintro e' w3 ⟨rfl,kL,hO3⟩
     have dG:=hO3.blk iN.out mQ.out
     have g0:=dG.cell 4
     have k0:=dG.free 4
     simp at g0
     have fH:=ahZ (dG.set 4 (.int .i64 x2))
     have dS:=ahZ (kL.dB (p:=⟨X,4,none⟩) (Ne.symm mQ.out) vX (.int .i64 x2))
     have d9:=ahZ ((fT.out.trans (hO3.weaken (T:=λk=>k = R \/ k = X) (λk _ hk=>.inl hk))).setCell (p:=⟨X,4,none⟩) (.inl (.inr rfl)) (.int .i64 x2))
     clear dG kL hO3 iN fT r1
     by_cases hz : x2 = 0
     ·rw [if_pos hz] at e
      have hz' : s3 = fI 7 t1:=by cases e;rfl
      clear e
      subst hz
      have f1:=fl t1 7 (by decide) _ dS.out
      go_wp2_with fail
      refine f1.mono ?_;rintro e' w4 ⟨rfl,iO,fU⟩
      have HS2 : Hid (jQ w R X B0 c 3 w4):=ahZ ⟨_,by rw [HC.out];rfl,by simpa using fU.blk fH.out mQ.out,by rw [hz'];exact iO,d9.out.trans (fU.weaken (λk _ hk=>.inl hk))⟩
      clear iO fU fH dS d9 f1
      go_wp2
      go_roundw
      case rel=>exact ⟨3,by omega,by first | rfl | go_num,HS2.out⟩
      case measure=>simp [intOf]
     ·rw [if_neg hz] at e
      have hz' : s3 = t1:=by cases e;rfl
      have hz2 : (x2 == 0) = false:=by simpa using hz
      have HS2 : Hid (jQ w R X B0 c 3 (w3.setCell ⟨X,4,none⟩ (.int .i64 x2))):=ahZ ⟨_,by rw [HC.out];rfl,by simpa using fH.out,by rw [hz'];exact dS.out,d9.out⟩
      clear fH dS d9 e
      go_wp2
      go_roundw
      case rel=>exact ⟨3,by omega,by first | rfl | go_num,HS2.out⟩
      case measure=>simp [intOf]
   ·cases hq
    have e:=E3.out
    have hX:=hX
    have c0:=hX.cell 5
    have f0:=hX.free 5
    simp at c0
    by_cases hb : m / 8 % 2 = 0
    ·have hz : x3 = 0 /\ s4 = s3:=by
      unfold gY at e
      rw [if_pos (by simpa using hb)] at e
      cases e;exact ⟨rfl,rfl⟩
     have HS2 : Hid (jQ w R X B0 c 4 wr):=ahZ ⟨_,by rw [HC.out];rfl,by rw [hz.1];exact hX,by rw [hz.2];exact hR,hO⟩
     clear hX hR hO e
     go_wp2
     go_roundw
     case rel=>exact ⟨4,by omega,by first | rfl | go_num,HS2.out⟩
     case measure=>simp [intOf]
    ·unfold gY at e
     rw [if_neg (by simpa using hb)] at e
     have r1:=rI s3 wr hR
     generalize dW s3 = q1 at *
     obtain ⟨y,t1⟩:=q1
     unfold tu at e
     simp only at e r1
     have hb1 : (m / 8 % 2 == 0) = false:=by simpa using hb
     have iN:=ahZ hX
     have fT:=ahZ hO
     have hy : x3 = y:=by cases e;rfl
     subst hy
     clear hX hR hO
     go_wp2_with fail
     refine r1.mono ?_;rintro e' w3 ⟨rfl,kL,hO3⟩
     have dG:=hO3.blk iN.out mQ.out
     have g0:=dG.cell 5
     have k0:=dG.free 5
     simp at g0
     have fH:=ahZ (dG.set 5 (.int .i64 x3))
     have dS:=ahZ (kL.dB (p:=⟨X,5,none⟩) (Ne.symm mQ.out) vX (.int .i64 x3))
     have d9:=ahZ ((fT.out.trans (hO3.weaken (T:=λk=>k = R \/ k = X) (λk _ hk=>.inl hk))).setCell (p:=⟨X,5,none⟩) (.inl (.inr rfl)) (.int .i64 x3))
     clear dG kL hO3 iN fT r1
     by_cases hz : x3 = 0
     ·rw [if_pos hz] at e
      have hz' : s4 = fI 7 t1:=by cases e;rfl
      clear e
      subst hz
      have f1:=fl t1 7 (by decide) _ dS.out
      go_wp2_with fail
      refine f1.mono ?_;rintro e' w4 ⟨rfl,iO,fU⟩
      have HS2 : Hid (jQ w R X B0 c 4 w4):=ahZ ⟨_,by rw [HC.out];rfl,by simpa using fU.blk fH.out mQ.out,by rw [hz'];exact iO,d9.out.trans (fU.weaken (λk _ hk=>.inl hk))⟩
      clear iO fU fH dS d9 f1
      go_wp2
      go_roundw
      case rel=>exact ⟨4,by omega,by first | rfl | go_num,HS2.out⟩
      case measure=>simp [intOf]
     ·rw [if_neg hz] at e
      have hz' : s4 = t1:=by cases e;rfl
      have hz2 : (x3 == 0) = false:=by simpa using hz
      have HS2 : Hid (jQ w R X B0 c 4 (w3.setCell ⟨X,5,none⟩ (.int .i64 x3))):=ahZ ⟨_,by rw [HC.out];rfl,by simpa using fH.out,by rw [hz'];exact dS.out,d9.out⟩
      clear fH dS d9 e
      go_wp2
      go_roundw
      case rel=>exact ⟨4,by omega,by first | rfl | go_num,HS2.out⟩
      case measure=>simp [intOf]
   ·cases hq
    have e:=E4.out
    have hX:=hX
    have c0:=hX.cell 6
    have f0:=hX.free 6
    simp at c0
    by_cases hb : m / 16 % 2 = 0
    ·have hz : x4 = 0 /\ s5 = s4:=by
      unfold gY at e
      rw [if_pos (by simpa using hb)] at e
      cases e;exact ⟨rfl,rfl⟩
     have HS2 : Hid (jQ w R X B0 c 5 wr):=ahZ ⟨_,by rw [HC.out];rfl,by rw [hz.1];exact hX,by rw [hz.2];exact hR,hO⟩
     clear hX hR hO e
     go_wp2
     go_roundw
     case rel=>exact ⟨5,by omega,by first | rfl | go_num,HS2.out⟩
     case measure=>simp [intOf]
    ·unfold gY at e
     rw [if_neg (by simpa using hb)] at e
     have r1:=rI s4 wr hR
     generalize dW s4 = q1 at *
     obtain ⟨y,t1⟩:=q1
     unfold tu at e
     simp only at e r1
     have hb1 : (m / 16 % 2 == 0) = false:=by simpa using hb
     have iN:=ahZ hX
     have fT:=ahZ hO
     have hy : x4 = y:=by cases e;rfl
     subst hy
     clear hX hR hO
     go_wp2_with fail
     refine r1.mono ?_;rintro e' w3 ⟨rfl,kL,hO3⟩
     have dG:=hO3.blk iN.out mQ.out
     have g0:=dG.cell 6
     have k0:=dG.free 6
     simp at g0
     have fH:=ahZ (dG.set 6 (.int .i64 x4))
     have dS:=ahZ (kL.dB (p:=⟨X,6,none⟩) (Ne.symm mQ.out) vX (.int .i64 x4))
     have d9:=ahZ ((fT.out.trans (hO3.weaken (T:=λk=>k = R \/ k = X) (λk _ hk=>.inl hk))).setCell (p:=⟨X,6,none⟩) (.inl (.inr rfl)) (.int .i64 x4))
     clear dG kL hO3 iN fT r1
     by_cases hz : x4 = 0
     ·rw [if_pos hz] at e
      have hz' : s5 = fI 7 t1:=by cases e;rfl
      clear e
      subst hz
      have f1:=fl t1 7 (by decide) _ dS.out
      go_wp2_with fail
      refine f1.mono ?_;rintro e' w4 ⟨rfl,iO,fU⟩
      have HS2 : Hid (jQ w R X B0 c 5 w4):=ahZ ⟨_,by rw [HC.out];rfl,by simpa using fU.blk fH.out mQ.out,by rw [hz'];exact iO,d9.out.trans (fU.weaken (λk _ hk=>.inl hk))⟩
      clear iO fU fH dS d9 f1
      go_wp2
      go_roundw
      case rel=>exact ⟨5,by omega,by first | rfl | go_num,HS2.out⟩
      case measure=>simp [intOf]
     ·rw [if_neg hz] at e
      have hz' : s5 = t1:=by cases e;rfl
      have hz2 : (x4 == 0) = false:=by simpa using hz
      have HS2 : Hid (jQ w R X B0 c 5 (w3.setCell ⟨X,6,none⟩ (.int .i64 x4))):=ahZ ⟨_,by rw [HC.out];rfl,by simpa using fH.out,by rw [hz'];exact dS.out,d9.out⟩
      clear fH dS d9 e
      go_wp2
      go_roundw
      case rel=>exact ⟨5,by omega,by first | rfl | go_num,HS2.out⟩
      case measure=>simp [intOf]
   ·cases hq
    have e:=E5.out
    have hX:=hX
    have c0:=hX.cell 7
    have f0:=hX.free 7
    simp at c0
    by_cases hb : m / 32 % 2 = 0
    ·have hz : x5 = 0 /\ s6 = s5:=by
      unfold gY at e
      rw [if_pos (by simpa using hb)] at e
      cases e;exact ⟨rfl,rfl⟩
     have HS2 : Hid (jQ w R X B0 c 6 wr):=ahZ ⟨_,by rw [HC.out];rfl,by rw [hz.1];exact hX,by rw [hz.2];exact hR,hO⟩
     clear hX hR hO e
     go_wp2
     go_roundw
     case rel=>exact ⟨6,by omega,by first | rfl | go_num,HS2.out⟩
     case measure=>simp [intOf]
    ·unfold gY at e
     rw [if_neg (by simpa using hb)] at e
     have r1:=rI s5 wr hR
     generalize dW s5 = q1 at *
     obtain ⟨y,t1⟩:=q1
     unfold tu at e
     simp only at e r1
     have hb1 : (m / 32 % 2 == 0) = false:=by simpa using hb
     have iN:=ahZ hX
     have fT:=ahZ hO
     have hy : x5 = y:=by cases e;rfl
     subst hy
     clear hX hR hO
     go_wp2_with fail
     refine r1.mono ?_;rintro e' w3 ⟨rfl,kL,hO3⟩
     have dG:=hO3.blk iN.out mQ.out
     have g0:=dG.cell 7
     have k0:=dG.free 7
     simp at g0
     have fH:=ahZ (dG.set 7 (.int .i64 x5))
     have dS:=ahZ (kL.dB (p:=⟨X,7,none⟩) (Ne.symm mQ.out) vX (.int .i64 x5))
     have d9:=ahZ ((fT.out.trans (hO3.weaken (T:=λk=>k = R \/ k = X) (λk _ hk=>.inl hk))).setCell (p:=⟨X,7,none⟩) (.inl (.inr rfl)) (.int .i64 x5))
     clear dG kL hO3 iN fT r1
     by_cases hz : x5 = 0
     ·rw [if_pos hz] at e
      have hz' : s6 = fI 7 t1:=by cases e;rfl
      clear e
      subst hz
      have f1:=fl t1 7 (by decide) _ dS.out
      go_wp2_with fail
      refine f1.mono ?_;rintro e' w4 ⟨rfl,iO,fU⟩
      have HS2 : Hid (jQ w R X B0 c 6 w4):=ahZ ⟨_,by rw [HC.out];rfl,by simpa using fU.blk fH.out mQ.out,by rw [hz'];exact iO,d9.out.trans (fU.weaken (λk _ hk=>.inl hk))⟩
      clear iO fU fH dS d9 f1
      go_wp2
      go_roundw
      case rel=>exact ⟨6,by omega,by first | rfl | go_num,HS2.out⟩
      case measure=>simp [intOf]
     ·rw [if_neg hz] at e
      have hz' : s6 = t1:=by cases e;rfl
      have hz2 : (x5 == 0) = false:=by simpa using hz
      have HS2 : Hid (jQ w R X B0 c 6 (w3.setCell ⟨X,7,none⟩ (.int .i64 x5))):=ahZ ⟨_,by rw [HC.out];rfl,by simpa using fH.out,by rw [hz'];exact dS.out,d9.out⟩
      clear fH dS d9 e
      go_wp2
      go_roundw
      case rel=>exact ⟨6,by omega,by first | rfl | go_num,HS2.out⟩
      case measure=>simp [intOf]
   ·cases hq
    have e:=E6.out
    have a6:=qE.out
    have c0:=hX.cell 8
    have f0:=hX.free 8
    simp at c0
    by_cases hb : m / 64 % 2 = 0
    ·have hz : an = 0 /\ s7 = s6:=by
      unfold rR at e
      rw [if_pos hb] at e
      cases e;exact ⟨rfl,rfl⟩
     have a7 : bits .and .u8 m 64 = 0:=by omega
     have fH:=ahZ hX
     have dS:=ahZ hR
     have d9:=ahZ hO
     clear hX hR hO e a6
     obtain ⟨hz1,hz2⟩:=hz
     subst hz1
     subst hz2
     go_wp2
     exact bodyPost_end (v:=.tuple #[]) (by simp [results,Tryz.results157,go_sem]) rfl ⟨rfl,dS.out,by simpa [aZ] using fH.out,d9.out⟩
    ·unfold rR at e
     rw [if_neg hb] at e
     have r1:=sW (B0:=B0) R s6 65535 wr hR
     have ub:=jh (most:=65535) hR.u8 (by decide)
     generalize bA 65535 s6 = q1 at *
     obtain ⟨y,t1⟩:=q1
     unfold tu at e
     simp only at e r1 ub
     have a7 : bits .and .u8 m 64 = 64:=by omega
     have iN:=ahZ hX
     have fT:=ahZ hO
     have hy : an = y:=by cases e;rfl
     subst hy
     have hwr : IntKind.u16.wrap an = an:=wraps_u16 _ (by omega) (by omega)
     clear hX hR hO a6
     go_wp2_with fail
     refine r1.mono ?_;rintro e' w3 ⟨rfl,kL,hO3⟩
     have dG:=hO3.blk iN.out mQ.out
     have g0:=dG.cell 8
     have k0:=dG.free 8
     simp at g0
     have fH:=ahZ (dG.set 8 (.int .u16 an))
     have dS:=ahZ (kL.dB (p:=⟨X,8,none⟩) (Ne.symm mQ.out) vX (.int .u16 an))
     have d9:=ahZ ((fT.out.trans (hO3.weaken (T:=λk=>k = R \/ k = X) (λk _ hk=>.inl hk))).setCell (p:=⟨X,8,none⟩) (.inl (.inr rfl)) (.int .u16 an))
     clear dG kL hO3 iN fT r1
     by_cases hz : an = 0
     ·rw [if_pos hz] at e
      have hz' : s7 = fI 7 t1:=by cases e;rfl
      clear e
      subst hz
      have f1:=fl t1 7 (by decide) _ dS.out
      go_wp2_with fail
      refine f1.mono ?_;rintro e' w4 ⟨rfl,iO,fU⟩
      have uV:=ahZ (fU.blk fH.out mQ.out)
      have sM:=ahZ (d9.out.trans (fU.weaken (T:=λk=>k = R \/ k = X) (λk _ hk=>.inl hk)))
      clear fU fH dS d9 f1
      go_wp2
      exact bodyPost_end (v:=.tuple #[]) (by simp [results,Tryz.results157,go_sem]) rfl ⟨rfl,by rw [hz'];exact iO,by simpa [aZ] using uV.out,sM.out⟩
     ·rw [if_neg hz] at e
      have hz' : s7 = t1:=by cases e;rfl
      have hz2 : (an == 0) = false:=by simpa using hz
      clear e
      go_wp2
      exact bodyPost_end (v:=.tuple #[]) (by simp [results,Tryz.results157,go_sem]) rfl ⟨rfl,by rw [hz'];exact dS.out,by simpa [aZ] using fH.out,d9.out⟩
set_option maxRecDepth 8000
theorem mD {w : World} {b : Nat} {t : TypeId} {o0 v0 o1 v1 o2 v2 o3 v3 o4 v4 o5 v5 o6 v6 o7 v7 o8 v8 : Value} (h : ak w b #[o0,o1,o2,o3,o4,o5,o6,o7,o8] t) : ak (((((((((w.setCell ⟨b,0,none⟩ v0).setCell ⟨b,1,none⟩ v1).setCell ⟨b,2,none⟩ v2).setCell ⟨b,3,none⟩ v3).setCell ⟨b,4,none⟩ v4).setCell ⟨b,5,none⟩ v5).setCell ⟨b,6,none⟩ v6).setCell ⟨b,7,none⟩ v7).setCell ⟨b,8,none⟩ v8) b #[v0,v1,v2,v3,v4,v5,v6,v7,v8] t:=by
 simpa using (((((((((h.set 0 v0).set 1 v1).set 2 v2).set 3 v3).set 4 v4).set 5 v5).set 6 v6).set 7 v7).set 8 v8)
theorem pX {S : Nat -> Prop} {w0 w : World} {b : Nat} {v0 v1 v2 v3 v4 v5 v6 v7 v8 : Value} (h : Only S w0 w) (hb : S b \/ w0.heap.size <= b) : Only S w0 (((((((((w.setCell ⟨b,0,none⟩ v0).setCell ⟨b,1,none⟩ v1).setCell ⟨b,2,none⟩ v2).setCell ⟨b,3,none⟩ v3).setCell ⟨b,4,none⟩ v4).setCell ⟨b,5,none⟩ v5).setCell ⟨b,6,none⟩ v6).setCell ⟨b,7,none⟩ v7).setCell ⟨b,8,none⟩ v8) :=
 (((((((((h.setCell (p:=⟨b,0,none⟩) hb v0).setCell (p:=⟨b,1,none⟩) hb v1).setCell (p:=⟨b,2,none⟩) hb v2).setCell (p:=⟨b,3,none⟩) hb v3).setCell (p:=⟨b,4,none⟩) hb v4).setCell (p:=⟨b,5,none⟩) hb v5).setCell (p:=⟨b,6,none⟩) hb v6).setCell (p:=⟨b,7,none⟩) hb v7).setCell (p:=⟨b,8,none⟩) hb v8)
theorem rW {B0 R : Nat} {s : aH} {w : World} {b : Nat} {v0 v1 v2 v3 v4 v5 v6 v7 v8 : Value} (h : bB w R B0 s) (hR : R ≠ b) (hB : B0 <= b) : bB (((((((((w.setCell ⟨b,0,none⟩ v0).setCell ⟨b,1,none⟩ v1).setCell ⟨b,2,none⟩ v2).setCell ⟨b,3,none⟩ v3).setCell ⟨b,4,none⟩ v4).setCell ⟨b,5,none⟩ v5).setCell ⟨b,6,none⟩ v6).setCell ⟨b,7,none⟩ v7).setCell ⟨b,8,none⟩ v8) R B0 s :=
 (((((((((h.dB (p:=⟨b,0,none⟩) hR hB v0).dB (p:=⟨b,1,none⟩) hR hB v1).dB (p:=⟨b,2,none⟩) hR hB v2).dB (p:=⟨b,3,none⟩) hR hB v3).dB (p:=⟨b,4,none⟩) hR hB v4).dB (p:=⟨b,5,none⟩) hR hB v5).dB (p:=⟨b,6,none⟩) hR hB v6).dB (p:=⟨b,7,none⟩) hR hB v7).dB (p:=⟨b,8,none⟩) hR hB v8)
theorem UO {B0 : Nat} (R : Nat) (s : aH) (last : Int) (hl : last = 65535) (w : World) (h : bB w R B0 s) (hB0 : B0 <= w.heap.size) :
  Calls Tryz.prog 197 #[.pointer (some ⟨R,0,none⟩),.int .i64 last] w λe w'=>e = .returned (.tuple #[lI (dN last s).1,.int .i64 (dN last s).2.1]) /\ bB w' R B0 (dN last s).2.2 /\ Only (· = R) w w':=by
 unfold dN
 rw [if_pos hl]
 have l1 : ¬ last < -1:=by omega
 have l2 : ¬ 65535 < last:=by omega
 have l3 : (last == 65535) = true:=by simpa using hl
 clear hl
 have hR0 : bB (w.alloc (.cells #[.int .i64 0,.int .i64 0,.int .i64 0,.int .i64 0,.int .i64 0,.int .i64 0,.int .i64 0,.int .i64 0,.int .u16 0] 147)) R B0 s:=h.below ((Below.refl _ _).alloc (Nat.le_refl _) _)
 have mE:=ak.new w #[.int .i64 0,.int .i64 0,.int .i64 0,.int .i64 0,.int .i64 0,.int .i64 0,.int .i64 0,.int .i64 0,.int .u16 0] 147
 have Qs:=(Only.refl (· = R) w).alloc (.cells #[.int .i64 0,.int .i64 0,.int .i64 0,.int .i64 0,.int .i64 0,.int .i64 0,.int .i64 0,.int .i64 0,.int .u16 0] 147)
 have fl:=yP (B0:=B0) R s 10 (by decide) _ hR0
 rw [show ((s.1,if s.2 = 0 then 10 else s.2) : aH) = fI 10 s from rfl] at fl
 generalize fI 10 s = st at *
 have uW:=ahZ mE
 have HO0:=ahZ Qs
 have er:=λs w h=>yO (B0:=B0) R s w h
 have hne : ¬ w.heap.size = R:=by have:=h.lt;omega
 have nO:=ahZ hne
 clear hR0 mE Qs h
 unfold lI Gl
 go_enter Tryz.func197,Tryz.ntmps197
 go_wp2_with fail
 refine fl.mono ?_;rintro e w1 ⟨rfl,oq,mR⟩
 have hA1:=mR.blk uW.out nO.out
 have e1:=er _ w1 oq
 have HR1:=ahZ oq
 have HA1:=ahZ hA1
 have oO:=ahZ (HO0.out.trans mR)
 clear oq hA1 mR fl er hne
 go_wp2_with fail
 refine e1.mono ?_;rintro e w2 ⟨rfl,rfl⟩
 have hA1:=HA1.out
 have c0:=hA1.cell 0
 have c1:=hA1.cell 1
 have c2:=hA1.cell 2
 have c3:=hA1.cell 3
 have c4:=hA1.cell 4
 have c5:=hA1.cell 5
 have c6:=hA1.cell 6
 have c7:=hA1.cell 7
 have c8:=hA1.cell 8
 have f0:=hA1.free 0
 have f1:=hA1.free 1
 have f2:=hA1.free 2
 have f3:=hA1.free 3
 have f4:=hA1.free 4
 have f5:=hA1.free 5
 have f6:=hA1.free 6
 have f7:=hA1.free 7
 have f8:=hA1.free 8
 simp at c0 c1 c2 c3 c4 c5 c6 c7 c8
 clear e1 hA1
 go_wp2
 exact bodyPost_ret (v:=.tuple #[.agg #[.int .i64 0,.int .i64 0,.int .i64 0,.int .i64 0,.int .i64 0,.int .i64 0,.int .i64 0,.int .i64 0,.int .u16 0],.int .i64 st.2])
  (by
    have hh:=mD (v0:=.int .i64 0) (v1:=.int .i64 0) (v2:=.int .i64 0) (v3:=.int .i64 0) (v4:=.int .i64 0) (v5:=.int .i64 0) (v6:=.int .i64 0) (v7:=.int .i64 0) (v8:=.int .u16 0) HA1.out
    have g0:=hh.cell 0
    have g1:=hh.cell 1
    have g2:=hh.cell 2
    have g3:=hh.cell 3
    have g4:=hh.cell 4
    have g5:=hh.cell 5
    have g6:=hh.cell 6
    have g7:=hh.cell 7
    have g8:=hh.cell 8
    simp at g0 g1 g2 g3 g4 g5 g6 g7 g8
    simp [results,Tryz.results197,go_sem,g0,g1,g2,g3,g4,g5,g6,g7,g8]) rfl
  ⟨rfl,rW HR1.out (Ne.symm nO.out) hB0,pX oO.out (.inr (Nat.le_refl _))⟩
set_option maxRecDepth 8000
def aJ (ns : List Int) : Nat -> Int
 | 0=>0
 | k + 1=>aJ ns k + (if ns.getD k 0 ≠ 0 then 2 ^ k else 0)
def bU (ns : List Int) : Nat -> List Int
 | 0=>[]
 | k + 1=>bU ns k ++ (if ns.getD k 0 ≠ 0 then zb (ns.getD k 0) else [])
theorem Rw (ns : List Int) : ∀ k,0 <= aJ ns k /\ aJ ns k < 2 ^ k
 | 0=>⟨Int.le_refl _,by simp [aJ]⟩
 | k + 1=>by
  have h:=Rw ns k
  rw [aJ,Int.pow_succ]
  have hp : (0 : Int) < 2 ^ k:=Int.pow_pos (by decide)
  split <;> omega
theorem Rx (ns : List Int) : ∀ k,k <= ns.length -> bU ns k = nb ((ns.take k).filter (· ≠ 0))
 | 0,_=>by simp [bU,nb]
 | k + 1,h=>by
  rw [bU,Rx ns k (by omega),List.take_add_one,List.filter_append]
  have hk : ns[k]? = some ns[k]:=List.getElem?_eq_getElem (by omega)
  have hd : ns.getD k 0 = ns[k]:=by simp [List.getD,hk]
  rw [hd,hk]
  simp only [Option.toList_some]
  by_cases h0 : ns[k] = 0
  ·simp [h0,nb]
  ·simp [h0,nb]
theorem MQ (ns : List Int) (hn : ∀ n ∈ ns,aA n) : ∀ k,(bU ns k).length <= 10 * k
 | 0=>by simp [bU]
 | k + 1=>by
  have h:=MQ ns hn k
  rw [bU,List.length_append]
  split
  ·have : aA (ns.getD k 0):=by
    unfold List.getD
    cases hx : ns[k]? with
    | none=>exact ⟨by decide,by decide⟩
    | some x=>exact hn x (List.mem_of_getElem? hx)
   have:=Rq this
   omega
  ·simp;omega
theorem or_bit {m : Int} {k : Nat} (hk : k <= 7) (h0 : 0 <= m) (h1 : m < 2 ^ k) : bits .or .u8 m (2 ^ k) = m + 2 ^ k:=by
 have hp : (2 : Int) ^ k <= 128:=by
  have : ∀ j : Fin 8,(2 : Int) ^ j.val <= 128:=by decide +kernel
  exact this ⟨k,by omega⟩
 exact bits_join_low .u8 8 (by decide) wraps_u8 k m (2 ^ k) h0 h1 (by omega) (by omega) (by simp) (by omega)
theorem bf.elem {w : World} {base : Nat} {v : Value} {zs : List Int} (h : bf w base v zs) {i : Nat} {z : Int} (hi : zs[i]? = some z) :
  ∃ g c L,v = .slice (some ⟨g,0,none⟩) L c /\ L = zs.length /\ L <= c /\ base <= g /\ w.cell? ⟨g,i,none⟩ = some (.int .u8 z) /\ w.frozen? ⟨g,i,none⟩ = false /\
   ∀ x,U8 x -> bf (w.setCell ⟨g,i,none⟩ (.int .u8 x)) base v (zs.set i x):=by
 obtain ⟨⟨h1,h2⟩,h3⟩:=h
 have hil : i < zs.length:=(List.getElem?_eq_some_iff.1 hi).1
 rcases h2 with ⟨_,h2⟩ | ⟨g,c,cur,rfl,hb,hh,hc,hm,hs,ht⟩
 ·omega
 ·have hB : ak w g cur 5:=hh
  have hci : cur[i]? = some (.int .u8 z):=by
   have h4 : (cur.toList.take (zs.length * 1))[i]? = some (.int .u8 z):=by rw [ht];simp [hi]
   rw [List.getElem?_take] at h4
   split at h4
   ·simpa using h4
   ·cases h4
  refine ⟨g,c,zs.length,rfl,rfl,hc,hb,by rw [hB.cell i,hci],hB.free i,λx hx=>⟨⟨by simp,.inr ⟨g,c,cur.setIfInBounds i (.int .u8 x),by rw [List.length_set],hb,hB.set i _,by rw [List.length_set];exact hc,hm,by simp [hs],?_⟩⟩,?_⟩⟩
  ·rw [List.length_set,Array.toList_setIfInBounds,List.take_set,ht,List.map_set]
  ·intro y hy
   rcases List.mem_or_eq_of_mem_set hy with h5 | rfl
   ·exact h3 y h5
   ·exact hx
def ou (w : World) (base X : Nat) (r : Rec) (zs : List Int) (k : Nat) (v : Value) (wr : World) : Prop :=
 bf wr base v (zs ++ aJ (aj r) k :: bU (aj r) k) /\ ak wr X (aZ r) 147 /\ Below base w wr
set_option maxHeartbeats 4000000 in
theorem LU (v : Value) (zs : List Int) (X : Nat) (r : Rec) (hr : r.Ok) (base : Nat) (w : World) (hz : bf w base v zs) (hX : ak w X (aZ r) 147) (xE : X < base) (hl : (zs.length : Int) <= 140737488354000) (hb : base <= w.heap.size) :
  Calls Tryz.prog 156 #[v,.pointer (some ⟨X,0,none⟩)] w λe w'=>∃ v',e = .returned v' /\ bf w' base v' (zs ++ vB r) /\ Below base w w':=by
 have nf:=λw=>EY X w
 unfold ptrs at nf
 have hns : ∀ n ∈ aj r,aA n:=by intro n hn;simp [aj] at hn;rcases hn with h | h | h | h | h | h <;> subst h;exact hr.px;exact hr.py;exact hr.pz;exact hr.vx;exact hr.vy;exact hr.vz
 have Fb : Hid (∀ k,(bU (aj r) k).length <= 10 * k):=ahZ (MQ _ hns)
 have Bf : Hid (∀ k,0 <= aJ (aj r) k /\ aJ (aj r) k < 2 ^ k):=ahZ (Rw _)
 have ha:=hr.aI
 have hu : iD r.aI:=⟨by omega,by omega⟩
 have hln:=dK hu
 rw [← eu] at hln
 have HS : Hid (vB r = (if r.aI ≠ 0 then aJ (aj r) 6 + 64 else aJ (aj r) 6) :: (bU (aj r) 6 ++ (if r.aI ≠ 0 then aD r.aI else []))):=ahZ (by
  unfold vB
  rw [Rx _ 6 (by simp [aj])]
  have hm : Ow r = (if r.aI ≠ 0 then aJ (aj r) 6 + 64 else aJ (aj r) 6):=by
   unfold Ow
   simp only [aJ,aj,List.getD_cons_zero,List.getD_cons_succ]
   split <;> simp <;> omega
  rw [hm]
  simp [aj])
 have hlen:=hz.bytes
 obtain ⟨az,cz,rfl,hzb,hzc⟩:=hlen
 have HZ:=ahZ hz
 have HX:=ahZ hX
 have HR:=ahZ hr
 have hB0 : Below base w (w.alloc (.cells #[.int .u8 0] 5)):=(Below.refl _ _).alloc hb _
 have HZ1:=ahZ (hz.below ((Below.refl _ _).alloc (Nat.le_refl _) (.cells #[.int .u8 0] 5)))
 have HB0:=ahZ hB0
 have hin:=D6 w [0] (aX.one ⟨by decide,by decide⟩)
 have HXL:=ahZ hX.lt
 clear hz hX hr hzb hzc hns hB0
 go_enter Tryz.func156,Tryz.ntmps156
 go_wp2_with (at_builtin;refine bG _ rfl (.tmp 10) (.tmp 11) rfl base _ zs rfl HZ1.out (some ⟨w.heap.size,0,none⟩) 1 1 [0] rfl hin (by intro h;cases h) (by omega) (by simp;omega) ?_)
 intro v1 w1 ho1 hg1
 have oO:=ahZ ho1
 have hB1 : Below base w w1:=HB0.out.grown hg1 (by simp;omega) (λj e=>(HZ1.out.lt j e).1)
 have HB1:=ahZ hB1
 clear ho1 hg1 hin
 go_wp2_with fail
 refine (nf _).mono ?_;rintro e w2 ⟨rfl,hb2⟩
 have hs1:=hB1.size
 have HSt : Hid (ou w base X r zs 0 v1 w2):=ahZ ⟨by simpa [aJ,bU] using oO.out.below hb2,(HX.out.below hB1 xE).below hb2 (by omega),hB1.trans (hb2.mono (by omega))⟩
 clear hb2 nf hB1
 go_wp2_with fail
 go_loopw [0,15] (λv i wr=>∃ k : Nat,k <= 6 /\ i = .int .i64 k /\ ou w base X r zs k v wr) (λ_ i _=>6 - (intOf i).toNat)
 case atStart=>exact ⟨0,by omega,rfl,HSt.out⟩
 case round =>
  rename_i wr
  obtain ⟨k,hk,rfl,hO,hX,hB⟩:=hrel
  have hbs : base <= wr.heap.size:=Nat.le_trans hb hB.size
  have HB:=ahZ hB
  have HX:=ahZ hX
  have HO:=ahZ hO
  rcases (show k = 0 \/ k = 1 \/ k = 2 \/ k = 3 \/ k = 4 \/ k = 5 \/ k = 6 by omega) with rfl | rfl | rfl | rfl | rfl | rfl | rfl
  ·have c0:=hX.cell 2
   simp at c0
   have mG : Hid (aJ (aj r) 1 = aJ (aj r) 0 + (if r.px ≠ 0 then 1 else 0)):=ahZ rfl
   have oP : Hid (bU (aj r) 1 = bU (aj r) 0 ++ (if r.px ≠ 0 then zb r.px else [])):=ahZ rfl
   have hI:=HR.out.px
   obtain ⟨g,c,L,rfl,qF,hcl,hgb,hc,hf,hset⟩:=hO.elem (i:=zs.length) (z:=aJ (aj r) 0) (by simp)
   have hm : 0 <= aJ (aj r) 0 /\ aJ (aj r) 0 < 1:=Bf.out 0
   have hor : bits .or .u8 (aJ (aj r) 0) 1 = aJ (aj r) 0 + 1:=or_bit (k:=0) (by decide) hm.1 hm.2
   have hset':=hset (aJ (aj r) 0 + 1) ⟨by omega,by omega⟩
   have hyl:=Fb.out 0
   rw [show (zs ++ aJ (aj r) 0 :: bU (aj r) 0).set zs.length (aJ (aj r) 0 + 1) = zs ++ (aJ (aj r) 0 + 1) :: bU (aj r) 0 by rw [List.set_append_right _ _ (Nat.le_refl _),Nat.sub_self];rfl] at hset'
   generalize hnn : r.px = n at *
   have zf:=ahZ hnn
   clear hnn
   by_cases hn : n = 0
   ·subst hn
    have HS2 : Hid (ou w base X r zs 1 _ wr):=ahZ ⟨by rw [mG.out,oP.out,if_neg (by simp),if_neg (by simp),Int.add_zero,List.append_nil];exact HO.out,HX.out,HB.out⟩
    clear hX hO hB HO hset hset' hc hf hor
    go_wp2
    go_roundw
    case rel=>exact ⟨1,by omega,by first | rfl | go_num,HS2.out⟩
    case measure=>simp [intOf]
   ·have hn2 : (n != 0) = true:=by simpa using hn
    have wu : Hid (aJ (aj r) 1 = aJ (aj r) 0 + 1):=ahZ (by rw [mG.out,if_pos hn])
    have wB : Hid (bU (aj r) 1 = bU (aj r) 0 ++ zb n):=ahZ (by rw [oP.out,if_pos hn])
    have wW : U8 (aJ (aj r) 0 + 1):=⟨by omega,by omega⟩
    have uH : Hid (∀ W,bf W base (.slice (some ⟨g,0,none⟩) L c) (zs ++ (aJ (aj r) 0 + 1) :: bU (aj r) 0) -> base <= W.heap.size -> Calls Tryz.prog 190 #[.slice (some ⟨g,0,none⟩) L c,.int .i64 n] W λe w'=>∃ v',e = .returned v' /\ bf w' base v' ((zs ++ (aJ (aj r) 0 + 1) :: bU (aj r) 0) ++ aD (kS n)) /\ Below base W w'):=ahZ (λW h1 h2=>qP _ _ n hI base W h1 (by simp;omega) h2)
    have zh : Hid (L = zs.length + 1 + (bU (aj r) 0).length):=ahZ (by rw [qF];simp;omega)
    clear hX hO hB hset hset' mG oP hf
    have MR : (zs.length : Int) < L:=by have:=zh.out;omega
    have MS : (L : Int) <= c:=by omega
    clear qF
    go_wp2_with fail
    apply bZ 8
    case hm=>kernel_rfl
    case hB=>kernel_rfl
    simp only [List.take_succ_cons,List.take_zero,List.drop_succ_cons,List.drop_zero]
    repeat (apply bJ;(next=>(intro W hW K hK;have y0:=hW.cell hc;go_simp;first | exact ⟨Below.refl _ _,hK⟩ | exact hK));(try go_simp))
    refine dL ?_
    intro WC aM _
    have hO2:=HO.out.below aM
    obtain ⟨g2,c2,L2,e2,e6,e7,Ke,hc2,hf2,iR⟩:=hO2.elem (i:=zs.length) (z:=aJ (aj r) 0) (by simp)
    simp only [Value.slice.injEq,Option.some.injEq,Addr.mk.injEq] at e2
    obtain ⟨⟨e3,_⟩,e5,e4⟩:=e2
    clear e6 e7
    subst e3
    subst e4
    subst e5
    have hO3:=iR (aJ (aj r) 0 + 1) wW
    rw [show (zs ++ aJ (aj r) 0 :: bU (aj r) 0).set zs.length (aJ (aj r) 0 + 1) = zs ++ (aJ (aj r) 0 + 1) :: bU (aj r) 0 by rw [List.set_append_right _ _ (Nat.le_refl _),Nat.sub_self];rfl] at hO3
    have hB2:=(HB.out.trans (Below.mono aM hbs)).setCell (p:=⟨g,zs.length,none⟩) hgb (.int .u8 (aJ (aj r) 0 + 1))
    have hX2:=(HX.out.below aM HX.out.lt).far (p:=⟨g,zs.length,none⟩) (show X ≠ g by omega) (.int .u8 (aJ (aj r) 0 + 1))
    have hs2:=Nat.le_trans hb hB2.size
    have nn:=uH.out _ hO3 hs2
    have c1:=hX2.cell 2
    simp at c1
    rw [zf.out] at c1
    have gy:=ahZ hX2
    have HB2:=ahZ hB2
    clear hO2 hO3 iR hB2 hX2 aM HO HX HB uH c0 hc
    go_wp2_with fail
    refine nn.mono ?_;rintro e w5 ⟨v5,rfl,nP,hb5⟩
    have HS2 : Hid (ou w base X r zs 1 v5 w5):=ahZ ⟨by rw [wu.out,wB.out];simpa [zb] using nP,gy.out.below hb5 xE,HB2.out.trans hb5⟩
    clear nP hb5 nn gy HB2
    go_wp2
    go_roundw
    case rel=>exact ⟨1,by omega,by first | rfl | go_num,HS2.out⟩
    case measure=>simp [intOf]
  ·have c0:=hX.cell 3
   simp at c0
   have mG : Hid (aJ (aj r) 2 = aJ (aj r) 1 + (if r.py ≠ 0 then 2 else 0)):=ahZ rfl
   have oP : Hid (bU (aj r) 2 = bU (aj r) 1 ++ (if r.py ≠ 0 then zb r.py else [])):=ahZ rfl
   have hI:=HR.out.py
   obtain ⟨g,c,L,rfl,qF,hcl,hgb,hc,hf,hset⟩:=hO.elem (i:=zs.length) (z:=aJ (aj r) 1) (by simp)
   have hm : 0 <= aJ (aj r) 1 /\ aJ (aj r) 1 < 2:=Bf.out 1
   have hor : bits .or .u8 (aJ (aj r) 1) 2 = aJ (aj r) 1 + 2:=or_bit (k:=1) (by decide) hm.1 hm.2
   have hset':=hset (aJ (aj r) 1 + 2) ⟨by omega,by omega⟩
   have hyl:=Fb.out 1
   rw [show (zs ++ aJ (aj r) 1 :: bU (aj r) 1).set zs.length (aJ (aj r) 1 + 2) = zs ++ (aJ (aj r) 1 + 2) :: bU (aj r) 1 by rw [List.set_append_right _ _ (Nat.le_refl _),Nat.sub_self];rfl] at hset'
   generalize hnn : r.py = n at *
   have zf:=ahZ hnn
   clear hnn
   by_cases hn : n = 0
   ·subst hn
    have HS2 : Hid (ou w base X r zs 2 _ wr):=ahZ ⟨by rw [mG.out,oP.out,if_neg (by simp),if_neg (by simp),Int.add_zero,List.append_nil];exact HO.out,HX.out,HB.out⟩
    clear hX hO hB HO hset hset' hc hf hor
    go_wp2
    go_roundw
    case rel=>exact ⟨2,by omega,by first | rfl | go_num,HS2.out⟩
    case measure=>simp [intOf]
   ·have hn2 : (n != 0) = true:=by simpa using hn
    have wu : Hid (aJ (aj r) 2 = aJ (aj r) 1 + 2):=ahZ (by rw [mG.out,if_pos hn])
    have wB : Hid (bU (aj r) 2 = bU (aj r) 1 ++ zb n):=ahZ (by rw [oP.out,if_pos hn])
    have wW : U8 (aJ (aj r) 1 + 2):=⟨by omega,by omega⟩
    have uH : Hid (∀ W,bf W base (.slice (some ⟨g,0,none⟩) L c) (zs ++ (aJ (aj r) 1 + 2) :: bU (aj r) 1) -> base <= W.heap.size -> Calls Tryz.prog 190 #[.slice (some ⟨g,0,none⟩) L c,.int .i64 n] W λe w'=>∃ v',e = .returned v' /\ bf w' base v' ((zs ++ (aJ (aj r) 1 + 2) :: bU (aj r) 1) ++ aD (kS n)) /\ Below base W w'):=ahZ (λW h1 h2=>qP _ _ n hI base W h1 (by simp;omega) h2)
    have zh : Hid (L = zs.length + 1 + (bU (aj r) 1).length):=ahZ (by rw [qF];simp;omega)
    clear hX hO hB hset hset' mG oP hf
    have MR : (zs.length : Int) < L:=by have:=zh.out;omega
    have MS : (L : Int) <= c:=by omega
    clear qF
    go_wp2_with fail
    apply bZ 8
    case hm=>kernel_rfl
    case hB=>kernel_rfl
    simp only [List.take_succ_cons,List.take_zero,List.drop_succ_cons,List.drop_zero]
    repeat (apply bJ;(next=>(intro W hW K hK;have y0:=hW.cell hc;go_simp;first | exact ⟨Below.refl _ _,hK⟩ | exact hK));(try go_simp))
    refine dL ?_
    intro WC aM _
    have hO2:=HO.out.below aM
    obtain ⟨g2,c2,L2,e2,e6,e7,Ke,hc2,hf2,iR⟩:=hO2.elem (i:=zs.length) (z:=aJ (aj r) 1) (by simp)
    simp only [Value.slice.injEq,Option.some.injEq,Addr.mk.injEq] at e2
    obtain ⟨⟨e3,_⟩,e5,e4⟩:=e2
    clear e6 e7
    subst e3
    subst e4
    subst e5
    have hO3:=iR (aJ (aj r) 1 + 2) wW
    rw [show (zs ++ aJ (aj r) 1 :: bU (aj r) 1).set zs.length (aJ (aj r) 1 + 2) = zs ++ (aJ (aj r) 1 + 2) :: bU (aj r) 1 by rw [List.set_append_right _ _ (Nat.le_refl _),Nat.sub_self];rfl] at hO3
    have hB2:=(HB.out.trans (Below.mono aM hbs)).setCell (p:=⟨g,zs.length,none⟩) hgb (.int .u8 (aJ (aj r) 1 + 2))
    have hX2:=(HX.out.below aM HX.out.lt).far (p:=⟨g,zs.length,none⟩) (show X ≠ g by omega) (.int .u8 (aJ (aj r) 1 + 2))
    have hs2:=Nat.le_trans hb hB2.size
    have nn:=uH.out _ hO3 hs2
    have c1:=hX2.cell 3
    simp at c1
    rw [zf.out] at c1
    have gy:=ahZ hX2
    have HB2:=ahZ hB2
    clear hO2 hO3 iR hB2 hX2 aM HO HX HB uH c0 hc
    go_wp2_with fail
    refine nn.mono ?_;rintro e w5 ⟨v5,rfl,nP,hb5⟩
    have HS2 : Hid (ou w base X r zs 2 v5 w5):=ahZ ⟨by rw [wu.out,wB.out];simpa [zb] using nP,gy.out.below hb5 xE,HB2.out.trans hb5⟩
    clear nP hb5 nn gy HB2
    go_wp2
    go_roundw
    case rel=>exact ⟨2,by omega,by first | rfl | go_num,HS2.out⟩
    case measure=>simp [intOf]
  ·have c0:=hX.cell 4
   simp at c0
   have mG : Hid (aJ (aj r) 3 = aJ (aj r) 2 + (if r.pz ≠ 0 then 4 else 0)):=ahZ rfl
   have oP : Hid (bU (aj r) 3 = bU (aj r) 2 ++ (if r.pz ≠ 0 then zb r.pz else [])):=ahZ rfl
   have hI:=HR.out.pz
   obtain ⟨g,c,L,rfl,qF,hcl,hgb,hc,hf,hset⟩:=hO.elem (i:=zs.length) (z:=aJ (aj r) 2) (by simp)
   have hm : 0 <= aJ (aj r) 2 /\ aJ (aj r) 2 < 4:=Bf.out 2
   have hor : bits .or .u8 (aJ (aj r) 2) 4 = aJ (aj r) 2 + 4:=or_bit (k:=2) (by decide) hm.1 hm.2
   have hset':=hset (aJ (aj r) 2 + 4) ⟨by omega,by omega⟩
   have hyl:=Fb.out 2
   rw [show (zs ++ aJ (aj r) 2 :: bU (aj r) 2).set zs.length (aJ (aj r) 2 + 4) = zs ++ (aJ (aj r) 2 + 4) :: bU (aj r) 2 by rw [List.set_append_right _ _ (Nat.le_refl _),Nat.sub_self];rfl] at hset'
   generalize hnn : r.pz = n at *
   have zf:=ahZ hnn
   clear hnn
   by_cases hn : n = 0
   ·subst hn
    have HS2 : Hid (ou w base X r zs 3 _ wr):=ahZ ⟨by rw [mG.out,oP.out,if_neg (by simp),if_neg (by simp),Int.add_zero,List.append_nil];exact HO.out,HX.out,HB.out⟩
    clear hX hO hB HO hset hset' hc hf hor
    go_wp2
    go_roundw
    case rel=>exact ⟨3,by omega,by first | rfl | go_num,HS2.out⟩
    case measure=>simp [intOf]
   ·have hn2 : (n != 0) = true:=by simpa using hn
    have wu : Hid (aJ (aj r) 3 = aJ (aj r) 2 + 4):=ahZ (by rw [mG.out,if_pos hn])
    have wB : Hid (bU (aj r) 3 = bU (aj r) 2 ++ zb n):=ahZ (by rw [oP.out,if_pos hn])
    have wW : U8 (aJ (aj r) 2 + 4):=⟨by omega,by omega⟩
    have uH : Hid (∀ W,bf W base (.slice (some ⟨g,0,none⟩) L c) (zs ++ (aJ (aj r) 2 + 4) :: bU (aj r) 2) -> base <= W.heap.size -> Calls Tryz.prog 190 #[.slice (some ⟨g,0,none⟩) L c,.int .i64 n] W λe w'=>∃ v',e = .returned v' /\ bf w' base v' ((zs ++ (aJ (aj r) 2 + 4) :: bU (aj r) 2) ++ aD (kS n)) /\ Below base W w'):=ahZ (λW h1 h2=>qP _ _ n hI base W h1 (by simp;omega) h2)
    have zh : Hid (L = zs.length + 1 + (bU (aj r) 2).length):=ahZ (by rw [qF];simp;omega)
    clear hX hO hB hset hset' mG oP hf
    have MR : (zs.length : Int) < L:=by have:=zh.out;omega
    have MS : (L : Int) <= c:=by omega
    clear qF
    go_wp2_with fail
    apply bZ 8
    case hm=>kernel_rfl
    case hB=>kernel_rfl
    simp only [List.take_succ_cons,List.take_zero,List.drop_succ_cons,List.drop_zero]
    repeat (apply bJ;(next=>(intro W hW K hK;have y0:=hW.cell hc;go_simp;first | exact ⟨Below.refl _ _,hK⟩ | exact hK));(try go_simp))
    refine dL ?_
    intro WC aM _
    have hO2:=HO.out.below aM
    obtain ⟨g2,c2,L2,e2,e6,e7,Ke,hc2,hf2,iR⟩:=hO2.elem (i:=zs.length) (z:=aJ (aj r) 2) (by simp)
    simp only [Value.slice.injEq,Option.some.injEq,Addr.mk.injEq] at e2
    obtain ⟨⟨e3,_⟩,e5,e4⟩:=e2
    clear e6 e7
    subst e3
    subst e4
    subst e5
    have hO3:=iR (aJ (aj r) 2 + 4) wW
    rw [show (zs ++ aJ (aj r) 2 :: bU (aj r) 2).set zs.length (aJ (aj r) 2 + 4) = zs ++ (aJ (aj r) 2 + 4) :: bU (aj r) 2 by rw [List.set_append_right _ _ (Nat.le_refl _),Nat.sub_self];rfl] at hO3
    have hB2:=(HB.out.trans (Below.mono aM hbs)).setCell (p:=⟨g,zs.length,none⟩) hgb (.int .u8 (aJ (aj r) 2 + 4))
    have hX2:=(HX.out.below aM HX.out.lt).far (p:=⟨g,zs.length,none⟩) (show X ≠ g by omega) (.int .u8 (aJ (aj r) 2 + 4))
    have hs2:=Nat.le_trans hb hB2.size
    have nn:=uH.out _ hO3 hs2
    have c1:=hX2.cell 4
    simp at c1
    rw [zf.out] at c1
    have gy:=ahZ hX2
    have HB2:=ahZ hB2
    clear hO2 hO3 iR hB2 hX2 aM HO HX HB uH c0 hc
    go_wp2_with fail
    refine nn.mono ?_;rintro e w5 ⟨v5,rfl,nP,hb5⟩
    have HS2 : Hid (ou w base X r zs 3 v5 w5):=ahZ ⟨by rw [wu.out,wB.out];simpa [zb] using nP,gy.out.below hb5 xE,HB2.out.trans hb5⟩
    clear nP hb5 nn gy HB2
    go_wp2
    go_roundw
    case rel=>exact ⟨3,by omega,by first | rfl | go_num,HS2.out⟩
    case measure=>simp [intOf]
  ·have c0:=hX.cell 5
   simp at c0
   have mG : Hid (aJ (aj r) 4 = aJ (aj r) 3 + (if r.vx ≠ 0 then 8 else 0)):=ahZ rfl
   have oP : Hid (bU (aj r) 4 = bU (aj r) 3 ++ (if r.vx ≠ 0 then zb r.vx else [])):=ahZ rfl
   have hI:=HR.out.vx
   obtain ⟨g,c,L,rfl,qF,hcl,hgb,hc,hf,hset⟩:=hO.elem (i:=zs.length) (z:=aJ (aj r) 3) (by simp)
   have hm : 0 <= aJ (aj r) 3 /\ aJ (aj r) 3 < 8:=Bf.out 3
   have hor : bits .or .u8 (aJ (aj r) 3) 8 = aJ (aj r) 3 + 8:=or_bit (k:=3) (by decide) hm.1 hm.2
   have hset':=hset (aJ (aj r) 3 + 8) ⟨by omega,by omega⟩
   have hyl:=Fb.out 3
   rw [show (zs ++ aJ (aj r) 3 :: bU (aj r) 3).set zs.length (aJ (aj r) 3 + 8) = zs ++ (aJ (aj r) 3 + 8) :: bU (aj r) 3 by rw [List.set_append_right _ _ (Nat.le_refl _),Nat.sub_self];rfl] at hset'
   generalize hnn : r.vx = n at *
   have zf:=ahZ hnn
   clear hnn
   by_cases hn : n = 0
   ·subst hn
    have HS2 : Hid (ou w base X r zs 4 _ wr):=ahZ ⟨by rw [mG.out,oP.out,if_neg (by simp),if_neg (by simp),Int.add_zero,List.append_nil];exact HO.out,HX.out,HB.out⟩
    clear hX hO hB HO hset hset' hc hf hor
    go_wp2
    go_roundw
    case rel=>exact ⟨4,by omega,by first | rfl | go_num,HS2.out⟩
    case measure=>simp [intOf]
   ·have hn2 : (n != 0) = true:=by simpa using hn
    have wu : Hid (aJ (aj r) 4 = aJ (aj r) 3 + 8):=ahZ (by rw [mG.out,if_pos hn])
    have wB : Hid (bU (aj r) 4 = bU (aj r) 3 ++ zb n):=ahZ (by rw [oP.out,if_pos hn])
    have wW : U8 (aJ (aj r) 3 + 8):=⟨by omega,by omega⟩
    have uH : Hid (∀ W,bf W base (.slice (some ⟨g,0,none⟩) L c) (zs ++ (aJ (aj r) 3 + 8) :: bU (aj r) 3) -> base <= W.heap.size -> Calls Tryz.prog 190 #[.slice (some ⟨g,0,none⟩) L c,.int .i64 n] W λe w'=>∃ v',e = .returned v' /\ bf w' base v' ((zs ++ (aJ (aj r) 3 + 8) :: bU (aj r) 3) ++ aD (kS n)) /\ Below base W w'):=ahZ (λW h1 h2=>qP _ _ n hI base W h1 (by simp;omega) h2)
    have zh : Hid (L = zs.length + 1 + (bU (aj r) 3).length):=ahZ (by rw [qF];simp;omega)
    clear hX hO hB hset hset' mG oP hf
    have MR : (zs.length : Int) < L:=by have:=zh.out;omega
    have MS : (L : Int) <= c:=by omega
    clear qF
    go_wp2_with fail
    apply bZ 8
    case hm=>kernel_rfl
    case hB=>kernel_rfl
    simp only [List.take_succ_cons,List.take_zero,List.drop_succ_cons,List.drop_zero]
    repeat (apply bJ;(next=>(intro W hW K hK;have y0:=hW.cell hc;go_simp;first | exact ⟨Below.refl _ _,hK⟩ | exact hK));(try go_simp))
    refine dL ?_
    intro WC aM _
    have hO2:=HO.out.below aM
    obtain ⟨g2,c2,L2,e2,e6,e7,Ke,hc2,hf2,iR⟩:=hO2.elem (i:=zs.length) (z:=aJ (aj r) 3) (by simp)
    simp only [Value.slice.injEq,Option.some.injEq,Addr.mk.injEq] at e2
    obtain ⟨⟨e3,_⟩,e5,e4⟩:=e2
    clear e6 e7
    subst e3
    subst e4
    subst e5
    have hO3:=iR (aJ (aj r) 3 + 8) wW
    rw [show (zs ++ aJ (aj r) 3 :: bU (aj r) 3).set zs.length (aJ (aj r) 3 + 8) = zs ++ (aJ (aj r) 3 + 8) :: bU (aj r) 3 by rw [List.set_append_right _ _ (Nat.le_refl _),Nat.sub_self];rfl] at hO3
    have hB2:=(HB.out.trans (Below.mono aM hbs)).setCell (p:=⟨g,zs.length,none⟩) hgb (.int .u8 (aJ (aj r) 3 + 8))
    have hX2:=(HX.out.below aM HX.out.lt).far (p:=⟨g,zs.length,none⟩) (show X ≠ g by omega) (.int .u8 (aJ (aj r) 3 + 8))
    have hs2:=Nat.le_trans hb hB2.size
    have nn:=uH.out _ hO3 hs2
    have c1:=hX2.cell 5
    simp at c1
    rw [zf.out] at c1
    have gy:=ahZ hX2
    have HB2:=ahZ hB2
    clear hO2 hO3 iR hB2 hX2 aM HO HX HB uH c0 hc
    go_wp2_with fail
    refine nn.mono ?_;rintro e w5 ⟨v5,rfl,nP,hb5⟩
    have HS2 : Hid (ou w base X r zs 4 v5 w5):=ahZ ⟨by rw [wu.out,wB.out];simpa [zb] using nP,gy.out.below hb5 xE,HB2.out.trans hb5⟩
    clear nP hb5 nn gy HB2
    go_wp2
    go_roundw
    case rel=>exact ⟨4,by omega,by first | rfl | go_num,HS2.out⟩
    case measure=>simp [intOf]
  ·have c0:=hX.cell 6
   simp at c0
   have mG : Hid (aJ (aj r) 5 = aJ (aj r) 4 + (if r.vy ≠ 0 then 16 else 0)):=ahZ rfl
   have oP : Hid (bU (aj r) 5 = bU (aj r) 4 ++ (if r.vy ≠ 0 then zb r.vy else [])):=ahZ rfl
   have hI:=HR.out.vy
   obtain ⟨g,c,L,rfl,qF,hcl,hgb,hc,hf,hset⟩:=hO.elem (i:=zs.length) (z:=aJ (aj r) 4) (by simp)
   have hm : 0 <= aJ (aj r) 4 /\ aJ (aj r) 4 < 16:=Bf.out 4
   have hor : bits .or .u8 (aJ (aj r) 4) 16 = aJ (aj r) 4 + 16:=or_bit (k:=4) (by decide) hm.1 hm.2
   have hset':=hset (aJ (aj r) 4 + 16) ⟨by omega,by omega⟩
   have hyl:=Fb.out 4
   rw [show (zs ++ aJ (aj r) 4 :: bU (aj r) 4).set zs.length (aJ (aj r) 4 + 16) = zs ++ (aJ (aj r) 4 + 16) :: bU (aj r) 4 by rw [List.set_append_right _ _ (Nat.le_refl _),Nat.sub_self];rfl] at hset'
   generalize hnn : r.vy = n at *
   have zf:=ahZ hnn
   clear hnn
   by_cases hn : n = 0
   ·subst hn
    have HS2 : Hid (ou w base X r zs 5 _ wr):=ahZ ⟨by rw [mG.out,oP.out,if_neg (by simp),if_neg (by simp),Int.add_zero,List.append_nil];exact HO.out,HX.out,HB.out⟩
    clear hX hO hB HO hset hset' hc hf hor
    go_wp2
    go_roundw
    case rel=>exact ⟨5,by omega,by first | rfl | go_num,HS2.out⟩
    case measure=>simp [intOf]
   ·have hn2 : (n != 0) = true:=by simpa using hn
    have wu : Hid (aJ (aj r) 5 = aJ (aj r) 4 + 16):=ahZ (by rw [mG.out,if_pos hn])
    have wB : Hid (bU (aj r) 5 = bU (aj r) 4 ++ zb n):=ahZ (by rw [oP.out,if_pos hn])
    have wW : U8 (aJ (aj r) 4 + 16):=⟨by omega,by omega⟩
    have uH : Hid (∀ W,bf W base (.slice (some ⟨g,0,none⟩) L c) (zs ++ (aJ (aj r) 4 + 16) :: bU (aj r) 4) -> base <= W.heap.size -> Calls Tryz.prog 190 #[.slice (some ⟨g,0,none⟩) L c,.int .i64 n] W λe w'=>∃ v',e = .returned v' /\ bf w' base v' ((zs ++ (aJ (aj r) 4 + 16) :: bU (aj r) 4) ++ aD (kS n)) /\ Below base W w'):=ahZ (λW h1 h2=>qP _ _ n hI base W h1 (by simp;omega) h2)
    have zh : Hid (L = zs.length + 1 + (bU (aj r) 4).length):=ahZ (by rw [qF];simp;omega)
    clear hX hO hB hset hset' mG oP hf
    have MR : (zs.length : Int) < L:=by have:=zh.out;omega
    have MS : (L : Int) <= c:=by omega
    clear qF
    go_wp2_with fail
    apply bZ 8
    case hm=>kernel_rfl
    case hB=>kernel_rfl
    simp only [List.take_succ_cons,List.take_zero,List.drop_succ_cons,List.drop_zero]
    repeat (apply bJ;(next=>(intro W hW K hK;have y0:=hW.cell hc;go_simp;first | exact ⟨Below.refl _ _,hK⟩ | exact hK));(try go_simp))
    refine dL ?_
    intro WC aM _
    have hO2:=HO.out.below aM
    obtain ⟨g2,c2,L2,e2,e6,e7,Ke,hc2,hf2,iR⟩:=hO2.elem (i:=zs.length) (z:=aJ (aj r) 4) (by simp)
    simp only [Value.slice.injEq,Option.some.injEq,Addr.mk.injEq] at e2
    obtain ⟨⟨e3,_⟩,e5,e4⟩:=e2
    clear e6 e7
    subst e3
    subst e4
    subst e5
    have hO3:=iR (aJ (aj r) 4 + 16) wW
    rw [show (zs ++ aJ (aj r) 4 :: bU (aj r) 4).set zs.length (aJ (aj r) 4 + 16) = zs ++ (aJ (aj r) 4 + 16) :: bU (aj r) 4 by rw [List.set_append_right _ _ (Nat.le_refl _),Nat.sub_self];rfl] at hO3
    have hB2:=(HB.out.trans (Below.mono aM hbs)).setCell (p:=⟨g,zs.length,none⟩) hgb (.int .u8 (aJ (aj r) 4 + 16))
    have hX2:=(HX.out.below aM HX.out.lt).far (p:=⟨g,zs.length,none⟩) (show X ≠ g by omega) (.int .u8 (aJ (aj r) 4 + 16))
    have hs2:=Nat.le_trans hb hB2.size
    have nn:=uH.out _ hO3 hs2
    have c1:=hX2.cell 6
    simp at c1
    rw [zf.out] at c1
    have gy:=ahZ hX2
    have HB2:=ahZ hB2
    clear hO2 hO3 iR hB2 hX2 aM HO HX HB uH c0 hc
    go_wp2_with fail
    refine nn.mono ?_;rintro e w5 ⟨v5,rfl,nP,hb5⟩
    have HS2 : Hid (ou w base X r zs 5 v5 w5):=ahZ ⟨by rw [wu.out,wB.out];simpa [zb] using nP,gy.out.below hb5 xE,HB2.out.trans hb5⟩
    clear nP hb5 nn gy HB2
    go_wp2
    go_roundw
    case rel=>exact ⟨5,by omega,by first | rfl | go_num,HS2.out⟩
    case measure=>simp [intOf]
  ·have c0:=hX.cell 7
   simp at c0
   have mG : Hid (aJ (aj r) 6 = aJ (aj r) 5 + (if r.vz ≠ 0 then 32 else 0)):=ahZ rfl
   have oP : Hid (bU (aj r) 6 = bU (aj r) 5 ++ (if r.vz ≠ 0 then zb r.vz else [])):=ahZ rfl
   have hI:=HR.out.vz
   obtain ⟨g,c,L,rfl,qF,hcl,hgb,hc,hf,hset⟩:=hO.elem (i:=zs.length) (z:=aJ (aj r) 5) (by simp)
   have hm : 0 <= aJ (aj r) 5 /\ aJ (aj r) 5 < 32:=Bf.out 5
   have hor : bits .or .u8 (aJ (aj r) 5) 32 = aJ (aj r) 5 + 32:=or_bit (k:=5) (by decide) hm.1 hm.2
   have hset':=hset (aJ (aj r) 5 + 32) ⟨by omega,by omega⟩
   have hyl:=Fb.out 5
   rw [show (zs ++ aJ (aj r) 5 :: bU (aj r) 5).set zs.length (aJ (aj r) 5 + 32) = zs ++ (aJ (aj r) 5 + 32) :: bU (aj r) 5 by rw [List.set_append_right _ _ (Nat.le_refl _),Nat.sub_self];rfl] at hset'
   generalize hnn : r.vz = n at *
   have zf:=ahZ hnn
   clear hnn
   by_cases hn : n = 0
   ·subst hn
    have HS2 : Hid (ou w base X r zs 6 _ wr):=ahZ ⟨by rw [mG.out,oP.out,if_neg (by simp),if_neg (by simp),Int.add_zero,List.append_nil];exact HO.out,HX.out,HB.out⟩
    clear hX hO hB HO hset hset' hc hf hor
    go_wp2
    go_roundw
    case rel=>exact ⟨6,by omega,by first | rfl | go_num,HS2.out⟩
    case measure=>simp [intOf]
   ·have hn2 : (n != 0) = true:=by simpa using hn
    have wu : Hid (aJ (aj r) 6 = aJ (aj r) 5 + 32):=ahZ (by rw [mG.out,if_pos hn])
    have wB : Hid (bU (aj r) 6 = bU (aj r) 5 ++ zb n):=ahZ (by rw [oP.out,if_pos hn])
    have wW : U8 (aJ (aj r) 5 + 32):=⟨by omega,by omega⟩
    have uH : Hid (∀ W,bf W base (.slice (some ⟨g,0,none⟩) L c) (zs ++ (aJ (aj r) 5 + 32) :: bU (aj r) 5) -> base <= W.heap.size -> Calls Tryz.prog 190 #[.slice (some ⟨g,0,none⟩) L c,.int .i64 n] W λe w'=>∃ v',e = .returned v' /\ bf w' base v' ((zs ++ (aJ (aj r) 5 + 32) :: bU (aj r) 5) ++ aD (kS n)) /\ Below base W w'):=ahZ (λW h1 h2=>qP _ _ n hI base W h1 (by simp;omega) h2)
    have zh : Hid (L = zs.length + 1 + (bU (aj r) 5).length):=ahZ (by rw [qF];simp;omega)
    clear hX hO hB hset hset' mG oP hf
    have MR : (zs.length : Int) < L:=by have:=zh.out;omega
    have MS : (L : Int) <= c:=by omega
    clear qF
    go_wp2_with fail
    apply bZ 8
    case hm=>kernel_rfl
    case hB=>kernel_rfl
    simp only [List.take_succ_cons,List.take_zero,List.drop_succ_cons,List.drop_zero]
    repeat (apply bJ;(next=>(intro W hW K hK;have y0:=hW.cell hc;go_simp;first | exact ⟨Below.refl _ _,hK⟩ | exact hK));(try go_simp))
    refine dL ?_
    intro WC aM _
    have hO2:=HO.out.below aM
    obtain ⟨g2,c2,L2,e2,e6,e7,Ke,hc2,hf2,iR⟩:=hO2.elem (i:=zs.length) (z:=aJ (aj r) 5) (by simp)
    simp only [Value.slice.injEq,Option.some.injEq,Addr.mk.injEq] at e2
    obtain ⟨⟨e3,_⟩,e5,e4⟩:=e2
    clear e6 e7
    subst e3
    subst e4
    subst e5
    have hO3:=iR (aJ (aj r) 5 + 32) wW
    rw [show (zs ++ aJ (aj r) 5 :: bU (aj r) 5).set zs.length (aJ (aj r) 5 + 32) = zs ++ (aJ (aj r) 5 + 32) :: bU (aj r) 5 by rw [List.set_append_right _ _ (Nat.le_refl _),Nat.sub_self];rfl] at hO3
    have hB2:=(HB.out.trans (Below.mono aM hbs)).setCell (p:=⟨g,zs.length,none⟩) hgb (.int .u8 (aJ (aj r) 5 + 32))
    have hX2:=(HX.out.below aM HX.out.lt).far (p:=⟨g,zs.length,none⟩) (show X ≠ g by omega) (.int .u8 (aJ (aj r) 5 + 32))
    have hs2:=Nat.le_trans hb hB2.size
    have nn:=uH.out _ hO3 hs2
    have c1:=hX2.cell 7
    simp at c1
    rw [zf.out] at c1
    have gy:=ahZ hX2
    have HB2:=ahZ hB2
    clear hO2 hO3 iR hB2 hX2 aM HO HX HB uH c0 hc
    go_wp2_with fail
    refine nn.mono ?_;rintro e w5 ⟨v5,rfl,nP,hb5⟩
    have HS2 : Hid (ou w base X r zs 6 v5 w5):=ahZ ⟨by rw [wu.out,wB.out];simpa [zb] using nP,gy.out.below hb5 xE,HB2.out.trans hb5⟩
    clear nP hb5 nn gy HB2
    go_wp2
    go_roundw
    case rel=>exact ⟨6,by omega,by first | rfl | go_num,HS2.out⟩
    case measure=>simp [intOf]
  ·have c0:=hX.cell 8
   simp at c0
   obtain ⟨g,c,L,rfl,qF,hcl,hgb,hc,hf,hset⟩:=hO.elem (i:=zs.length) (z:=aJ (aj r) 6) (by simp)
   have hm : 0 <= aJ (aj r) 6 /\ aJ (aj r) 6 < 64:=Bf.out 6
   have hor : bits .or .u8 (aJ (aj r) 6) 64 = aJ (aj r) 6 + 64:=or_bit (k:=6) (by decide) hm.1 hm.2
   have hset':=hset (aJ (aj r) 6 + 64) ⟨by omega,by omega⟩
   have hyl:=Fb.out 6
   rw [show (zs ++ aJ (aj r) 6 :: bU (aj r) 6).set zs.length (aJ (aj r) 6 + 64) = zs ++ (aJ (aj r) 6 + 64) :: bU (aj r) 6 by rw [List.set_append_right _ _ (Nat.le_refl _),Nat.sub_self];rfl] at hset'
   have zh : Hid (L = zs.length + 1 + (bU (aj r) 6).length):=ahZ (by rw [qF];simp;omega)
   have MR : (zs.length : Int) < L:=by have:=zh.out;omega
   have MS : (L : Int) <= c:=by omega
   generalize hnn : r.aI = n at *
   have zf:=ahZ hnn
   clear hnn
   by_cases hn : n = 0
   ·subst hn
    have HV : Hid (vB r = aJ (aj r) 6 :: bU (aj r) 6):=ahZ (by rw [HS.out,if_neg (by simp),if_neg (by simp),List.append_nil])
    clear hX hO hB hset hset' hc hf hor qF HS
    go_wp2
    go_ret
    exact ⟨_,rfl,by rw [HV.out];exact HO.out,HB.out⟩
   ·have hn2 : (n != 0) = true:=by simpa using hn
    have HV : Hid (vB r = (aJ (aj r) 6 + 64) :: (bU (aj r) 6 ++ aD n)):=ahZ (by rw [HS.out,if_pos hn,if_pos hn])
    have hX2:=HX.out.far (p:=⟨g,zs.length,none⟩) (show X ≠ g by omega) (.int .u8 (aJ (aj r) 6 + 64))
    have hB2:=HB.out.setCell (p:=⟨g,zs.length,none⟩) hgb (.int .u8 (aJ (aj r) 6 + 64))
    have hs2:=Nat.le_trans hb hB2.size
    have c1:=hX2.cell 8
    simp at c1
    rw [zf.out] at c1
    have pt:=nL n hu (wr.setCell ⟨g,zs.length,none⟩ (.int .u8 (aJ (aj r) 6 + 64)))
    have bT:=ahZ hset'
    have HB2:=ahZ hB2
    have hw : IntKind.u64.wrap n = n:=wraps_u64 _ (by omega) (by omega)
    have HYN : Hid ((zs ++ (aJ (aj r) 6 + 64) :: bU (aj r) 6).length + (aD n).length <= 140737488355328):=ahZ (by simp;omega)
    clear hX hO hB hset hset' qF HS hX2 hB2 HO HX HB
    go_wp2_with fail
    refine pt.mono ?_;rintro e w5 ⟨v5,rfl,nP,hb5⟩
    obtain ⟨ad,c5,rfl,hba,hac⟩:=nP.bytes
    have hs5:=hb5.size
    have fT:=ahZ (bT.out.below hb5)
    have HB3:=ahZ (HB2.out.trans (hb5.mono hs2))
    clear nP hb5 pt bT HB2
    go_wp2_with (at_builtin;refine bG _ rfl (.tmp 48) (.tmp 54) rfl base _ (zs ++ (aJ (aj r) 6 + 64) :: bU (aj r) 6) rfl fT.out ad (aD n).length c5 (aD n) rfl hba hac HYN.out (by omega) ?_)
    intro v6 w6 ho6 hg6
    have lg : Hid (Below base w w6):=ahZ (HB3.out.grown hg6 (by omega) (λj e=>(fT.out.lt j e).1))
    have sM:=ahZ ho6
    clear ho6 hg6 hba
    go_wp2
    go_ret
    exact ⟨v6,rfl,by rw [HV.out];simpa using sM.out,lg.out⟩
set_option maxRecDepth 100000
theorem Gt {w0 w : World} {b : Nat} {v0 v1 v2 v3 v4 v5 v6 v7 v8 : Value} (h : Below w0.heap.size w0 w) (hb : w0.heap.size <= b) : Below w0.heap.size w0 (((((((((w.setCell ⟨b,0,none⟩ v0).setCell ⟨b,1,none⟩ v1).setCell ⟨b,2,none⟩ v2).setCell ⟨b,3,none⟩ v3).setCell ⟨b,4,none⟩ v4).setCell ⟨b,5,none⟩ v5).setCell ⟨b,6,none⟩ v6).setCell ⟨b,7,none⟩ v7).setCell ⟨b,8,none⟩ v8) :=
 (pX (S:=λ_=>False) (Only.of_below h) (.inr hb)).below (Nat.le_refl _) (λ_ h=>h.elim)
def Jh (a b : ay) : Bool:=a.id == b.id && (a.px == b.px && a.py == b.py && a.pz == b.pz) && (a.vx == b.vx && a.vy == b.vy && a.vz == b.vz) && a.aI == b.aI && a.gen == b.gen
def Gu (a b : ay) : Rec :=
 if a.gen = b.gen then ⟨1,b.id,IntKind.i64.wrap (b.px - a.px),IntKind.i64.wrap (b.py - a.py),IntKind.i64.wrap (b.pz - a.pz),IntKind.i64.wrap (b.vx - a.vx),IntKind.i64.wrap (b.vy - a.vy),IntKind.i64.wrap (b.vz - a.vz),IntKind.u16.wrap (b.aI - a.aI)⟩
 else ⟨3,b.id,b.px,b.py,b.pz,b.vx,b.vy,b.vz,b.aI⟩
def OV : Rec:=⟨0,0,0,0,0,0,0,0,0⟩
def lF (a b : ay) : Rec × Bool:=if Jh a b = true then (OV,false) else (Gu a b,true)
def xM (w : World) (X Y P : Nat) (ea eb : Array Value) (old : Array Value) (cells : List (Array Value)) (k : Nat) (wr : World) : Prop :=
 ∃ q,cells[k]? = some q /\ ak wr X q 147 /\ ak wr Y old 147 /\ ak wr P #[.pointer (some ⟨Y,2,none⟩),.pointer (some ⟨Y,3,none⟩),.pointer (some ⟨Y,4,none⟩),.pointer (some ⟨Y,5,none⟩),.pointer (some ⟨Y,6,none⟩),.pointer (some ⟨Y,7,none⟩)] 197 /\
  ak wr w.heap.size ea 33 /\ ak wr (w.heap.size + 1) eb 33 /\ ak wr (w.heap.size + 2) #[.int .i64 0,.int .i64 0,.int .i64 0,.int .i64 0,.int .i64 0,.int .i64 0,.int .i64 0,.int .i64 0,.int .u16 0] 147 /\ Below w.heap.size w wr
set_option maxHeartbeats 4000000 in
theorem U4 (a b : ay) (w : World) :
  Calls Tryz.prog 70 #[bR a,bR b] w λe w'=>e = .returned (.tuple #[lI (lF a b).1,.bool (lF a b).2]) /\ Below w.heap.size w w':=by
 have HZ : Hid (lF a b = if Jh a b = true then (OV,false) else (if a.gen = b.gen then ⟨1,b.id,IntKind.i64.wrap (b.px - a.px),IntKind.i64.wrap (b.py - a.py),IntKind.i64.wrap (b.pz - a.pz),IntKind.i64.wrap (b.vx - a.vx),IntKind.i64.wrap (b.vy - a.vy),IntKind.i64.wrap (b.vz - a.vz),IntKind.u16.wrap (b.aI - a.aI)⟩ else ⟨3,b.id,b.px,b.py,b.pz,b.vx,b.vy,b.vz,b.aI⟩,true)):=ahZ rfl
 generalize lF a b = z at *
 have HS : Hid (Jh a b = (a.id == b.id && (a.px == b.px && a.py == b.py && a.pz == b.pz) && (a.vx == b.vx && a.vy == b.vy && a.vz == b.vz) && a.aI == b.aI && a.gen == b.gen)):=ahZ rfl
 generalize hsm : Jh a b = sm at *
 obtain ⟨ai,a1,a2,a3,a4,a5,a6,aa,ag⟩:=a
 obtain ⟨bi,b1,b2,b3,b4,b5,b6,ba,bg⟩:=b
 unfold bR
 simp only at *
 have hEq : ∀ W : World,(Op.equalIn 10000 33 (.agg #[.int .i64 ai,.int .i64 a1,.int .i64 a2,.int .i64 a3,.int .i64 a4,.int .i64 a5,.int .i64 a6,.int .u16 aa,.int .u8 ag]) (.agg #[.int .i64 bi,.int .i64 b1,.int .i64 b2,.int .i64 b3,.int .i64 b4,.int .i64 b5,.int .i64 b6,.int .u16 ba,.int .u8 bg])).run Tryz.prog W = .ok sm W:=λW=>by
  rw [Rp,HS.out]
 clear hsm HS
 obtain ⟨w0,hw0⟩ : ∃ w0,(((w.alloc (.cells #[.int .i64 ai,.int .i64 a1,.int .i64 a2,.int .i64 a3,.int .i64 a4,.int .i64 a5,.int .i64 a6,.int .u16 aa,.int .u8 ag] 33)).alloc (.cells #[.int .i64 bi,.int .i64 b1,.int .i64 b2,.int .i64 b3,.int .i64 b4,.int .i64 b5,.int .i64 b6,.int .u16 ba,.int .u8 bg] 33)).alloc (.cells #[.int .i64 0,.int .i64 0,.int .i64 0,.int .i64 0,.int .i64 0,.int .i64 0,.int .i64 0,.int .i64 0,.int .u16 0] 147)) = w0:=⟨_,rfl⟩
 have mE : ak w0 w.heap.size #[.int .i64 ai,.int .i64 a1,.int .i64 a2,.int .i64 a3,.int .i64 a4,.int .i64 a5,.int .i64 a6,.int .u16 aa,.int .u8 ag] 33:=by rw [← hw0];exact ((ak.new _ _ _).alloc _).alloc _
 have hE0 : ak w0 (w.heap.size + 1) #[.int .i64 bi,.int .i64 b1,.int .i64 b2,.int .i64 b3,.int .i64 b4,.int .i64 b5,.int .i64 b6,.int .u16 ba,.int .u8 bg] 33:=by
  rw [← hw0]
  have:=(ak.new (w.alloc (.cells #[.int .i64 ai,.int .i64 a1,.int .i64 a2,.int .i64 a3,.int .i64 a4,.int .i64 a5,.int .i64 a6,.int .u16 aa,.int .u8 ag] 33)) #[.int .i64 bi,.int .i64 b1,.int .i64 b2,.int .i64 b3,.int .i64 b4,.int .i64 b5,.int .i64 b6,.int .u16 ba,.int .u8 bg] 33).alloc (.cells #[.int .i64 0,.int .i64 0,.int .i64 0,.int .i64 0,.int .i64 0,.int .i64 0,.int .i64 0,.int .i64 0,.int .u16 0] 147)
  simpa using this
 have mV : ak w0 (w.heap.size + 2) #[.int .i64 0,.int .i64 0,.int .i64 0,.int .i64 0,.int .i64 0,.int .i64 0,.int .i64 0,.int .i64 0,.int .u16 0] 147:=by
  rw [← hw0]
  have:=ak.new ((w.alloc (.cells #[.int .i64 ai,.int .i64 a1,.int .i64 a2,.int .i64 a3,.int .i64 a4,.int .i64 a5,.int .i64 a6,.int .u16 aa,.int .u8 ag] 33)).alloc (.cells #[.int .i64 bi,.int .i64 b1,.int .i64 b2,.int .i64 b3,.int .i64 b4,.int .i64 b5,.int .i64 b6,.int .u16 ba,.int .u8 bg] 33)) #[.int .i64 0,.int .i64 0,.int .i64 0,.int .i64 0,.int .i64 0,.int .i64 0,.int .i64 0,.int .i64 0,.int .u16 0] 147
  simpa using this
 have hB0 : Below w.heap.size w w0:=by rw [← hw0];exact (((Below.refl _ _).alloc (Nat.le_refl _) _).alloc (by simp) _).alloc (by simp;omega) _
 have hs0 : w0.heap.size = w.heap.size + 3:=by rw [← hw0];simp
 have uW:=ahZ mE
 have Ng:=ahZ hE0
 have HZ0:=ahZ mV
 have HB0:=ahZ hB0
 have zq:=ahZ hs0
 have c0:=mE.cell 0
 have c1:=mE.cell 1
 have c2:=mE.cell 2
 have c3:=mE.cell 3
 have c4:=mE.cell 4
 have c5:=mE.cell 5
 have c6:=mE.cell 6
 have c7:=mE.cell 7
 have c8:=mE.cell 8
 simp at c0 c1 c2 c3 c4 c5 c6 c7 c8
 have d0:=hE0.cell 0
 have d1:=hE0.cell 1
 have d2:=hE0.cell 2
 have d3:=hE0.cell 3
 have d4:=hE0.cell 4
 have d5:=hE0.cell 5
 have d6:=hE0.cell 6
 have d7:=hE0.cell 7
 have d8:=hE0.cell 8
 simp at d0 d1 d2 d3 d4 d5 d6 d7 d8
 have z0:=mV.cell 0
 have z1:=mV.cell 1
 have z2:=mV.cell 2
 have z3:=mV.cell 3
 have z4:=mV.cell 4
 have z5:=mV.cell 5
 have z6:=mV.cell 6
 have z7:=mV.cell 7
 have z8:=mV.cell 8
 have y0:=mV.free 0
 have y1:=mV.free 1
 have y2:=mV.free 2
 have y3:=mV.free 3
 have y4:=mV.free 4
 have y5:=mV.free 5
 have y6:=mV.free 6
 have y7:=mV.free 7
 have y8:=mV.free 8
 simp at z0 z1 z2 z3 z4 z5 z6 z7 z8
 clear mE hE0 mV hB0 hs0
 cases sm
 ·have HV : Hid (z = (if ag = bg then ⟨1,bi,IntKind.i64.wrap (b1 - a1),IntKind.i64.wrap (b2 - a2),IntKind.i64.wrap (b3 - a3),IntKind.i64.wrap (b4 - a4),IntKind.i64.wrap (b5 - a5),IntKind.i64.wrap (b6 - a6),IntKind.u16.wrap (ba - aa)⟩ else ⟨3,bi,b1,b2,b3,b4,b5,b6,ba⟩,true)):=ahZ (by rw [HZ.out,if_neg (by decide)])
  clear HZ
  by_cases hg : ag = bg
  ·have Fu : Hid (z = (⟨1,bi,IntKind.i64.wrap (b1 - a1),IntKind.i64.wrap (b2 - a2),IntKind.i64.wrap (b3 - a3),IntKind.i64.wrap (b4 - a4),IntKind.i64.wrap (b5 - a5),IntKind.i64.wrap (b6 - a6),IntKind.u16.wrap (ba - aa)⟩,true)):=ahZ (by rw [HV.out,if_pos hg])
   clear HV
   have hg2 : (ag == bg) = true:=by simpa using hg
   clear hg
   obtain ⟨n1,hn1⟩ : ∃ x,IntKind.i64.wrap (b1 - a1) = x:=⟨_,rfl⟩
   have hm1 : wrap64 (b1 - a1) = n1:=by rw [← hn1];exact (IntWalk.i64_left _).symm
   obtain ⟨n2,hn2⟩ : ∃ x,IntKind.i64.wrap (b2 - a2) = x:=⟨_,rfl⟩
   have hm2 : wrap64 (b2 - a2) = n2:=by rw [← hn2];exact (IntWalk.i64_left _).symm
   obtain ⟨n3,QC⟩ : ∃ x,IntKind.i64.wrap (b3 - a3) = x:=⟨_,rfl⟩
   have hm3 : wrap64 (b3 - a3) = n3:=by rw [← QC];exact (IntWalk.i64_left _).symm
   obtain ⟨n4,Wo⟩ : ∃ x,IntKind.i64.wrap (b4 - a4) = x:=⟨_,rfl⟩
   have hm4 : wrap64 (b4 - a4) = n4:=by rw [← Wo];exact (IntWalk.i64_left _).symm
   obtain ⟨n5,Wp⟩ : ∃ x,IntKind.i64.wrap (b5 - a5) = x:=⟨_,rfl⟩
   have hm5 : wrap64 (b5 - a5) = n5:=by rw [← Wp];exact (IntWalk.i64_left _).symm
   obtain ⟨n6,Wq⟩ : ∃ x,IntKind.i64.wrap (b6 - a6) = x:=⟨_,rfl⟩
   have hm6 : wrap64 (b6 - a6) = n6:=by rw [← Wq];exact (IntWalk.i64_left _).symm
   obtain ⟨n7,Ws⟩ : ∃ x,IntKind.u16.wrap (ba - aa) = x:=⟨_,rfl⟩
   rw [hn1,hn2,QC,Wo,Wp,Wq,Ws] at Fu
   have HN:=ahZ (And.intro hn1 (And.intro hn2 (And.intro QC (And.intro Wo (And.intro Wp Wq)))))
   have HN7:=ahZ Ws
   clear hn1 hn2 QC Wo Wp Wq Ws hm1 hm2 hm3 hm4 hm5 hm6
   obtain ⟨v0,hv0⟩ : ∃ v,w0.alloc (.cells #[.int .i64 3,.int .i64 bi,.int .i64 b1,.int .i64 b2,.int .i64 b3,.int .i64 b4,.int .i64 b5,.int .i64 b6,.int .u16 ba] 147) = v:=⟨_,rfl⟩
   have kN : ak v0 w0.heap.size #[.int .i64 3,.int .i64 bi,.int .i64 b1,.int .i64 b2,.int .i64 b3,.int .i64 b4,.int .i64 b5,.int .i64 b6,.int .u16 ba] 147:=by rw [← hv0];exact ak.new _ _ _
   have qm : ak v0 w.heap.size #[.int .i64 ai,.int .i64 a1,.int .i64 a2,.int .i64 a3,.int .i64 a4,.int .i64 a5,.int .i64 a6,.int .u16 aa,.int .u8 ag] 33:=by rw [← hv0];exact uW.out.alloc _
   have oC : ak v0 (w.heap.size + 1) #[.int .i64 bi,.int .i64 b1,.int .i64 b2,.int .i64 b3,.int .i64 b4,.int .i64 b5,.int .i64 b6,.int .u16 ba,.int .u8 bg] 33:=by rw [← hv0];exact Ng.out.alloc _
   have oW : ak v0 (w.heap.size + 2) #[.int .i64 0,.int .i64 0,.int .i64 0,.int .i64 0,.int .i64 0,.int .i64 0,.int .i64 0,.int .i64 0,.int .u16 0] 147:=by rw [← hv0];exact HZ0.out.alloc _
   have uJ : Below w.heap.size w v0:=by rw [← hv0];exact HB0.out.alloc HB0.out.size _
   have Wt : w.heap.size + 3 <= w0.heap.size:=by rw [zq.out];exact Nat.le_refl _
   have hsv : v0.heap.size = w0.heap.size + 1:=by rw [← hv0];simp
   have c0:=qm.cell 0
   have c1:=qm.cell 1
   have c2:=qm.cell 2
   have c3:=qm.cell 3
   have c4:=qm.cell 4
   have c5:=qm.cell 5
   have c6:=qm.cell 6
   have c7:=qm.cell 7
   have c8:=qm.cell 8
   simp at c0 c1 c2 c3 c4 c5 c6 c7 c8
   have d0:=oC.cell 0
   have d1:=oC.cell 1
   have d2:=oC.cell 2
   have d3:=oC.cell 3
   have d4:=oC.cell 4
   have d5:=oC.cell 5
   have d6:=oC.cell 6
   have d7:=oC.cell 7
   have d8:=oC.cell 8
   simp at d0 d1 d2 d3 d4 d5 d6 d7 d8
   have q0:=kN.cell 0
   have q1:=kN.cell 1
   have q2:=kN.cell 2
   have q3:=kN.cell 3
   have q4:=kN.cell 4
   have q5:=kN.cell 5
   have q6:=kN.cell 6
   have q7:=kN.cell 7
   have q8:=kN.cell 8
   have f0:=kN.free 0
   have f1:=kN.free 1
   have f2:=kN.free 2
   have f3:=kN.free 3
   have f4:=kN.free 4
   have f5:=kN.free 5
   have f6:=kN.free 6
   have f7:=kN.free 7
   have f8:=kN.free 8
   simp at q0 q1 q2 q3 q4 q5 q6 q7 q8
   obtain ⟨v1,hv1⟩ : ∃ v,v0.setCell ⟨w0.heap.size,0,none⟩ (.int .i64 1) = v:=⟨_,rfl⟩
   have hX1 : ak v1 w0.heap.size #[.int .i64 1,.int .i64 bi,.int .i64 b1,.int .i64 b2,.int .i64 b3,.int .i64 b4,.int .i64 b5,.int .i64 b6,.int .u16 ba] 147:=by rw [← hv1];simpa using kN.set 0 (.int .i64 1)
   have hA1 : ak v1 w.heap.size #[.int .i64 ai,.int .i64 a1,.int .i64 a2,.int .i64 a3,.int .i64 a4,.int .i64 a5,.int .i64 a6,.int .u16 aa,.int .u8 ag] 33:=by rw [← hv1];exact qm.far (by show w.heap.size ≠ w0.heap.size;omega) _
   have hE1 : ak v1 (w.heap.size + 1) #[.int .i64 bi,.int .i64 b1,.int .i64 b2,.int .i64 b3,.int .i64 b4,.int .i64 b5,.int .i64 b6,.int .u16 ba,.int .u8 bg] 33:=by rw [← hv1];exact oC.far (by show w.heap.size + 1 ≠ w0.heap.size;omega) _
   have hZ1 : ak v1 (w.heap.size + 2) #[.int .i64 0,.int .i64 0,.int .i64 0,.int .i64 0,.int .i64 0,.int .i64 0,.int .i64 0,.int .i64 0,.int .u16 0] 147:=by rw [← hv1];exact oW.far (by show w.heap.size + 2 ≠ w0.heap.size;omega) _
   have hB1 : Below w.heap.size w v1:=by rw [← hv1];exact uJ.setCell (by show w.heap.size <= w0.heap.size;omega) _
   have hs1 : v1.heap.size = w0.heap.size + 1:=by rw [← hv1];simpa [World.setCell] using hsv
   have ca1:=hA1.cell 1
   have Zw:=hA1.cell 2
   have ca3:=hA1.cell 3
   have ca4:=hA1.cell 4
   have ca5:=hA1.cell 5
   have ca6:=hA1.cell 6
   simp at ca1 Zw ca3 ca4 ca5 ca6
   have gJ:=ahZ hX1
   have HA1:=ahZ hA1
   have zx:=ahZ hE1
   have HZ1:=ahZ hZ1
   have HB1:=ahZ hB1
   have Zx:=ahZ (And.intro Wt hs1)
   have nf:=λX w=>EY X w
   unfold ptrs at nf
   clear kN qm oC oW uJ hX1 hA1 hE1 hZ1 hB1 uW Ng HZ0 HB0 Wt hs1 hsv zq
   go_enter Tryz.func70,Tryz.ntmps70
   go_wp2_with fail
   refine (nf _ _).mono ?_
   rintro e w3 ⟨rfl,hb3⟩
   obtain ⟨v2,hv2⟩ : ∃ v,v1.alloc (.cells #[.int .i64 0,.int .i64 0,.int .i64 a1,.int .i64 a2,.int .i64 a3,.int .i64 a4,.int .i64 a5,.int .i64 a6,.int .u16 0] 147) = v:=⟨_,rfl⟩
   have JA:=ahZ (ak.new v1 #[.int .i64 0,.int .i64 0,.int .i64 a1,.int .i64 a2,.int .i64 a3,.int .i64 a4,.int .i64 a5,.int .i64 a6,.int .u16 0] 147)
   have gy:=ahZ (gJ.out.alloc (.cells #[.int .i64 0,.int .i64 0,.int .i64 a1,.int .i64 a2,.int .i64 a3,.int .i64 a4,.int .i64 a5,.int .i64 a6,.int .u16 0] 147))
   have HA2:=ahZ (HA1.out.alloc (.cells #[.int .i64 0,.int .i64 0,.int .i64 a1,.int .i64 a2,.int .i64 a3,.int .i64 a4,.int .i64 a5,.int .i64 a6,.int .u16 0] 147))
   have HE2:=ahZ (zx.out.alloc (.cells #[.int .i64 0,.int .i64 0,.int .i64 a1,.int .i64 a2,.int .i64 a3,.int .i64 a4,.int .i64 a5,.int .i64 a6,.int .u16 0] 147))
   have HZ2:=ahZ (HZ1.out.alloc (.cells #[.int .i64 0,.int .i64 0,.int .i64 a1,.int .i64 a2,.int .i64 a3,.int .i64 a4,.int .i64 a5,.int .i64 a6,.int .u16 0] 147))
   have HB2:=ahZ (HB1.out.alloc HB1.out.size (.cells #[.int .i64 0,.int .i64 0,.int .i64 a1,.int .i64 a2,.int .i64 a3,.int .i64 a4,.int .i64 a5,.int .i64 a6,.int .u16 0] 147))
   rw [hv2] at gy HA2 HE2 HZ2 HB2 JA hb3
   clear hv2
   have dU:=gy.out.below hb3 gy.out.lt
   have wJ:=JA.out.below hb3 JA.out.lt
   have hA3:=HA2.out.below hb3 HA2.out.lt
   have hE3:=HE2.out.below hb3 HE2.out.lt
   have hZ3:=HZ2.out.below hb3 HZ2.out.lt
   have hB3:=HB2.out.trans (hb3.mono HB2.out.size)
   obtain ⟨v4,hv4⟩ : ∃ v,w3.alloc (.cells #[.pointer (some ⟨v1.heap.size,2,none⟩),.pointer (some ⟨v1.heap.size,3,none⟩),.pointer (some ⟨v1.heap.size,4,none⟩),.pointer (some ⟨v1.heap.size,5,none⟩),.pointer (some ⟨v1.heap.size,6,none⟩),.pointer (some ⟨v1.heap.size,7,none⟩)] 197) = v:=⟨_,rfl⟩
   have hP4 : ak v4 w3.heap.size #[.pointer (some ⟨v1.heap.size,2,none⟩),.pointer (some ⟨v1.heap.size,3,none⟩),.pointer (some ⟨v1.heap.size,4,none⟩),.pointer (some ⟨v1.heap.size,5,none⟩),.pointer (some ⟨v1.heap.size,6,none⟩),.pointer (some ⟨v1.heap.size,7,none⟩)] 197:=by rw [← hv4];exact ak.new _ _ _
   have hs4 : v2.heap.size <= w3.heap.size:=hb3.size
   have dG:=dU.alloc (.cells #[.pointer (some ⟨v1.heap.size,2,none⟩),.pointer (some ⟨v1.heap.size,3,none⟩),.pointer (some ⟨v1.heap.size,4,none⟩),.pointer (some ⟨v1.heap.size,5,none⟩),.pointer (some ⟨v1.heap.size,6,none⟩),.pointer (some ⟨v1.heap.size,7,none⟩)] 197)
   have xO:=wJ.alloc (.cells #[.pointer (some ⟨v1.heap.size,2,none⟩),.pointer (some ⟨v1.heap.size,3,none⟩),.pointer (some ⟨v1.heap.size,4,none⟩),.pointer (some ⟨v1.heap.size,5,none⟩),.pointer (some ⟨v1.heap.size,6,none⟩),.pointer (some ⟨v1.heap.size,7,none⟩)] 197)
   have Zy:=hA3.alloc (.cells #[.pointer (some ⟨v1.heap.size,2,none⟩),.pointer (some ⟨v1.heap.size,3,none⟩),.pointer (some ⟨v1.heap.size,4,none⟩),.pointer (some ⟨v1.heap.size,5,none⟩),.pointer (some ⟨v1.heap.size,6,none⟩),.pointer (some ⟨v1.heap.size,7,none⟩)] 197)
   have Zz:=hE3.alloc (.cells #[.pointer (some ⟨v1.heap.size,2,none⟩),.pointer (some ⟨v1.heap.size,3,none⟩),.pointer (some ⟨v1.heap.size,4,none⟩),.pointer (some ⟨v1.heap.size,5,none⟩),.pointer (some ⟨v1.heap.size,6,none⟩),.pointer (some ⟨v1.heap.size,7,none⟩)] 197)
   have ZA:=hZ3.alloc (.cells #[.pointer (some ⟨v1.heap.size,2,none⟩),.pointer (some ⟨v1.heap.size,3,none⟩),.pointer (some ⟨v1.heap.size,4,none⟩),.pointer (some ⟨v1.heap.size,5,none⟩),.pointer (some ⟨v1.heap.size,6,none⟩),.pointer (some ⟨v1.heap.size,7,none⟩)] 197)
   have hB4:=hB3.alloc hB3.size (.cells #[.pointer (some ⟨v1.heap.size,2,none⟩),.pointer (some ⟨v1.heap.size,3,none⟩),.pointer (some ⟨v1.heap.size,4,none⟩),.pointer (some ⟨v1.heap.size,5,none⟩),.pointer (some ⟨v1.heap.size,6,none⟩),.pointer (some ⟨v1.heap.size,7,none⟩)] 197)
   rw [hv4] at dG xO Zy Zz ZA hB4
   have ZB:=ahZ hP4
   have Fa:=ahZ dG
   have ZC:=ahZ xO
   have MP:=ahZ Zy
   have Nh:=ahZ Zz
   have ZE:=ahZ ZA
   have gF:=ahZ hB4
   have HLY : Hid (v1.heap.size < v2.heap.size):=ahZ JA.out.lt
   clear hb3 dU wJ hA3 hE3 hZ3 hB3 hP4 dG xO Zy Zz ZA hB4 gy JA HA2 HE2 HZ2 HB2
   go_wp2_with fail
   refine (nf _ _).mono ?_
   rintro e w5 ⟨rfl,hb5⟩
   obtain ⟨cl,hcl⟩ : ∃ c : List (Array Value),c = [#[.int .i64 1,.int .i64 bi,.int .i64 b1,.int .i64 b2,.int .i64 b3,.int .i64 b4,.int .i64 b5,.int .i64 b6,.int .u16 ba],#[.int .i64 1,.int .i64 bi,.int .i64 n1,.int .i64 b2,.int .i64 b3,.int .i64 b4,.int .i64 b5,.int .i64 b6,.int .u16 ba],#[.int .i64 1,.int .i64 bi,.int .i64 n1,.int .i64 n2,.int .i64 b3,.int .i64 b4,.int .i64 b5,.int .i64 b6,.int .u16 ba],#[.int .i64 1,.int .i64 bi,.int .i64 n1,.int .i64 n2,.int .i64 n3,.int .i64 b4,.int .i64 b5,.int .i64 b6,.int .u16 ba],#[.int .i64 1,.int .i64 bi,.int .i64 n1,.int .i64 n2,.int .i64 n3,.int .i64 n4,.int .i64 b5,.int .i64 b6,.int .u16 ba],#[.int .i64 1,.int .i64 bi,.int .i64 n1,.int .i64 n2,.int .i64 n3,.int .i64 n4,.int .i64 n5,.int .i64 b6,.int .u16 ba],#[.int .i64 1,.int .i64 bi,.int .i64 n1,.int .i64 n2,.int .i64 n3,.int .i64 n4,.int .i64 n5,.int .i64 n6,.int .u16 ba]]:=⟨_,rfl⟩
   have Kv:=ahZ hcl
   have HST : Hid (xM w w0.heap.size v1.heap.size w3.heap.size #[.int .i64 ai,.int .i64 a1,.int .i64 a2,.int .i64 a3,.int .i64 a4,.int .i64 a5,.int .i64 a6,.int .u16 aa,.int .u8 ag] #[.int .i64 bi,.int .i64 b1,.int .i64 b2,.int .i64 b3,.int .i64 b4,.int .i64 b5,.int .i64 b6,.int .u16 ba,.int .u8 bg] #[.int .i64 0,.int .i64 0,.int .i64 a1,.int .i64 a2,.int .i64 a3,.int .i64 a4,.int .i64 a5,.int .i64 a6,.int .u16 0] cl 0 w5):=ahZ ⟨_,by rw [hcl];rfl,Fa.out.below hb5 Fa.out.lt,ZC.out.below hb5 ZC.out.lt,ZB.out.below hb5 ZB.out.lt,MP.out.below hb5 MP.out.lt,Nh.out.below hb5 Nh.out.lt,ZE.out.below hb5 ZE.out.lt,gF.out.trans (hb5.mono gF.out.size)⟩
   have nO : Hid (w.heap.size + 3 <= w0.heap.size /\ w0.heap.size < v1.heap.size /\ v1.heap.size < w3.heap.size):=ahZ ⟨Zx.out.1,by rw [Zx.out.2];omega,by have:=HLY.out;omega⟩
   clear hb5 hcl Fa ZC ZB MP Nh ZE gF Zx HLY hs4 nf
   generalize w0.heap.size = X at *
   generalize v1.heap.size = Y at *
   generalize w3.heap.size = P at *
   go_wp2_with fail
   go_loopw [37] (λi wr=>∃ k : Nat,k <= 6 /\ i = .int .i64 k /\ xM w X Y P #[.int .i64 ai,.int .i64 a1,.int .i64 a2,.int .i64 a3,.int .i64 a4,.int .i64 a5,.int .i64 a6,.int .u16 aa,.int .u8 ag] #[.int .i64 bi,.int .i64 b1,.int .i64 b2,.int .i64 b3,.int .i64 b4,.int .i64 b5,.int .i64 b6,.int .u16 ba,.int .u8 bg] #[.int .i64 0,.int .i64 0,.int .i64 a1,.int .i64 a2,.int .i64 a3,.int .i64 a4,.int .i64 a5,.int .i64 a6,.int .u16 0] cl k wr) (λi _=>6 - (intOf i).toNat)
   case atStart=>exact ⟨0,by omega,rfl,HST.out⟩
   case round =>
    rename_i wr
    obtain ⟨k,hk,rfl,q,hq,hX,hY,hP,hA,hE,hZ,hB⟩:=hrel
    rw [Kv.out] at hq
    obtain ⟨nXa,nXY,nYP⟩:=nO.out
    rcases (show k = 0 \/ k = 1 \/ k = 2 \/ k = 3 \/ k = 4 \/ k = 5 \/ k = 6 by omega) with rfl | rfl | rfl | rfl | rfl | rfl | rfl
    ·cases hq
     have x0:=hX.cell 2
     have o0:=hY.cell 2
     have p0:=hP.cell 0
     simp at x0 o0 p0
     have HX:=ahZ hX
     have HY:=ahZ hY
     have HP:=ahZ hP
     have HA:=ahZ hA
     have HE:=ahZ hE
     have HZ:=ahZ hZ
     have HB:=ahZ hB
     have hn:=HN.out.1
     clear hX hY hP hA hE hZ hB
     go_wp2_with fail
     refine aR 10 (by kernel_rfl) (by kernel_rfl) ?_
     simp only [List.take_succ_cons,List.take_zero,List.drop_succ_cons,List.drop_zero]
     repeat (apply aB;(next=>(intro W hW K hK;have y0:=hW.cell x0;have y1:=hW.cell o0;have y2:=hW.cell p0;go_simp;first | exact ⟨hW,hK⟩ | exact hK));(next=>exact aO.self _);(try go_simp))
     refine aW ?_
     intro WC aM
     have aV : Below wr.heap.size wr WC:=aM
     have hX1:=HX.out.below aV HX.out.lt
     have f0:=hX1.free 2
     have x1:=hX1.cell 2
     simp at x1
     have HS2 : Hid (xM w X Y P #[.int .i64 ai,.int .i64 a1,.int .i64 a2,.int .i64 a3,.int .i64 a4,.int .i64 a5,.int .i64 a6,.int .u16 aa,.int .u8 ag] #[.int .i64 bi,.int .i64 b1,.int .i64 b2,.int .i64 b3,.int .i64 b4,.int .i64 b5,.int .i64 b6,.int .u16 ba,.int .u8 bg] #[.int .i64 0,.int .i64 0,.int .i64 a1,.int .i64 a2,.int .i64 a3,.int .i64 a4,.int .i64 a5,.int .i64 a6,.int .u16 0] cl 1 (WC.setCell ⟨X,2,none⟩ (.int .i64 n1))):=ahZ ⟨_,by rw [Kv.out];rfl,by simpa using hX1.set 2 (.int .i64 n1),(HY.out.below aV HY.out.lt).far (by show Y ≠ X;omega) _,(HP.out.below aV HP.out.lt).far (by show P ≠ X;omega) _,(HA.out.below aV HA.out.lt).far (by show w.heap.size ≠ X;omega) _,(HE.out.below aV HE.out.lt).far (by show w.heap.size + 1 ≠ X;omega) _,(HZ.out.below aV HZ.out.lt).far (by show w.heap.size + 2 ≠ X;omega) _,(HB.out.trans (aV.mono HB.out.size)).setCell (by show w.heap.size <= X;omega) _⟩
     clear aM aV hX1 x0 o0 p0 HX HY HP HA HE HZ HB
     go_wp2
     go_roundw
     case rel=>exact ⟨1,by omega,by first | rfl | go_num,HS2.out⟩
     case measure=>simp [intOf]
    ·cases hq
     have x0:=hX.cell 3
     have o0:=hY.cell 3
     have p0:=hP.cell 1
     simp at x0 o0 p0
     have HX:=ahZ hX
     have HY:=ahZ hY
     have HP:=ahZ hP
     have HA:=ahZ hA
     have HE:=ahZ hE
     have HZ:=ahZ hZ
     have HB:=ahZ hB
     have hn:=HN.out.2.1
     clear hX hY hP hA hE hZ hB
     go_wp2_with fail
     refine aR 10 (by kernel_rfl) (by kernel_rfl) ?_
     simp only [List.take_succ_cons,List.take_zero,List.drop_succ_cons,List.drop_zero]
     repeat (apply aB;(next=>(intro W hW K hK;have y0:=hW.cell x0;have y1:=hW.cell o0;have y2:=hW.cell p0;go_simp;first | exact ⟨hW,hK⟩ | exact hK));(next=>exact aO.self _);(try go_simp))
     refine aW ?_
     intro WC aM
     have aV : Below wr.heap.size wr WC:=aM
     have hX1:=HX.out.below aV HX.out.lt
     have f0:=hX1.free 3
     have x1:=hX1.cell 3
     simp at x1
     have HS2 : Hid (xM w X Y P #[.int .i64 ai,.int .i64 a1,.int .i64 a2,.int .i64 a3,.int .i64 a4,.int .i64 a5,.int .i64 a6,.int .u16 aa,.int .u8 ag] #[.int .i64 bi,.int .i64 b1,.int .i64 b2,.int .i64 b3,.int .i64 b4,.int .i64 b5,.int .i64 b6,.int .u16 ba,.int .u8 bg] #[.int .i64 0,.int .i64 0,.int .i64 a1,.int .i64 a2,.int .i64 a3,.int .i64 a4,.int .i64 a5,.int .i64 a6,.int .u16 0] cl 2 (WC.setCell ⟨X,3,none⟩ (.int .i64 n2))):=ahZ ⟨_,by rw [Kv.out];rfl,by simpa using hX1.set 3 (.int .i64 n2),(HY.out.below aV HY.out.lt).far (by show Y ≠ X;omega) _,(HP.out.below aV HP.out.lt).far (by show P ≠ X;omega) _,(HA.out.below aV HA.out.lt).far (by show w.heap.size ≠ X;omega) _,(HE.out.below aV HE.out.lt).far (by show w.heap.size + 1 ≠ X;omega) _,(HZ.out.below aV HZ.out.lt).far (by show w.heap.size + 2 ≠ X;omega) _,(HB.out.trans (aV.mono HB.out.size)).setCell (by show w.heap.size <= X;omega) _⟩
     clear aM aV hX1 x0 o0 p0 HX HY HP HA HE HZ HB
     go_wp2
     go_roundw
     case rel=>exact ⟨2,by omega,by first | rfl | go_num,HS2.out⟩
     case measure=>simp [intOf]
    ·cases hq
     have x0:=hX.cell 4
     have o0:=hY.cell 4
     have p0:=hP.cell 2
     simp at x0 o0 p0
     have HX:=ahZ hX
     have HY:=ahZ hY
     have HP:=ahZ hP
     have HA:=ahZ hA
     have HE:=ahZ hE
     have HZ:=ahZ hZ
     have HB:=ahZ hB
     have hn:=HN.out.2.2.1
     clear hX hY hP hA hE hZ hB
     go_wp2_with fail
     refine aR 10 (by kernel_rfl) (by kernel_rfl) ?_
     simp only [List.take_succ_cons,List.take_zero,List.drop_succ_cons,List.drop_zero]
     repeat (apply aB;(next=>(intro W hW K hK;have y0:=hW.cell x0;have y1:=hW.cell o0;have y2:=hW.cell p0;go_simp;first | exact ⟨hW,hK⟩ | exact hK));(next=>exact aO.self _);(try go_simp))
     refine aW ?_
     intro WC aM
     have aV : Below wr.heap.size wr WC:=aM
     have hX1:=HX.out.below aV HX.out.lt
     have f0:=hX1.free 4
     have x1:=hX1.cell 4
     simp at x1
     have HS2 : Hid (xM w X Y P #[.int .i64 ai,.int .i64 a1,.int .i64 a2,.int .i64 a3,.int .i64 a4,.int .i64 a5,.int .i64 a6,.int .u16 aa,.int .u8 ag] #[.int .i64 bi,.int .i64 b1,.int .i64 b2,.int .i64 b3,.int .i64 b4,.int .i64 b5,.int .i64 b6,.int .u16 ba,.int .u8 bg] #[.int .i64 0,.int .i64 0,.int .i64 a1,.int .i64 a2,.int .i64 a3,.int .i64 a4,.int .i64 a5,.int .i64 a6,.int .u16 0] cl 3 (WC.setCell ⟨X,4,none⟩ (.int .i64 n3))):=ahZ ⟨_,by rw [Kv.out];rfl,by simpa using hX1.set 4 (.int .i64 n3),(HY.out.below aV HY.out.lt).far (by show Y ≠ X;omega) _,(HP.out.below aV HP.out.lt).far (by show P ≠ X;omega) _,(HA.out.below aV HA.out.lt).far (by show w.heap.size ≠ X;omega) _,(HE.out.below aV HE.out.lt).far (by show w.heap.size + 1 ≠ X;omega) _,(HZ.out.below aV HZ.out.lt).far (by show w.heap.size + 2 ≠ X;omega) _,(HB.out.trans (aV.mono HB.out.size)).setCell (by show w.heap.size <= X;omega) _⟩
     clear aM aV hX1 x0 o0 p0 HX HY HP HA HE HZ HB
     go_wp2
     go_roundw
     case rel=>exact ⟨3,by omega,by first | rfl | go_num,HS2.out⟩
     case measure=>simp [intOf]
    ·cases hq
     have x0:=hX.cell 5
     have o0:=hY.cell 5
     have p0:=hP.cell 3
     simp at x0 o0 p0
     have HX:=ahZ hX
     have HY:=ahZ hY
     have HP:=ahZ hP
     have HA:=ahZ hA
     have HE:=ahZ hE
     have HZ:=ahZ hZ
     have HB:=ahZ hB
     have hn:=HN.out.2.2.2.1
     clear hX hY hP hA hE hZ hB
     go_wp2_with fail
     refine aR 10 (by kernel_rfl) (by kernel_rfl) ?_
     simp only [List.take_succ_cons,List.take_zero,List.drop_succ_cons,List.drop_zero]
     repeat (apply aB;(next=>(intro W hW K hK;have y0:=hW.cell x0;have y1:=hW.cell o0;have y2:=hW.cell p0;go_simp;first | exact ⟨hW,hK⟩ | exact hK));(next=>exact aO.self _);(try go_simp))
     refine aW ?_
     intro WC aM
     have aV : Below wr.heap.size wr WC:=aM
     have hX1:=HX.out.below aV HX.out.lt
     have f0:=hX1.free 5
     have x1:=hX1.cell 5
     simp at x1
     have HS2 : Hid (xM w X Y P #[.int .i64 ai,.int .i64 a1,.int .i64 a2,.int .i64 a3,.int .i64 a4,.int .i64 a5,.int .i64 a6,.int .u16 aa,.int .u8 ag] #[.int .i64 bi,.int .i64 b1,.int .i64 b2,.int .i64 b3,.int .i64 b4,.int .i64 b5,.int .i64 b6,.int .u16 ba,.int .u8 bg] #[.int .i64 0,.int .i64 0,.int .i64 a1,.int .i64 a2,.int .i64 a3,.int .i64 a4,.int .i64 a5,.int .i64 a6,.int .u16 0] cl 4 (WC.setCell ⟨X,5,none⟩ (.int .i64 n4))):=ahZ ⟨_,by rw [Kv.out];rfl,by simpa using hX1.set 5 (.int .i64 n4),(HY.out.below aV HY.out.lt).far (by show Y ≠ X;omega) _,(HP.out.below aV HP.out.lt).far (by show P ≠ X;omega) _,(HA.out.below aV HA.out.lt).far (by show w.heap.size ≠ X;omega) _,(HE.out.below aV HE.out.lt).far (by show w.heap.size + 1 ≠ X;omega) _,(HZ.out.below aV HZ.out.lt).far (by show w.heap.size + 2 ≠ X;omega) _,(HB.out.trans (aV.mono HB.out.size)).setCell (by show w.heap.size <= X;omega) _⟩
     clear aM aV hX1 x0 o0 p0 HX HY HP HA HE HZ HB
     go_wp2
     go_roundw
     case rel=>exact ⟨4,by omega,by first | rfl | go_num,HS2.out⟩
     case measure=>simp [intOf]
    ·cases hq
     have x0:=hX.cell 6
     have o0:=hY.cell 6
     have p0:=hP.cell 4
     simp at x0 o0 p0
     have HX:=ahZ hX
     have HY:=ahZ hY
     have HP:=ahZ hP
     have HA:=ahZ hA
     have HE:=ahZ hE
     have HZ:=ahZ hZ
     have HB:=ahZ hB
     have hn:=HN.out.2.2.2.2.1
     clear hX hY hP hA hE hZ hB
     go_wp2_with fail
     refine aR 10 (by kernel_rfl) (by kernel_rfl) ?_
     simp only [List.take_succ_cons,List.take_zero,List.drop_succ_cons,List.drop_zero]
     repeat (apply aB;(next=>(intro W hW K hK;have y0:=hW.cell x0;have y1:=hW.cell o0;have y2:=hW.cell p0;go_simp;first | exact ⟨hW,hK⟩ | exact hK));(next=>exact aO.self _);(try go_simp))
     refine aW ?_
     intro WC aM
     have aV : Below wr.heap.size wr WC:=aM
     have hX1:=HX.out.below aV HX.out.lt
     have f0:=hX1.free 6
     have x1:=hX1.cell 6
     simp at x1
     have HS2 : Hid (xM w X Y P #[.int .i64 ai,.int .i64 a1,.int .i64 a2,.int .i64 a3,.int .i64 a4,.int .i64 a5,.int .i64 a6,.int .u16 aa,.int .u8 ag] #[.int .i64 bi,.int .i64 b1,.int .i64 b2,.int .i64 b3,.int .i64 b4,.int .i64 b5,.int .i64 b6,.int .u16 ba,.int .u8 bg] #[.int .i64 0,.int .i64 0,.int .i64 a1,.int .i64 a2,.int .i64 a3,.int .i64 a4,.int .i64 a5,.int .i64 a6,.int .u16 0] cl 5 (WC.setCell ⟨X,6,none⟩ (.int .i64 n5))):=ahZ ⟨_,by rw [Kv.out];rfl,by simpa using hX1.set 6 (.int .i64 n5),(HY.out.below aV HY.out.lt).far (by show Y ≠ X;omega) _,(HP.out.below aV HP.out.lt).far (by show P ≠ X;omega) _,(HA.out.below aV HA.out.lt).far (by show w.heap.size ≠ X;omega) _,(HE.out.below aV HE.out.lt).far (by show w.heap.size + 1 ≠ X;omega) _,(HZ.out.below aV HZ.out.lt).far (by show w.heap.size + 2 ≠ X;omega) _,(HB.out.trans (aV.mono HB.out.size)).setCell (by show w.heap.size <= X;omega) _⟩
     clear aM aV hX1 x0 o0 p0 HX HY HP HA HE HZ HB
     go_wp2
     go_roundw
     case rel=>exact ⟨5,by omega,by first | rfl | go_num,HS2.out⟩
     case measure=>simp [intOf]
    ·cases hq
     have x0:=hX.cell 7
     have o0:=hY.cell 7
     have p0:=hP.cell 5
     simp at x0 o0 p0
     have HX:=ahZ hX
     have HY:=ahZ hY
     have HP:=ahZ hP
     have HA:=ahZ hA
     have HE:=ahZ hE
     have HZ:=ahZ hZ
     have HB:=ahZ hB
     have hn:=HN.out.2.2.2.2.2
     clear hX hY hP hA hE hZ hB
     go_wp2_with fail
     refine aR 10 (by kernel_rfl) (by kernel_rfl) ?_
     simp only [List.take_succ_cons,List.take_zero,List.drop_succ_cons,List.drop_zero]
     repeat (apply aB;(next=>(intro W hW K hK;have y0:=hW.cell x0;have y1:=hW.cell o0;have y2:=hW.cell p0;go_simp;first | exact ⟨hW,hK⟩ | exact hK));(next=>exact aO.self _);(try go_simp))
     refine aW ?_
     intro WC aM
     have aV : Below wr.heap.size wr WC:=aM
     have hX1:=HX.out.below aV HX.out.lt
     have f0:=hX1.free 7
     have x1:=hX1.cell 7
     simp at x1
     have HS2 : Hid (xM w X Y P #[.int .i64 ai,.int .i64 a1,.int .i64 a2,.int .i64 a3,.int .i64 a4,.int .i64 a5,.int .i64 a6,.int .u16 aa,.int .u8 ag] #[.int .i64 bi,.int .i64 b1,.int .i64 b2,.int .i64 b3,.int .i64 b4,.int .i64 b5,.int .i64 b6,.int .u16 ba,.int .u8 bg] #[.int .i64 0,.int .i64 0,.int .i64 a1,.int .i64 a2,.int .i64 a3,.int .i64 a4,.int .i64 a5,.int .i64 a6,.int .u16 0] cl 6 (WC.setCell ⟨X,7,none⟩ (.int .i64 n6))):=ahZ ⟨_,by rw [Kv.out];rfl,by simpa using hX1.set 7 (.int .i64 n6),(HY.out.below aV HY.out.lt).far (by show Y ≠ X;omega) _,(HP.out.below aV HP.out.lt).far (by show P ≠ X;omega) _,(HA.out.below aV HA.out.lt).far (by show w.heap.size ≠ X;omega) _,(HE.out.below aV HE.out.lt).far (by show w.heap.size + 1 ≠ X;omega) _,(HZ.out.below aV HZ.out.lt).far (by show w.heap.size + 2 ≠ X;omega) _,(HB.out.trans (aV.mono HB.out.size)).setCell (by show w.heap.size <= X;omega) _⟩
     clear aM aV hX1 x0 o0 p0 HX HY HP HA HE HZ HB
     go_wp2
     go_roundw
     case rel=>exact ⟨6,by omega,by first | rfl | go_num,HS2.out⟩
     case measure=>simp [intOf]
    ·cases hq
     have x0:=hX.cell 0
     have x1:=hX.cell 1
     have x2:=hX.cell 2
     have x3:=hX.cell 3
     have x4:=hX.cell 4
     have x5:=hX.cell 5
     have x6:=hX.cell 6
     have x7:=hX.cell 7
     have x8:=hX.cell 8
     simp at x0 x1 x2 x3 x4 x5 x6 x7 x8
     have a7:=hA.cell 7
     have g7:=hX.free 8
     simp at a7
     have Ws:=HN7.out
     have hX2:=hX.set 8 (.int .u16 n7)
     have HZ2:=ahZ (hZ.far (p:=⟨X,8,none⟩) (by show w.heap.size + 2 ≠ X;omega) (.int .u16 n7))
     have HB2:=ahZ (hB.setCell (p:=⟨X,8,none⟩) (by show w.heap.size <= X;omega) (.int .u16 n7))
     have hZ2:=HZ2.out
     simp at hX2
     have e0:=hX2.cell 0
     have e1:=hX2.cell 1
     have e2:=hX2.cell 2
     have e3:=hX2.cell 3
     have e4:=hX2.cell 4
     have e5:=hX2.cell 5
     have e6:=hX2.cell 6
     have e7:=hX2.cell 7
     have e8:=hX2.cell 8
     simp at e0 e1 e2 e3 e4 e5 e6 e7 e8
     have z0:=hZ2.cell 0
     have z1:=hZ2.cell 1
     have z2:=hZ2.cell 2
     have z3:=hZ2.cell 3
     have z4:=hZ2.cell 4
     have z5:=hZ2.cell 5
     have z6:=hZ2.cell 6
     have z7:=hZ2.cell 7
     have z8:=hZ2.cell 8
     have y0:=hZ2.free 0
     have y1:=hZ2.free 1
     have y2:=hZ2.free 2
     have y3:=hZ2.free 3
     have y4:=hZ2.free 4
     have y5:=hZ2.free 5
     have y6:=hZ2.free 6
     have y7:=hZ2.free 7
     have y8:=hZ2.free 8
     simp at z0 z1 z2 z3 z4 z5 z6 z7 z8
     clear hX hX2 hY hP hA hE hZ hB hZ2
     go_wp2
     exact bodyPost_ret (v:=.tuple #[.agg #[.int .i64 1,.int .i64 bi,.int .i64 n1,.int .i64 n2,.int .i64 n3,.int .i64 n4,.int .i64 n5,.int .i64 n6,.int .u16 n7],.bool true])
      (by
        have hh:=mD (v0:=.int .i64 1) (v1:=.int .i64 bi) (v2:=.int .i64 n1) (v3:=.int .i64 n2) (v4:=.int .i64 n3) (v5:=.int .i64 n4) (v6:=.int .i64 n5) (v7:=.int .i64 n6) (v8:=.int .u16 n7) HZ2.out
        have g0:=hh.cell 0
        have g1:=hh.cell 1
        have g2:=hh.cell 2
        have g3:=hh.cell 3
        have g4:=hh.cell 4
        have g5:=hh.cell 5
        have g6:=hh.cell 6
        have g7:=hh.cell 7
        have g8:=hh.cell 8
        simp at g0 g1 g2 g3 g4 g5 g6 g7 g8
        simp [results,Tryz.results70,go_sem,g0,g1,g2,g3,g4,g5,g6,g7,g8]) rfl
      ⟨by rw [Fu.out];rfl,Gt HB2.out (by omega)⟩
  ·have hg2 : (ag == bg) = false:=by simpa using hg
   have Fu : Hid (z = (⟨3,bi,b1,b2,b3,b4,b5,b6,ba⟩,true)):=ahZ (by rw [HV.out,if_neg hg])
   clear HV
   obtain ⟨v0,hv0⟩ : ∃ v,w0.alloc (.cells #[.int .i64 3,.int .i64 bi,.int .i64 b1,.int .i64 b2,.int .i64 b3,.int .i64 b4,.int .i64 b5,.int .i64 b6,.int .u16 ba] 147) = v:=⟨_,rfl⟩
   have kN : ak v0 w0.heap.size #[.int .i64 3,.int .i64 bi,.int .i64 b1,.int .i64 b2,.int .i64 b3,.int .i64 b4,.int .i64 b5,.int .i64 b6,.int .u16 ba] 147:=by rw [← hv0];exact ak.new _ _ _
   have qm : ak v0 w.heap.size #[.int .i64 ai,.int .i64 a1,.int .i64 a2,.int .i64 a3,.int .i64 a4,.int .i64 a5,.int .i64 a6,.int .u16 aa,.int .u8 ag] 33:=by rw [← hv0];exact uW.out.alloc _
   have oC : ak v0 (w.heap.size + 1) #[.int .i64 bi,.int .i64 b1,.int .i64 b2,.int .i64 b3,.int .i64 b4,.int .i64 b5,.int .i64 b6,.int .u16 ba,.int .u8 bg] 33:=by rw [← hv0];exact Ng.out.alloc _
   have oW : ak v0 (w.heap.size + 2) #[.int .i64 0,.int .i64 0,.int .i64 0,.int .i64 0,.int .i64 0,.int .i64 0,.int .i64 0,.int .i64 0,.int .u16 0] 147:=by rw [← hv0];exact HZ0.out.alloc _
   have uJ : Below w.heap.size w v0:=by rw [← hv0];exact HB0.out.alloc HB0.out.size _
   have Wt : w.heap.size + 3 <= w0.heap.size:=by rw [zq.out];exact Nat.le_refl _
   have hsv : v0.heap.size = w0.heap.size + 1:=by rw [← hv0];simp
   have c0:=qm.cell 0
   have c1:=qm.cell 1
   have c2:=qm.cell 2
   have c3:=qm.cell 3
   have c4:=qm.cell 4
   have c5:=qm.cell 5
   have c6:=qm.cell 6
   have c7:=qm.cell 7
   have c8:=qm.cell 8
   simp at c0 c1 c2 c3 c4 c5 c6 c7 c8
   have d0:=oC.cell 0
   have d1:=oC.cell 1
   have d2:=oC.cell 2
   have d3:=oC.cell 3
   have d4:=oC.cell 4
   have d5:=oC.cell 5
   have d6:=oC.cell 6
   have d7:=oC.cell 7
   have d8:=oC.cell 8
   simp at d0 d1 d2 d3 d4 d5 d6 d7 d8
   have q0:=kN.cell 0
   have q1:=kN.cell 1
   have q2:=kN.cell 2
   have q3:=kN.cell 3
   have q4:=kN.cell 4
   have q5:=kN.cell 5
   have q6:=kN.cell 6
   have q7:=kN.cell 7
   have q8:=kN.cell 8
   simp at q0 q1 q2 q3 q4 q5 q6 q7 q8
   have z0:=oW.cell 0
   have z1:=oW.cell 1
   have z2:=oW.cell 2
   have z3:=oW.cell 3
   have z4:=oW.cell 4
   have z5:=oW.cell 5
   have z6:=oW.cell 6
   have z7:=oW.cell 7
   have z8:=oW.cell 8
   have y0:=oW.free 0
   have y1:=oW.free 1
   have y2:=oW.free 2
   have y3:=oW.free 3
   have y4:=oW.free 4
   have y5:=oW.free 5
   have y6:=oW.free 6
   have y7:=oW.free 7
   have y8:=oW.free 8
   simp at z0 z1 z2 z3 z4 z5 z6 z7 z8
   have HZ1:=ahZ oW
   have HB1:=ahZ uJ
   clear kN qm oC oW uJ uW Ng HZ0 HB0 Wt hsv zq
   go_enter Tryz.func70,Tryz.ntmps70
   go_wp2
   exact bodyPost_ret (v:=.tuple #[.agg #[.int .i64 3,.int .i64 bi,.int .i64 b1,.int .i64 b2,.int .i64 b3,.int .i64 b4,.int .i64 b5,.int .i64 b6,.int .u16 ba],.bool true])
    (by
      have hh:=mD (v0:=.int .i64 3) (v1:=.int .i64 bi) (v2:=.int .i64 b1) (v3:=.int .i64 b2) (v4:=.int .i64 b3) (v5:=.int .i64 b4) (v6:=.int .i64 b5) (v7:=.int .i64 b6) (v8:=.int .u16 ba) HZ1.out
      have g0:=hh.cell 0
      have g1:=hh.cell 1
      have g2:=hh.cell 2
      have g3:=hh.cell 3
      have g4:=hh.cell 4
      have g5:=hh.cell 5
      have g6:=hh.cell 6
      have g7:=hh.cell 7
      have g8:=hh.cell 8
      simp at g0 g1 g2 g3 g4 g5 g6 g7 g8
      simp [results,Tryz.results70,go_sem,g0,g1,g2,g3,g4,g5,g6,g7,g8]) rfl
    ⟨by rw [Fu.out];rfl,Gt HB1.out (by omega)⟩
 ·have HV : Hid (z = (OV,false)):=ahZ (by rw [HZ.out,if_pos rfl])
  clear HZ
  go_enter Tryz.func70,Tryz.ntmps70
  go_wp2
  exact bodyPost_ret (v:=.tuple #[.agg #[.int .i64 0,.int .i64 0,.int .i64 0,.int .i64 0,.int .i64 0,.int .i64 0,.int .i64 0,.int .i64 0,.int .u16 0],.bool false])
   (by
     have hh:=mD (v0:=.int .i64 0) (v1:=.int .i64 0) (v2:=.int .i64 0) (v3:=.int .i64 0) (v4:=.int .i64 0) (v5:=.int .i64 0) (v6:=.int .i64 0) (v7:=.int .i64 0) (v8:=.int .u16 0) HZ0.out
     have g0:=hh.cell 0
     have g1:=hh.cell 1
     have g2:=hh.cell 2
     have g3:=hh.cell 3
     have g4:=hh.cell 4
     have g5:=hh.cell 5
     have g6:=hh.cell 6
     have g7:=hh.cell 7
     have g8:=hh.cell 8
     simp at g0 g1 g2 g3 g4 g5 g6 g7 g8
     simp [results,Tryz.results70,go_sem,g0,g1,g2,g3,g4,g5,g6,g7,g8]) rfl
   ⟨by rw [HV.out];rfl,Gt HB0.out (by omega)⟩
end Go.Proofs.YtklkooeimkedgaaGreat
