/- Walk of TopDeltas. -/
import Derived.Laws.EntriesVeiled
import Derived.Test.YtklkooeimkedgaaGreatD33
import Derived.Test.YtklkooeimkedgaaGreatD34
set_option linter.unusedVariables false
set_option linter.unusedSimpArgs false
namespace Go.Proofs.YtklkooeimkedgaaGreat
open Go.RowKit
set_option maxRecDepth 8000
@[go_sem] theorem acu (w : World) (n : Nat) (o : Obj) : (w.drewN n).alloc o = (w.alloc o).drewN n:=rfl
abbrev tJ (f : FuncId) : Value:=.func (.func f) #[] #[]
set_option maxHeartbeats 1000000 in
theorem NC (w : World) :
 Calls Tryz.prog 112 #[] w λe w'=>e = .returned (.agg #[tJ 154,tJ 155,tJ 156,tJ 157,tJ 152,tJ 153,tJ 154,tJ 155]) /\ Below w.heap.size w w':=by
 have HB : ∀ A B t1 t2,Hid (Below w.heap.size w ((w.alloc (.cells A t1)).alloc (.cells B t2))):=λA B t1 t2=>ajK ((ajL).alloc (by simp) _)
 go_enter Tryz.func112,Tryz.ntmps112
 go_wp2
 exact bodyPost_ret (v:=.agg #[tJ 154,tJ 155,tJ 156,tJ 157,tJ 152,tJ 153,tJ 154,tJ 155]) (by simp [results,Tryz.results112,go_sem]) rfl ⟨rfl,(HB _ _ _ _).out⟩
set_option maxRecDepth 8000
def nM (r : Rec) : Int:=(if r.px ≠ 0 then 1 else 0) + (if r.py ≠ 0 then 2 else 0) + (if r.pz ≠ 0 then 4 else 0) + (if r.vx ≠ 0 then 8 else 0) + (if r.vy ≠ 0 then 16 else 0) + (if r.vz ≠ 0 then 32 else 0) + (if r.aG ≠ 0 then 64 else 0)
def rA (r : Rec) : List Int:=[nM r] ++ nb ((aj r).filter (· ≠ 0)) ++ (if r.aG ≠ 0 then aB r.aG else [])
def mK (r : Rec) : List Int:=if r.kind = 2 then [] else if r.kind = 1 then rA r else nb (aj r) ++ aB r.aG
def gV (r : Rec) (last : Int) : Int:=if dG r ≠ 0 then dG r else if last < -1 \/ 65535 < last then 3 else if r.id <= last then 10 else 0
def kF (r : Rec) (last : Int) : List Int:=aB (r.id - last - 1) ++ [r.kind] ++ mK r
set_option maxHeartbeats 1000000 in
theorem YK (r : Rec) (last : Int) (w : World) (h : gV r last ≠ 0) :
 Calls Tryz.prog 75 #[mg r,.int .i64 last] w λe w'=>e = .returned (.tuple #[.slice none 0 0,.int .i64 (gV r last)]) /\ Below w.heap.size w w':=by
 have ck:=λw=>KE r w
 have HE : Hid (gV r last = if dG r ≠ 0 then dG r else if last < -1 \/ 65535 < last then 3 else if r.id <= last then 10 else 0):=ajK rfl
 generalize gV r last = er at *
 generalize dG r = ce at *
 obtain ⟨k,id,px,py,pz,vx,vy,vz,an⟩:=r
 unfold mg at *
 simp only at *
 have HB : Hid (Below w.heap.size w (w.alloc (.cells #[.int .i64 k,.int .i64 id,.int .i64 px,.int .i64 py,.int .i64 pz,.int .i64 vx,.int .i64 vy,.int .i64 vz,.int .u16 an] 147))):=ajK (ajL)
 go_enter Tryz.func75,Tryz.ntmps75
 go_wp2_with fail
 refine (ck _).mono ?_;rintro e w1 ⟨rfl,hb1⟩
 have HB1:=ajK (HB.out.trans (hb1.mono (by simp)))
 have c1:=hb1.cell (p:=⟨w.heap.size,1,none⟩) (by simp)
 simp at c1;clear hb1 ck
 by_cases hce : ce = 0
 ·subst hce
  by_cases hl : last < -1 \/ 65535 < last
  ·have HV : Hid (er = 3):=ajK (by rw [HE.out,if_neg (by simp),if_pos hl])
   clear HE h
   rcases hl with hl | hl
   ·go_wp2
    exact bodyPost_ret (v:=.tuple #[.slice none 0 0,.int .i64 3]) (by simp [results,Tryz.results75,go_sem]) rfl ⟨by rw [HV.out],HB1.out⟩
   ·have hl2 : ¬ last < -1:=by omega
    go_wp2
    exact bodyPost_ret (v:=.tuple #[.slice none 0 0,.int .i64 3]) (by simp [results,Tryz.results75,go_sem]) rfl ⟨by rw [HV.out],HB1.out⟩
  ·have hl1 : ¬ last < -1:=by omega
   have hl2 : ¬ 65535 < last:=by omega
   have hid : id <= last:=by
    rcases Int.lt_or_le last id with hh | hh
    ·exfalso;apply h;rw [HE.out,if_neg (by simp),if_neg hl,if_neg (by omega)]
    ·exact hh
   have HV : Hid (er = 10):=ajK (by rw [HE.out,if_neg (by simp),if_neg hl,if_pos hid])
   clear HE h hl
   go_wp2
   exact bodyPost_ret (v:=.tuple #[.slice none 0 0,.int .i64 10]) (by simp [results,Tryz.results75,go_sem]) rfl ⟨by rw [HV.out],HB1.out⟩
 ·have HV : Hid (er = ce):=ajK (by rw [HE.out,if_pos hce])
  have aiP : (ce != 0) = true:=by simpa using hce
  clear HE h hce
  go_wp2
  exact bodyPost_ret (v:=.tuple #[.slice none 0 0,.int .i64 ce]) (by simp [results,Tryz.results75,go_sem]) rfl ⟨by rw [HV.out],HB1.out⟩
set_option maxRecDepth 8000
def gB (e : Int) (s : aJ) : aJ:=(s.1,if s.2 = 0 then e else s.2)
def yu (r : Rec) (s : aJ) : Rec × aJ :=
 (⟨r.kind,r.id,(d9 s).1.1,(d9 s).1.2.1,(d9 s).1.2.2,(d9 (d9 s).2).1.1,(d9 (d9 s).2).1.2.1,(d9 (d9 s).2).1.2.2,(bf 65535 (d9 (d9 s).2).2).1⟩,(bf 65535 (d9 (d9 s).2).2).2)
def rR (q : Int × aJ) : Int × aJ:=(q.1,if q.1 = 0 then gB 7 q.2 else q.2)
def gT (m : Int) (i : Nat) (s : aJ) : Int × aJ:=if m / 2 ^ i % 2 = 0 then (0,s) else rR (dZ s)
def qw (m : Int) (s : aJ) : Int × aJ:=if m / 64 % 2 = 0 then (0,s) else rR (bf 65535 s)
def iA (m : Int) : List Nat -> aJ -> List Int × aJ
 | [],s=>([],s)
 | i :: l,s=>((gT m i s).1 :: (iA m l (gT m i s).2).1,(iA m l (gT m i s).2).2)
def sK (r : Rec) (s : aJ) : Rec × aJ :=
 if (bE s).1 = 0 \/ 127 < (bE s).1 then (r,gB 7 (bE s).2) else
 (⟨r.kind,r.id,(iA (bE s).1 [0,1,2,3,4,5] (bE s).2).1.getD 0 0,(iA (bE s).1 [0,1,2,3,4,5] (bE s).2).1.getD 1 0,(iA (bE s).1 [0,1,2,3,4,5] (bE s).2).1.getD 2 0,(iA (bE s).1 [0,1,2,3,4,5] (bE s).2).1.getD 3 0,(iA (bE s).1 [0,1,2,3,4,5] (bE s).2).1.getD 4 0,(iA (bE s).1 [0,1,2,3,4,5] (bE s).2).1.getD 5 0,(qw (bE s).1 (iA (bE s).1 [0,1,2,3,4,5] (bE s).2).2).1⟩,(qw (bE s).1 (iA (bE s).1 [0,1,2,3,4,5] (bE s).2).2).2)
def rdKind (k : Int) (r : Rec) (s : aJ) : Rec × aJ :=
 if k = 0 \/ k = 3 then yu r s else if k = 1 then sK r s else if k = 2 then (r,s) else (r,gB 11 s)
def GU : Rec:=⟨0,0,0,0,0,0,0,0,0⟩
def qA (last : Int) (s : aJ) : Rec × aJ :=
 (⟨(bE (bf (65535 - (last + 1)) s).2).1,last + 1 + (bf (65535 - (last + 1)) s).1,0,0,0,0,0,0,0⟩,(bE (bf (65535 - (last + 1)) s).2).2)
def nW (last : Int) (s : aJ) : Rec × aJ:=rdKind (qA last s).1.kind (qA last s).1 (qA last s).2
def dK (last : Int) (s : aJ) : Rec × Int × aJ :=
 if last = 65535 then (GU,(gB 10 s).2,gB 10 s) else
 if (nW last s).2.2 ≠ 0 then (GU,(nW last s).2.2,(nW last s).2) else ((nW last s).1,0,(nW last s).2)
structure Gr where
 tick : Int
 time : Int
 base : Int
 recs : List Rec
def jW : Gr:=⟨0,0,0,[]⟩
def gZ (tick time base : Int) (n : Nat) : Int :=
 if tick < 0 \/ 4294967295 < tick \/ time < -2305843009213693952 \/ 2305843009213693952 < time \/ base < -1 then 3 else if tick <= base then 10 else if 128 < n then 8 else 0
def eO (tick base : Int) : Int:=if 0 <= base then tick - base else 0
def uJ (tick time base : Int) (n : Nat) : List Int:=[71,1] ++ aB tick ++ aB (kJ time) ++ aB (eO tick base) ++ aB n
def lG : Int -> List Rec -> Int
 | _,[]=>0
 | last,r :: l=>if gV r last ≠ 0 then gV r last else lG r.id l
def iq : Int -> List Rec -> List Int
 | _,[]=>[]
 | last,r :: l=>kF r last ++ iq r.id l
def cO (g : Gr) : Int:=if gZ g.tick g.time g.base g.recs.length ≠ 0 then gZ g.tick g.time g.base g.recs.length else lG (-1) g.recs
def gM (g : Gr) : List Int:=uJ g.tick g.time g.base g.recs.length ++ iq (-1) g.recs
def eP (g : Gr) : Int:=if cO g ≠ 0 then cO g else if 4092 < (gM g).length then 8 else 0
def jQ (g : Gr) : List Int:=gM g ++ uT (iZ (gM g))
def kG (c : Int) (s : aJ) : aJ:=if (bE s).1 = c then (bE s).2 else gB 7 (bE s).2
def jA (s : aJ) : aJ:=kG 1 (kG 71 s)
def mM (t : Int) : Prop:=-2305843009213693952 <= t /\ t <= 2305843009213693952
instance (t : Int) : Decidable (mM t):=by unfold mM;exact inferInstance
def iB (s : aJ) : Int × Int × aJ :=
 ((bf 4294967295 s).1,(dZ (bf 4294967295 s).2).1,if mM (dZ (bf 4294967295 s).2).1 then (dZ (bf 4294967295 s).2).2 else gB 3 (dZ (bf 4294967295 s).2).2)
def oZ (tick : Int) (s : aJ) : Int × aJ:=(if 0 < (bf tick s).1 then tick - (bf tick s).1 else -1,(bf tick s).2)
def gD : Nat -> Int -> aJ -> List Rec × aJ
 | 0,_,s=>([],s)
 | n + 1,last,s=>if (dK last s).2.1 ≠ 0 then ([],(dK last s).2.2) else
   ((dK last s).1 :: (gD n (dK last s).1.id (dK last s).2.2).1,(gD n (dK last s).1.id (dK last s).2.2).2)
def jX (s : aJ) : List Rec × aJ:=gD (bf 128 s).1.toNat (-1) (bf 128 s).2
def iw (s : aJ) : Gr × aJ :=
 (⟨(iB (jA s)).1,(iB (jA s)).2.1,(oZ (iB (jA s)).1 (iB (jA s)).2.2).1,(jX (oZ (iB (jA s)).1 (iB (jA s)).2.2).2).1⟩,(jX (oZ (iB (jA s)).1 (iB (jA s)).2.2).2).2)
def lq (s : aJ) : Int:=if s.2 ≠ 0 then s.2 else if s.1 = [] then 0 else 8
def bA (zs : List Int) : Gr × Int :=
 if 4096 < zs.length then (jW,8) else match jc zs with
 | none=>(jW,9)
 | some x=>if lq (iw (x,0)).2 ≠ 0 then (jW,lq (iw (x,0)).2) else ((iw (x,0)).1,0)
theorem Vx (x : Int) : aB x ≠ []:=by unfold aB;simp
theorem uK (c : Int) (l : List Int) : bE (c :: l,0) = (c,(l,0)):=by
 simp [bE,jh,kK]
theorem iL {most x : Int} (hx : iQ x) (hm : x <= most) (l : List Int) : bf most (aB x ++ l,0) = (x,(l,0)):=by
 have h:=QV hx l
 have hn : ¬ (aB x ++ l = []):=by simp [Vx]
 have hm' : ¬ most < x:=by omega
 simp only [bf,jh,jr,h,hn,hm',ne_eq,not_true_eq_false,if_false,and_false,true_and]
 rw [← eH,List.drop_left]
theorem uh {n : Int} (hn : aA n) (l : List Int) : dZ (zb n ++ l,0) = (n,(l,0)):=by
 have hz:=rJ hn
 unfold dZ zb
 rw [iL hz hz.2,Yq]
theorem KF {x y z : Int} (hx : aA x) (hy : aA y) (hz : aA z) (l : List Int) : d9 (zb x ++ (zb y ++ (zb z ++ l)),0) = ((x,y,z),(l,0)) :=
 Kc _ (uh hx _) (uh hy _) (uh hz _)
theorem Pm {r : Rec} (hr : r.Ok) (q : Rec) (l : List Int) : yu q (nb (aj r) ++ aB r.aG ++ l,0) = (⟨q.kind,q.id,r.px,r.py,r.pz,r.vx,r.vy,r.vz,r.aG⟩,(l,0)):=by
 have e : nb (aj r) ++ aB r.aG ++ l = zb r.px ++ (zb r.py ++ (zb r.pz ++ (zb r.vx ++ (zb r.vy ++ (zb r.vz ++ (aB r.aG ++ l)))))):=by
  simp [nb,aj]
 have ha:=hr.aG
 have hu : iQ r.aG:=⟨by omega,by omega⟩
 rw [e]
 unfold yu
 rw [KF hr.px hr.py hr.pz]
 simp only
 rw [KF hr.vx hr.vy hr.vz]
 simp only
 rw [iL hu (by omega)]
theorem aak {r : Rec} (hk : r.kind = 2) (hc : dG r = 0) : (⟨2,r.id,0,0,0,0,0,0,0⟩ : Rec) = r:=by
 obtain ⟨k,id,px,py,pz,vx,vy,vz,an⟩:=r
 simp only at hk
 subst hk
 unfold dG FE at hc
 simp only at hc
 split at hc
 ·cases hc
 split at hc
 ·cases hc
 split at hc
 ·cases hc
 rename_i h
 have h2 : ((px == 0 && py == 0 && pz == 0) && (vx == 0 && vy == 0 && vz == 0) && an == 0) = true:=by
  cases hb : ((px == 0 && py == 0 && pz == 0) && (vx == 0 && vy == 0 && vz == 0) && an == 0)
  ·exact absurd (.inr ⟨by first | rfl | trivial,hb⟩) h
  ·rfl
 simp only [Bool.and_eq_true,beq_iff_eq] at h2
 obtain ⟨⟨⟨⟨a,b⟩,c⟩,⟨d,e⟩,f⟩,g⟩:=h2
 subst a b c d e f g
 rfl
theorem uZ {r : Rec} {last : Int} (h : gV r last = 0) : dG r = 0 /\ -1 <= last /\ last < r.id /\ 0 <= r.kind /\ r.kind <= 3 /\ 0 <= r.id /\ r.id <= 65535:=by
 have hc : dG r = 0:=by
  unfold gV at h
  split at h
  ·rename_i hh;exact absurd h hh
  ·rename_i hh;exact Decidable.of_not_not hh
 have h2:=h
 unfold gV at h2
 rw [if_neg (by simpa using hc)] at h2
 split at h2
 ·cases h2
 split at h2
 ·cases h2
 have h3:=hc
 unfold dG at h3
 split at h3
 ·cases h3
 split at h3
 ·cases h3
 exact ⟨hc,by omega,by omega,by omega,by omega,by omega,by omega⟩
theorem KG {r : Rec} (hr : r.Ok) {last : Int} (h : gV r last = 0) (hk : r.kind ≠ 1) (l : List Int) : dK last (kF r last ++ l,0) = (r,0,(l,0)):=by
 obtain ⟨hc,h1,h2,k0,k3,i0,i1⟩:=uZ h
 unfold dK
 rw [if_neg (by omega)]
 have hh : qA last (kF r last ++ l,0) = (⟨r.kind,r.id,0,0,0,0,0,0,0⟩,(mK r ++ l,0)):=by
  unfold qA kF
  rw [List.append_assoc,List.append_assoc,iL ⟨by omega,by omega⟩ (by omega)]
  simp only [List.cons_append,List.nil_append]
  rw [uK]
  simp only
  rw [show last + 1 + (r.id - last - 1) = r.id by omega]
 have ha : nW last (kF r last ++ l,0) = (r,(l,0)):=by
  unfold nW
  rw [hh]
  simp only
  unfold rdKind mK
  by_cases e2 : r.kind = 2
  ·rw [if_neg (by omega),if_neg (by omega),if_pos e2,if_pos e2,e2]
   rw [aak e2 hc];rfl
  ·rw [if_pos (by omega),if_neg e2,if_neg hk,Pm hr]
 rw [ha]
 simp
theorem IB : ∀ (rs : List Rec) (last : Int) (l : List Int),(∀ r ∈ rs,r.Ok /\ r.kind ≠ 1) -> lG last rs = 0 -> gD rs.length last (iq last rs ++ l,0) = (rs,(l,0))
 | [],last,l,_,_=>rfl
 | r :: rs,last,l,hr,h=>by
   unfold lG at h
   have h1 : gV r last = 0:=by
    split at h
    ·rename_i hh;exact absurd h hh
    ·rename_i hh;exact Decidable.of_not_not hh
   rw [if_neg (by simpa using h1)] at h
   have hk:=hr r (List.mem_cons_self ..)
   rw [List.length_cons,gD,iq,List.append_assoc,KG hk.1 h1 hk.2]
   simp only
   rw [IB rs r.id l (λr' h'=>hr r' (List.mem_cons_of_mem _ h')) h]
   simp
theorem yw {y c : Int} (hy : 0 <= y) (hm : y % 256 = 0) (h1 : y < 4294967296) (hc : U8 c) : bits .or .u32 y c = y + c:=by
 obtain ⟨c0,c1⟩:=hc
 have e : bits .or .u32 y c = bits .or .u32 c y:=by simp [bits,BitVec.or_comm]
 rw [e,bits_join_low .u32 32 (by decide) wraps_u32 8 c y c0 (by omega) (by omega) hy (by simpa using hm) (by omega)]
 omega
theorem Sd {s : Int} (h : uS s) : oG 0 (uT s) = s:=by
 obtain ⟨s0,s1⟩:=h
 unfold uT
 simp only [oG]
 rw [yw (by omega) (by omega) (by omega) ⟨by omega,by omega⟩,yw (by omega) (by omega) (by omega) ⟨by omega,by omega⟩,yw (by omega) (by omega) (by omega) ⟨by omega,by omega⟩,yw (by omega) (by omega) (by omega) ⟨by omega,by omega⟩]
 omega
theorem FJ (zs : List Int) : jc (zs ++ uT (iZ zs)) = some zs:=by
 have hl : (uT (iZ zs)).length = 4:=rfl
 unfold jc
 rw [if_neg (by rw [List.length_append,hl];omega)]
 have e : (zs ++ uT (iZ zs)).length - 4 = zs.length:=by rw [List.length_append,hl];omega
 rw [e,List.drop_left,List.take_left,Sd (zW zs),if_pos rfl]
theorem uL (c : Int) (l : List Int) : kG c (c :: l,0) = (l,0):=by
 unfold kG;rw [uK,if_pos rfl]
theorem YL {g : Gr} (h : eP g = 0) (hr : ∀ r ∈ g.recs,r.Ok /\ r.kind ≠ 1) : bA (jQ g) = (g,0):=by
 have hb : cO g = 0:=by
  unfold eP at h
  split at h
  ·rename_i hh;exact absurd h hh
  ·rename_i hh;exact Decidable.of_not_not hh
 unfold eP at h
 rw [if_neg (by simpa using hb)] at h
 have hlen : (gM g).length <= 4092:=by
  split at h
  ·cases h
  ·omega
 clear h
 obtain ⟨tick,time,base,rs⟩:=g
 unfold cO at hb
 simp only at hb hr
 have hh : gZ tick time base rs.length = 0:=by
  split at hb
  ·rename_i hh;exact absurd hb hh
  ·rename_i hh;exact Decidable.of_not_not hh
 rw [if_neg (by simpa using hh)] at hb
 unfold gZ at hh
 split at hh
 ·cases hh
 split at hh
 ·cases hh
 split at hh
 ·cases hh
 rename_i a1 a2 a3
 have hz : (uT (iZ (gM ⟨tick,time,base,rs⟩))).length = 4:=rfl
 unfold bA jQ
 rw [if_neg (by rw [List.length_append,hz];omega),FJ]
 simp only
 have ht : aA time:=⟨by omega,by omega⟩
 have hzu:=rJ ht
 have hs : iw (gM ⟨tick,time,base,rs⟩,0) = (⟨tick,time,base,rs⟩,([],0)):=by
  have e1 : jA (gM ⟨tick,time,base,rs⟩,0) = (aB tick ++ (aB (kJ time) ++ (aB (eO tick base) ++ (aB (rs.length : Int) ++ iq (-1) rs))),0):=by
   unfold jA gM uJ
   simp only [List.append_assoc,List.cons_append,List.nil_append]
   rw [uL,uL]
  have e2 : iB (aB tick ++ (aB (kJ time) ++ (aB (eO tick base) ++ (aB (rs.length : Int) ++ iq (-1) rs))),0) = (tick,time,(aB (eO tick base) ++ (aB (rs.length : Int) ++ iq (-1) rs),0)):=by
   unfold iB
   rw [iL ⟨by omega,by omega⟩ (by omega)]
   have:=uh ht (aB (eO tick base) ++ (aB (rs.length : Int) ++ iq (-1) rs))
   unfold zb at this
   simp only
   rw [this]
   simp only
   rw [if_pos ⟨by omega,by omega⟩]
  have hbk : 0 <= eO tick base /\ eO tick base <= tick:=by unfold eO;split <;> omega
  have e3 : oZ tick (aB (eO tick base) ++ (aB (rs.length : Int) ++ iq (-1) rs),0) = (base,(aB (rs.length : Int) ++ iq (-1) rs,0)):=by
   unfold oZ
   rw [iL ⟨by omega,by omega⟩ hbk.2]
   simp only
   congr 1
   unfold eO
   split
   ·rw [if_pos (by omega)];omega
   ·rw [if_neg (by omega)];omega
  have e4 : jX (aB (rs.length : Int) ++ iq (-1) rs,0) = (rs,([],0)):=by
   unfold jX
   rw [iL ⟨by omega,by omega⟩ (by omega)]
   simp only [Int.toNat_natCast]
   have:=IB rs (-1) [] hr hb
   rwa [List.append_nil] at this
  unfold iw
  rw [e1,e2]
  simp only
  rw [e3]
  simp only
  rw [e4]
 rw [hs]
 simp [lq]
set_option maxRecDepth 8000
theorem IC (m : Int) : ∀ (ps : List (Nat × Int)) (l : List Int),(∀ p ∈ ps,m / 2 ^ p.1 % 2 = if p.2 ≠ 0 then 1 else 0) -> (∀ p ∈ ps,aA p.2) ->
 iA m (ps.map (·.1)) (nb ((ps.map (·.2)).filter (· ≠ 0)) ++ l,0) = (ps.map (·.2),(l,0))
 | [],l,_,_=>by simp [iA,nb]
 | p :: ps,l,hm,hi=>by
   have h1:=hm p (List.mem_cons_self ..);have h2:=hi p (List.mem_cons_self ..)
   have ih:=IC m ps l (λq hq=>hm q (List.mem_cons_of_mem _ hq)) (λq hq=>hi q (List.mem_cons_of_mem _ hq))
   have hone : gT m p.1 (nb (((p :: ps).map (·.2)).filter (· ≠ 0)) ++ l,0) = (p.2,(nb ((ps.map (·.2)).filter (· ≠ 0)) ++ l,0)):=by
    unfold gT
    rw [h1]
    by_cases h0 : p.2 = 0
    ·have hv : (if p.2 ≠ 0 then (1 : Int) else 0) = 0:=if_neg (λh=>h h0)
     rw [hv,if_pos rfl,List.map_cons,List.filter_cons_of_neg (by simpa using h0),h0]
    ·have hv : (if p.2 ≠ 0 then (1 : Int) else 0) = 1:=if_pos h0
     rw [hv,if_neg (by decide),List.map_cons,List.filter_cons_of_pos (by simpa using h0)]
     have e : nb (p.2 :: (ps.map (·.2)).filter (· ≠ 0)) ++ l = zb p.2 ++ (nb ((ps.map (·.2)).filter (· ≠ 0)) ++ l):=by simp [nb]
     rw [e,uh h2]
     unfold rR
     simp only
     rw [if_neg h0]
   rw [List.map_cons,iA,hone]
   simp only
   rw [ih]
   rfl
theorem FK (r : Rec) : (∀ p ∈ [(0,r.px),(1,r.py),(2,r.pz),(3,r.vx),(4,r.vy),(5,r.vz)],nM r / 2 ^ (p : Nat × Int).1 % 2 = if p.2 ≠ 0 then 1 else 0) /\ (nM r / 64 % 2 = if r.aG ≠ 0 then 1 else 0) /\ 0 <= nM r /\ nM r <= 127 /\ (nM r = 0 -> r.px = 0 /\ r.py = 0 /\ r.pz = 0 /\ r.vx = 0 /\ r.vy = 0 /\ r.vz = 0 /\ r.aG = 0):=by
 obtain ⟨k,id,px,py,pz,vx,vy,vz,an⟩:=r
 have key : ∀ n c : Int,∃ b : Int,(if n ≠ 0 then c else 0) = c * b /\ (if n ≠ 0 then (1 : Int) else 0) = b /\ (0 <= b /\ b <= 1) /\ (b = 0 -> n = 0):=λn c=>by
  by_cases h : n = 0
  ·exact ⟨0,by simp [h],by simp [h],by decide,λ_=>h⟩
  ·exact ⟨1,by simp [h],by simp [h],by decide,λh=>by cases h⟩
 unfold nM
 simp only
 obtain ⟨b0,e0,f0,g0,z0⟩:=key px 1
 obtain ⟨b1,e1,f1,g1,z1⟩:=key py 2
 obtain ⟨b2,e2,f2,g2,z2⟩:=key pz 4
 obtain ⟨b3,e3,f3,g3,z3⟩:=key vx 8
 obtain ⟨b4,e4,f4,g4,z4⟩:=key vy 16
 obtain ⟨b5,e5,f5,g5,z5⟩:=key vz 32
 obtain ⟨b6,e6,f6,g6,z6⟩:=key an 64
 rw [e0,e1,e2,e3,e4,e5,e6,f6]
 refine ⟨λp hp=>?_,by omega,by omega,by omega,λh=>⟨z0 (by omega),z1 (by omega),z2 (by omega),z3 (by omega),z4 (by omega),z5 (by omega),z6 (by omega)⟩⟩
 simp only [List.mem_cons,List.not_mem_nil,or_false] at hp
 rcases hp with rfl | rfl | rfl | rfl | rfl | rfl
 ·show _ / 1 % 2 = _;rw [f0];omega
 ·show _ / 2 % 2 = _;rw [f1];omega
 ·show _ / 4 % 2 = _;rw [f2];omega
 ·show _ / 8 % 2 = _;rw [f3];omega
 ·show _ / 16 % 2 = _;rw [f4];omega
 ·show _ / 32 % 2 = _;rw [f5];omega
theorem MQ {r : Rec} (hr : r.Ok) (hm : nM r ≠ 0) (q : Rec) (l : List Int) : sK q (rA r ++ l,0) = (⟨q.kind,q.id,r.px,r.py,r.pz,r.vx,r.vy,r.vz,r.aG⟩,(l,0)):=by
 obtain ⟨h1,h2,h3,h4,_⟩:=FK r
 have e : rA r ++ l = nM r :: (nb ((aj r).filter (· ≠ 0)) ++ ((if r.aG ≠ 0 then aB r.aG else []) ++ l)):=by
  unfold rA;simp
 have ho:=IC (nM r) [(0,r.px),(1,r.py),(2,r.pz),(3,r.vx),(4,r.vy),(5,r.vz)] ((if r.aG ≠ 0 then aB r.aG else []) ++ l) h1 (λp hp=>by
  simp only [List.mem_cons,List.not_mem_nil,or_false] at hp
  rcases hp with rfl | rfl | rfl | rfl | rfl | rfl
  ·exact hr.px
  ·exact hr.py
  ·exact hr.pz
  ·exact hr.vx
  ·exact hr.vy
  ·exact hr.vz)
 have ho' : iA (nM r) [0,1,2,3,4,5] (nb ((aj r).filter (· ≠ 0)) ++ ((if r.aG ≠ 0 then aB r.aG else []) ++ l),0) = ([r.px,r.py,r.pz,r.vx,r.vy,r.vz],((if r.aG ≠ 0 then aB r.aG else []) ++ l,0)):=ho
 have ha : qw (nM r) ((if r.aG ≠ 0 then aB r.aG else []) ++ l,0) = (r.aG,(l,0)):=by
  unfold qw
  rw [h2]
  have hb:=hr.aG
  by_cases h0 : r.aG = 0
  ·have hv : (if r.aG ≠ 0 then (1 : Int) else 0) = 0:=if_neg (λh=>h h0)
   rw [hv,if_pos rfl]
   simp [h0]
  ·have hv : (if r.aG ≠ 0 then (1 : Int) else 0) = 1:=if_pos h0
   rw [hv,if_neg (by decide),if_pos h0,iL ⟨by omega,by omega⟩ (by omega)]
   unfold rR
   simp only
   rw [if_neg h0]
 unfold sK
 rw [e,uK]
 simp only
 rw [if_neg (by omega),ho']
 simp only [List.getD_cons_zero,List.getD_cons_succ]
 rw [ha]
theorem Sg {r : Rec} (hr : r.Ok) {last : Int} (h : gV r last = 0) (l : List Int) : dK last (kF r last ++ l,0) = (r,0,(l,0)):=by
 by_cases hk : r.kind = 1
 ·obtain ⟨hc,h1,h2,k0,k3,i0,i1⟩:=uZ h
  have hm : nM r ≠ 0:=λhm=>by
   obtain ⟨e1,e2,e3,e4,e5,e6,e7⟩:=(FK r).2.2.2.2 hm
   unfold dG FE at hc
   rw [if_neg (by omega),if_neg (by omega),if_pos] at hc
   ·cases hc
   ·left
    refine ⟨hk,?_⟩
    simp [e1,e2,e3,e4,e5,e6,e7]
  unfold dK
  rw [if_neg (by omega)]
  have hh : qA last (kF r last ++ l,0) = (⟨r.kind,r.id,0,0,0,0,0,0,0⟩,(mK r ++ l,0)):=by
   unfold qA kF
   rw [List.append_assoc,List.append_assoc,iL ⟨by omega,by omega⟩ (by omega)]
   simp only [List.cons_append,List.nil_append]
   rw [uK]
   simp only
   rw [show last + 1 + (r.id - last - 1) = r.id by omega]
  have ha : nW last (kF r last ++ l,0) = (r,(l,0)):=by
   unfold nW
   rw [hh]
   simp only
   unfold rdKind mK
   rw [if_neg (by omega),if_pos hk,if_neg (by omega),if_pos hk,MQ hr hm]
  rw [ha]
  simp
 ·exact KG hr h hk l
set_option maxRecDepth 8000
theorem acL (R X : Nat) (w : World) : Calls Tryz.prog 153 #[.pointer (some ⟨R,0,none⟩),.pointer (some ⟨X,0,none⟩)] w λe w'=>e = .returned (.tuple #[]) /\ w = w':=by
 go_enter Tryz.func153,Tryz.ntmps153
 go_wp2
 exact bodyPost_end (v:=.tuple #[]) (by simp [results,Tryz.results153,go_sem]) rfl ⟨rfl,rfl⟩
set_option maxHeartbeats 1000000 in
theorem YM {B0 : Nat} (R X : Nat) (s : aJ) (r : Rec) (w : World) (h : bq w R B0 s) (hX : ak w X (aZ r) 147) (wN : B0 <= X) (wO : X ≠ R) :
 Calls Tryz.prog 155 #[.pointer (some ⟨R,0,none⟩),.pointer (some ⟨X,0,none⟩)] w λe w'=>e = .returned (.tuple #[]) /\ bq w' R B0 (yu r s).2 /\ ak w' X (aZ (yu r s).1) 147 /\ Only (λk=>k = R \/ k = X) w w':=by
 have hB0 : B0 <= w.heap.size:=by have:=hX.lt;omega
 have v1:=Rb (B0:=B0) R s w h hB0
 have v2:=λw h hB=>Rb (B0:=B0) R (d9 s).2 w h hB
 have u1:=λw h=>tY (B0:=B0) R (d9 (d9 s).2).2 65535 w h
 have ub : aW (d9 (d9 s).2).2.1 -> 0 <= (bf 65535 (d9 (d9 s).2).2).1 /\ (bf 65535 (d9 (d9 s).2).2).1 <= 65535:=λh=>jB h (by decide)
 unfold yu
 simp only
 generalize d9 s = q1 at *
 generalize d9 q1.2 = q2 at *
 generalize bf 65535 q2.2 = q3 at *
 obtain ⟨⟨x,y,z⟩,s1⟩:=q1
 obtain ⟨⟨vx,vy,vz⟩,s2⟩:=q2
 obtain ⟨an,s3⟩:=q3
 simp only at *
 obtain ⟨rk,ri,r1,r2,r3,r4,r5,r6,ra⟩:=r
 simp only at *
 have HX0:=ajK hX;have nk:=ajK wO;clear h hX
 go_enter Tryz.func155,Tryz.ntmps155
 go_wp2_with fail
 refine v1.mono ?_;rintro e w1 ⟨rfl,oI,nu⟩
 have KH:=v2 w1 oI (Nat.le_trans hB0 nu.size);have gN:=ajK (nu.blk HX0.out wO);have pq:=ajK nu;clear v1 v2 oI nu
 go_wp2_with fail
 refine KH.mono ?_;rintro e w2 ⟨rfl,hR2,hO2⟩
 have hX2:=hO2.blk gN.out wO;have bQ:=ajK (pq.out.trans hO2);have d2:=hX2.cell 2;have d3:=hX2.cell 3;have d4:=hX2.cell 4;have d5:=hX2.cell 5;have d6:=hX2.cell 6;have d7:=hX2.cell 7;have d8:=hX2.cell 8;have f2:=hX2.free 2;have f3:=hX2.free 3;have f4:=hX2.free 4;have f5:=hX2.free 5;have f6:=hX2.free 6;have f7:=hX2.free 7;have f8:=hX2.free 8;simp at d2 d3 d4 d5 d6 d7 d8;have iG:=ajK ((((((hX2.set 2 (.int .i64 x)).set 3 (.int .i64 y)).set 4 (.int .i64 z)).set 5 (.int .i64 vx)).set 6 (.int .i64 vy)).set 7 (.int .i64 vz))
 have HR3:=ajK ((((((hR2.dA (p:=⟨X,2,none⟩) (Ne.symm wO) wN (.int .i64 x)).dA (p:=⟨X,3,none⟩) (Ne.symm wO) wN (.int .i64 y)).dA (p:=⟨X,4,none⟩) (Ne.symm wO) wN (.int .i64 z)).dA (p:=⟨X,5,none⟩) (Ne.symm wO) wN (.int .i64 vx)).dA (p:=⟨X,6,none⟩) (Ne.symm wO) wN (.int .i64 vy)).dA (p:=⟨X,7,none⟩) (Ne.symm wO) wN (.int .i64 vz))
 have hOX : Only (λk=>k = R \/ k = X) w w2:=bQ.out.weaken (λk _ hk=>.inl hk)
 have gI:=ajK ((((((hOX.setCell (p:=⟨X,2,none⟩) (.inl (.inr rfl)) (.int .i64 x)).setCell (p:=⟨X,3,none⟩) (.inl (.inr rfl)) (.int .i64 y)).setCell (p:=⟨X,4,none⟩) (.inl (.inr rfl)) (.int .i64 z)).setCell (p:=⟨X,5,none⟩) (.inl (.inr rfl)) (.int .i64 vx)).setCell (p:=⟨X,6,none⟩) (.inl (.inr rfl)) (.int .i64 vy)).setCell (p:=⟨X,7,none⟩) (.inl (.inr rfl)) (.int .i64 vz));have e8:=ub HR3.out.u8
 have hwr : IntKind.u16.wrap an = an:=wraps_u16 _ (by omega) (by omega)
 clear KH hX2 hR2 hO2 hOX HX0 gN pq bQ ub wO
 go_wp2_with fail
 refine (u1 _ HR3.out).mono ?_;rintro e w3 ⟨rfl,Si,hO4⟩
 have eT:=hO4.blk iG.out nk.out;have g8:=eT.cell 8;have k8:=eT.free 8;simp at g8;have fI:=ajK (eT.set 8 (.int .u16 an));have fJ:=ajK (Si.dA (p:=⟨X,8,none⟩) (Ne.symm nk.out) wN (.int .u16 an))
 have eF:=ajK ((gI.out.trans (hO4.weaken (T:=λk=>k = R \/ k = X) (λk _ hk=>.inl hk))).setCell (p:=⟨X,8,none⟩) (.inl (.inr rfl)) (.int .u16 an))
 clear u1 eT Si hO4 iG HR3 gI d2 d3 d4 d5 d6 d7 d8 f2 f3 f4 f5 f6 f7 f8
 go_wp2
 exact bodyPost_end (v:=.tuple #[]) (by simp [results,Tryz.results155,go_sem]) rfl ⟨rfl,fJ.out,by simpa [aZ] using fI.out,eF.out⟩
set_option maxRecDepth 8000
theorem Vy : ∀ n : Fin 256,bits .and .u8 (n.val : Int) 1 = (n.val : Int) % 2:=by decide +kernel
theorem wD {y : Int} (h : U8 y) : bits .and .u8 y 1 = y % 2:=by
 obtain ⟨h0,h1⟩:=h
 have:=Vy ⟨y.toNat,by omega⟩
 simp only at this
 rwa [Int.toNat_of_nonneg h0] at this
theorem Sj : ∀ n : Fin 256,bits .and .u8 (n.val : Int) 64 = 64 * ((n.val : Int) / 64 % 2):=by decide +kernel
theorem Vz {y : Int} (h : U8 y) : bits .and .u8 y 64 = 64 * (y / 64 % 2):=by
 obtain ⟨h0,h1⟩:=h
 have:=Sj ⟨y.toNat,by omega⟩
 simp only at this
 rwa [Int.toNat_of_nonneg h0] at this
def j6 (w : World) (R X B0 : Nat) (c : List (Array Value × aJ)) (k : Nat) (wr : World) : Prop :=
 ∃ q,c[k]? = some q /\ ak wr X q.1 147 /\ bq wr R B0 q.2 /\ Only (λk=>k = R \/ k = X) w wr
set_option maxHeartbeats 4000000 in
theorem VA {B0 : Nat} (R X : Nat) (s : aJ) (rk ri : Int) (w : World) (h : bq w R B0 s) (hX : ak w X (aZ ⟨rk,ri,0,0,0,0,0,0,0⟩) 147) (wN : B0 <= X) (wO : X ≠ R) :
 Calls Tryz.prog 157 #[.pointer (some ⟨R,0,none⟩),.pointer (some ⟨X,0,none⟩)] w λe w'=>e = .returned (.tuple #[]) /\ bq w' R B0 (sK ⟨rk,ri,0,0,0,0,0,0,0⟩ s).2 /\ ak w' X (aZ (sK ⟨rk,ri,0,0,0,0,0,0,0⟩ s).1) 147 /\ Only (λk=>k = R \/ k = X) w w':=by
 have bt:=GA (B0:=B0) R s w h
 have fl:=λs e he w h=>zo (B0:=B0) R s e he w h
 have rI:=λs w h=>J9 (B0:=B0) R s w h
 have Xm:=Bj h.u8
 unfold aZ at hX
 unfold sK
 simp only
 generalize bE s = q at *
 obtain ⟨m,s0⟩:=q
 simp only at *
 have HX0:=ajK hX;have nk:=ajK wO;have afq:=h.lt;have hXlt:=hX.lt
 by_cases hbad : m = 0 \/ 127 < m
 ·rw [if_pos hbad]
  have fl7:=fl s0 7 (by decide)
  have hpk : (m == 0 || decide (127 < m)) = true:=by
   rcases hbad with h | h
   ·simp [h]
   ·simp [h]
  clear h hX rI fl
  go_enter Tryz.func157,Tryz.ntmps157
  go_wp2_with fail
  refine bt.mono ?_;rintro e w1 ⟨rfl,oI,nu⟩
  have gN:=ajK (nu.blk HX0.out wO);have pq:=ajK nu;have f1:=fl7 w1 oI;clear oI nu bt fl7
  rcases hbad with rfl | hbad
  ·go_wp2_with fail
   refine f1.mono ?_;rintro e w2 ⟨rfl,hR2,hO2⟩
   have iM:=ajK (hO2.blk gN.out nk.out)
   have bQ:=ajK ((pq.out.trans hO2).weaken (T:=λk=>k = R \/ k = X) (λk _ hk=>.inl hk))
   clear hO2 f1
   go_wp2
   exact bodyPost_ret (v:=.tuple #[]) (by simp [results,Tryz.results157,go_sem]) rfl ⟨rfl,hR2,by simpa [aZ] using iM.out,bQ.out⟩
  ·have hm0 : (m == 0) = false:=by simp;omega
   go_wp2_with fail
   refine f1.mono ?_;rintro e w2 ⟨rfl,hR2,hO2⟩
   have iM:=ajK (hO2.blk gN.out nk.out)
   have bQ:=ajK ((pq.out.trans hO2).weaken (T:=λk=>k = R \/ k = X) (λk _ hk=>.inl hk))
   clear hO2 f1
   go_wp2
   exact bodyPost_ret (v:=.tuple #[]) (by simp [results,Tryz.results157,go_sem]) rfl ⟨rfl,hR2,by simpa [aZ] using iM.out,bQ.out⟩
 ·rw [if_neg hbad]
  have hm0 : (m == 0) = false:=by simp;omega
  have hm1 : ¬ 127 < m:=by omega
  obtain ⟨x0,s1,e0⟩ : ∃ x t,gT m 0 s0 = (x,t):=⟨_,_,rfl⟩
  obtain ⟨x1,s2,e1⟩ : ∃ x t,gT m 1 s1 = (x,t):=⟨_,_,rfl⟩
  obtain ⟨x2,s3,e2⟩ : ∃ x t,gT m 2 s2 = (x,t):=⟨_,_,rfl⟩
  obtain ⟨x3,s4,e3⟩ : ∃ x t,gT m 3 s3 = (x,t):=⟨_,_,rfl⟩
  obtain ⟨x4,s5,e4⟩ : ∃ x t,gT m 4 s4 = (x,t):=⟨_,_,rfl⟩
  obtain ⟨x5,s6,e5⟩ : ∃ x t,gT m 5 s5 = (x,t):=⟨_,_,rfl⟩
  obtain ⟨an,s7,e6⟩ : ∃ x t,qw m s6 = (x,t):=⟨_,_,rfl⟩
  have HE : Hid (iA m [0,1,2,3,4,5] s0 = ([x0,x1,x2,x3,x4,x5],s6)):=ajK (by
   simp only [iA,e0,e1,e2,e3,e4,e5])
  rw [HE.out]
  simp only
  rw [e6]
  simp only [List.getD_cons_zero,List.getD_cons_succ]
  have a0:=wD Xm
  have a1:=wD (y:=m / 2 ^ 1) ⟨by omega,by omega⟩
  have a2:=wD (y:=m / 2 ^ 2) ⟨by omega,by omega⟩
  have a3:=wD (y:=m / 2 ^ 3) ⟨by omega,by omega⟩
  have a4:=wD (y:=m / 2 ^ 4) ⟨by omega,by omega⟩
  have a5:=wD (y:=m / 2 ^ 5) ⟨by omega,by omega⟩
  have a6:=Vz Xm
  simp only [Int.reducePow,Nat.reducePow,Int.pow_zero] at a1 a2 a3 a4 a5
  obtain ⟨c,hc⟩ : ∃ c : List (Array Value × aJ),c = [(#[.int .i64 rk,.int .i64 ri,.int .i64 0,.int .i64 0,.int .i64 0,.int .i64 0,.int .i64 0,.int .i64 0,.int .u16 0],s0),(#[.int .i64 rk,.int .i64 ri,.int .i64 x0,.int .i64 0,.int .i64 0,.int .i64 0,.int .i64 0,.int .i64 0,.int .u16 0],s1),(#[.int .i64 rk,.int .i64 ri,.int .i64 x0,.int .i64 x1,.int .i64 0,.int .i64 0,.int .i64 0,.int .i64 0,.int .u16 0],s2),(#[.int .i64 rk,.int .i64 ri,.int .i64 x0,.int .i64 x1,.int .i64 x2,.int .i64 0,.int .i64 0,.int .i64 0,.int .u16 0],s3),(#[.int .i64 rk,.int .i64 ri,.int .i64 x0,.int .i64 x1,.int .i64 x2,.int .i64 x3,.int .i64 0,.int .i64 0,.int .u16 0],s4),(#[.int .i64 rk,.int .i64 ri,.int .i64 x0,.int .i64 x1,.int .i64 x2,.int .i64 x3,.int .i64 x4,.int .i64 0,.int .u16 0],s5),(#[.int .i64 rk,.int .i64 ri,.int .i64 x0,.int .i64 x1,.int .i64 x2,.int .i64 x3,.int .i64 x4,.int .i64 x5,.int .u16 0],s6)]:=⟨_,rfl⟩
  have HC:=ajK hc;have E0:=ajK e0;have E1:=ajK e1;have E2:=ajK e2;have E3:=ajK e3;have E4:=ajK e4;have E5:=ajK e5;have E6:=ajK e6;have H8:=ajK Xm;have qQ:=ajK a6
  have nf:=λw=>FH X w
  unfold ptrs at nf
  clear h hX HE e0 e1 e2 e3 e4 e5 e6 hc Xm a6 hbad
  go_enter Tryz.func157,Tryz.ntmps157
  go_wp2_with fail
  refine bt.mono ?_;rintro e w1 ⟨rfl,oI,nu⟩
  have gN:=ajK (nu.blk HX0.out wO);have HR1:=ajK oI;have pq:=ajK nu;clear oI nu bt HX0
  go_wp2_with fail
  refine (nf _).mono ?_;rintro e w2 ⟨rfl,hb2⟩
  have HS : Hid (j6 w R X B0 c 0 w2):=ajK ⟨_,by rw [HC.out];rfl,gN.out.below hb2 gN.out.lt,HR1.out.below hb2,(pq.out.fK hb2).weaken (λk _ hk=>.inl hk)⟩
  clear hb2 nf gN HR1 pq wO
  go_wp2_with fail
  go_loopw [19] (λi wr=>∃ k : Nat,k <= 6 /\ i = .int .i64 k /\ j6 w R X B0 c k wr) (λi _=>6 - (intOf i).toNat)
  case atStart=>exact ⟨0,by omega,rfl,HS.out⟩
  case round =>
   rename_i wr
   obtain ⟨k,hk,rfl,q,hq,hX,hR,hO⟩:=hrel
   rw [HC.out] at hq
   rcases (show k = 0 \/ k = 1 \/ k = 2 \/ k = 3 \/ k = 4 \/ k = 5 \/ k = 6 by omega) with rfl | rfl | rfl | rfl | rfl | rfl | rfl
   ·cases hq
    have e:=E0.out;have hX:=hX;have c0:=hX.cell 2;have f0:=hX.free 2;simp at c0
    by_cases hb : m % 2 = 0
    ·have hz : x0 = 0 /\ s1 = s0:=by
      unfold gT at e
      rw [if_pos (by simpa using hb)] at e
      cases e;exact ⟨rfl,rfl⟩
     have HS2 : Hid (j6 w R X B0 c 1 wr):=ajK ⟨_,by rw [HC.out];rfl,by rw [hz.1];exact hX,by rw [hz.2];exact hR,hO⟩
     clear hX hR hO e
     go_wp2
     go_roundw
     case rel=>exact ⟨1,by omega,by first | rfl | go_num,HS2.out⟩
     case measure=>simp [intOf]
    ·unfold gT at e
     rw [if_neg (by simpa using hb)] at e
     have r1:=rI s0 wr hR
     generalize dZ s0 = q1 at *
     obtain ⟨y,t1⟩:=q1
     unfold rR at e
     simp only at e r1
     have hb1 : (m % 2 == 0) = false:=by simpa using hb
     have iG:=ajK hX;have gI:=ajK hO
     have hy : x0 = y:=by cases e;rfl
     subst hy
     clear hX hR hO
     go_wp2_with fail
     refine r1.mono ?_;rintro e' w3 ⟨rfl,kg,hO3⟩
     have eT:=hO3.blk iG.out nk.out;have g0:=eT.cell 2;have k0:=eT.free 2;simp at g0;have fI:=ajK (eT.set 2 (.int .i64 x0));have fJ:=ajK (kg.dA (p:=⟨X,2,none⟩) (Ne.symm nk.out) wN (.int .i64 x0))
     have eF:=ajK ((gI.out.trans (hO3.weaken (T:=λk=>k = R \/ k = X) (λk _ hk=>.inl hk))).setCell (p:=⟨X,2,none⟩) (.inl (.inr rfl)) (.int .i64 x0))
     clear eT kg hO3 iG gI r1
     by_cases hz : x0 = 0
     ·rw [if_pos hz] at e
      have hz' : s1 = gB 7 t1:=by cases e;rfl
      clear e
      subst hz
      have f1:=fl t1 7 (by decide) _ fJ.out
      go_wp2_with fail
      refine f1.mono ?_;rintro e' w4 ⟨rfl,je,gJ⟩
      have HS2 : Hid (j6 w R X B0 c 1 w4):=ajK ⟨_,by rw [HC.out];rfl,by simpa using gJ.blk fI.out nk.out,by rw [hz'];exact je,eF.out.trans (gJ.weaken (λk _ hk=>.inl hk))⟩
      clear je gJ fI fJ eF f1
      go_wp2
      go_roundw
      case rel=>exact ⟨1,by omega,by first | rfl | go_num,HS2.out⟩
      case measure=>simp [intOf]
     ·rw [if_neg hz] at e
      have hz' : s1 = t1:=by cases e;rfl
      have hz2 : (x0 == 0) = false:=by simpa using hz
      have HS2 : Hid (j6 w R X B0 c 1 (w3.setCell ⟨X,2,none⟩ (.int .i64 x0))):=ajK ⟨_,by rw [HC.out];rfl,by simpa using fI.out,by rw [hz'];exact fJ.out,eF.out⟩
      clear fI fJ eF e
      go_wp2
      go_roundw
      case rel=>exact ⟨1,by omega,by first | rfl | go_num,HS2.out⟩
      case measure=>simp [intOf]
   ·cases hq
    have e:=E1.out;have hX:=hX;have c0:=hX.cell 3;have f0:=hX.free 3;simp at c0
    by_cases hb : m / 2 % 2 = 0
    ·have hz : x1 = 0 /\ s2 = s1:=by
      unfold gT at e
      rw [if_pos (by simpa using hb)] at e
      cases e;exact ⟨rfl,rfl⟩
     have HS2 : Hid (j6 w R X B0 c 2 wr):=ajK ⟨_,by rw [HC.out];rfl,by rw [hz.1];exact hX,by rw [hz.2];exact hR,hO⟩
     clear hX hR hO e
     go_wp2
     go_roundw
     case rel=>exact ⟨2,by omega,by first | rfl | go_num,HS2.out⟩
     case measure=>simp [intOf]
    ·unfold gT at e
     rw [if_neg (by simpa using hb)] at e
     have r1:=rI s1 wr hR
     generalize dZ s1 = q1 at *
     obtain ⟨y,t1⟩:=q1
     unfold rR at e
     simp only at e r1
     have hb1 : (m / 2 % 2 == 0) = false:=by simpa using hb
     have iG:=ajK hX;have gI:=ajK hO
     have hy : x1 = y:=by cases e;rfl
     subst hy
     clear hX hR hO
     go_wp2_with fail
     refine r1.mono ?_;rintro e' w3 ⟨rfl,kg,hO3⟩
     have eT:=hO3.blk iG.out nk.out;have g0:=eT.cell 3;have k0:=eT.free 3;simp at g0;have fI:=ajK (eT.set 3 (.int .i64 x1));have fJ:=ajK (kg.dA (p:=⟨X,3,none⟩) (Ne.symm nk.out) wN (.int .i64 x1))
     have eF:=ajK ((gI.out.trans (hO3.weaken (T:=λk=>k = R \/ k = X) (λk _ hk=>.inl hk))).setCell (p:=⟨X,3,none⟩) (.inl (.inr rfl)) (.int .i64 x1))
     clear eT kg hO3 iG gI r1
     by_cases hz : x1 = 0
     ·rw [if_pos hz] at e
      have hz' : s2 = gB 7 t1:=by cases e;rfl
      clear e
      subst hz
      have f1:=fl t1 7 (by decide) _ fJ.out
      go_wp2_with fail
      refine f1.mono ?_;rintro e' w4 ⟨rfl,je,gJ⟩
      have HS2 : Hid (j6 w R X B0 c 2 w4):=ajK ⟨_,by rw [HC.out];rfl,by simpa using gJ.blk fI.out nk.out,by rw [hz'];exact je,eF.out.trans (gJ.weaken (λk _ hk=>.inl hk))⟩
      clear je gJ fI fJ eF f1
      go_wp2
      go_roundw
      case rel=>exact ⟨2,by omega,by first | rfl | go_num,HS2.out⟩
      case measure=>simp [intOf]
     ·rw [if_neg hz] at e
      have hz' : s2 = t1:=by cases e;rfl
      have hz2 : (x1 == 0) = false:=by simpa using hz
      have HS2 : Hid (j6 w R X B0 c 2 (w3.setCell ⟨X,3,none⟩ (.int .i64 x1))):=ajK ⟨_,by rw [HC.out];rfl,by simpa using fI.out,by rw [hz'];exact fJ.out,eF.out⟩
      clear fI fJ eF e
      go_wp2
      go_roundw
      case rel=>exact ⟨2,by omega,by first | rfl | go_num,HS2.out⟩
      case measure=>simp [intOf]
   ·cases hq
    have e:=E2.out;have hX:=hX;have c0:=hX.cell 4;have f0:=hX.free 4;simp at c0
    by_cases hb : m / 4 % 2 = 0
    ·have hz : x2 = 0 /\ s3 = s2:=by
      unfold gT at e
      rw [if_pos (by simpa using hb)] at e
      cases e;exact ⟨rfl,rfl⟩
     have HS2 : Hid (j6 w R X B0 c 3 wr):=ajK ⟨_,by rw [HC.out];rfl,by rw [hz.1];exact hX,by rw [hz.2];exact hR,hO⟩
     clear hX hR hO e
     go_wp2
     go_roundw
     case rel=>exact ⟨3,by omega,by first | rfl | go_num,HS2.out⟩
     case measure=>simp [intOf]
    ·unfold gT at e
     rw [if_neg (by simpa using hb)] at e
     have r1:=rI s2 wr hR
     generalize dZ s2 = q1 at *
     obtain ⟨y,t1⟩:=q1
     unfold rR at e
     simp only at e r1
     have hb1 : (m / 4 % 2 == 0) = false:=by simpa using hb
     have iG:=ajK hX;have gI:=ajK hO
     have hy : x2 = y:=by cases e;rfl
     subst hy
     clear hX hR hO
     go_wp2_with fail
     refine r1.mono ?_;rintro e' w3 ⟨rfl,kg,hO3⟩
     have eT:=hO3.blk iG.out nk.out;have g0:=eT.cell 4;have k0:=eT.free 4;simp at g0;have fI:=ajK (eT.set 4 (.int .i64 x2));have fJ:=ajK (kg.dA (p:=⟨X,4,none⟩) (Ne.symm nk.out) wN (.int .i64 x2))
     have eF:=ajK ((gI.out.trans (hO3.weaken (T:=λk=>k = R \/ k = X) (λk _ hk=>.inl hk))).setCell (p:=⟨X,4,none⟩) (.inl (.inr rfl)) (.int .i64 x2))
     clear eT kg hO3 iG gI r1
     by_cases hz : x2 = 0
     ·rw [if_pos hz] at e
      have hz' : s3 = gB 7 t1:=by cases e;rfl
      clear e
      subst hz
      have f1:=fl t1 7 (by decide) _ fJ.out
      go_wp2_with fail
      refine f1.mono ?_;rintro e' w4 ⟨rfl,je,gJ⟩
      have HS2 : Hid (j6 w R X B0 c 3 w4):=ajK ⟨_,by rw [HC.out];rfl,by simpa using gJ.blk fI.out nk.out,by rw [hz'];exact je,eF.out.trans (gJ.weaken (λk _ hk=>.inl hk))⟩
      clear je gJ fI fJ eF f1
      go_wp2
      go_roundw
      case rel=>exact ⟨3,by omega,by first | rfl | go_num,HS2.out⟩
      case measure=>simp [intOf]
     ·rw [if_neg hz] at e
      have hz' : s3 = t1:=by cases e;rfl
      have hz2 : (x2 == 0) = false:=by simpa using hz
      have HS2 : Hid (j6 w R X B0 c 3 (w3.setCell ⟨X,4,none⟩ (.int .i64 x2))):=ajK ⟨_,by rw [HC.out];rfl,by simpa using fI.out,by rw [hz'];exact fJ.out,eF.out⟩
      clear fI fJ eF e
      go_wp2
      go_roundw
      case rel=>exact ⟨3,by omega,by first | rfl | go_num,HS2.out⟩
      case measure=>simp [intOf]
   ·cases hq
    have e:=E3.out;have hX:=hX;have c0:=hX.cell 5;have f0:=hX.free 5;simp at c0
    by_cases hb : m / 8 % 2 = 0
    ·have hz : x3 = 0 /\ s4 = s3:=by
      unfold gT at e
      rw [if_pos (by simpa using hb)] at e
      cases e;exact ⟨rfl,rfl⟩
     have HS2 : Hid (j6 w R X B0 c 4 wr):=ajK ⟨_,by rw [HC.out];rfl,by rw [hz.1];exact hX,by rw [hz.2];exact hR,hO⟩
     clear hX hR hO e
     go_wp2
     go_roundw
     case rel=>exact ⟨4,by omega,by first | rfl | go_num,HS2.out⟩
     case measure=>simp [intOf]
    ·unfold gT at e
     rw [if_neg (by simpa using hb)] at e
     have r1:=rI s3 wr hR
     generalize dZ s3 = q1 at *
     obtain ⟨y,t1⟩:=q1
     unfold rR at e
     simp only at e r1
     have hb1 : (m / 8 % 2 == 0) = false:=by simpa using hb
     have iG:=ajK hX;have gI:=ajK hO
     have hy : x3 = y:=by cases e;rfl
     subst hy
     clear hX hR hO
     go_wp2_with fail
     refine r1.mono ?_;rintro e' w3 ⟨rfl,kg,hO3⟩
     have eT:=hO3.blk iG.out nk.out;have g0:=eT.cell 5;have k0:=eT.free 5;simp at g0;have fI:=ajK (eT.set 5 (.int .i64 x3));have fJ:=ajK (kg.dA (p:=⟨X,5,none⟩) (Ne.symm nk.out) wN (.int .i64 x3))
     have eF:=ajK ((gI.out.trans (hO3.weaken (T:=λk=>k = R \/ k = X) (λk _ hk=>.inl hk))).setCell (p:=⟨X,5,none⟩) (.inl (.inr rfl)) (.int .i64 x3))
     clear eT kg hO3 iG gI r1
     by_cases hz : x3 = 0
     ·rw [if_pos hz] at e
      have hz' : s4 = gB 7 t1:=by cases e;rfl
      clear e
      subst hz
      have f1:=fl t1 7 (by decide) _ fJ.out
      go_wp2_with fail
      refine f1.mono ?_;rintro e' w4 ⟨rfl,je,gJ⟩
      have HS2 : Hid (j6 w R X B0 c 4 w4):=ajK ⟨_,by rw [HC.out];rfl,by simpa using gJ.blk fI.out nk.out,by rw [hz'];exact je,eF.out.trans (gJ.weaken (λk _ hk=>.inl hk))⟩
      clear je gJ fI fJ eF f1
      go_wp2
      go_roundw
      case rel=>exact ⟨4,by omega,by first | rfl | go_num,HS2.out⟩
      case measure=>simp [intOf]
     ·rw [if_neg hz] at e
      have hz' : s4 = t1:=by cases e;rfl
      have hz2 : (x3 == 0) = false:=by simpa using hz
      have HS2 : Hid (j6 w R X B0 c 4 (w3.setCell ⟨X,5,none⟩ (.int .i64 x3))):=ajK ⟨_,by rw [HC.out];rfl,by simpa using fI.out,by rw [hz'];exact fJ.out,eF.out⟩
      clear fI fJ eF e
      go_wp2
      go_roundw
      case rel=>exact ⟨4,by omega,by first | rfl | go_num,HS2.out⟩
      case measure=>simp [intOf]
   ·cases hq
    have e:=E4.out;have hX:=hX;have c0:=hX.cell 6;have f0:=hX.free 6;simp at c0
    by_cases hb : m / 16 % 2 = 0
    ·have hz : x4 = 0 /\ s5 = s4:=by
      unfold gT at e
      rw [if_pos (by simpa using hb)] at e
      cases e;exact ⟨rfl,rfl⟩
     have HS2 : Hid (j6 w R X B0 c 5 wr):=ajK ⟨_,by rw [HC.out];rfl,by rw [hz.1];exact hX,by rw [hz.2];exact hR,hO⟩
     clear hX hR hO e
     go_wp2
     go_roundw
     case rel=>exact ⟨5,by omega,by first | rfl | go_num,HS2.out⟩
     case measure=>simp [intOf]
    ·unfold gT at e
     rw [if_neg (by simpa using hb)] at e
     have r1:=rI s4 wr hR
     generalize dZ s4 = q1 at *
     obtain ⟨y,t1⟩:=q1
     unfold rR at e
     simp only at e r1
     have hb1 : (m / 16 % 2 == 0) = false:=by simpa using hb
     have iG:=ajK hX;have gI:=ajK hO
     have hy : x4 = y:=by cases e;rfl
     subst hy
     clear hX hR hO
     go_wp2_with fail
     refine r1.mono ?_;rintro e' w3 ⟨rfl,kg,hO3⟩
     have eT:=hO3.blk iG.out nk.out;have g0:=eT.cell 6;have k0:=eT.free 6;simp at g0;have fI:=ajK (eT.set 6 (.int .i64 x4));have fJ:=ajK (kg.dA (p:=⟨X,6,none⟩) (Ne.symm nk.out) wN (.int .i64 x4))
     have eF:=ajK ((gI.out.trans (hO3.weaken (T:=λk=>k = R \/ k = X) (λk _ hk=>.inl hk))).setCell (p:=⟨X,6,none⟩) (.inl (.inr rfl)) (.int .i64 x4))
     clear eT kg hO3 iG gI r1
     by_cases hz : x4 = 0
     ·rw [if_pos hz] at e
      have hz' : s5 = gB 7 t1:=by cases e;rfl
      clear e
      subst hz
      have f1:=fl t1 7 (by decide) _ fJ.out
      go_wp2_with fail
      refine f1.mono ?_;rintro e' w4 ⟨rfl,je,gJ⟩
      have HS2 : Hid (j6 w R X B0 c 5 w4):=ajK ⟨_,by rw [HC.out];rfl,by simpa using gJ.blk fI.out nk.out,by rw [hz'];exact je,eF.out.trans (gJ.weaken (λk _ hk=>.inl hk))⟩
      clear je gJ fI fJ eF f1
      go_wp2
      go_roundw
      case rel=>exact ⟨5,by omega,by first | rfl | go_num,HS2.out⟩
      case measure=>simp [intOf]
     ·rw [if_neg hz] at e
      have hz' : s5 = t1:=by cases e;rfl
      have hz2 : (x4 == 0) = false:=by simpa using hz
      have HS2 : Hid (j6 w R X B0 c 5 (w3.setCell ⟨X,6,none⟩ (.int .i64 x4))):=ajK ⟨_,by rw [HC.out];rfl,by simpa using fI.out,by rw [hz'];exact fJ.out,eF.out⟩
      clear fI fJ eF e
      go_wp2
      go_roundw
      case rel=>exact ⟨5,by omega,by first | rfl | go_num,HS2.out⟩
      case measure=>simp [intOf]
   ·cases hq
    have e:=E5.out;have hX:=hX;have c0:=hX.cell 7;have f0:=hX.free 7;simp at c0
    by_cases hb : m / 32 % 2 = 0
    ·have hz : x5 = 0 /\ s6 = s5:=by
      unfold gT at e
      rw [if_pos (by simpa using hb)] at e
      cases e;exact ⟨rfl,rfl⟩
     have HS2 : Hid (j6 w R X B0 c 6 wr):=ajK ⟨_,by rw [HC.out];rfl,by rw [hz.1];exact hX,by rw [hz.2];exact hR,hO⟩
     clear hX hR hO e
     go_wp2
     go_roundw
     case rel=>exact ⟨6,by omega,by first | rfl | go_num,HS2.out⟩
     case measure=>simp [intOf]
    ·unfold gT at e
     rw [if_neg (by simpa using hb)] at e
     have r1:=rI s5 wr hR
     generalize dZ s5 = q1 at *
     obtain ⟨y,t1⟩:=q1
     unfold rR at e
     simp only at e r1
     have hb1 : (m / 32 % 2 == 0) = false:=by simpa using hb
     have iG:=ajK hX;have gI:=ajK hO
     have hy : x5 = y:=by cases e;rfl
     subst hy
     clear hX hR hO
     go_wp2_with fail
     refine r1.mono ?_;rintro e' w3 ⟨rfl,kg,hO3⟩
     have eT:=hO3.blk iG.out nk.out;have g0:=eT.cell 7;have k0:=eT.free 7;simp at g0;have fI:=ajK (eT.set 7 (.int .i64 x5));have fJ:=ajK (kg.dA (p:=⟨X,7,none⟩) (Ne.symm nk.out) wN (.int .i64 x5))
     have eF:=ajK ((gI.out.trans (hO3.weaken (T:=λk=>k = R \/ k = X) (λk _ hk=>.inl hk))).setCell (p:=⟨X,7,none⟩) (.inl (.inr rfl)) (.int .i64 x5))
     clear eT kg hO3 iG gI r1
     by_cases hz : x5 = 0
     ·rw [if_pos hz] at e
      have hz' : s6 = gB 7 t1:=by cases e;rfl
      clear e
      subst hz
      have f1:=fl t1 7 (by decide) _ fJ.out
      go_wp2_with fail
      refine f1.mono ?_;rintro e' w4 ⟨rfl,je,gJ⟩
      have HS2 : Hid (j6 w R X B0 c 6 w4):=ajK ⟨_,by rw [HC.out];rfl,by simpa using gJ.blk fI.out nk.out,by rw [hz'];exact je,eF.out.trans (gJ.weaken (λk _ hk=>.inl hk))⟩
      clear je gJ fI fJ eF f1
      go_wp2
      go_roundw
      case rel=>exact ⟨6,by omega,by first | rfl | go_num,HS2.out⟩
      case measure=>simp [intOf]
     ·rw [if_neg hz] at e
      have hz' : s6 = t1:=by cases e;rfl
      have hz2 : (x5 == 0) = false:=by simpa using hz
      have HS2 : Hid (j6 w R X B0 c 6 (w3.setCell ⟨X,7,none⟩ (.int .i64 x5))):=ajK ⟨_,by rw [HC.out];rfl,by simpa using fI.out,by rw [hz'];exact fJ.out,eF.out⟩
      clear fI fJ eF e
      go_wp2
      go_roundw
      case rel=>exact ⟨6,by omega,by first | rfl | go_num,HS2.out⟩
      case measure=>simp [intOf]
   ·cases hq
    have e:=E6.out;have a6:=qQ.out;have c0:=hX.cell 8;have f0:=hX.free 8;simp at c0
    by_cases hb : m / 64 % 2 = 0
    ·have hz : an = 0 /\ s7 = s6:=by
      unfold qw at e
      rw [if_pos hb] at e
      cases e;exact ⟨rfl,rfl⟩
     have a7 : bits .and .u8 m 64 = 0:=by omega
     have fI:=ajK hX;have fJ:=ajK hR;have eF:=ajK hO;clear hX hR hO e a6
     obtain ⟨hz1,hz2⟩:=hz
     subst hz1
     subst hz2
     go_wp2
     exact bodyPost_end (v:=.tuple #[]) (by simp [results,Tryz.results157,go_sem]) rfl ⟨rfl,fJ.out,by simpa [aZ] using fI.out,eF.out⟩
    ·unfold qw at e
     rw [if_neg hb] at e
     have r1:=tY (B0:=B0) R s6 65535 wr hR
     have ub:=jB (most:=65535) hR.u8 (by decide)
     generalize bf 65535 s6 = q1 at *
     obtain ⟨y,t1⟩:=q1
     unfold rR at e
     simp only at e r1 ub
     have a7 : bits .and .u8 m 64 = 64:=by omega
     have iG:=ajK hX;have gI:=ajK hO
     have hy : an = y:=by cases e;rfl
     subst hy
     have hwr : IntKind.u16.wrap an = an:=wraps_u16 _ (by omega) (by omega)
     clear hX hR hO a6
     go_wp2_with fail
     refine r1.mono ?_;rintro e' w3 ⟨rfl,kg,hO3⟩
     have eT:=hO3.blk iG.out nk.out;have g0:=eT.cell 8;have k0:=eT.free 8;simp at g0;have fI:=ajK (eT.set 8 (.int .u16 an));have fJ:=ajK (kg.dA (p:=⟨X,8,none⟩) (Ne.symm nk.out) wN (.int .u16 an))
     have eF:=ajK ((gI.out.trans (hO3.weaken (T:=λk=>k = R \/ k = X) (λk _ hk=>.inl hk))).setCell (p:=⟨X,8,none⟩) (.inl (.inr rfl)) (.int .u16 an))
     clear eT kg hO3 iG gI r1
     by_cases hz : an = 0
     ·rw [if_pos hz] at e
      have hz' : s7 = gB 7 t1:=by cases e;rfl
      clear e
      subst hz
      have f1:=fl t1 7 (by decide) _ fJ.out
      go_wp2_with fail
      refine f1.mono ?_;rintro e' w4 ⟨rfl,je,gJ⟩
      have qH:=ajK (gJ.blk fI.out nk.out)
      have tK:=ajK (eF.out.trans (gJ.weaken (T:=λk=>k = R \/ k = X) (λk _ hk=>.inl hk)))
      clear gJ fI fJ eF f1
      go_wp2
      exact bodyPost_end (v:=.tuple #[]) (by simp [results,Tryz.results157,go_sem]) rfl ⟨rfl,by rw [hz'];exact je,by simpa [aZ] using qH.out,tK.out⟩
     ·rw [if_neg hz] at e
      have hz' : s7 = t1:=by cases e;rfl
      have hz2 : (an == 0) = false:=by simpa using hz
      clear e
      go_wp2
      exact bodyPost_end (v:=.tuple #[]) (by simp [results,Tryz.results157,go_sem]) rfl ⟨rfl,by rw [hz'];exact fJ.out,by simpa [aZ] using fI.out,eF.out⟩
set_option maxRecDepth 8000
theorem mO {w : World} {b : Nat} {t : TypeId} {o0 v0 o1 v1 o2 v2 o3 v3 o4 v4 o5 v5 o6 v6 o7 v7 o8 v8 : Value} (h : ak w b #[o0,o1,o2,o3,o4,o5,o6,o7,o8] t) : ak (((((((((w.setCell ⟨b,0,none⟩ v0).setCell ⟨b,1,none⟩ v1).setCell ⟨b,2,none⟩ v2).setCell ⟨b,3,none⟩ v3).setCell ⟨b,4,none⟩ v4).setCell ⟨b,5,none⟩ v5).setCell ⟨b,6,none⟩ v6).setCell ⟨b,7,none⟩ v7).setCell ⟨b,8,none⟩ v8) b #[v0,v1,v2,v3,v4,v5,v6,v7,v8] t:=by
 simpa using (((((((((h.set 0 v0).set 1 v1).set 2 v2).set 3 v3).set 4 v4).set 5 v5).set 6 v6).set 7 v7).set 8 v8)
theorem qB {S : Nat -> Prop} {w0 w : World} {b : Nat} {v0 v1 v2 v3 v4 v5 v6 v7 v8 : Value} (h : Only S w0 w) (hb : S b \/ w0.heap.size <= b) : Only S w0 (((((((((w.setCell ⟨b,0,none⟩ v0).setCell ⟨b,1,none⟩ v1).setCell ⟨b,2,none⟩ v2).setCell ⟨b,3,none⟩ v3).setCell ⟨b,4,none⟩ v4).setCell ⟨b,5,none⟩ v5).setCell ⟨b,6,none⟩ v6).setCell ⟨b,7,none⟩ v7).setCell ⟨b,8,none⟩ v8) :=
 (((((((((h.setCell (p:=⟨b,0,none⟩) hb v0).setCell (p:=⟨b,1,none⟩) hb v1).setCell (p:=⟨b,2,none⟩) hb v2).setCell (p:=⟨b,3,none⟩) hb v3).setCell (p:=⟨b,4,none⟩) hb v4).setCell (p:=⟨b,5,none⟩) hb v5).setCell (p:=⟨b,6,none⟩) hb v6).setCell (p:=⟨b,7,none⟩) hb v7).setCell (p:=⟨b,8,none⟩) hb v8)
theorem sM {B0 R : Nat} {s : aJ} {w : World} {b : Nat} {v0 v1 v2 v3 v4 v5 v6 v7 v8 : Value} (h : bq w R B0 s) (hR : R ≠ b) (hB : B0 <= b) : bq (((((((((w.setCell ⟨b,0,none⟩ v0).setCell ⟨b,1,none⟩ v1).setCell ⟨b,2,none⟩ v2).setCell ⟨b,3,none⟩ v3).setCell ⟨b,4,none⟩ v4).setCell ⟨b,5,none⟩ v5).setCell ⟨b,6,none⟩ v6).setCell ⟨b,7,none⟩ v7).setCell ⟨b,8,none⟩ v8) R B0 s :=
 (((((((((h.dA (p:=⟨b,0,none⟩) hR hB v0).dA (p:=⟨b,1,none⟩) hR hB v1).dA (p:=⟨b,2,none⟩) hR hB v2).dA (p:=⟨b,3,none⟩) hR hB v3).dA (p:=⟨b,4,none⟩) hR hB v4).dA (p:=⟨b,5,none⟩) hR hB v5).dA (p:=⟨b,6,none⟩) hR hB v6).dA (p:=⟨b,7,none⟩) hR hB v7).dA (p:=⟨b,8,none⟩) hR hB v8)
theorem VE {B0 : Nat} (R : Nat) (s : aJ) (last : Int) (hl : last = 65535) (w : World) (h : bq w R B0 s) (hB0 : B0 <= w.heap.size) :
 Calls Tryz.prog 197 #[.pointer (some ⟨R,0,none⟩),.int .i64 last] w λe w'=>e = .returned (.tuple #[mg (dK last s).1,.int .i64 (dK last s).2.1]) /\ bq w' R B0 (dK last s).2.2 /\ Only (· = R) w w':=by
 unfold dK
 rw [if_pos hl]
 have l1 : ¬ last < -1:=by omega
 have l2 : ¬ 65535 < last:=by omega
 have l3 : (last == 65535) = true:=by simpa using hl
 clear hl
 have hR0 : bq (w.alloc (.cells #[.int .i64 0,.int .i64 0,.int .i64 0,.int .i64 0,.int .i64 0,.int .i64 0,.int .i64 0,.int .i64 0,.int .u16 0] 147)) R B0 s:=h.below (ajL)
 have mP:=ak.new w #[.int .i64 0,.int .i64 0,.int .i64 0,.int .i64 0,.int .i64 0,.int .i64 0,.int .i64 0,.int .i64 0,.int .u16 0] 147;have Q8:=(Only.refl (· = R) w).alloc (.cells #[.int .i64 0,.int .i64 0,.int .i64 0,.int .i64 0,.int .i64 0,.int .i64 0,.int .i64 0,.int .i64 0,.int .u16 0] 147)
 have fl:=zo (B0:=B0) R s 10 (by decide) _ hR0
 rw [show ((s.1,if s.2 = 0 then 10 else s.2) : aJ) = gB 10 s from rfl] at fl
 generalize gB 10 s = st at *
 have vO:=ajK mP;have HO0:=ajK Q8
 have er:=λs w h=>zn (B0:=B0) R s w h
 have hne : ¬ w.heap.size = R:=by have:=h.lt;omega
 have pE:=ajK hne;clear hR0 mP Q8 h
 unfold mg GU
 go_enter Tryz.func197,Tryz.ntmps197
 go_wp2_with fail
 refine fl.mono ?_;rintro e w1 ⟨rfl,oI,nu⟩
 have hA1:=nu.blk vO.out pE.out;have e1:=er _ w1 oI;have HR1:=ajK oI;have HA1:=ajK hA1;have pq:=ajK (HO0.out.trans nu);clear oI hA1 nu fl er hne
 go_wp2_with fail
 refine e1.mono ?_;rintro e w2 ⟨rfl,rfl⟩
 have hA1:=HA1.out;have c0:=hA1.cell 0;have c1:=hA1.cell 1;have c2:=hA1.cell 2;have c3:=hA1.cell 3;have c4:=hA1.cell 4;have c5:=hA1.cell 5;have c6:=hA1.cell 6;have c7:=hA1.cell 7;have c8:=hA1.cell 8;have f0:=hA1.free 0;have f1:=hA1.free 1;have f2:=hA1.free 2;have f3:=hA1.free 3;have f4:=hA1.free 4;have f5:=hA1.free 5;have f6:=hA1.free 6;have f7:=hA1.free 7;have f8:=hA1.free 8;simp at c0 c1 c2 c3 c4 c5 c6 c7 c8;clear e1 hA1
 go_wp2
 exact bodyPost_ret (v:=.tuple #[.agg #[.int .i64 0,.int .i64 0,.int .i64 0,.int .i64 0,.int .i64 0,.int .i64 0,.int .i64 0,.int .i64 0,.int .u16 0],.int .i64 st.2])
  (by have hh:=mO (v0:=.int .i64 0) (v1:=.int .i64 0) (v2:=.int .i64 0) (v3:=.int .i64 0) (v4:=.int .i64 0) (v5:=.int .i64 0) (v6:=.int .i64 0) (v7:=.int .i64 0) (v8:=.int .u16 0) HA1.out
      have g0:=hh.cell 0;have g1:=hh.cell 1;have g2:=hh.cell 2;have g3:=hh.cell 3;have g4:=hh.cell 4;have g5:=hh.cell 5;have g6:=hh.cell 6;have g7:=hh.cell 7;have g8:=hh.cell 8;simp at g0 g1 g2 g3 g4 g5 g6 g7 g8
      simp [results,Tryz.results197,go_sem,g0,g1,g2,g3,g4,g5,g6,g7,g8]) rfl
  ⟨rfl,sM HR1.out (Ne.symm pE.out) hB0,qB pq.out (.inr (Nat.le_refl _))⟩
set_option maxRecDepth 8000
def aK (ns : List Int) : Nat -> Int
 | 0=>0
 | k + 1=>aK ns k + (if ns.getD k 0 ≠ 0 then 2 ^ k else 0)
def bT (ns : List Int) : Nat -> List Int
 | 0=>[]
 | k + 1=>bT ns k ++ (if ns.getD k 0 ≠ 0 then zb (ns.getD k 0) else [])
theorem Sl (ns : List Int) : ∀ k,0 <= aK ns k /\ aK ns k < 2 ^ k
 | 0=>⟨Int.le_refl _,by simp [aK]⟩
 | k + 1=>by
   have h:=Sl ns k
   rw [aK,Int.pow_succ]
   have hp : (0 : Int) < 2 ^ k:=Int.pow_pos (by decide)
   split <;> omega
theorem Sm (ns : List Int) : ∀ k,k <= ns.length -> bT ns k = nb ((ns.take k).filter (· ≠ 0))
 | 0,_=>by simp [bT,nb]
 | k + 1,h=>by
   rw [bT,Sm ns k (by omega),List.take_add_one,List.filter_append]
   have hk : ns[k]? = some ns[k]:=List.getElem?_eq_getElem (by omega)
   have hd : ns.getD k 0 = ns[k]:=by simp [List.getD,hk]
   rw [hd,hk]
   simp only [Option.toList_some]
   by_cases h0 : ns[k] = 0
   ·simp [h0,nb]
   ·simp [h0,nb]
theorem NG (ns : List Int) (hn : ∀ n ∈ ns,aA n) : ∀ k,(bT ns k).length <= 10 * k
 | 0=>by simp [bT]
 | k + 1=>by
   have h:=NG ns hn k
   rw [bT,List.length_append]
   split
   ·have : aA (ns.getD k 0):=by
     unfold List.getD
     cases hx : ns[k]? with
     | none=>exact ⟨by decide,by decide⟩
     | some x=>exact hn x (List.mem_of_getElem? hx)
    have:=Sc this
    omega
   ·simp;omega
theorem or_bit {m : Int} {k : Nat} (hk : k <= 7) (h0 : 0 <= m) (h1 : m < 2 ^ k) : bits .or .u8 m (2 ^ k) = m + 2 ^ k:=by
 have hp : (2 : Int) ^ k <= 128:=by
  have : ∀ j : Fin 8,(2 : Int) ^ j.val <= 128:=by decide +kernel
  exact this ⟨k,by omega⟩
 exact bits_join_low .u8 8 (by decide) wraps_u8 k m (2 ^ k) h0 h1 (by omega) (by omega) (by simp) (by omega)
theorem aY.elem {w : World} {base : Nat} {v : Value} {zs : List Int} (h : aY w base v zs) {i : Nat} {z : Int} (hi : zs[i]? = some z) :
 ∃ g c L,v = .slice (some ⟨g,0,none⟩) L c /\ L = zs.length /\ L <= c /\ base <= g /\ w.cell? ⟨g,i,none⟩ = some (.int .u8 z) /\ w.frozen? ⟨g,i,none⟩ = false /\
  ∀ x,U8 x -> aY (w.setCell ⟨g,i,none⟩ (.int .u8 x)) base v (zs.set i x):=by
 obtain ⟨⟨h1,h2⟩,h3⟩:=h
 have hil : i < zs.length:=(List.getElem?_eq_some_iff.1 hi).1
 rcases h2 with ⟨_,h2⟩ | ⟨g,c,cur,rfl,hb,hh,hc,hm,hs,ht⟩
 ·omega
 ·have hB : ak w g cur 5:=hh
  have hci : cur[i]? = some (.int .u8 z):=by
   have h4 : (cur.toList.take (zs.length * 1))[i]? = some (.int .u8 z):=by rw [ht];simp [hi]
   rw [List.getElem?_take] at h4
   split at h4
   ·simpa using h4
   ·cases h4
  refine ⟨g,c,zs.length,rfl,rfl,hc,hb,by rw [hB.cell i,hci],hB.free i,λx hx=>⟨⟨by simp,.inr ⟨g,c,cur.setIfInBounds i (.int .u8 x),by rw [List.length_set],hb,hB.set i _,by rw [List.length_set];exact hc,hm,by simp [hs],?_⟩⟩,?_⟩⟩
  ·rw [List.length_set,Array.toList_setIfInBounds,List.take_set,ht,List.map_set]
  ·intro y hy
   rcases List.mem_or_eq_of_mem_set hy with h5 | rfl
   ·exact h3 y h5
   ·exact hx
def oJ (w : World) (base X : Nat) (r : Rec) (zs : List Int) (k : Nat) (v : Value) (wr : World) : Prop :=
 aY wr base v (zs ++ aK (aj r) k :: bT (aj r) k) /\ ak wr X (aZ r) 147 /\ Below base w wr
set_option maxHeartbeats 4000000 in
theorem MU (v : Value) (zs : List Int) (X : Nat) (r : Rec) (hr : r.Ok) (base : Nat) (w : World) (hz : aY w base v zs) (hX : ak w X (aZ r) 147) (yt : X < base) (hl : (zs.length : Int) <= 140737488354000) (hb : base <= w.heap.size) :
 Calls Tryz.prog 156 #[v,.pointer (some ⟨X,0,none⟩)] w λe w'=>∃ v',e = .returned v' /\ aY w' base v' (zs ++ rA r) /\ Below base w w':=by
 have nf:=λw=>FH X w
 unfold ptrs at nf
 have hns : ∀ n ∈ aj r,aA n:=by intro n hn;simp [aj] at hn;rcases hn with h | h | h | h | h | h <;> subst h;exact hr.px;exact hr.py;exact hr.pz;exact hr.vx;exact hr.vy;exact hr.vz
 have FN : Hid (∀ k,(bT (aj r) k).length <= 10 * k):=ajK (NG _ hns)
 have BH : Hid (∀ k,0 <= aK (aj r) k /\ aK (aj r) k < 2 ^ k):=ajK (Sl _)
 have ha:=hr.aG
 have hu : iQ r.aG:=⟨by omega,by omega⟩
 have hln:=dM hu
 rw [← eH] at hln
 have HS : Hid (rA r = (if r.aG ≠ 0 then aK (aj r) 6 + 64 else aK (aj r) 6) :: (bT (aj r) 6 ++ (if r.aG ≠ 0 then aB r.aG else []))):=ajK (by
  unfold rA
  rw [Sm _ 6 (by simp [aj])]
  have hm : nM r = (if r.aG ≠ 0 then aK (aj r) 6 + 64 else aK (aj r) 6):=by
   unfold nM
   simp only [aK,aj,List.getD_cons_zero,List.getD_cons_succ]
   split <;> simp <;> omega
  rw [hm]
  simp [aj])
 have hlen:=hz.bytes
 obtain ⟨az,cz,rfl,hzb,hzc⟩:=hlen
 have HZ:=ajK hz;have HX:=ajK hX;have HR:=ajK hr
 have hB0 : Below base w (w.alloc (.cells #[.int .u8 0] 5)):=ajM.alloc hb _
 have HZ1:=ajK (hz.below (ajM.alloc (Nat.le_refl _) (.cells #[.int .u8 0] 5)));have HB0:=ajK hB0
 have hin:=Eo w [0] (aW.one ⟨by decide,by decide⟩)
 have HXL:=ajK hX.lt;clear hz hX hr hzb hzc hns hB0
 go_enter Tryz.func156,Tryz.ntmps156
 go_wp2_with (at_builtin;refine bD _ rfl (.tmp 10) (.tmp 11) rfl base _ zs rfl HZ1.out (some ⟨w.heap.size,0,none⟩) 1 1 [0] rfl hin (by intro h;cases h) (by omega) (by simp;omega) ?_)
 intro v1 w1 ho1 hg1
 have pq:=ajK ho1
 have hB1 : Below base w w1:=HB0.out.grown hg1 (by simp;omega) (λj e=>(HZ1.out.lt j e).1)
 have HB1:=ajK hB1;clear ho1 hg1 hin
 go_wp2_with fail
 refine (nf _).mono ?_;rintro e w2 ⟨rfl,hb2⟩
 have hs1:=hB1.size
 have HSt : Hid (oJ w base X r zs 0 v1 w2):=ajK ⟨by simpa [aK,bT] using pq.out.below hb2,(HX.out.below hB1 yt).below hb2 (by omega),hB1.trans (hb2.mono (by omega))⟩
 clear hb2 nf hB1
 go_wp2_with fail
 go_loopw [0,15] (λv i wr=>∃ k : Nat,k <= 6 /\ i = .int .i64 k /\ oJ w base X r zs k v wr) (λ_ i _=>6 - (intOf i).toNat)
 case atStart=>exact ⟨0,by omega,rfl,HSt.out⟩
 case round =>
  rename_i wr
  obtain ⟨k,hk,rfl,hO,hX,hB⟩:=hrel
  have hbs : base <= wr.heap.size:=Nat.le_trans hb hB.size
  have HB:=ajK hB;have HX:=ajK hX;have HO:=ajK hO
  rcases (show k = 0 \/ k = 1 \/ k = 2 \/ k = 3 \/ k = 4 \/ k = 5 \/ k = 6 by omega) with rfl | rfl | rfl | rfl | rfl | rfl | rfl
  ·have c0:=hX.cell 2
   simp at c0
   have mR : Hid (aK (aj r) 1 = aK (aj r) 0 + (if r.px ≠ 0 then 1 else 0)):=ajK rfl
   have pF : Hid (bT (aj r) 1 = bT (aj r) 0 ++ (if r.px ≠ 0 then zb r.px else [])):=ajK rfl
   have hI:=HR.out.px
   obtain ⟨g,c,L,rfl,qR,hcl,hgb,hc,hf,hset⟩:=hO.elem (i:=zs.length) (z:=aK (aj r) 0) (by simp)
   have hm : 0 <= aK (aj r) 0 /\ aK (aj r) 0 < 1:=BH.out 0
   have hor : bits .or .u8 (aK (aj r) 0) 1 = aK (aj r) 0 + 1:=or_bit (k:=0) (by decide) hm.1 hm.2
   have hset':=hset (aK (aj r) 0 + 1) ⟨by omega,by omega⟩
   have hyl:=FN.out 0
   rw [show (zs ++ aK (aj r) 0 :: bT (aj r) 0).set zs.length (aK (aj r) 0 + 1) = zs ++ (aK (aj r) 0 + 1) :: bT (aj r) 0 by rw [List.set_append_right _ _ (Nat.le_refl _),Nat.sub_self];rfl] at hset'
   generalize hnn : r.px = n at *
   have zG:=ajK hnn;clear hnn
   by_cases hn : n = 0
   ·subst hn
    have HS2 : Hid (oJ w base X r zs 1 _ wr):=ajK ⟨by rw [mR.out,pF.out,if_neg (by simp),if_neg (by simp),Int.add_zero,List.append_nil];exact HO.out,HX.out,HB.out⟩
    clear hX hO hB HO hset hset' hc hf hor
    go_wp2
    go_roundw
    case rel=>exact ⟨1,by omega,by first | rfl | go_num,HS2.out⟩
    case measure=>simp [intOf]
   ·have hn2 : (n != 0) = true:=by simpa using hn
    have wR : Hid (aK (aj r) 1 = aK (aj r) 0 + 1):=ajK (by rw [mR.out,if_pos hn])
    have wS : Hid (bT (aj r) 1 = bT (aj r) 0 ++ zb n):=ajK (by rw [pF.out,if_pos hn])
    have xR : U8 (aK (aj r) 0 + 1):=⟨by omega,by omega⟩
    have qU : Hid (∀ W,aY W base (.slice (some ⟨g,0,none⟩) L c) (zs ++ (aK (aj r) 0 + 1) :: bT (aj r) 0) -> base <= W.heap.size -> Calls Tryz.prog 190 #[.slice (some ⟨g,0,none⟩) L c,.int .i64 n] W λe w'=>∃ v',e = .returned v' /\ aY w' base v' ((zs ++ (aK (aj r) 0 + 1) :: bT (aj r) 0) ++ aB (kJ n)) /\ Below base W w'):=ajK (λW h1 h2=>rO _ _ n hI base W h1 (by simp;omega) h2)
    have zH : Hid (L = zs.length + 1 + (bT (aj r) 0).length):=ajK (by rw [qR];simp;omega)
    clear hX hO hB hset hset' mR pF hf
    have NH : (zs.length : Int) < L:=by have:=zH.out;omega
    have NI : (L : Int) <= c:=by omega
    clear qR
    go_wp2_with fail
    apply cB 8
    case hm=>kernel_rfl
    case hB=>kernel_rfl
    simp only [List.take_succ_cons,List.take_zero,List.drop_succ_cons,List.drop_zero]
    repeat (apply bG;(next=>(intro W hW K hK;have y0:=hW.cell hc;go_simp;first | exact ⟨Below.refl _ _,hK⟩ | exact hK));(try go_simp))
    refine dO ?_
    intro WC aO _
    have hO2:=HO.out.below aO
    obtain ⟨g2,c2,L2,e2,e6,e7,KM,hc2,hf2,ji⟩:=hO2.elem (i:=zs.length) (z:=aK (aj r) 0) (by simp)
    simp only [Value.slice.injEq,Option.some.injEq,Addr.mk.injEq] at e2
    obtain ⟨⟨e3,_⟩,e5,e4⟩:=e2
    clear e6 e7
    subst e3
    subst e4
    subst e5
    have hO3:=ji (aK (aj r) 0 + 1) xR
    rw [show (zs ++ aK (aj r) 0 :: bT (aj r) 0).set zs.length (aK (aj r) 0 + 1) = zs ++ (aK (aj r) 0 + 1) :: bT (aj r) 0 by rw [List.set_append_right _ _ (Nat.le_refl _),Nat.sub_self];rfl] at hO3
    have hB2:=(HB.out.trans (Below.mono aO hbs)).setCell (p:=⟨g,zs.length,none⟩) hgb (.int .u8 (aK (aj r) 0 + 1))
    have hX2:=(HX.out.below aO HX.out.lt).far (p:=⟨g,zs.length,none⟩) (show X ≠ g by omega) (.int .u8 (aK (aj r) 0 + 1))
    have hs2:=Nat.le_trans hb hB2.size;have nn:=qU.out _ hO3 hs2;have c1:=hX2.cell 2;simp at c1
    rw [zG.out] at c1
    have iM:=ajK hX2;have HB2:=ajK hB2;clear hO2 hO3 ji hB2 hX2 aO HO HX HB qU c0 hc
    go_wp2_with fail
    refine nn.mono ?_;rintro e w5 ⟨v5,rfl,nZ,hb5⟩
    have HS2 : Hid (oJ w base X r zs 1 v5 w5):=ajK ⟨by rw [wR.out,wS.out];simpa [zb] using nZ,iM.out.below hb5 yt,HB2.out.trans hb5⟩
    clear nZ hb5 nn iM HB2
    go_wp2
    go_roundw
    case rel=>exact ⟨1,by omega,by first | rfl | go_num,HS2.out⟩
    case measure=>simp [intOf]
  ·have c0:=hX.cell 3
   simp at c0
   have mR : Hid (aK (aj r) 2 = aK (aj r) 1 + (if r.py ≠ 0 then 2 else 0)):=ajK rfl
   have pF : Hid (bT (aj r) 2 = bT (aj r) 1 ++ (if r.py ≠ 0 then zb r.py else [])):=ajK rfl
   have hI:=HR.out.py
   obtain ⟨g,c,L,rfl,qR,hcl,hgb,hc,hf,hset⟩:=hO.elem (i:=zs.length) (z:=aK (aj r) 1) (by simp)
   have hm : 0 <= aK (aj r) 1 /\ aK (aj r) 1 < 2:=BH.out 1
   have hor : bits .or .u8 (aK (aj r) 1) 2 = aK (aj r) 1 + 2:=or_bit (k:=1) (by decide) hm.1 hm.2
   have hset':=hset (aK (aj r) 1 + 2) ⟨by omega,by omega⟩
   have hyl:=FN.out 1
   rw [show (zs ++ aK (aj r) 1 :: bT (aj r) 1).set zs.length (aK (aj r) 1 + 2) = zs ++ (aK (aj r) 1 + 2) :: bT (aj r) 1 by rw [List.set_append_right _ _ (Nat.le_refl _),Nat.sub_self];rfl] at hset'
   generalize hnn : r.py = n at *
   have zG:=ajK hnn;clear hnn
   by_cases hn : n = 0
   ·subst hn
    have HS2 : Hid (oJ w base X r zs 2 _ wr):=ajK ⟨by rw [mR.out,pF.out,if_neg (by simp),if_neg (by simp),Int.add_zero,List.append_nil];exact HO.out,HX.out,HB.out⟩
    clear hX hO hB HO hset hset' hc hf hor
    go_wp2
    go_roundw
    case rel=>exact ⟨2,by omega,by first | rfl | go_num,HS2.out⟩
    case measure=>simp [intOf]
   ·have hn2 : (n != 0) = true:=by simpa using hn
    have wR : Hid (aK (aj r) 2 = aK (aj r) 1 + 2):=ajK (by rw [mR.out,if_pos hn])
    have wS : Hid (bT (aj r) 2 = bT (aj r) 1 ++ zb n):=ajK (by rw [pF.out,if_pos hn])
    have xR : U8 (aK (aj r) 1 + 2):=⟨by omega,by omega⟩
    have qU : Hid (∀ W,aY W base (.slice (some ⟨g,0,none⟩) L c) (zs ++ (aK (aj r) 1 + 2) :: bT (aj r) 1) -> base <= W.heap.size -> Calls Tryz.prog 190 #[.slice (some ⟨g,0,none⟩) L c,.int .i64 n] W λe w'=>∃ v',e = .returned v' /\ aY w' base v' ((zs ++ (aK (aj r) 1 + 2) :: bT (aj r) 1) ++ aB (kJ n)) /\ Below base W w'):=ajK (λW h1 h2=>rO _ _ n hI base W h1 (by simp;omega) h2)
    have zH : Hid (L = zs.length + 1 + (bT (aj r) 1).length):=ajK (by rw [qR];simp;omega)
    clear hX hO hB hset hset' mR pF hf
    have NH : (zs.length : Int) < L:=by have:=zH.out;omega
    have NI : (L : Int) <= c:=by omega
    clear qR
    go_wp2_with fail
    apply cB 8
    case hm=>kernel_rfl
    case hB=>kernel_rfl
    simp only [List.take_succ_cons,List.take_zero,List.drop_succ_cons,List.drop_zero]
    repeat (apply bG;(next=>(intro W hW K hK;have y0:=hW.cell hc;go_simp;first | exact ⟨Below.refl _ _,hK⟩ | exact hK));(try go_simp))
    refine dO ?_
    intro WC aO _
    have hO2:=HO.out.below aO
    obtain ⟨g2,c2,L2,e2,e6,e7,KM,hc2,hf2,ji⟩:=hO2.elem (i:=zs.length) (z:=aK (aj r) 1) (by simp)
    simp only [Value.slice.injEq,Option.some.injEq,Addr.mk.injEq] at e2
    obtain ⟨⟨e3,_⟩,e5,e4⟩:=e2
    clear e6 e7
    subst e3
    subst e4
    subst e5
    have hO3:=ji (aK (aj r) 1 + 2) xR
    rw [show (zs ++ aK (aj r) 1 :: bT (aj r) 1).set zs.length (aK (aj r) 1 + 2) = zs ++ (aK (aj r) 1 + 2) :: bT (aj r) 1 by rw [List.set_append_right _ _ (Nat.le_refl _),Nat.sub_self];rfl] at hO3
    have hB2:=(HB.out.trans (Below.mono aO hbs)).setCell (p:=⟨g,zs.length,none⟩) hgb (.int .u8 (aK (aj r) 1 + 2))
    have hX2:=(HX.out.below aO HX.out.lt).far (p:=⟨g,zs.length,none⟩) (show X ≠ g by omega) (.int .u8 (aK (aj r) 1 + 2))
    have hs2:=Nat.le_trans hb hB2.size;have nn:=qU.out _ hO3 hs2;have c1:=hX2.cell 3;simp at c1
    rw [zG.out] at c1
    have iM:=ajK hX2;have HB2:=ajK hB2;clear hO2 hO3 ji hB2 hX2 aO HO HX HB qU c0 hc
    go_wp2_with fail
    refine nn.mono ?_;rintro e w5 ⟨v5,rfl,nZ,hb5⟩
    have HS2 : Hid (oJ w base X r zs 2 v5 w5):=ajK ⟨by rw [wR.out,wS.out];simpa [zb] using nZ,iM.out.below hb5 yt,HB2.out.trans hb5⟩
    clear nZ hb5 nn iM HB2
    go_wp2
    go_roundw
    case rel=>exact ⟨2,by omega,by first | rfl | go_num,HS2.out⟩
    case measure=>simp [intOf]
  ·have c0:=hX.cell 4
   simp at c0
   have mR : Hid (aK (aj r) 3 = aK (aj r) 2 + (if r.pz ≠ 0 then 4 else 0)):=ajK rfl
   have pF : Hid (bT (aj r) 3 = bT (aj r) 2 ++ (if r.pz ≠ 0 then zb r.pz else [])):=ajK rfl
   have hI:=HR.out.pz
   obtain ⟨g,c,L,rfl,qR,hcl,hgb,hc,hf,hset⟩:=hO.elem (i:=zs.length) (z:=aK (aj r) 2) (by simp)
   have hm : 0 <= aK (aj r) 2 /\ aK (aj r) 2 < 4:=BH.out 2
   have hor : bits .or .u8 (aK (aj r) 2) 4 = aK (aj r) 2 + 4:=or_bit (k:=2) (by decide) hm.1 hm.2
   have hset':=hset (aK (aj r) 2 + 4) ⟨by omega,by omega⟩
   have hyl:=FN.out 2
   rw [show (zs ++ aK (aj r) 2 :: bT (aj r) 2).set zs.length (aK (aj r) 2 + 4) = zs ++ (aK (aj r) 2 + 4) :: bT (aj r) 2 by rw [List.set_append_right _ _ (Nat.le_refl _),Nat.sub_self];rfl] at hset'
   generalize hnn : r.pz = n at *
   have zG:=ajK hnn;clear hnn
   by_cases hn : n = 0
   ·subst hn
    have HS2 : Hid (oJ w base X r zs 3 _ wr):=ajK ⟨by rw [mR.out,pF.out,if_neg (by simp),if_neg (by simp),Int.add_zero,List.append_nil];exact HO.out,HX.out,HB.out⟩
    clear hX hO hB HO hset hset' hc hf hor
    go_wp2
    go_roundw
    case rel=>exact ⟨3,by omega,by first | rfl | go_num,HS2.out⟩
    case measure=>simp [intOf]
   ·have hn2 : (n != 0) = true:=by simpa using hn
    have wR : Hid (aK (aj r) 3 = aK (aj r) 2 + 4):=ajK (by rw [mR.out,if_pos hn])
    have wS : Hid (bT (aj r) 3 = bT (aj r) 2 ++ zb n):=ajK (by rw [pF.out,if_pos hn])
    have xR : U8 (aK (aj r) 2 + 4):=⟨by omega,by omega⟩
    have qU : Hid (∀ W,aY W base (.slice (some ⟨g,0,none⟩) L c) (zs ++ (aK (aj r) 2 + 4) :: bT (aj r) 2) -> base <= W.heap.size -> Calls Tryz.prog 190 #[.slice (some ⟨g,0,none⟩) L c,.int .i64 n] W λe w'=>∃ v',e = .returned v' /\ aY w' base v' ((zs ++ (aK (aj r) 2 + 4) :: bT (aj r) 2) ++ aB (kJ n)) /\ Below base W w'):=ajK (λW h1 h2=>rO _ _ n hI base W h1 (by simp;omega) h2)
    have zH : Hid (L = zs.length + 1 + (bT (aj r) 2).length):=ajK (by rw [qR];simp;omega)
    clear hX hO hB hset hset' mR pF hf
    have NH : (zs.length : Int) < L:=by have:=zH.out;omega
    have NI : (L : Int) <= c:=by omega
    clear qR
    go_wp2_with fail
    apply cB 8
    case hm=>kernel_rfl
    case hB=>kernel_rfl
    simp only [List.take_succ_cons,List.take_zero,List.drop_succ_cons,List.drop_zero]
    repeat (apply bG;(next=>(intro W hW K hK;have y0:=hW.cell hc;go_simp;first | exact ⟨Below.refl _ _,hK⟩ | exact hK));(try go_simp))
    refine dO ?_
    intro WC aO _
    have hO2:=HO.out.below aO
    obtain ⟨g2,c2,L2,e2,e6,e7,KM,hc2,hf2,ji⟩:=hO2.elem (i:=zs.length) (z:=aK (aj r) 2) (by simp)
    simp only [Value.slice.injEq,Option.some.injEq,Addr.mk.injEq] at e2
    obtain ⟨⟨e3,_⟩,e5,e4⟩:=e2
    clear e6 e7
    subst e3
    subst e4
    subst e5
    have hO3:=ji (aK (aj r) 2 + 4) xR
    rw [show (zs ++ aK (aj r) 2 :: bT (aj r) 2).set zs.length (aK (aj r) 2 + 4) = zs ++ (aK (aj r) 2 + 4) :: bT (aj r) 2 by rw [List.set_append_right _ _ (Nat.le_refl _),Nat.sub_self];rfl] at hO3
    have hB2:=(HB.out.trans (Below.mono aO hbs)).setCell (p:=⟨g,zs.length,none⟩) hgb (.int .u8 (aK (aj r) 2 + 4))
    have hX2:=(HX.out.below aO HX.out.lt).far (p:=⟨g,zs.length,none⟩) (show X ≠ g by omega) (.int .u8 (aK (aj r) 2 + 4))
    have hs2:=Nat.le_trans hb hB2.size;have nn:=qU.out _ hO3 hs2;have c1:=hX2.cell 4;simp at c1
    rw [zG.out] at c1
    have iM:=ajK hX2;have HB2:=ajK hB2;clear hO2 hO3 ji hB2 hX2 aO HO HX HB qU c0 hc
    go_wp2_with fail
    refine nn.mono ?_;rintro e w5 ⟨v5,rfl,nZ,hb5⟩
    have HS2 : Hid (oJ w base X r zs 3 v5 w5):=ajK ⟨by rw [wR.out,wS.out];simpa [zb] using nZ,iM.out.below hb5 yt,HB2.out.trans hb5⟩
    clear nZ hb5 nn iM HB2
    go_wp2
    go_roundw
    case rel=>exact ⟨3,by omega,by first | rfl | go_num,HS2.out⟩
    case measure=>simp [intOf]
  ·have c0:=hX.cell 5
   simp at c0
   have mR : Hid (aK (aj r) 4 = aK (aj r) 3 + (if r.vx ≠ 0 then 8 else 0)):=ajK rfl
   have pF : Hid (bT (aj r) 4 = bT (aj r) 3 ++ (if r.vx ≠ 0 then zb r.vx else [])):=ajK rfl
   have hI:=HR.out.vx
   obtain ⟨g,c,L,rfl,qR,hcl,hgb,hc,hf,hset⟩:=hO.elem (i:=zs.length) (z:=aK (aj r) 3) (by simp)
   have hm : 0 <= aK (aj r) 3 /\ aK (aj r) 3 < 8:=BH.out 3
   have hor : bits .or .u8 (aK (aj r) 3) 8 = aK (aj r) 3 + 8:=or_bit (k:=3) (by decide) hm.1 hm.2
   have hset':=hset (aK (aj r) 3 + 8) ⟨by omega,by omega⟩
   have hyl:=FN.out 3
   rw [show (zs ++ aK (aj r) 3 :: bT (aj r) 3).set zs.length (aK (aj r) 3 + 8) = zs ++ (aK (aj r) 3 + 8) :: bT (aj r) 3 by rw [List.set_append_right _ _ (Nat.le_refl _),Nat.sub_self];rfl] at hset'
   generalize hnn : r.vx = n at *
   have zG:=ajK hnn;clear hnn
   by_cases hn : n = 0
   ·subst hn
    have HS2 : Hid (oJ w base X r zs 4 _ wr):=ajK ⟨by rw [mR.out,pF.out,if_neg (by simp),if_neg (by simp),Int.add_zero,List.append_nil];exact HO.out,HX.out,HB.out⟩
    clear hX hO hB HO hset hset' hc hf hor
    go_wp2
    go_roundw
    case rel=>exact ⟨4,by omega,by first | rfl | go_num,HS2.out⟩
    case measure=>simp [intOf]
   ·have hn2 : (n != 0) = true:=by simpa using hn
    have wR : Hid (aK (aj r) 4 = aK (aj r) 3 + 8):=ajK (by rw [mR.out,if_pos hn])
    have wS : Hid (bT (aj r) 4 = bT (aj r) 3 ++ zb n):=ajK (by rw [pF.out,if_pos hn])
    have xR : U8 (aK (aj r) 3 + 8):=⟨by omega,by omega⟩
    have qU : Hid (∀ W,aY W base (.slice (some ⟨g,0,none⟩) L c) (zs ++ (aK (aj r) 3 + 8) :: bT (aj r) 3) -> base <= W.heap.size -> Calls Tryz.prog 190 #[.slice (some ⟨g,0,none⟩) L c,.int .i64 n] W λe w'=>∃ v',e = .returned v' /\ aY w' base v' ((zs ++ (aK (aj r) 3 + 8) :: bT (aj r) 3) ++ aB (kJ n)) /\ Below base W w'):=ajK (λW h1 h2=>rO _ _ n hI base W h1 (by simp;omega) h2)
    have zH : Hid (L = zs.length + 1 + (bT (aj r) 3).length):=ajK (by rw [qR];simp;omega)
    clear hX hO hB hset hset' mR pF hf
    have NH : (zs.length : Int) < L:=by have:=zH.out;omega
    have NI : (L : Int) <= c:=by omega
    clear qR
    go_wp2_with fail
    apply cB 8
    case hm=>kernel_rfl
    case hB=>kernel_rfl
    simp only [List.take_succ_cons,List.take_zero,List.drop_succ_cons,List.drop_zero]
    repeat (apply bG;(next=>(intro W hW K hK;have y0:=hW.cell hc;go_simp;first | exact ⟨Below.refl _ _,hK⟩ | exact hK));(try go_simp))
    refine dO ?_
    intro WC aO _
    have hO2:=HO.out.below aO
    obtain ⟨g2,c2,L2,e2,e6,e7,KM,hc2,hf2,ji⟩:=hO2.elem (i:=zs.length) (z:=aK (aj r) 3) (by simp)
    simp only [Value.slice.injEq,Option.some.injEq,Addr.mk.injEq] at e2
    obtain ⟨⟨e3,_⟩,e5,e4⟩:=e2
    clear e6 e7
    subst e3
    subst e4
    subst e5
    have hO3:=ji (aK (aj r) 3 + 8) xR
    rw [show (zs ++ aK (aj r) 3 :: bT (aj r) 3).set zs.length (aK (aj r) 3 + 8) = zs ++ (aK (aj r) 3 + 8) :: bT (aj r) 3 by rw [List.set_append_right _ _ (Nat.le_refl _),Nat.sub_self];rfl] at hO3
    have hB2:=(HB.out.trans (Below.mono aO hbs)).setCell (p:=⟨g,zs.length,none⟩) hgb (.int .u8 (aK (aj r) 3 + 8))
    have hX2:=(HX.out.below aO HX.out.lt).far (p:=⟨g,zs.length,none⟩) (show X ≠ g by omega) (.int .u8 (aK (aj r) 3 + 8))
    have hs2:=Nat.le_trans hb hB2.size;have nn:=qU.out _ hO3 hs2;have c1:=hX2.cell 5;simp at c1
    rw [zG.out] at c1
    have iM:=ajK hX2;have HB2:=ajK hB2;clear hO2 hO3 ji hB2 hX2 aO HO HX HB qU c0 hc
    go_wp2_with fail
    refine nn.mono ?_;rintro e w5 ⟨v5,rfl,nZ,hb5⟩
    have HS2 : Hid (oJ w base X r zs 4 v5 w5):=ajK ⟨by rw [wR.out,wS.out];simpa [zb] using nZ,iM.out.below hb5 yt,HB2.out.trans hb5⟩
    clear nZ hb5 nn iM HB2
    go_wp2
    go_roundw
    case rel=>exact ⟨4,by omega,by first | rfl | go_num,HS2.out⟩
    case measure=>simp [intOf]
  ·have c0:=hX.cell 6
   simp at c0
   have mR : Hid (aK (aj r) 5 = aK (aj r) 4 + (if r.vy ≠ 0 then 16 else 0)):=ajK rfl
   have pF : Hid (bT (aj r) 5 = bT (aj r) 4 ++ (if r.vy ≠ 0 then zb r.vy else [])):=ajK rfl
   have hI:=HR.out.vy
   obtain ⟨g,c,L,rfl,qR,hcl,hgb,hc,hf,hset⟩:=hO.elem (i:=zs.length) (z:=aK (aj r) 4) (by simp)
   have hm : 0 <= aK (aj r) 4 /\ aK (aj r) 4 < 16:=BH.out 4
   have hor : bits .or .u8 (aK (aj r) 4) 16 = aK (aj r) 4 + 16:=or_bit (k:=4) (by decide) hm.1 hm.2
   have hset':=hset (aK (aj r) 4 + 16) ⟨by omega,by omega⟩
   have hyl:=FN.out 4
   rw [show (zs ++ aK (aj r) 4 :: bT (aj r) 4).set zs.length (aK (aj r) 4 + 16) = zs ++ (aK (aj r) 4 + 16) :: bT (aj r) 4 by rw [List.set_append_right _ _ (Nat.le_refl _),Nat.sub_self];rfl] at hset'
   generalize hnn : r.vy = n at *
   have zG:=ajK hnn;clear hnn
   by_cases hn : n = 0
   ·subst hn
    have HS2 : Hid (oJ w base X r zs 5 _ wr):=ajK ⟨by rw [mR.out,pF.out,if_neg (by simp),if_neg (by simp),Int.add_zero,List.append_nil];exact HO.out,HX.out,HB.out⟩
    clear hX hO hB HO hset hset' hc hf hor
    go_wp2
    go_roundw
    case rel=>exact ⟨5,by omega,by first | rfl | go_num,HS2.out⟩
    case measure=>simp [intOf]
   ·have hn2 : (n != 0) = true:=by simpa using hn
    have wR : Hid (aK (aj r) 5 = aK (aj r) 4 + 16):=ajK (by rw [mR.out,if_pos hn])
    have wS : Hid (bT (aj r) 5 = bT (aj r) 4 ++ zb n):=ajK (by rw [pF.out,if_pos hn])
    have xR : U8 (aK (aj r) 4 + 16):=⟨by omega,by omega⟩
    have qU : Hid (∀ W,aY W base (.slice (some ⟨g,0,none⟩) L c) (zs ++ (aK (aj r) 4 + 16) :: bT (aj r) 4) -> base <= W.heap.size -> Calls Tryz.prog 190 #[.slice (some ⟨g,0,none⟩) L c,.int .i64 n] W λe w'=>∃ v',e = .returned v' /\ aY w' base v' ((zs ++ (aK (aj r) 4 + 16) :: bT (aj r) 4) ++ aB (kJ n)) /\ Below base W w'):=ajK (λW h1 h2=>rO _ _ n hI base W h1 (by simp;omega) h2)
    have zH : Hid (L = zs.length + 1 + (bT (aj r) 4).length):=ajK (by rw [qR];simp;omega)
    clear hX hO hB hset hset' mR pF hf
    have NH : (zs.length : Int) < L:=by have:=zH.out;omega
    have NI : (L : Int) <= c:=by omega
    clear qR
    go_wp2_with fail
    apply cB 8
    case hm=>kernel_rfl
    case hB=>kernel_rfl
    simp only [List.take_succ_cons,List.take_zero,List.drop_succ_cons,List.drop_zero]
    repeat (apply bG;(next=>(intro W hW K hK;have y0:=hW.cell hc;go_simp;first | exact ⟨Below.refl _ _,hK⟩ | exact hK));(try go_simp))
    refine dO ?_
    intro WC aO _
    have hO2:=HO.out.below aO
    obtain ⟨g2,c2,L2,e2,e6,e7,KM,hc2,hf2,ji⟩:=hO2.elem (i:=zs.length) (z:=aK (aj r) 4) (by simp)
    simp only [Value.slice.injEq,Option.some.injEq,Addr.mk.injEq] at e2
    obtain ⟨⟨e3,_⟩,e5,e4⟩:=e2
    clear e6 e7
    subst e3
    subst e4
    subst e5
    have hO3:=ji (aK (aj r) 4 + 16) xR
    rw [show (zs ++ aK (aj r) 4 :: bT (aj r) 4).set zs.length (aK (aj r) 4 + 16) = zs ++ (aK (aj r) 4 + 16) :: bT (aj r) 4 by rw [List.set_append_right _ _ (Nat.le_refl _),Nat.sub_self];rfl] at hO3
    have hB2:=(HB.out.trans (Below.mono aO hbs)).setCell (p:=⟨g,zs.length,none⟩) hgb (.int .u8 (aK (aj r) 4 + 16))
    have hX2:=(HX.out.below aO HX.out.lt).far (p:=⟨g,zs.length,none⟩) (show X ≠ g by omega) (.int .u8 (aK (aj r) 4 + 16))
    have hs2:=Nat.le_trans hb hB2.size;have nn:=qU.out _ hO3 hs2;have c1:=hX2.cell 6;simp at c1
    rw [zG.out] at c1
    have iM:=ajK hX2;have HB2:=ajK hB2;clear hO2 hO3 ji hB2 hX2 aO HO HX HB qU c0 hc
    go_wp2_with fail
    refine nn.mono ?_;rintro e w5 ⟨v5,rfl,nZ,hb5⟩
    have HS2 : Hid (oJ w base X r zs 5 v5 w5):=ajK ⟨by rw [wR.out,wS.out];simpa [zb] using nZ,iM.out.below hb5 yt,HB2.out.trans hb5⟩
    clear nZ hb5 nn iM HB2
    go_wp2
    go_roundw
    case rel=>exact ⟨5,by omega,by first | rfl | go_num,HS2.out⟩
    case measure=>simp [intOf]
  ·have c0:=hX.cell 7
   simp at c0
   have mR : Hid (aK (aj r) 6 = aK (aj r) 5 + (if r.vz ≠ 0 then 32 else 0)):=ajK rfl
   have pF : Hid (bT (aj r) 6 = bT (aj r) 5 ++ (if r.vz ≠ 0 then zb r.vz else [])):=ajK rfl
   have hI:=HR.out.vz
   obtain ⟨g,c,L,rfl,qR,hcl,hgb,hc,hf,hset⟩:=hO.elem (i:=zs.length) (z:=aK (aj r) 5) (by simp)
   have hm : 0 <= aK (aj r) 5 /\ aK (aj r) 5 < 32:=BH.out 5
   have hor : bits .or .u8 (aK (aj r) 5) 32 = aK (aj r) 5 + 32:=or_bit (k:=5) (by decide) hm.1 hm.2
   have hset':=hset (aK (aj r) 5 + 32) ⟨by omega,by omega⟩
   have hyl:=FN.out 5
   rw [show (zs ++ aK (aj r) 5 :: bT (aj r) 5).set zs.length (aK (aj r) 5 + 32) = zs ++ (aK (aj r) 5 + 32) :: bT (aj r) 5 by rw [List.set_append_right _ _ (Nat.le_refl _),Nat.sub_self];rfl] at hset'
   generalize hnn : r.vz = n at *
   have zG:=ajK hnn;clear hnn
   by_cases hn : n = 0
   ·subst hn
    have HS2 : Hid (oJ w base X r zs 6 _ wr):=ajK ⟨by rw [mR.out,pF.out,if_neg (by simp),if_neg (by simp),Int.add_zero,List.append_nil];exact HO.out,HX.out,HB.out⟩
    clear hX hO hB HO hset hset' hc hf hor
    go_wp2
    go_roundw
    case rel=>exact ⟨6,by omega,by first | rfl | go_num,HS2.out⟩
    case measure=>simp [intOf]
   ·have hn2 : (n != 0) = true:=by simpa using hn
    have wR : Hid (aK (aj r) 6 = aK (aj r) 5 + 32):=ajK (by rw [mR.out,if_pos hn])
    have wS : Hid (bT (aj r) 6 = bT (aj r) 5 ++ zb n):=ajK (by rw [pF.out,if_pos hn])
    have xR : U8 (aK (aj r) 5 + 32):=⟨by omega,by omega⟩
    have qU : Hid (∀ W,aY W base (.slice (some ⟨g,0,none⟩) L c) (zs ++ (aK (aj r) 5 + 32) :: bT (aj r) 5) -> base <= W.heap.size -> Calls Tryz.prog 190 #[.slice (some ⟨g,0,none⟩) L c,.int .i64 n] W λe w'=>∃ v',e = .returned v' /\ aY w' base v' ((zs ++ (aK (aj r) 5 + 32) :: bT (aj r) 5) ++ aB (kJ n)) /\ Below base W w'):=ajK (λW h1 h2=>rO _ _ n hI base W h1 (by simp;omega) h2)
    have zH : Hid (L = zs.length + 1 + (bT (aj r) 5).length):=ajK (by rw [qR];simp;omega)
    clear hX hO hB hset hset' mR pF hf
    have NH : (zs.length : Int) < L:=by have:=zH.out;omega
    have NI : (L : Int) <= c:=by omega
    clear qR
    go_wp2_with fail
    apply cB 8
    case hm=>kernel_rfl
    case hB=>kernel_rfl
    simp only [List.take_succ_cons,List.take_zero,List.drop_succ_cons,List.drop_zero]
    repeat (apply bG;(next=>(intro W hW K hK;have y0:=hW.cell hc;go_simp;first | exact ⟨Below.refl _ _,hK⟩ | exact hK));(try go_simp))
    refine dO ?_
    intro WC aO _
    have hO2:=HO.out.below aO
    obtain ⟨g2,c2,L2,e2,e6,e7,KM,hc2,hf2,ji⟩:=hO2.elem (i:=zs.length) (z:=aK (aj r) 5) (by simp)
    simp only [Value.slice.injEq,Option.some.injEq,Addr.mk.injEq] at e2
    obtain ⟨⟨e3,_⟩,e5,e4⟩:=e2
    clear e6 e7
    subst e3
    subst e4
    subst e5
    have hO3:=ji (aK (aj r) 5 + 32) xR
    rw [show (zs ++ aK (aj r) 5 :: bT (aj r) 5).set zs.length (aK (aj r) 5 + 32) = zs ++ (aK (aj r) 5 + 32) :: bT (aj r) 5 by rw [List.set_append_right _ _ (Nat.le_refl _),Nat.sub_self];rfl] at hO3
    have hB2:=(HB.out.trans (Below.mono aO hbs)).setCell (p:=⟨g,zs.length,none⟩) hgb (.int .u8 (aK (aj r) 5 + 32))
    have hX2:=(HX.out.below aO HX.out.lt).far (p:=⟨g,zs.length,none⟩) (show X ≠ g by omega) (.int .u8 (aK (aj r) 5 + 32))
    have hs2:=Nat.le_trans hb hB2.size;have nn:=qU.out _ hO3 hs2;have c1:=hX2.cell 7;simp at c1
    rw [zG.out] at c1
    have iM:=ajK hX2;have HB2:=ajK hB2;clear hO2 hO3 ji hB2 hX2 aO HO HX HB qU c0 hc
    go_wp2_with fail
    refine nn.mono ?_;rintro e w5 ⟨v5,rfl,nZ,hb5⟩
    have HS2 : Hid (oJ w base X r zs 6 v5 w5):=ajK ⟨by rw [wR.out,wS.out];simpa [zb] using nZ,iM.out.below hb5 yt,HB2.out.trans hb5⟩
    clear nZ hb5 nn iM HB2
    go_wp2
    go_roundw
    case rel=>exact ⟨6,by omega,by first | rfl | go_num,HS2.out⟩
    case measure=>simp [intOf]
  ·have c0:=hX.cell 8
   simp at c0
   obtain ⟨g,c,L,rfl,qR,hcl,hgb,hc,hf,hset⟩:=hO.elem (i:=zs.length) (z:=aK (aj r) 6) (by simp)
   have hm : 0 <= aK (aj r) 6 /\ aK (aj r) 6 < 64:=BH.out 6
   have hor : bits .or .u8 (aK (aj r) 6) 64 = aK (aj r) 6 + 64:=or_bit (k:=6) (by decide) hm.1 hm.2
   have hset':=hset (aK (aj r) 6 + 64) ⟨by omega,by omega⟩
   have hyl:=FN.out 6
   rw [show (zs ++ aK (aj r) 6 :: bT (aj r) 6).set zs.length (aK (aj r) 6 + 64) = zs ++ (aK (aj r) 6 + 64) :: bT (aj r) 6 by rw [List.set_append_right _ _ (Nat.le_refl _),Nat.sub_self];rfl] at hset'
   have zH : Hid (L = zs.length + 1 + (bT (aj r) 6).length):=ajK (by rw [qR];simp;omega)
   have NH : (zs.length : Int) < L:=by have:=zH.out;omega
   have NI : (L : Int) <= c:=by omega
   generalize hnn : r.aG = n at *
   have zG:=ajK hnn;clear hnn
   by_cases hn : n = 0
   ·subst hn
    have HV : Hid (rA r = aK (aj r) 6 :: bT (aj r) 6):=ajK (by rw [HS.out,if_neg (by simp),if_neg (by simp),List.append_nil])
    clear hX hO hB hset hset' hc hf hor qR HS
    go_wp2
    go_ret
    exact ⟨_,rfl,by rw [HV.out];exact HO.out,HB.out⟩
   ·have hn2 : (n != 0) = true:=by simpa using hn
    have HV : Hid (rA r = (aK (aj r) 6 + 64) :: (bT (aj r) 6 ++ aB n)):=ajK (by rw [HS.out,if_pos hn,if_pos hn])
    have hX2:=HX.out.far (p:=⟨g,zs.length,none⟩) (show X ≠ g by omega) (.int .u8 (aK (aj r) 6 + 64))
    have hB2:=HB.out.setCell (p:=⟨g,zs.length,none⟩) hgb (.int .u8 (aK (aj r) 6 + 64));have hs2:=Nat.le_trans hb hB2.size;have c1:=hX2.cell 8;simp at c1
    rw [zG.out] at c1
    have pt:=nU n hu (wr.setCell ⟨g,zs.length,none⟩ (.int .u8 (aK (aj r) 6 + 64)));have bQ:=ajK hset';have HB2:=ajK hB2
    have hw : IntKind.u64.wrap n = n:=wraps_u64 _ (by omega) (by omega)
    have HYN : Hid ((zs ++ (aK (aj r) 6 + 64) :: bT (aj r) 6).length + (aB n).length <= 140737488355328):=ajK (by simp;omega)
    clear hX hO hB hset hset' qR HS hX2 hB2 HO HX HB
    go_wp2_with fail
    refine pt.mono ?_;rintro e w5 ⟨v5,rfl,nZ,hb5⟩
    obtain ⟨ad,c5,rfl,hba,hac⟩:=nZ.bytes
    have hs5:=hb5.size;have gI:=ajK (bQ.out.below hb5);have HB3:=ajK (HB2.out.trans (hb5.mono hs2));clear nZ hb5 pt bQ HB2
    go_wp2_with (at_builtin;refine bD _ rfl (.tmp 48) (.tmp 54) rfl base _ (zs ++ (aK (aj r) 6 + 64) :: bT (aj r) 6) rfl gI.out ad (aB n).length c5 (aB n) rfl hba hac HYN.out (by omega) ?_)
    intro v6 w6 ho6 hg6
    have ni : Hid (Below base w w6):=ajK (HB3.out.grown hg6 (by omega) (λj e=>(gI.out.lt j e).1))
    have tK:=ajK ho6;clear ho6 hg6 hba
    go_wp2
    go_ret
    exact ⟨v6,rfl,by rw [HV.out];simpa using tK.out,ni.out⟩
set_option maxRecDepth 100000
theorem Hf {w0 w : World} {b : Nat} {v0 v1 v2 v3 v4 v5 v6 v7 v8 : Value} (h : Below w0.heap.size w0 w) (hb : w0.heap.size <= b) : Below w0.heap.size w0 (((((((((w.setCell ⟨b,0,none⟩ v0).setCell ⟨b,1,none⟩ v1).setCell ⟨b,2,none⟩ v2).setCell ⟨b,3,none⟩ v3).setCell ⟨b,4,none⟩ v4).setCell ⟨b,5,none⟩ v5).setCell ⟨b,6,none⟩ v6).setCell ⟨b,7,none⟩ v7).setCell ⟨b,8,none⟩ v8) :=
 (qB (S:=λ_=>False) (Only.of_below h) (.inr hb)).below (Nat.le_refl _) (λ_ h=>h.elim)
def FX (a b : ay) : Bool:=a.id == b.id && (a.px == b.px && a.py == b.py && a.pz == b.pz) && (a.vx == b.vx && a.vy == b.vy && a.vz == b.vz) && a.aG == b.aG && a.gen == b.gen
def Dp (a b : ay) : Rec :=
 if a.gen = b.gen then ⟨1,b.id,IntKind.i64.wrap (b.px - a.px),IntKind.i64.wrap (b.py - a.py),IntKind.i64.wrap (b.pz - a.pz),IntKind.i64.wrap (b.vx - a.vx),IntKind.i64.wrap (b.vy - a.vy),IntKind.i64.wrap (b.vz - a.vz),IntKind.u16.wrap (b.aG - a.aG)⟩
 else ⟨3,b.id,b.px,b.py,b.pz,b.vx,b.vy,b.vz,b.aG⟩
def PU : Rec:=⟨0,0,0,0,0,0,0,0,0⟩
def cZ (a b : ay) : Rec × Bool:=if FX a b = true then (PU,false) else (Dp a b,true)
def yC (w : World) (X Y P : Nat) (ea eb : Array Value) (old : Array Value) (cells : List (Array Value)) (k : Nat) (wr : World) : Prop :=
 ∃ q,cells[k]? = some q /\ ak wr X q 147 /\ ak wr Y old 147 /\ ak wr P #[.pointer (some ⟨Y,2,none⟩),.pointer (some ⟨Y,3,none⟩),.pointer (some ⟨Y,4,none⟩),.pointer (some ⟨Y,5,none⟩),.pointer (some ⟨Y,6,none⟩),.pointer (some ⟨Y,7,none⟩)] 197 /\
  ak wr w.heap.size ea 33 /\ ak wr (w.heap.size + 1) eb 33 /\ ak wr (w.heap.size + 2) #[.int .i64 0,.int .i64 0,.int .i64 0,.int .i64 0,.int .i64 0,.int .i64 0,.int .i64 0,.int .i64 0,.int .u16 0] 147 /\ Below w.heap.size w wr
set_option maxHeartbeats 4000000 in
theorem VT (a b : ay) (w : World) :
 Calls Tryz.prog 70 #[bO a,bO b] w λe w'=>e = .returned (.tuple #[mg (cZ a b).1,.bool (cZ a b).2]) /\ Below w.heap.size w w':=by
 have HZ : Hid (cZ a b = if FX a b = true then (PU,false) else (if a.gen = b.gen then ⟨1,b.id,IntKind.i64.wrap (b.px - a.px),IntKind.i64.wrap (b.py - a.py),IntKind.i64.wrap (b.pz - a.pz),IntKind.i64.wrap (b.vx - a.vx),IntKind.i64.wrap (b.vy - a.vy),IntKind.i64.wrap (b.vz - a.vz),IntKind.u16.wrap (b.aG - a.aG)⟩ else ⟨3,b.id,b.px,b.py,b.pz,b.vx,b.vy,b.vz,b.aG⟩,true)):=ajK rfl
 generalize cZ a b = z at *
 have HS : Hid (FX a b = (a.id == b.id && (a.px == b.px && a.py == b.py && a.pz == b.pz) && (a.vx == b.vx && a.vy == b.vy && a.vz == b.vz) && a.aG == b.aG && a.gen == b.gen)):=ajK rfl
 generalize hsm : FX a b = sm at *
 obtain ⟨ai,a1,a2,a3,a4,a5,a6,aa,ag⟩:=a
 obtain ⟨bi,b1,b2,b3,b4,b5,b6,ba,bg⟩:=b
 unfold bO
 simp only at *
 have hEq : ∀ W : World,(Op.equalIn 10000 33 (.agg #[.int .i64 ai,.int .i64 a1,.int .i64 a2,.int .i64 a3,.int .i64 a4,.int .i64 a5,.int .i64 a6,.int .u16 aa,.int .u8 ag]) (.agg #[.int .i64 bi,.int .i64 b1,.int .i64 b2,.int .i64 b3,.int .i64 b4,.int .i64 b5,.int .i64 b6,.int .u16 ba,.int .u8 bg])).run Tryz.prog W = .ok sm W:=λW=>by
  rw [aaj,HS.out]
 clear hsm HS
 obtain ⟨w0,hw0⟩ : ∃ w0,(((w.alloc (.cells #[.int .i64 ai,.int .i64 a1,.int .i64 a2,.int .i64 a3,.int .i64 a4,.int .i64 a5,.int .i64 a6,.int .u16 aa,.int .u8 ag] 33)).alloc (.cells #[.int .i64 bi,.int .i64 b1,.int .i64 b2,.int .i64 b3,.int .i64 b4,.int .i64 b5,.int .i64 b6,.int .u16 ba,.int .u8 bg] 33)).alloc (.cells #[.int .i64 0,.int .i64 0,.int .i64 0,.int .i64 0,.int .i64 0,.int .i64 0,.int .i64 0,.int .i64 0,.int .u16 0] 147)) = w0:=⟨_,rfl⟩
 have mP : ak w0 w.heap.size #[.int .i64 ai,.int .i64 a1,.int .i64 a2,.int .i64 a3,.int .i64 a4,.int .i64 a5,.int .i64 a6,.int .u16 aa,.int .u8 ag] 33:=by rw [← hw0];exact ((ak.new _ _ _).alloc _).alloc _
 have hE0 : ak w0 (w.heap.size + 1) #[.int .i64 bi,.int .i64 b1,.int .i64 b2,.int .i64 b3,.int .i64 b4,.int .i64 b5,.int .i64 b6,.int .u16 ba,.int .u8 bg] 33:=by
  rw [← hw0]
  have:=(ak.new (w.alloc (.cells #[.int .i64 ai,.int .i64 a1,.int .i64 a2,.int .i64 a3,.int .i64 a4,.int .i64 a5,.int .i64 a6,.int .u16 aa,.int .u8 ag] 33)) #[.int .i64 bi,.int .i64 b1,.int .i64 b2,.int .i64 b3,.int .i64 b4,.int .i64 b5,.int .i64 b6,.int .u16 ba,.int .u8 bg] 33).alloc (.cells #[.int .i64 0,.int .i64 0,.int .i64 0,.int .i64 0,.int .i64 0,.int .i64 0,.int .i64 0,.int .i64 0,.int .u16 0] 147)
  simpa using this
 have nA : ak w0 (w.heap.size + 2) #[.int .i64 0,.int .i64 0,.int .i64 0,.int .i64 0,.int .i64 0,.int .i64 0,.int .i64 0,.int .i64 0,.int .u16 0] 147:=by
  rw [← hw0]
  have:=ak.new ((w.alloc (.cells #[.int .i64 ai,.int .i64 a1,.int .i64 a2,.int .i64 a3,.int .i64 a4,.int .i64 a5,.int .i64 a6,.int .u16 aa,.int .u8 ag] 33)).alloc (.cells #[.int .i64 bi,.int .i64 b1,.int .i64 b2,.int .i64 b3,.int .i64 b4,.int .i64 b5,.int .i64 b6,.int .u16 ba,.int .u8 bg] 33)) #[.int .i64 0,.int .i64 0,.int .i64 0,.int .i64 0,.int .i64 0,.int .i64 0,.int .i64 0,.int .i64 0,.int .u16 0] 147
  simpa using this
 have hB0 : Below w.heap.size w w0:=by rw [← hw0];exact ((ajL).alloc (by simp) _).alloc (by simp;omega) _
 have hs0 : w0.heap.size = w.heap.size + 3:=by rw [← hw0];simp
 have vO:=ajK mP;have Cj:=ajK hE0;have HZ0:=ajK nA;have HB0:=ajK hB0;have zJ:=ajK hs0;have c0:=mP.cell 0;have c1:=mP.cell 1;have c2:=mP.cell 2;have c3:=mP.cell 3;have c4:=mP.cell 4;have c5:=mP.cell 5;have c6:=mP.cell 6;have c7:=mP.cell 7;have c8:=mP.cell 8;simp at c0 c1 c2 c3 c4 c5 c6 c7 c8;have d0:=hE0.cell 0;have d1:=hE0.cell 1;have d2:=hE0.cell 2;have d3:=hE0.cell 3;have d4:=hE0.cell 4;have d5:=hE0.cell 5;have d6:=hE0.cell 6;have d7:=hE0.cell 7;have d8:=hE0.cell 8;simp at d0 d1 d2 d3 d4 d5 d6 d7 d8;have z0:=nA.cell 0;have z1:=nA.cell 1;have z2:=nA.cell 2;have z3:=nA.cell 3;have z4:=nA.cell 4;have z5:=nA.cell 5;have z6:=nA.cell 6;have z7:=nA.cell 7;have z8:=nA.cell 8;have y0:=nA.free 0;have y1:=nA.free 1;have y2:=nA.free 2;have y3:=nA.free 3;have y4:=nA.free 4;have y5:=nA.free 5;have y6:=nA.free 6;have y7:=nA.free 7;have y8:=nA.free 8
 simp at z0 z1 z2 z3 z4 z5 z6 z7 z8;clear mP hE0 nA hB0 hs0
 cases sm
 ·have HV : Hid (z = (if ag = bg then ⟨1,bi,IntKind.i64.wrap (b1 - a1),IntKind.i64.wrap (b2 - a2),IntKind.i64.wrap (b3 - a3),IntKind.i64.wrap (b4 - a4),IntKind.i64.wrap (b5 - a5),IntKind.i64.wrap (b6 - a6),IntKind.u16.wrap (ba - aa)⟩ else ⟨3,bi,b1,b2,b3,b4,b5,b6,ba⟩,true)):=ajK (by rw [HZ.out,if_neg (by decide)])
  clear HZ
  by_cases hg : ag = bg
  ·have vB : Hid (z = (⟨1,bi,IntKind.i64.wrap (b1 - a1),IntKind.i64.wrap (b2 - a2),IntKind.i64.wrap (b3 - a3),IntKind.i64.wrap (b4 - a4),IntKind.i64.wrap (b5 - a5),IntKind.i64.wrap (b6 - a6),IntKind.u16.wrap (ba - aa)⟩,true)):=ajK (by rw [HV.out,if_pos hg])
   clear HV
   have hg2 : (ag == bg) = true:=by simpa using hg
   clear hg
   obtain ⟨n1,hn1⟩ : ∃ x,IntKind.i64.wrap (b1 - a1) = x:=⟨_,rfl⟩
   have hm1 : wrap64 (b1 - a1) = n1:=by rw [← hn1];exact (IntWalk.i64_left _).symm
   obtain ⟨n2,hn2⟩ : ∃ x,IntKind.i64.wrap (b2 - a2) = x:=⟨_,rfl⟩
   have hm2 : wrap64 (b2 - a2) = n2:=by rw [← hn2];exact (IntWalk.i64_left _).symm
   obtain ⟨n3,Nr⟩ : ∃ x,IntKind.i64.wrap (b3 - a3) = x:=⟨_,rfl⟩
   have hm3 : wrap64 (b3 - a3) = n3:=by rw [← Nr];exact (IntWalk.i64_left _).symm
   obtain ⟨n4,Xr⟩ : ∃ x,IntKind.i64.wrap (b4 - a4) = x:=⟨_,rfl⟩
   have hm4 : wrap64 (b4 - a4) = n4:=by rw [← Xr];exact (IntWalk.i64_left _).symm
   obtain ⟨n5,Xt⟩ : ∃ x,IntKind.i64.wrap (b5 - a5) = x:=⟨_,rfl⟩
   have hm5 : wrap64 (b5 - a5) = n5:=by rw [← Xt];exact (IntWalk.i64_left _).symm
   obtain ⟨n6,Xu⟩ : ∃ x,IntKind.i64.wrap (b6 - a6) = x:=⟨_,rfl⟩
   have hm6 : wrap64 (b6 - a6) = n6:=by rw [← Xu];exact (IntWalk.i64_left _).symm
   obtain ⟨n7,Xv⟩ : ∃ x,IntKind.u16.wrap (ba - aa) = x:=⟨_,rfl⟩
   rw [hn1,hn2,Nr,Xr,Xt,Xu,Xv] at vB
   have HN:=ajK (And.intro hn1 (And.intro hn2 (And.intro Nr (And.intro Xr (And.intro Xt Xu)))));have HN7:=ajK Xv;clear hn1 hn2 Nr Xr Xt Xu Xv hm1 hm2 hm3 hm4 hm5 hm6
   obtain ⟨v0,hv0⟩ : ∃ v,w0.alloc (.cells #[.int .i64 3,.int .i64 bi,.int .i64 b1,.int .i64 b2,.int .i64 b3,.int .i64 b4,.int .i64 b5,.int .i64 b6,.int .u16 ba] 147) = v:=⟨_,rfl⟩
   have lC : ak v0 w0.heap.size #[.int .i64 3,.int .i64 bi,.int .i64 b1,.int .i64 b2,.int .i64 b3,.int .i64 b4,.int .i64 b5,.int .i64 b6,.int .u16 ba] 147:=by rw [← hv0];exact ak.new _ _ _
   have qI : ak v0 w.heap.size #[.int .i64 ai,.int .i64 a1,.int .i64 a2,.int .i64 a3,.int .i64 a4,.int .i64 a5,.int .i64 a6,.int .u16 aa,.int .u8 ag] 33:=by rw [← hv0];exact vO.out.alloc _
   have oL : ak v0 (w.heap.size + 1) #[.int .i64 bi,.int .i64 b1,.int .i64 b2,.int .i64 b3,.int .i64 b4,.int .i64 b5,.int .i64 b6,.int .u16 ba,.int .u8 bg] 33:=by rw [← hv0];exact Cj.out.alloc _
   have pJ : ak v0 (w.heap.size + 2) #[.int .i64 0,.int .i64 0,.int .i64 0,.int .i64 0,.int .i64 0,.int .i64 0,.int .i64 0,.int .i64 0,.int .u16 0] 147:=by rw [← hv0];exact HZ0.out.alloc _
   have vw : Below w.heap.size w v0:=by rw [← hv0];exact HB0.out.alloc HB0.out.size _
   have Xw : w.heap.size + 3 <= w0.heap.size:=by rw [zJ.out];exact Nat.le_refl _
   have hsv : v0.heap.size = w0.heap.size + 1:=by rw [← hv0];simp
   have c0:=qI.cell 0;have c1:=qI.cell 1;have c2:=qI.cell 2;have c3:=qI.cell 3;have c4:=qI.cell 4;have c5:=qI.cell 5;have c6:=qI.cell 6;have c7:=qI.cell 7;have c8:=qI.cell 8;simp at c0 c1 c2 c3 c4 c5 c6 c7 c8;have d0:=oL.cell 0;have d1:=oL.cell 1;have d2:=oL.cell 2;have d3:=oL.cell 3;have d4:=oL.cell 4;have d5:=oL.cell 5;have d6:=oL.cell 6;have d7:=oL.cell 7;have d8:=oL.cell 8;simp at d0 d1 d2 d3 d4 d5 d6 d7 d8;have q0:=lC.cell 0;have q1:=lC.cell 1;have q2:=lC.cell 2;have q3:=lC.cell 3;have q4:=lC.cell 4;have q5:=lC.cell 5;have q6:=lC.cell 6;have q7:=lC.cell 7;have q8:=lC.cell 8;have f0:=lC.free 0;have f1:=lC.free 1;have f2:=lC.free 2;have f3:=lC.free 3;have f4:=lC.free 4;have f5:=lC.free 5;have f6:=lC.free 6;have f7:=lC.free 7;have f8:=lC.free 8;simp at q0 q1 q2 q3 q4 q5 q6 q7 q8
   obtain ⟨v1,hv1⟩ : ∃ v,v0.setCell ⟨w0.heap.size,0,none⟩ (.int .i64 1) = v:=⟨_,rfl⟩
   have hX1 : ak v1 w0.heap.size #[.int .i64 1,.int .i64 bi,.int .i64 b1,.int .i64 b2,.int .i64 b3,.int .i64 b4,.int .i64 b5,.int .i64 b6,.int .u16 ba] 147:=by rw [← hv1];simpa using lC.set 0 (.int .i64 1)
   have hA1 : ak v1 w.heap.size #[.int .i64 ai,.int .i64 a1,.int .i64 a2,.int .i64 a3,.int .i64 a4,.int .i64 a5,.int .i64 a6,.int .u16 aa,.int .u8 ag] 33:=by rw [← hv1];exact qI.far (by show w.heap.size ≠ w0.heap.size;omega) _
   have hE1 : ak v1 (w.heap.size + 1) #[.int .i64 bi,.int .i64 b1,.int .i64 b2,.int .i64 b3,.int .i64 b4,.int .i64 b5,.int .i64 b6,.int .u16 ba,.int .u8 bg] 33:=by rw [← hv1];exact oL.far (by show w.heap.size + 1 ≠ w0.heap.size;omega) _
   have hZ1 : ak v1 (w.heap.size + 2) #[.int .i64 0,.int .i64 0,.int .i64 0,.int .i64 0,.int .i64 0,.int .i64 0,.int .i64 0,.int .i64 0,.int .u16 0] 147:=by rw [← hv1];exact pJ.far (by show w.heap.size + 2 ≠ w0.heap.size;omega) _
   have hB1 : Below w.heap.size w v1:=by rw [← hv1];exact vw.setCell (by show w.heap.size <= w0.heap.size;omega) _
   have hs1 : v1.heap.size = w0.heap.size + 1:=by rw [← hv1];simpa [World.setCell] using hsv
   have ca1:=hA1.cell 1;have ca2:=hA1.cell 2;have ca3:=hA1.cell 3;have ca4:=hA1.cell 4;have ca5:=hA1.cell 5;have ca6:=hA1.cell 6;simp at ca1 ca2 ca3 ca4 ca5 ca6;have gN:=ajK hX1;have HA1:=ajK hA1;have zL:=ajK hE1;have HZ1:=ajK hZ1;have HB1:=ajK hB1;have HSV:=ajK (And.intro Xw hs1)
   have nf:=λX w=>FH X w
   unfold ptrs at nf
   clear lC qI oL pJ vw hX1 hA1 hE1 hZ1 hB1 vO Cj HZ0 HB0 Xw hs1 hsv zJ
   go_enter Tryz.func70,Tryz.ntmps70
   go_wp2_with fail
   refine (nf _ _).mono ?_
   rintro e w3 ⟨rfl,hb3⟩
   obtain ⟨v2,hv2⟩ : ∃ v,v1.alloc (.cells #[.int .i64 0,.int .i64 0,.int .i64 a1,.int .i64 a2,.int .i64 a3,.int .i64 a4,.int .i64 a5,.int .i64 a6,.int .u16 0] 147) = v:=⟨_,rfl⟩
   have J6:=ajK (ak.new v1 #[.int .i64 0,.int .i64 0,.int .i64 a1,.int .i64 a2,.int .i64 a3,.int .i64 a4,.int .i64 a5,.int .i64 a6,.int .u16 0] 147);have iM:=ajK (gN.out.alloc (.cells #[.int .i64 0,.int .i64 0,.int .i64 a1,.int .i64 a2,.int .i64 a3,.int .i64 a4,.int .i64 a5,.int .i64 a6,.int .u16 0] 147));have HA2:=ajK (HA1.out.alloc (.cells #[.int .i64 0,.int .i64 0,.int .i64 a1,.int .i64 a2,.int .i64 a3,.int .i64 a4,.int .i64 a5,.int .i64 a6,.int .u16 0] 147));have HE2:=ajK (zL.out.alloc (.cells #[.int .i64 0,.int .i64 0,.int .i64 a1,.int .i64 a2,.int .i64 a3,.int .i64 a4,.int .i64 a5,.int .i64 a6,.int .u16 0] 147));have HZ2:=ajK (HZ1.out.alloc (.cells #[.int .i64 0,.int .i64 0,.int .i64 a1,.int .i64 a2,.int .i64 a3,.int .i64 a4,.int .i64 a5,.int .i64 a6,.int .u16 0] 147))
   have HB2:=ajK (HB1.out.alloc HB1.out.size (.cells #[.int .i64 0,.int .i64 0,.int .i64 a1,.int .i64 a2,.int .i64 a3,.int .i64 a4,.int .i64 a5,.int .i64 a6,.int .u16 0] 147))
   rw [hv2] at iM HA2 HE2 HZ2 HB2 J6 hb3
   clear hv2;have fQ:=iM.out.below hb3 iM.out.lt;have xq:=J6.out.below hb3 J6.out.lt;have hA3:=HA2.out.below hb3 HA2.out.lt;have hE3:=HE2.out.below hb3 HE2.out.lt;have hZ3:=HZ2.out.below hb3 HZ2.out.lt;have hB3:=HB2.out.trans (hb3.mono HB2.out.size)
   obtain ⟨v4,hv4⟩ : ∃ v,w3.alloc (.cells #[.pointer (some ⟨v1.heap.size,2,none⟩),.pointer (some ⟨v1.heap.size,3,none⟩),.pointer (some ⟨v1.heap.size,4,none⟩),.pointer (some ⟨v1.heap.size,5,none⟩),.pointer (some ⟨v1.heap.size,6,none⟩),.pointer (some ⟨v1.heap.size,7,none⟩)] 197) = v:=⟨_,rfl⟩
   have hP4 : ak v4 w3.heap.size #[.pointer (some ⟨v1.heap.size,2,none⟩),.pointer (some ⟨v1.heap.size,3,none⟩),.pointer (some ⟨v1.heap.size,4,none⟩),.pointer (some ⟨v1.heap.size,5,none⟩),.pointer (some ⟨v1.heap.size,6,none⟩),.pointer (some ⟨v1.heap.size,7,none⟩)] 197:=by rw [← hv4];exact ak.new _ _ _
   have hs4 : v2.heap.size <= w3.heap.size:=hb3.size
   have eT:=fQ.alloc (.cells #[.pointer (some ⟨v1.heap.size,2,none⟩),.pointer (some ⟨v1.heap.size,3,none⟩),.pointer (some ⟨v1.heap.size,4,none⟩),.pointer (some ⟨v1.heap.size,5,none⟩),.pointer (some ⟨v1.heap.size,6,none⟩),.pointer (some ⟨v1.heap.size,7,none⟩)] 197);have oh:=xq.alloc (.cells #[.pointer (some ⟨v1.heap.size,2,none⟩),.pointer (some ⟨v1.heap.size,3,none⟩),.pointer (some ⟨v1.heap.size,4,none⟩),.pointer (some ⟨v1.heap.size,5,none⟩),.pointer (some ⟨v1.heap.size,6,none⟩),.pointer (some ⟨v1.heap.size,7,none⟩)] 197);have hA4:=hA3.alloc (.cells #[.pointer (some ⟨v1.heap.size,2,none⟩),.pointer (some ⟨v1.heap.size,3,none⟩),.pointer (some ⟨v1.heap.size,4,none⟩),.pointer (some ⟨v1.heap.size,5,none⟩),.pointer (some ⟨v1.heap.size,6,none⟩),.pointer (some ⟨v1.heap.size,7,none⟩)] 197)
   have hE4:=hE3.alloc (.cells #[.pointer (some ⟨v1.heap.size,2,none⟩),.pointer (some ⟨v1.heap.size,3,none⟩),.pointer (some ⟨v1.heap.size,4,none⟩),.pointer (some ⟨v1.heap.size,5,none⟩),.pointer (some ⟨v1.heap.size,6,none⟩),.pointer (some ⟨v1.heap.size,7,none⟩)] 197);have hZ4:=hZ3.alloc (.cells #[.pointer (some ⟨v1.heap.size,2,none⟩),.pointer (some ⟨v1.heap.size,3,none⟩),.pointer (some ⟨v1.heap.size,4,none⟩),.pointer (some ⟨v1.heap.size,5,none⟩),.pointer (some ⟨v1.heap.size,6,none⟩),.pointer (some ⟨v1.heap.size,7,none⟩)] 197);have hB4:=hB3.alloc hB3.size (.cells #[.pointer (some ⟨v1.heap.size,2,none⟩),.pointer (some ⟨v1.heap.size,3,none⟩),.pointer (some ⟨v1.heap.size,4,none⟩),.pointer (some ⟨v1.heap.size,5,none⟩),.pointer (some ⟨v1.heap.size,6,none⟩),.pointer (some ⟨v1.heap.size,7,none⟩)] 197)
   rw [hv4] at eT oh hA4 hE4 hZ4 hB4
   have HP4:=ajK hP4;have FM:=ajK eT;have HY4:=ajK oh;have ND:=ajK hA4;have N7:=ajK hE4;have HZ4:=ajK hZ4;have iK:=ajK hB4
   have HLY : Hid (v1.heap.size < v2.heap.size):=ajK J6.out.lt
   clear hb3 fQ xq hA3 hE3 hZ3 hB3 hP4 eT oh hA4 hE4 hZ4 hB4 iM J6 HA2 HE2 HZ2 HB2
   go_wp2_with fail
   refine (nf _ _).mono ?_
   rintro e w5 ⟨rfl,hb5⟩
   obtain ⟨cl,hcl⟩ : ∃ c : List (Array Value),c = [#[.int .i64 1,.int .i64 bi,.int .i64 b1,.int .i64 b2,.int .i64 b3,.int .i64 b4,.int .i64 b5,.int .i64 b6,.int .u16 ba],#[.int .i64 1,.int .i64 bi,.int .i64 n1,.int .i64 b2,.int .i64 b3,.int .i64 b4,.int .i64 b5,.int .i64 b6,.int .u16 ba],#[.int .i64 1,.int .i64 bi,.int .i64 n1,.int .i64 n2,.int .i64 b3,.int .i64 b4,.int .i64 b5,.int .i64 b6,.int .u16 ba],#[.int .i64 1,.int .i64 bi,.int .i64 n1,.int .i64 n2,.int .i64 n3,.int .i64 b4,.int .i64 b5,.int .i64 b6,.int .u16 ba],#[.int .i64 1,.int .i64 bi,.int .i64 n1,.int .i64 n2,.int .i64 n3,.int .i64 n4,.int .i64 b5,.int .i64 b6,.int .u16 ba],#[.int .i64 1,.int .i64 bi,.int .i64 n1,.int .i64 n2,.int .i64 n3,.int .i64 n4,.int .i64 n5,.int .i64 b6,.int .u16 ba],#[.int .i64 1,.int .i64 bi,.int .i64 n1,.int .i64 n2,.int .i64 n3,.int .i64 n4,.int .i64 n5,.int .i64 n6,.int .u16 ba]]:=⟨_,rfl⟩
   have KZ:=ajK hcl
   have HST : Hid (yC w w0.heap.size v1.heap.size w3.heap.size #[.int .i64 ai,.int .i64 a1,.int .i64 a2,.int .i64 a3,.int .i64 a4,.int .i64 a5,.int .i64 a6,.int .u16 aa,.int .u8 ag] #[.int .i64 bi,.int .i64 b1,.int .i64 b2,.int .i64 b3,.int .i64 b4,.int .i64 b5,.int .i64 b6,.int .u16 ba,.int .u8 bg] #[.int .i64 0,.int .i64 0,.int .i64 a1,.int .i64 a2,.int .i64 a3,.int .i64 a4,.int .i64 a5,.int .i64 a6,.int .u16 0] cl 0 w5):=ajK ⟨_,by rw [hcl];rfl,FM.out.below hb5 FM.out.lt,HY4.out.below hb5 HY4.out.lt,HP4.out.below hb5 HP4.out.lt,ND.out.below hb5 ND.out.lt,N7.out.below hb5 N7.out.lt,HZ4.out.below hb5 HZ4.out.lt,iK.out.trans (hb5.mono iK.out.size)⟩
   have pE : Hid (w.heap.size + 3 <= w0.heap.size /\ w0.heap.size < v1.heap.size /\ v1.heap.size < w3.heap.size):=ajK ⟨HSV.out.1,by rw [HSV.out.2];omega,by have:=HLY.out;omega⟩
   clear hb5 hcl FM HY4 HP4 ND N7 HZ4 iK HSV HLY hs4 nf
   generalize w0.heap.size = X at *
   generalize v1.heap.size = Y at *
   generalize w3.heap.size = P at *
   go_wp2_with fail
   go_loopw [37] (λi wr=>∃ k : Nat,k <= 6 /\ i = .int .i64 k /\ yC w X Y P #[.int .i64 ai,.int .i64 a1,.int .i64 a2,.int .i64 a3,.int .i64 a4,.int .i64 a5,.int .i64 a6,.int .u16 aa,.int .u8 ag] #[.int .i64 bi,.int .i64 b1,.int .i64 b2,.int .i64 b3,.int .i64 b4,.int .i64 b5,.int .i64 b6,.int .u16 ba,.int .u8 bg] #[.int .i64 0,.int .i64 0,.int .i64 a1,.int .i64 a2,.int .i64 a3,.int .i64 a4,.int .i64 a5,.int .i64 a6,.int .u16 0] cl k wr) (λi _=>6 - (intOf i).toNat)
   case atStart=>exact ⟨0,by omega,rfl,HST.out⟩
   case round =>
    rename_i wr
    obtain ⟨k,hk,rfl,q,hq,hX,hY,hP,hA,hE,hZ,hB⟩:=hrel
    rw [KZ.out] at hq
    obtain ⟨nXa,nXY,nYP⟩:=pE.out
    rcases (show k = 0 \/ k = 1 \/ k = 2 \/ k = 3 \/ k = 4 \/ k = 5 \/ k = 6 by omega) with rfl | rfl | rfl | rfl | rfl | rfl | rfl
    ·cases hq
     have x0:=hX.cell 2;have o0:=hY.cell 2;have p0:=hP.cell 0;simp at x0 o0 p0;have HX:=ajK hX;have HY:=ajK hY;have HP:=ajK hP;have HA:=ajK hA;have HE:=ajK hE;have HZ:=ajK hZ;have HB:=ajK hB;have hn:=HN.out.1;clear hX hY hP hA hE hZ hB
     go_wp2_with fail
     refine aS 10 (by kernel_rfl) (by kernel_rfl) ?_
     simp only [List.take_succ_cons,List.take_zero,List.drop_succ_cons,List.drop_zero]
     repeat (apply aF;(next=>(intro W hW K hK;have y0:=hW.cell x0;have y1:=hW.cell o0;have y2:=hW.cell p0;go_simp;first | exact ⟨hW,hK⟩ | exact hK));(next=>exact aN.self _);(try go_simp))
     refine aX ?_
     intro WC aO
     have bN : Below wr.heap.size wr WC:=aO
     have hX1:=HX.out.below bN HX.out.lt;have f0:=hX1.free 2;have x1:=hX1.cell 2;simp at x1
     have HS2 : Hid (yC w X Y P #[.int .i64 ai,.int .i64 a1,.int .i64 a2,.int .i64 a3,.int .i64 a4,.int .i64 a5,.int .i64 a6,.int .u16 aa,.int .u8 ag] #[.int .i64 bi,.int .i64 b1,.int .i64 b2,.int .i64 b3,.int .i64 b4,.int .i64 b5,.int .i64 b6,.int .u16 ba,.int .u8 bg] #[.int .i64 0,.int .i64 0,.int .i64 a1,.int .i64 a2,.int .i64 a3,.int .i64 a4,.int .i64 a5,.int .i64 a6,.int .u16 0] cl 1 (WC.setCell ⟨X,2,none⟩ (.int .i64 n1))):=ajK ⟨_,by rw [KZ.out];rfl,by simpa using hX1.set 2 (.int .i64 n1),(HY.out.below bN HY.out.lt).far (by show Y ≠ X;omega) _,(HP.out.below bN HP.out.lt).far (by show P ≠ X;omega) _,(HA.out.below bN HA.out.lt).far (by show w.heap.size ≠ X;omega) _,(HE.out.below bN HE.out.lt).far (by show w.heap.size + 1 ≠ X;omega) _,(HZ.out.below bN HZ.out.lt).far (by show w.heap.size + 2 ≠ X;omega) _,(HB.out.trans (bN.mono HB.out.size)).setCell (by show w.heap.size <= X;omega) _⟩
     clear aO bN hX1 x0 o0 p0 HX HY HP HA HE HZ HB
     go_wp2
     go_roundw
     case rel=>exact ⟨1,by omega,by first | rfl | go_num,HS2.out⟩
     case measure=>simp [intOf]
    ·cases hq
     have x0:=hX.cell 3;have o0:=hY.cell 3;have p0:=hP.cell 1;simp at x0 o0 p0;have HX:=ajK hX;have HY:=ajK hY;have HP:=ajK hP;have HA:=ajK hA;have HE:=ajK hE;have HZ:=ajK hZ;have HB:=ajK hB;have hn:=HN.out.2.1;clear hX hY hP hA hE hZ hB
     go_wp2_with fail
     refine aS 10 (by kernel_rfl) (by kernel_rfl) ?_
     simp only [List.take_succ_cons,List.take_zero,List.drop_succ_cons,List.drop_zero]
     repeat (apply aF;(next=>(intro W hW K hK;have y0:=hW.cell x0;have y1:=hW.cell o0;have y2:=hW.cell p0;go_simp;first | exact ⟨hW,hK⟩ | exact hK));(next=>exact aN.self _);(try go_simp))
     refine aX ?_
     intro WC aO
     have bN : Below wr.heap.size wr WC:=aO
     have hX1:=HX.out.below bN HX.out.lt;have f0:=hX1.free 3;have x1:=hX1.cell 3;simp at x1
     have HS2 : Hid (yC w X Y P #[.int .i64 ai,.int .i64 a1,.int .i64 a2,.int .i64 a3,.int .i64 a4,.int .i64 a5,.int .i64 a6,.int .u16 aa,.int .u8 ag] #[.int .i64 bi,.int .i64 b1,.int .i64 b2,.int .i64 b3,.int .i64 b4,.int .i64 b5,.int .i64 b6,.int .u16 ba,.int .u8 bg] #[.int .i64 0,.int .i64 0,.int .i64 a1,.int .i64 a2,.int .i64 a3,.int .i64 a4,.int .i64 a5,.int .i64 a6,.int .u16 0] cl 2 (WC.setCell ⟨X,3,none⟩ (.int .i64 n2))):=ajK ⟨_,by rw [KZ.out];rfl,by simpa using hX1.set 3 (.int .i64 n2),(HY.out.below bN HY.out.lt).far (by show Y ≠ X;omega) _,(HP.out.below bN HP.out.lt).far (by show P ≠ X;omega) _,(HA.out.below bN HA.out.lt).far (by show w.heap.size ≠ X;omega) _,(HE.out.below bN HE.out.lt).far (by show w.heap.size + 1 ≠ X;omega) _,(HZ.out.below bN HZ.out.lt).far (by show w.heap.size + 2 ≠ X;omega) _,(HB.out.trans (bN.mono HB.out.size)).setCell (by show w.heap.size <= X;omega) _⟩
     clear aO bN hX1 x0 o0 p0 HX HY HP HA HE HZ HB
     go_wp2
     go_roundw
     case rel=>exact ⟨2,by omega,by first | rfl | go_num,HS2.out⟩
     case measure=>simp [intOf]
    ·cases hq
     have x0:=hX.cell 4;have o0:=hY.cell 4;have p0:=hP.cell 2;simp at x0 o0 p0;have HX:=ajK hX;have HY:=ajK hY;have HP:=ajK hP;have HA:=ajK hA;have HE:=ajK hE;have HZ:=ajK hZ;have HB:=ajK hB;have hn:=HN.out.2.2.1;clear hX hY hP hA hE hZ hB
     go_wp2_with fail
     refine aS 10 (by kernel_rfl) (by kernel_rfl) ?_
     simp only [List.take_succ_cons,List.take_zero,List.drop_succ_cons,List.drop_zero]
     repeat (apply aF;(next=>(intro W hW K hK;have y0:=hW.cell x0;have y1:=hW.cell o0;have y2:=hW.cell p0;go_simp;first | exact ⟨hW,hK⟩ | exact hK));(next=>exact aN.self _);(try go_simp))
     refine aX ?_
     intro WC aO
     have bN : Below wr.heap.size wr WC:=aO
     have hX1:=HX.out.below bN HX.out.lt;have f0:=hX1.free 4;have x1:=hX1.cell 4;simp at x1
     have HS2 : Hid (yC w X Y P #[.int .i64 ai,.int .i64 a1,.int .i64 a2,.int .i64 a3,.int .i64 a4,.int .i64 a5,.int .i64 a6,.int .u16 aa,.int .u8 ag] #[.int .i64 bi,.int .i64 b1,.int .i64 b2,.int .i64 b3,.int .i64 b4,.int .i64 b5,.int .i64 b6,.int .u16 ba,.int .u8 bg] #[.int .i64 0,.int .i64 0,.int .i64 a1,.int .i64 a2,.int .i64 a3,.int .i64 a4,.int .i64 a5,.int .i64 a6,.int .u16 0] cl 3 (WC.setCell ⟨X,4,none⟩ (.int .i64 n3))):=ajK ⟨_,by rw [KZ.out];rfl,by simpa using hX1.set 4 (.int .i64 n3),(HY.out.below bN HY.out.lt).far (by show Y ≠ X;omega) _,(HP.out.below bN HP.out.lt).far (by show P ≠ X;omega) _,(HA.out.below bN HA.out.lt).far (by show w.heap.size ≠ X;omega) _,(HE.out.below bN HE.out.lt).far (by show w.heap.size + 1 ≠ X;omega) _,(HZ.out.below bN HZ.out.lt).far (by show w.heap.size + 2 ≠ X;omega) _,(HB.out.trans (bN.mono HB.out.size)).setCell (by show w.heap.size <= X;omega) _⟩
     clear aO bN hX1 x0 o0 p0 HX HY HP HA HE HZ HB
     go_wp2
     go_roundw
     case rel=>exact ⟨3,by omega,by first | rfl | go_num,HS2.out⟩
     case measure=>simp [intOf]
    ·cases hq
     have x0:=hX.cell 5;have o0:=hY.cell 5;have p0:=hP.cell 3;simp at x0 o0 p0;have HX:=ajK hX;have HY:=ajK hY;have HP:=ajK hP;have HA:=ajK hA;have HE:=ajK hE;have HZ:=ajK hZ;have HB:=ajK hB;have hn:=HN.out.2.2.2.1;clear hX hY hP hA hE hZ hB
     go_wp2_with fail
     refine aS 10 (by kernel_rfl) (by kernel_rfl) ?_
     simp only [List.take_succ_cons,List.take_zero,List.drop_succ_cons,List.drop_zero]
     repeat (apply aF;(next=>(intro W hW K hK;have y0:=hW.cell x0;have y1:=hW.cell o0;have y2:=hW.cell p0;go_simp;first | exact ⟨hW,hK⟩ | exact hK));(next=>exact aN.self _);(try go_simp))
     refine aX ?_
     intro WC aO
     have bN : Below wr.heap.size wr WC:=aO
     have hX1:=HX.out.below bN HX.out.lt;have f0:=hX1.free 5;have x1:=hX1.cell 5;simp at x1
     have HS2 : Hid (yC w X Y P #[.int .i64 ai,.int .i64 a1,.int .i64 a2,.int .i64 a3,.int .i64 a4,.int .i64 a5,.int .i64 a6,.int .u16 aa,.int .u8 ag] #[.int .i64 bi,.int .i64 b1,.int .i64 b2,.int .i64 b3,.int .i64 b4,.int .i64 b5,.int .i64 b6,.int .u16 ba,.int .u8 bg] #[.int .i64 0,.int .i64 0,.int .i64 a1,.int .i64 a2,.int .i64 a3,.int .i64 a4,.int .i64 a5,.int .i64 a6,.int .u16 0] cl 4 (WC.setCell ⟨X,5,none⟩ (.int .i64 n4))):=ajK ⟨_,by rw [KZ.out];rfl,by simpa using hX1.set 5 (.int .i64 n4),(HY.out.below bN HY.out.lt).far (by show Y ≠ X;omega) _,(HP.out.below bN HP.out.lt).far (by show P ≠ X;omega) _,(HA.out.below bN HA.out.lt).far (by show w.heap.size ≠ X;omega) _,(HE.out.below bN HE.out.lt).far (by show w.heap.size + 1 ≠ X;omega) _,(HZ.out.below bN HZ.out.lt).far (by show w.heap.size + 2 ≠ X;omega) _,(HB.out.trans (bN.mono HB.out.size)).setCell (by show w.heap.size <= X;omega) _⟩
     clear aO bN hX1 x0 o0 p0 HX HY HP HA HE HZ HB
     go_wp2
     go_roundw
     case rel=>exact ⟨4,by omega,by first | rfl | go_num,HS2.out⟩
     case measure=>simp [intOf]
    ·cases hq
     have x0:=hX.cell 6;have o0:=hY.cell 6;have p0:=hP.cell 4;simp at x0 o0 p0;have HX:=ajK hX;have HY:=ajK hY;have HP:=ajK hP;have HA:=ajK hA;have HE:=ajK hE;have HZ:=ajK hZ;have HB:=ajK hB;have hn:=HN.out.2.2.2.2.1;clear hX hY hP hA hE hZ hB
     go_wp2_with fail
     refine aS 10 (by kernel_rfl) (by kernel_rfl) ?_
     simp only [List.take_succ_cons,List.take_zero,List.drop_succ_cons,List.drop_zero]
     repeat (apply aF;(next=>(intro W hW K hK;have y0:=hW.cell x0;have y1:=hW.cell o0;have y2:=hW.cell p0;go_simp;first | exact ⟨hW,hK⟩ | exact hK));(next=>exact aN.self _);(try go_simp))
     refine aX ?_
     intro WC aO
     have bN : Below wr.heap.size wr WC:=aO
     have hX1:=HX.out.below bN HX.out.lt;have f0:=hX1.free 6;have x1:=hX1.cell 6;simp at x1
     have HS2 : Hid (yC w X Y P #[.int .i64 ai,.int .i64 a1,.int .i64 a2,.int .i64 a3,.int .i64 a4,.int .i64 a5,.int .i64 a6,.int .u16 aa,.int .u8 ag] #[.int .i64 bi,.int .i64 b1,.int .i64 b2,.int .i64 b3,.int .i64 b4,.int .i64 b5,.int .i64 b6,.int .u16 ba,.int .u8 bg] #[.int .i64 0,.int .i64 0,.int .i64 a1,.int .i64 a2,.int .i64 a3,.int .i64 a4,.int .i64 a5,.int .i64 a6,.int .u16 0] cl 5 (WC.setCell ⟨X,6,none⟩ (.int .i64 n5))):=ajK ⟨_,by rw [KZ.out];rfl,by simpa using hX1.set 6 (.int .i64 n5),(HY.out.below bN HY.out.lt).far (by show Y ≠ X;omega) _,(HP.out.below bN HP.out.lt).far (by show P ≠ X;omega) _,(HA.out.below bN HA.out.lt).far (by show w.heap.size ≠ X;omega) _,(HE.out.below bN HE.out.lt).far (by show w.heap.size + 1 ≠ X;omega) _,(HZ.out.below bN HZ.out.lt).far (by show w.heap.size + 2 ≠ X;omega) _,(HB.out.trans (bN.mono HB.out.size)).setCell (by show w.heap.size <= X;omega) _⟩
     clear aO bN hX1 x0 o0 p0 HX HY HP HA HE HZ HB
     go_wp2
     go_roundw
     case rel=>exact ⟨5,by omega,by first | rfl | go_num,HS2.out⟩
     case measure=>simp [intOf]
    ·cases hq
     have x0:=hX.cell 7;have o0:=hY.cell 7;have p0:=hP.cell 5;simp at x0 o0 p0;have HX:=ajK hX;have HY:=ajK hY;have HP:=ajK hP;have HA:=ajK hA;have HE:=ajK hE;have HZ:=ajK hZ;have HB:=ajK hB;have hn:=HN.out.2.2.2.2.2;clear hX hY hP hA hE hZ hB
     go_wp2_with fail
     refine aS 10 (by kernel_rfl) (by kernel_rfl) ?_
     simp only [List.take_succ_cons,List.take_zero,List.drop_succ_cons,List.drop_zero]
     repeat (apply aF;(next=>(intro W hW K hK;have y0:=hW.cell x0;have y1:=hW.cell o0;have y2:=hW.cell p0;go_simp;first | exact ⟨hW,hK⟩ | exact hK));(next=>exact aN.self _);(try go_simp))
     refine aX ?_
     intro WC aO
     have bN : Below wr.heap.size wr WC:=aO
     have hX1:=HX.out.below bN HX.out.lt;have f0:=hX1.free 7;have x1:=hX1.cell 7;simp at x1
     have HS2 : Hid (yC w X Y P #[.int .i64 ai,.int .i64 a1,.int .i64 a2,.int .i64 a3,.int .i64 a4,.int .i64 a5,.int .i64 a6,.int .u16 aa,.int .u8 ag] #[.int .i64 bi,.int .i64 b1,.int .i64 b2,.int .i64 b3,.int .i64 b4,.int .i64 b5,.int .i64 b6,.int .u16 ba,.int .u8 bg] #[.int .i64 0,.int .i64 0,.int .i64 a1,.int .i64 a2,.int .i64 a3,.int .i64 a4,.int .i64 a5,.int .i64 a6,.int .u16 0] cl 6 (WC.setCell ⟨X,7,none⟩ (.int .i64 n6))):=ajK ⟨_,by rw [KZ.out];rfl,by simpa using hX1.set 7 (.int .i64 n6),(HY.out.below bN HY.out.lt).far (by show Y ≠ X;omega) _,(HP.out.below bN HP.out.lt).far (by show P ≠ X;omega) _,(HA.out.below bN HA.out.lt).far (by show w.heap.size ≠ X;omega) _,(HE.out.below bN HE.out.lt).far (by show w.heap.size + 1 ≠ X;omega) _,(HZ.out.below bN HZ.out.lt).far (by show w.heap.size + 2 ≠ X;omega) _,(HB.out.trans (bN.mono HB.out.size)).setCell (by show w.heap.size <= X;omega) _⟩
     clear aO bN hX1 x0 o0 p0 HX HY HP HA HE HZ HB
     go_wp2
     go_roundw
     case rel=>exact ⟨6,by omega,by first | rfl | go_num,HS2.out⟩
     case measure=>simp [intOf]
    ·cases hq
     have x0:=hX.cell 0;have x1:=hX.cell 1;have x2:=hX.cell 2;have x3:=hX.cell 3;have x4:=hX.cell 4;have x5:=hX.cell 5;have x6:=hX.cell 6;have x7:=hX.cell 7;have x8:=hX.cell 8;simp at x0 x1 x2 x3 x4 x5 x6 x7 x8;have a7:=hA.cell 7;have g7:=hX.free 8;simp at a7;have Xv:=HN7.out;have hX2:=hX.set 8 (.int .u16 n7)
     have HZ2:=ajK (hZ.far (p:=⟨X,8,none⟩) (by show w.heap.size + 2 ≠ X;omega) (.int .u16 n7))
     have HB2:=ajK (hB.setCell (p:=⟨X,8,none⟩) (by show w.heap.size <= X;omega) (.int .u16 n7))
     have hZ2:=HZ2.out;simp at hX2;have e0:=hX2.cell 0;have e1:=hX2.cell 1;have e2:=hX2.cell 2;have e3:=hX2.cell 3;have e4:=hX2.cell 4;have e5:=hX2.cell 5;have e6:=hX2.cell 6;have e7:=hX2.cell 7;have e8:=hX2.cell 8;simp at e0 e1 e2 e3 e4 e5 e6 e7 e8;have z0:=hZ2.cell 0;have z1:=hZ2.cell 1;have z2:=hZ2.cell 2;have z3:=hZ2.cell 3;have z4:=hZ2.cell 4;have z5:=hZ2.cell 5;have z6:=hZ2.cell 6;have z7:=hZ2.cell 7;have z8:=hZ2.cell 8;have y0:=hZ2.free 0;have y1:=hZ2.free 1;have y2:=hZ2.free 2;have y3:=hZ2.free 3;have y4:=hZ2.free 4;have y5:=hZ2.free 5;have y6:=hZ2.free 6;have y7:=hZ2.free 7;have y8:=hZ2.free 8;simp at z0 z1 z2 z3 z4 z5 z6 z7 z8;clear hX hX2 hY hP hA hE hZ hB hZ2
     go_wp2
     exact bodyPost_ret (v:=.tuple #[.agg #[.int .i64 1,.int .i64 bi,.int .i64 n1,.int .i64 n2,.int .i64 n3,.int .i64 n4,.int .i64 n5,.int .i64 n6,.int .u16 n7],.bool true])
      (by have hh:=mO (v0:=.int .i64 1) (v1:=.int .i64 bi) (v2:=.int .i64 n1) (v3:=.int .i64 n2) (v4:=.int .i64 n3) (v5:=.int .i64 n4) (v6:=.int .i64 n5) (v7:=.int .i64 n6) (v8:=.int .u16 n7) HZ2.out
          have g0:=hh.cell 0;have g1:=hh.cell 1;have g2:=hh.cell 2;have g3:=hh.cell 3;have g4:=hh.cell 4;have g5:=hh.cell 5;have g6:=hh.cell 6;have g7:=hh.cell 7;have g8:=hh.cell 8;simp at g0 g1 g2 g3 g4 g5 g6 g7 g8
          simp [results,Tryz.results70,go_sem,g0,g1,g2,g3,g4,g5,g6,g7,g8]) rfl
      ⟨by rw [vB.out];rfl,Hf HB2.out (by omega)⟩
  ·have hg2 : (ag == bg) = false:=by simpa using hg
   have vB : Hid (z = (⟨3,bi,b1,b2,b3,b4,b5,b6,ba⟩,true)):=ajK (by rw [HV.out,if_neg hg])
   clear HV
   obtain ⟨v0,hv0⟩ : ∃ v,w0.alloc (.cells #[.int .i64 3,.int .i64 bi,.int .i64 b1,.int .i64 b2,.int .i64 b3,.int .i64 b4,.int .i64 b5,.int .i64 b6,.int .u16 ba] 147) = v:=⟨_,rfl⟩
   have lC : ak v0 w0.heap.size #[.int .i64 3,.int .i64 bi,.int .i64 b1,.int .i64 b2,.int .i64 b3,.int .i64 b4,.int .i64 b5,.int .i64 b6,.int .u16 ba] 147:=by rw [← hv0];exact ak.new _ _ _
   have qI : ak v0 w.heap.size #[.int .i64 ai,.int .i64 a1,.int .i64 a2,.int .i64 a3,.int .i64 a4,.int .i64 a5,.int .i64 a6,.int .u16 aa,.int .u8 ag] 33:=by rw [← hv0];exact vO.out.alloc _
   have oL : ak v0 (w.heap.size + 1) #[.int .i64 bi,.int .i64 b1,.int .i64 b2,.int .i64 b3,.int .i64 b4,.int .i64 b5,.int .i64 b6,.int .u16 ba,.int .u8 bg] 33:=by rw [← hv0];exact Cj.out.alloc _
   have pJ : ak v0 (w.heap.size + 2) #[.int .i64 0,.int .i64 0,.int .i64 0,.int .i64 0,.int .i64 0,.int .i64 0,.int .i64 0,.int .i64 0,.int .u16 0] 147:=by rw [← hv0];exact HZ0.out.alloc _
   have vw : Below w.heap.size w v0:=by rw [← hv0];exact HB0.out.alloc HB0.out.size _
   have Xw : w.heap.size + 3 <= w0.heap.size:=by rw [zJ.out];exact Nat.le_refl _
   have hsv : v0.heap.size = w0.heap.size + 1:=by rw [← hv0];simp
   have c0:=qI.cell 0;have c1:=qI.cell 1;have c2:=qI.cell 2;have c3:=qI.cell 3;have c4:=qI.cell 4;have c5:=qI.cell 5;have c6:=qI.cell 6;have c7:=qI.cell 7;have c8:=qI.cell 8;simp at c0 c1 c2 c3 c4 c5 c6 c7 c8;have d0:=oL.cell 0;have d1:=oL.cell 1;have d2:=oL.cell 2;have d3:=oL.cell 3;have d4:=oL.cell 4;have d5:=oL.cell 5;have d6:=oL.cell 6;have d7:=oL.cell 7;have d8:=oL.cell 8;simp at d0 d1 d2 d3 d4 d5 d6 d7 d8;have q0:=lC.cell 0;have q1:=lC.cell 1;have q2:=lC.cell 2;have q3:=lC.cell 3;have q4:=lC.cell 4;have q5:=lC.cell 5;have q6:=lC.cell 6;have q7:=lC.cell 7;have q8:=lC.cell 8;simp at q0 q1 q2 q3 q4 q5 q6 q7 q8;have z0:=pJ.cell 0;have z1:=pJ.cell 1;have z2:=pJ.cell 2;have z3:=pJ.cell 3;have z4:=pJ.cell 4;have z5:=pJ.cell 5;have z6:=pJ.cell 6;have z7:=pJ.cell 7;have z8:=pJ.cell 8;have y0:=pJ.free 0;have y1:=pJ.free 1;have y2:=pJ.free 2
   have y3:=pJ.free 3;have y4:=pJ.free 4;have y5:=pJ.free 5;have y6:=pJ.free 6;have y7:=pJ.free 7;have y8:=pJ.free 8;simp at z0 z1 z2 z3 z4 z5 z6 z7 z8;have HZ1:=ajK pJ;have HB1:=ajK vw;clear lC qI oL pJ vw vO Cj HZ0 HB0 Xw hsv zJ
   go_enter Tryz.func70,Tryz.ntmps70
   go_wp2
   exact bodyPost_ret (v:=.tuple #[.agg #[.int .i64 3,.int .i64 bi,.int .i64 b1,.int .i64 b2,.int .i64 b3,.int .i64 b4,.int .i64 b5,.int .i64 b6,.int .u16 ba],.bool true])
    (by have hh:=mO (v0:=.int .i64 3) (v1:=.int .i64 bi) (v2:=.int .i64 b1) (v3:=.int .i64 b2) (v4:=.int .i64 b3) (v5:=.int .i64 b4) (v6:=.int .i64 b5) (v7:=.int .i64 b6) (v8:=.int .u16 ba) HZ1.out
        have g0:=hh.cell 0;have g1:=hh.cell 1;have g2:=hh.cell 2;have g3:=hh.cell 3;have g4:=hh.cell 4;have g5:=hh.cell 5;have g6:=hh.cell 6;have g7:=hh.cell 7;have g8:=hh.cell 8;simp at g0 g1 g2 g3 g4 g5 g6 g7 g8
        simp [results,Tryz.results70,go_sem,g0,g1,g2,g3,g4,g5,g6,g7,g8]) rfl
    ⟨by rw [vB.out];rfl,Hf HB1.out (by omega)⟩
 ·have HV : Hid (z = (PU,false)):=ajK (by rw [HZ.out,if_pos rfl])
  clear HZ
  go_enter Tryz.func70,Tryz.ntmps70
  go_wp2
  exact bodyPost_ret (v:=.tuple #[.agg #[.int .i64 0,.int .i64 0,.int .i64 0,.int .i64 0,.int .i64 0,.int .i64 0,.int .i64 0,.int .i64 0,.int .u16 0],.bool false])
   (by have hh:=mO (v0:=.int .i64 0) (v1:=.int .i64 0) (v2:=.int .i64 0) (v3:=.int .i64 0) (v4:=.int .i64 0) (v5:=.int .i64 0) (v6:=.int .i64 0) (v7:=.int .i64 0) (v8:=.int .u16 0) HZ0.out
       have g0:=hh.cell 0;have g1:=hh.cell 1;have g2:=hh.cell 2;have g3:=hh.cell 3;have g4:=hh.cell 4;have g5:=hh.cell 5;have g6:=hh.cell 6;have g7:=hh.cell 7;have g8:=hh.cell 8;simp at g0 g1 g2 g3 g4 g5 g6 g7 g8
       simp [results,Tryz.results70,go_sem,g0,g1,g2,g3,g4,g5,g6,g7,g8]) rfl
   ⟨by rw [HV.out];rfl,Hf HB0.out (by omega)⟩
end Go.Proofs.YtklkooeimkedgaaGreat
