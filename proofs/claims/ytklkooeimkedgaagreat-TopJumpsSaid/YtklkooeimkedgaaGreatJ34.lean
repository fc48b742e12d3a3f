/- Parts of the walk of TopJumps: Rec4, Rec5, Plain1, Rec7, Rec8, Rec9, Rec11. -/
import Derived.Laws.EntriesVeiled
import Derived.Test.YtklkooeimkedgaaGreatJ27
import Derived.Test.YtklkooeimkedgaaGreatJ33
set_option linter.unusedVariables false
set_option linter.unusedSimpArgs false
namespace Go.Proofs.YtklkooeimkedgaaGreat
open Go.RowKit
set_option maxRecDepth 8000
@[go_sem] theorem alloc_drewN (w : World) (n : Nat) (o : Obj) : (w.drewN n).alloc o = (w.alloc o).drewN n:=rfl
abbrev fnV (f : FuncId) : Value:=.func (.func f) #[] #[]
set_option maxHeartbeats 1000000 in
theorem kinds_f (w : World) :
  Calls Tryz.prog 112 #[] w fun e w'=>e = .returned (.agg #[fnV 154,fnV 155,fnV 156,fnV 157,fnV 152,fnV 153,fnV 154,fnV 155]) ∧ Below w.heap.size w w':=by
 have HB : ∀ A B t1 t2,Hid (Below w.heap.size w ((w.alloc (.cells A t1)).alloc (.cells B t2))):=fun A B t1 t2=>Lib.hid (((Below.refl _ _).alloc (Nat.le_refl _) _).alloc (by simp) _)
 go_enter Tryz.func112,Tryz.ntmps112
 go_wp2
 exact bodyPost_ret (v:=.agg #[fnV 154,fnV 155,fnV 156,fnV 157,fnV 152,fnV 153,fnV 154,fnV 155]) (by simp [results,Tryz.results112,go_sem]) rfl ⟨rfl,(HB _ _ _ _).out⟩
set_option maxRecDepth 8000
def maskF (r : Rec) : Int:=(if r.px ≠ 0 then 1 else 0) + (if r.py ≠ 0 then 2 else 0) + (if r.pz ≠ 0 then 4 else 0) + (if r.vx ≠ 0 then 8 else 0) + (if r.vy ≠ 0 then 16 else 0) + (if r.vz ≠ 0 then 32 else 0) + (if r.ang ≠ 0 then 64 else 0)
def someB (r : Rec) : List Int:=[maskF r] ++ nb ((recNums r).filter (· ≠ 0)) ++ (if r.ang ≠ 0 then vputF r.ang else [])
def recBody (r : Rec) : List Int:=if r.kind = 2 then [] else if r.kind = 1 then someB r else nb (recNums r) ++ vputF r.ang
def recWrE (r : Rec) (last : Int) : Int:=if recChk r ≠ 0 then recChk r else if last < -1 ∨ 65535 < last then 3 else if r.id ≤ last then 10 else 0
def recWrB (r : Rec) (last : Int) : List Int:=vputF (r.id - last - 1) ++ [r.kind] ++ recBody r
set_option maxHeartbeats 1000000 in
theorem rwr_bad (r : Rec) (last : Int) (w : World) (h : recWrE r last ≠ 0) :
  Calls Tryz.prog 75 #[recV r,.int .i64 last] w fun e w'=>e = .returned (.tuple #[.slice none 0 0,.int .i64 (recWrE r last)]) ∧ Below w.heap.size w w':=by
 have ck:=fun w=>rchk_f r w
 have HE : Hid (recWrE r last = if recChk r ≠ 0 then recChk r else if last < -1 ∨ 65535 < last then 3 else if r.id ≤ last then 10 else 0):=Lib.hid rfl
 generalize recWrE r last = er at *
 generalize recChk r = ce at *
 obtain ⟨k,id,px,py,pz,vx,vy,vz,an⟩:=r
 unfold recV at *
 simp only at *
 have HB : Hid (Below w.heap.size w (w.alloc (.cells #[.int .i64 k,.int .i64 id,.int .i64 px,.int .i64 py,.int .i64 pz,.int .i64 vx,.int .i64 vy,.int .i64 vz,.int .u16 an] 147))):=Lib.hid ((Below.refl _ _).alloc (Nat.le_refl _) _)
 go_enter Tryz.func75,Tryz.ntmps75
 go_wp2_with fail
 refine (ck _).mono ?_;rintro e w1 ⟨rfl,hb1⟩
 have HB1:=Lib.hid (HB.out.trans (hb1.mono (by simp)))
 have c1:=hb1.cell (p:=⟨w.heap.size,1,none⟩) (by simp)
 simp at c1
 clear hb1 ck
 by_cases hce : ce = 0
 ·subst hce
  by_cases hl : last < -1 ∨ 65535 < last
  ·have HV : Hid (er = 3):=Lib.hid (by rw [HE.out,if_neg (by simp),if_pos hl])
   clear HE h
   rcases hl with hl | hl
   ·go_wp2
    exact bodyPost_ret (v:=.tuple #[.slice none 0 0,.int .i64 3]) (by simp [results,Tryz.results75,go_sem]) rfl ⟨by rw [HV.out],HB1.out⟩
   ·have hl2 : ¬ last < -1:=by omega
    go_wp2
    exact bodyPost_ret (v:=.tuple #[.slice none 0 0,.int .i64 3]) (by simp [results,Tryz.results75,go_sem]) rfl ⟨by rw [HV.out],HB1.out⟩
  ·have hl1 : ¬ last < -1:=by omega
   have hl2 : ¬ 65535 < last:=by omega
   have hid : id ≤ last:=by
    rcases Int.lt_or_le last id with hh | hh
    ·exfalso;apply h;rw [HE.out,if_neg (by simp),if_neg hl,if_neg (by omega)]
    ·exact hh
   have HV : Hid (er = 10):=Lib.hid (by rw [HE.out,if_neg (by simp),if_neg hl,if_pos hid])
   clear HE h hl
   go_wp2
   exact bodyPost_ret (v:=.tuple #[.slice none 0 0,.int .i64 10]) (by simp [results,Tryz.results75,go_sem]) rfl ⟨by rw [HV.out],HB1.out⟩
 ·have HV : Hid (er = ce):=Lib.hid (by rw [HE.out,if_pos hce])
  have hce' : (ce != 0) = true:=by simpa using hce
  clear HE h hce
  go_wp2
  exact bodyPost_ret (v:=.tuple #[.slice none 0 0,.int .i64 ce]) (by simp [results,Tryz.results75,go_sem]) rfl ⟨by rw [HV.out],HB1.out⟩
set_option maxRecDepth 8000
def rdFail (e : Int) (s : RdSt) : RdSt:=(s.1,if s.2 = 0 then e else s.2)
def rdAll (r : Rec) (s : RdSt) : Rec × RdSt :=
 (⟨r.kind,r.id,(rdVec s).1.1,(rdVec s).1.2.1,(rdVec s).1.2.2,(rdVec (rdVec s).2).1.1,(rdVec (rdVec s).2).1.2.1,(rdVec (rdVec s).2).1.2.2,(rdUint 65535 (rdVec (rdVec s).2).2).1⟩,(rdUint 65535 (rdVec (rdVec s).2).2).2)
def rdNZ (q : Int × RdSt) : Int × RdSt:=(q.1,if q.1 = 0 then rdFail 7 q.2 else q.2)
def rdOne (m : Int) (i : Nat) (s : RdSt) : Int × RdSt:=if m / 2 ^ i % 2 = 0 then (0,s) else rdNZ (rdInt s)
def rdAng (m : Int) (s : RdSt) : Int × RdSt:=if m / 64 % 2 = 0 then (0,s) else rdNZ (rdUint 65535 s)
def rdOnes (m : Int) : List Nat → RdSt → List Int × RdSt
 | [],s=>([],s)
 | i :: l,s=>((rdOne m i s).1 :: (rdOnes m l (rdOne m i s).2).1,(rdOnes m l (rdOne m i s).2).2)
def rdSome (r : Rec) (s : RdSt) : Rec × RdSt :=
 if (rdByte s).1 = 0 ∨ 127 < (rdByte s).1 then (r,rdFail 7 (rdByte s).2) else
 (⟨r.kind,r.id,(rdOnes (rdByte s).1 [0,1,2,3,4,5] (rdByte s).2).1.getD 0 0,(rdOnes (rdByte s).1 [0,1,2,3,4,5] (rdByte s).2).1.getD 1 0,(rdOnes (rdByte s).1 [0,1,2,3,4,5] (rdByte s).2).1.getD 2 0,(rdOnes (rdByte s).1 [0,1,2,3,4,5] (rdByte s).2).1.getD 3 0,(rdOnes (rdByte s).1 [0,1,2,3,4,5] (rdByte s).2).1.getD 4 0,(rdOnes (rdByte s).1 [0,1,2,3,4,5] (rdByte s).2).1.getD 5 0,(rdAng (rdByte s).1 (rdOnes (rdByte s).1 [0,1,2,3,4,5] (rdByte s).2).2).1⟩,(rdAng (rdByte s).1 (rdOnes (rdByte s).1 [0,1,2,3,4,5] (rdByte s).2).2).2)
def rdKind (k : Int) (r : Rec) (s : RdSt) : Rec × RdSt :=
 if k = 0 ∨ k = 3 then rdAll r s else if k = 1 then rdSome r s else if k = 2 then (r,s) else (r,rdFail 11 s)
def rec0 : Rec:=⟨0,0,0,0,0,0,0,0,0⟩
def recHd (last : Int) (s : RdSt) : Rec × RdSt :=
 (⟨(rdByte (rdUint (65535 - (last + 1)) s).2).1,last + 1 + (rdUint (65535 - (last + 1)) s).1,0,0,0,0,0,0,0⟩,(rdByte (rdUint (65535 - (last + 1)) s).2).2)
def recAll (last : Int) (s : RdSt) : Rec × RdSt:=rdKind (recHd last s).1.kind (recHd last s).1 (recHd last s).2
def recRd (last : Int) (s : RdSt) : Rec × Int × RdSt :=
 if last = 65535 then (rec0,(rdFail 10 s).2,rdFail 10 s) else
 if (recAll last s).2.2 ≠ 0 then (rec0,(recAll last s).2.2,(recAll last s).2) else ((recAll last s).1,0,(recAll last s).2)
structure Gr where
 tick : Int
 time : Int
 base : Int
 recs : List Rec
def gr0 : Gr:=⟨0,0,0,[]⟩
def grHdE (tick time base : Int) (n : Nat) : Int :=
 if tick < 0 ∨ 4294967295 < tick ∨ time < -2305843009213693952 ∨ 2305843009213693952 < time ∨ base < -1 then 3 else if tick ≤ base then 10 else if 128 < n then 8 else 0
def grBack (tick base : Int) : Int:=if 0 ≤ base then tick - base else 0
def grHdB (tick time base : Int) (n : Nat) : List Int:=[71,1] ++ vputF tick ++ vputF (zigF time) ++ vputF (grBack tick base) ++ vputF n
def recsE : Int → List Rec → Int
 | _,[]=>0
 | last,r :: l=>if recWrE r last ≠ 0 then recWrE r last else recsE r.id l
def recsB : Int → List Rec → List Int
 | _,[]=>[]
 | last,r :: l=>recWrB r last ++ recsB r.id l
def grBodE (g : Gr) : Int:=if grHdE g.tick g.time g.base g.recs.length ≠ 0 then grHdE g.tick g.time g.base g.recs.length else recsE (-1) g.recs
def grBodB (g : Gr) : List Int:=grHdB g.tick g.time g.base g.recs.length ++ recsB (-1) g.recs
def grWrE (g : Gr) : Int:=if grBodE g ≠ 0 then grBodE g else if 4092 < (grBodB g).length then 8 else 0
def grWrB (g : Gr) : List Int:=grBodB g ++ be4 (crcSum (grBodB g))
def rdMust (c : Int) (s : RdSt) : RdSt:=if (rdByte s).1 = c then (rdByte s).2 else rdFail 7 (rdByte s).2
def rdSigns (s : RdSt) : RdSt:=rdMust 1 (rdMust 71 s)
def timelyB (t : Int) : Prop:=-2305843009213693952 ≤ t ∧ t ≤ 2305843009213693952
instance (t : Int) : Decidable (timelyB t):=by unfold timelyB;exact inferInstance
def rdWhen (s : RdSt) : Int × Int × RdSt :=
 ((rdUint 4294967295 s).1,(rdInt (rdUint 4294967295 s).2).1,if timelyB (rdInt (rdUint 4294967295 s).2).1 then (rdInt (rdUint 4294967295 s).2).2 else rdFail 3 (rdInt (rdUint 4294967295 s).2).2)
def rdBase (tick : Int) (s : RdSt) : Int × RdSt:=(if 0 < (rdUint tick s).1 then tick - (rdUint tick s).1 else -1,(rdUint tick s).2)
def rdRecs : Nat → Int → RdSt → List Rec × RdSt
 | 0,_,s=>([],s)
 | n + 1,last,s=>if (recRd last s).2.1 ≠ 0 then ([],(recRd last s).2.2) else
  ((recRd last s).1 :: (rdRecs n (recRd last s).1.id (recRd last s).2.2).1,(rdRecs n (recRd last s).1.id (recRd last s).2.2).2)
def rdRecords (s : RdSt) : List Rec × RdSt:=rdRecs (rdUint 128 s).1.toNat (-1) (rdUint 128 s).2
def grSteps (s : RdSt) : Gr × RdSt :=
 (⟨(rdWhen (rdSigns s)).1,(rdWhen (rdSigns s)).2.1,(rdBase (rdWhen (rdSigns s)).1 (rdWhen (rdSigns s)).2.2).1,(rdRecords (rdBase (rdWhen (rdSigns s)).1 (rdWhen (rdSigns s)).2.2).2).1⟩,(rdRecords (rdBase (rdWhen (rdSigns s)).1 (rdWhen (rdSigns s)).2.2).2).2)
def rdDone (s : RdSt) : Int:=if s.2 ≠ 0 then s.2 else if s.1 = [] then 0 else 8
def grRd (zs : List Int) : Gr × Int :=
 if 4096 < zs.length then (gr0,8) else match copenF zs with
 | none=>(gr0,9)
 | some x=>if rdDone (grSteps (x,0)).2 ≠ 0 then (gr0,rdDone (grSteps (x,0)).2) else ((grSteps (x,0)).1,0)
theorem vputF_ne (x : Int) : vputF x ≠ []:=by unfold vputF;simp
theorem rdByte_cons (c : Int) (l : List Int) : rdByte (c :: l,0) = (c,(l,0)):=by
 simp [rdByte,takeF,byteO]
theorem rdUint_vput {most x : Int} (hx : U64 x) (hm : x ≤ most) (l : List Int) : rdUint most (vputF x ++ l,0) = (x,(l,0)):=by
 have h:=vget_vput hx l
 have hn : ¬ (vputF x ++ l = []):=by simp [vputF_ne]
 have hm' : ¬ most < x:=by omega
 simp only [rdUint,takeF,uintO,h,hn,hm',ne_eq,not_true_eq_false,if_false,and_false,true_and]
 rw [← vputF_len,List.drop_left]
theorem rdInt_zb {n : Int} (hn : I64 n) (l : List Int) : rdInt (zb n ++ l,0) = (n,(l,0)):=by
 have hz:=zigF_u64 hn
 unfold rdInt zb
 rw [rdUint_vput hz hz.2,zag_zig]
theorem rdVec_nb {x y z : Int} (hx : I64 x) (hy : I64 y) (hz : I64 z) (l : List Int) : rdVec (zb x ++ (zb y ++ (zb z ++ l)),0) = ((x,y,z),(l,0)) :=
 rdVec_eq _ (rdInt_zb hx _) (rdInt_zb hy _) (rdInt_zb hz _)
theorem rdAll_body {r : Rec} (hr : r.Ok) (q : Rec) (l : List Int) : rdAll q (nb (recNums r) ++ vputF r.ang ++ l,0) = (⟨q.kind,q.id,r.px,r.py,r.pz,r.vx,r.vy,r.vz,r.ang⟩,(l,0)):=by
 have e : nb (recNums r) ++ vputF r.ang ++ l = zb r.px ++ (zb r.py ++ (zb r.pz ++ (zb r.vx ++ (zb r.vy ++ (zb r.vz ++ (vputF r.ang ++ l)))))):=by
  simp [nb,recNums]
 have ha:=hr.ang
 have hu : U64 r.ang:=⟨by omega,by omega⟩
 rw [e]
 unfold rdAll
 rw [rdVec_nb hr.px hr.py hr.pz]
 simp only
 rw [rdVec_nb hr.vx hr.vy hr.vz]
 simp only
 rw [rdUint_vput hu (by omega)]
theorem rdBare {r : Rec} (hk : r.kind = 2) (hc : recChk r = 0) : (⟨2,r.id,0,0,0,0,0,0,0⟩ : Rec) = r:=by
 obtain ⟨k,id,px,py,pz,vx,vy,vz,an⟩:=r
 simp only at hk
 subst hk
 unfold recChk bareF at hc
 simp only at hc
 split at hc
 ·cases hc
 split at hc
 ·cases hc
 split at hc
 ·cases hc
 rename_i h
 have h2 : ((px == 0 && py == 0 && pz == 0) && (vx == 0 && vy == 0 && vz == 0) && an == 0) = true:=by
  cases hb : ((px == 0 && py == 0 && pz == 0) && (vx == 0 && vy == 0 && vz == 0) && an == 0)
  ·exact absurd (.inr ⟨by first | rfl | trivial,hb⟩) h
  ·rfl
 simp only [Bool.and_eq_true,beq_iff_eq] at h2
 obtain ⟨⟨⟨⟨a,b⟩,c⟩,⟨d,e⟩,f⟩,g⟩:=h2
 subst a b c d e f g
 rfl
theorem recWrE_ok {r : Rec} {last : Int} (h : recWrE r last = 0) : recChk r = 0 ∧ -1 ≤ last ∧ last < r.id ∧ 0 ≤ r.kind ∧ r.kind ≤ 3 ∧ 0 ≤ r.id ∧ r.id ≤ 65535:=by
 have hc : recChk r = 0:=by
  unfold recWrE at h
  split at h
  ·rename_i hh;exact absurd h hh
  ·rename_i hh;exact Decidable.of_not_not hh
 have h2:=h
 unfold recWrE at h2
 rw [if_neg (by simpa using hc)] at h2
 split at h2
 ·cases h2
 split at h2
 ·cases h2
 have h3:=hc
 unfold recChk at h3
 split at h3
 ·cases h3
 split at h3
 ·cases h3
 exact ⟨hc,by omega,by omega,by omega,by omega,by omega,by omega⟩
theorem recRd_wr {r : Rec} (hr : r.Ok) {last : Int} (h : recWrE r last = 0) (hk : r.kind ≠ 1) (l : List Int) : recRd last (recWrB r last ++ l,0) = (r,0,(l,0)):=by
 obtain ⟨hc,h1,h2,k0,k3,i0,i1⟩:=recWrE_ok h
 unfold recRd
 rw [if_neg (by omega)]
 have hh : recHd last (recWrB r last ++ l,0) = (⟨r.kind,r.id,0,0,0,0,0,0,0⟩,(recBody r ++ l,0)):=by
  unfold recHd recWrB
  rw [List.append_assoc,List.append_assoc,rdUint_vput ⟨by omega,by omega⟩ (by omega)]
  simp only [List.cons_append,List.nil_append]
  rw [rdByte_cons]
  simp only
  rw [show last + 1 + (r.id - last - 1) = r.id by omega]
 have ha : recAll last (recWrB r last ++ l,0) = (r,(l,0)):=by
  unfold recAll
  rw [hh]
  simp only
  unfold rdKind recBody
  by_cases e2 : r.kind = 2
  ·rw [if_neg (by omega),if_neg (by omega),if_pos e2,if_pos e2,e2]
   rw [rdBare e2 hc];rfl
  ·rw [if_pos (by omega),if_neg e2,if_neg hk,rdAll_body hr]
 rw [ha]
 simp
theorem rdRecs_wr : ∀ (rs : List Rec) (last : Int) (l : List Int),(∀ r ∈ rs,r.Ok ∧ r.kind ≠ 1) → recsE last rs = 0 → rdRecs rs.length last (recsB last rs ++ l,0) = (rs,(l,0))
 | [],last,l,_,_=>rfl
 | r :: rs,last,l,hr,h=>by
  unfold recsE at h
  have h1 : recWrE r last = 0:=by
   split at h
   ·rename_i hh;exact absurd h hh
   ·rename_i hh;exact Decidable.of_not_not hh
  rw [if_neg (by simpa using h1)] at h
  have hk:=hr r (List.mem_cons_self ..)
  rw [List.length_cons,rdRecs,recsB,List.append_assoc,recRd_wr hk.1 h1 hk.2]
  simp only
  rw [rdRecs_wr rs r.id l (fun r' h'=>hr r' (List.mem_cons_of_mem _ h')) h]
  simp
theorem or_byte32 {y c : Int} (hy : 0 ≤ y) (hm : y % 256 = 0) (h1 : y < 4294967296) (hc : U8 c) : bits .or .u32 y c = y + c:=by
 obtain ⟨c0,c1⟩:=hc
 have e : bits .or .u32 y c = bits .or .u32 c y:=by simp [bits,BitVec.or_comm]
 rw [e,bits_join_low .u32 32 (by decide) wraps_u32 8 c y c0 (by omega) (by omega) hy (by simpa using hm) (by omega)]
 omega
theorem beNum_be4 {s : Int} (h : U32 s) : beNum 0 (be4 s) = s:=by
 obtain ⟨s0,s1⟩:=h
 unfold be4
 simp only [beNum]
 rw [or_byte32 (by omega) (by omega) (by omega) ⟨by omega,by omega⟩,or_byte32 (by omega) (by omega) (by omega) ⟨by omega,by omega⟩,or_byte32 (by omega) (by omega) (by omega) ⟨by omega,by omega⟩,or_byte32 (by omega) (by omega) (by omega) ⟨by omega,by omega⟩]
 omega
theorem copen_seal (zs : List Int) : copenF (zs ++ be4 (crcSum zs)) = some zs:=by
 have hl : (be4 (crcSum zs)).length = 4:=rfl
 unfold copenF
 rw [if_neg (by rw [List.length_append,hl];omega)]
 have e : (zs ++ be4 (crcSum zs)).length - 4 = zs.length:=by rw [List.length_append,hl];omega
 rw [e,List.drop_left,List.take_left,beNum_be4 (crcSum_u32 zs),if_pos rfl]
theorem rdMust_cons (c : Int) (l : List Int) : rdMust c (c :: l,0) = (l,0):=by
 unfold rdMust;rw [rdByte_cons,if_pos rfl]
theorem grRd_wr {g : Gr} (h : grWrE g = 0) (hr : ∀ r ∈ g.recs,r.Ok ∧ r.kind ≠ 1) : grRd (grWrB g) = (g,0):=by
 have hb : grBodE g = 0:=by
  unfold grWrE at h
  split at h
  ·rename_i hh;exact absurd h hh
  ·rename_i hh;exact Decidable.of_not_not hh
 unfold grWrE at h
 rw [if_neg (by simpa using hb)] at h
 have hlen : (grBodB g).length ≤ 4092:=by
  split at h
  ·cases h
  ·omega
 clear h
 obtain ⟨tick,time,base,rs⟩:=g
 unfold grBodE at hb
 simp only at hb hr
 have hh : grHdE tick time base rs.length = 0:=by
  split at hb
  ·rename_i hh;exact absurd hb hh
  ·rename_i hh;exact Decidable.of_not_not hh
 rw [if_neg (by simpa using hh)] at hb
 unfold grHdE at hh
 split at hh
 ·cases hh
 split at hh
 ·cases hh
 split at hh
 ·cases hh
 rename_i a1 a2 a3
 have hz : (be4 (crcSum (grBodB ⟨tick,time,base,rs⟩))).length = 4:=rfl
 unfold grRd grWrB
 rw [if_neg (by rw [List.length_append,hz];omega),copen_seal]
 simp only
 have ht : I64 time:=⟨by omega,by omega⟩
 have hzu:=zigF_u64 ht
 have hs : grSteps (grBodB ⟨tick,time,base,rs⟩,0) = (⟨tick,time,base,rs⟩,([],0)):=by
  have e1 : rdSigns (grBodB ⟨tick,time,base,rs⟩,0) = (vputF tick ++ (vputF (zigF time) ++ (vputF (grBack tick base) ++ (vputF (rs.length : Int) ++ recsB (-1) rs))),0):=by
   unfold rdSigns grBodB grHdB
   simp only [List.append_assoc,List.cons_append,List.nil_append]
   rw [rdMust_cons,rdMust_cons]
  have e2 : rdWhen (vputF tick ++ (vputF (zigF time) ++ (vputF (grBack tick base) ++ (vputF (rs.length : Int) ++ recsB (-1) rs))),0) = (tick,time,(vputF (grBack tick base) ++ (vputF (rs.length : Int) ++ recsB (-1) rs),0)):=by
   unfold rdWhen
   rw [rdUint_vput ⟨by omega,by omega⟩ (by omega)]
   have:=rdInt_zb ht (vputF (grBack tick base) ++ (vputF (rs.length : Int) ++ recsB (-1) rs))
   unfold zb at this
   simp only
   rw [this]
   simp only
   rw [if_pos ⟨by omega,by omega⟩]
  have hbk : 0 ≤ grBack tick base ∧ grBack tick base ≤ tick:=by unfold grBack;split <;> omega
  have e3 : rdBase tick (vputF (grBack tick base) ++ (vputF (rs.length : Int) ++ recsB (-1) rs),0) = (base,(vputF (rs.length : Int) ++ recsB (-1) rs,0)):=by
   unfold rdBase
   rw [rdUint_vput ⟨by omega,by omega⟩ hbk.2]
   simp only
   congr 1
   unfold grBack
   split
   ·rw [if_pos (by omega)];omega
   ·rw [if_neg (by omega)];omega
  have e4 : rdRecords (vputF (rs.length : Int) ++ recsB (-1) rs,0) = (rs,([],0)):=by
   unfold rdRecords
   rw [rdUint_vput ⟨by omega,by omega⟩ (by omega)]
   simp only [Int.toNat_natCast]
   have:=rdRecs_wr rs (-1) [] hr hb
   rwa [List.append_nil] at this
  unfold grSteps
  rw [e1,e2]
  simp only
  rw [e3]
  simp only
  rw [e4]
 rw [hs]
 simp [rdDone]
set_option maxRecDepth 8000
theorem kn2_f (R X : Nat) (w : World) : Calls Tryz.prog 153 #[.pointer (some ⟨R,0,none⟩),.pointer (some ⟨X,0,none⟩)] w fun e w'=>e = .returned (.tuple #[]) ∧ w = w':=by
 go_enter Tryz.func153,Tryz.ntmps153
 go_wp2
 exact bodyPost_end (v:=.tuple #[]) (by simp [results,Tryz.results153,go_sem]) rfl ⟨rfl,rfl⟩
set_option maxHeartbeats 1000000 in
theorem rdall_f {B0 : Nat} (R X : Nat) (s : RdSt) (r : Rec) (w : World) (h : RdAt w R B0 s) (hX : Blk w X (recA r) 147) (hBX : B0 ≤ X) (hXR : X ≠ R) :
  Calls Tryz.prog 155 #[.pointer (some ⟨R,0,none⟩),.pointer (some ⟨X,0,none⟩)] w fun e w'=>e = .returned (.tuple #[]) ∧ RdAt w' R B0 (rdAll r s).2 ∧ Blk w' X (recA (rdAll r s).1) 147 ∧ Only (fun k=>k = R ∨ k = X) w w':=by
 have hB0 : B0 ≤ w.heap.size:=by have:=hX.lt;omega
 have v1:=rvec_f (B0:=B0) R s w h hB0
 have v2:=fun w h hB=>rvec_f (B0:=B0) R (rdVec s).2 w h hB
 have u1:=fun w h=>ruint_f (B0:=B0) R (rdVec (rdVec s).2).2 65535 w h
 have ub : AllU8 (rdVec (rdVec s).2).2.1 → 0 ≤ (rdUint 65535 (rdVec (rdVec s).2).2).1 ∧ (rdUint 65535 (rdVec (rdVec s).2).2).1 ≤ 65535:=fun h=>rdUint_le h (by decide)
 unfold rdAll
 simp only
 generalize rdVec s = q1 at *
 generalize rdVec q1.2 = q2 at *
 generalize rdUint 65535 q2.2 = q3 at *
 obtain ⟨⟨x,y,z⟩,s1⟩:=q1
 obtain ⟨⟨vx,vy,vz⟩,s2⟩:=q2
 obtain ⟨an,s3⟩:=q3
 simp only at *
 obtain ⟨rk,ri,r1,r2,r3,r4,r5,r6,ra⟩:=r
 simp only at *
 have HX0:=Lib.hid hX
 have HXR:=Lib.hid hXR
 clear h hX
 go_enter Tryz.func155,Tryz.ntmps155
 go_wp2_with fail
 refine v1.mono ?_;rintro e w1 ⟨rfl,hR1,hO1⟩
 have v2':=v2 w1 hR1 (Nat.le_trans hB0 hO1.size)
 have HX1:=Lib.hid (hO1.blk HX0.out hXR)
 have HO1:=Lib.hid hO1
 clear v1 v2 hR1 hO1
 go_wp2_with fail
 refine v2'.mono ?_;rintro e w2 ⟨rfl,hR2,hO2⟩
 have hX2:=hO2.blk HX1.out hXR
 have HO2:=Lib.hid (HO1.out.trans hO2)
 have d2:=hX2.cell 2
 have d3:=hX2.cell 3
 have d4:=hX2.cell 4
 have d5:=hX2.cell 5
 have d6:=hX2.cell 6
 have d7:=hX2.cell 7
 have d8:=hX2.cell 8
 have f2:=hX2.free 2
 have f3:=hX2.free 3
 have f4:=hX2.free 4
 have f5:=hX2.free 5
 have f6:=hX2.free 6
 have f7:=hX2.free 7
 have f8:=hX2.free 8
 simp at d2 d3 d4 d5 d6 d7 d8
 have HX3:=Lib.hid ((((((hX2.set 2 (.int .i64 x)).set 3 (.int .i64 y)).set 4 (.int .i64 z)).set 5 (.int .i64 vx)).set 6 (.int .i64 vy)).set 7 (.int .i64 vz))
 have HR3:=Lib.hid ((((((hR2.setFar (p:=⟨X,2,none⟩) (Ne.symm hXR) hBX (.int .i64 x)).setFar (p:=⟨X,3,none⟩) (Ne.symm hXR) hBX (.int .i64 y)).setFar (p:=⟨X,4,none⟩) (Ne.symm hXR) hBX (.int .i64 z)).setFar (p:=⟨X,5,none⟩) (Ne.symm hXR) hBX (.int .i64 vx)).setFar (p:=⟨X,6,none⟩) (Ne.symm hXR) hBX (.int .i64 vy)).setFar (p:=⟨X,7,none⟩) (Ne.symm hXR) hBX (.int .i64 vz))
 have hOX : Only (fun k=>k = R ∨ k = X) w w2:=HO2.out.weaken (fun k _ hk=>.inl hk)
 have HO3:=Lib.hid ((((((hOX.setCell (p:=⟨X,2,none⟩) (.inl (.inr rfl)) (.int .i64 x)).setCell (p:=⟨X,3,none⟩) (.inl (.inr rfl)) (.int .i64 y)).setCell (p:=⟨X,4,none⟩) (.inl (.inr rfl)) (.int .i64 z)).setCell (p:=⟨X,5,none⟩) (.inl (.inr rfl)) (.int .i64 vx)).setCell (p:=⟨X,6,none⟩) (.inl (.inr rfl)) (.int .i64 vy)).setCell (p:=⟨X,7,none⟩) (.inl (.inr rfl)) (.int .i64 vz))
 have e8:=ub HR3.out.u8
 have hwr : IntKind.u16.wrap an = an:=wraps_u16 _ (by omega) (by omega)
 clear v2' hX2 hR2 hO2 hOX HX0 HX1 HO1 HO2 ub hXR
 go_wp2_with fail
 refine (u1 _ HR3.out).mono ?_;rintro e w3 ⟨rfl,hR4,hO4⟩
 have hX4:=hO4.blk HX3.out HXR.out
 have g8:=hX4.cell 8
 have k8:=hX4.free 8
 simp at g8
 have HX5:=Lib.hid (hX4.set 8 (.int .u16 an))
 have HR5:=Lib.hid (hR4.setFar (p:=⟨X,8,none⟩) (Ne.symm HXR.out) hBX (.int .u16 an))
 have HO5:=Lib.hid ((HO3.out.trans (hO4.weaken (T:=fun k=>k = R ∨ k = X) (fun k _ hk=>.inl hk))).setCell (p:=⟨X,8,none⟩) (.inl (.inr rfl)) (.int .u16 an))
 clear u1 hX4 hR4 hO4 HX3 HR3 HO3 d2 d3 d4 d5 d6 d7 d8 f2 f3 f4 f5 f6 f7 f8
 go_wp2
 exact bodyPost_end (v:=.tuple #[]) (by simp [results,Tryz.results155,go_sem]) rfl ⟨rfl,HR5.out,by simpa [recA] using HX5.out,HO5.out⟩
set_option maxRecDepth 8000
theorem and1_all : ∀ n : Fin 256,bits .and .u8 (n.val : Int) 1 = (n.val : Int) % 2:=by decide +kernel
theorem and1_u8 {y : Int} (h : U8 y) : bits .and .u8 y 1 = y % 2:=by
 obtain ⟨h0,h1⟩:=h
 have:=and1_all ⟨y.toNat,by omega⟩
 simp only at this
 rwa [Int.toNat_of_nonneg h0] at this
theorem and64_all : ∀ n : Fin 256,bits .and .u8 (n.val : Int) 64 = 64 * ((n.val : Int) / 64 % 2):=by decide +kernel
theorem and64_u8 {y : Int} (h : U8 y) : bits .and .u8 y 64 = 64 * (y / 64 % 2):=by
 obtain ⟨h0,h1⟩:=h
 have:=and64_all ⟨y.toNat,by omega⟩
 simp only at this
 rwa [Int.toNat_of_nonneg h0] at this
def RsRel (w : World) (R X B0 : Nat) (c : List (Array Value × RdSt)) (k : Nat) (wr : World) : Prop :=
 ∃ q,c[k]? = some q ∧ Blk wr X q.1 147 ∧ RdAt wr R B0 q.2 ∧ Only (fun k=>k = R ∨ k = X) w wr
set_option maxHeartbeats 4000000 in
theorem rdsome_f {B0 : Nat} (R X : Nat) (s : RdSt) (rk ri : Int) (w : World) (h : RdAt w R B0 s) (hX : Blk w X (recA ⟨rk,ri,0,0,0,0,0,0,0⟩) 147) (hBX : B0 ≤ X) (hXR : X ≠ R) :
  Calls Tryz.prog 157 #[.pointer (some ⟨R,0,none⟩),.pointer (some ⟨X,0,none⟩)] w fun e w'=>e = .returned (.tuple #[]) ∧ RdAt w' R B0 (rdSome ⟨rk,ri,0,0,0,0,0,0,0⟩ s).2 ∧ Blk w' X (recA (rdSome ⟨rk,ri,0,0,0,0,0,0,0⟩ s).1) 147 ∧ Only (fun k=>k = R ∨ k = X) w w':=by
 have bt:=rbyte_f (B0:=B0) R s w h
 have fl:=fun s e he w h=>rfail_f (B0:=B0) R s e he w h
 have rI:=fun s w h=>rint_f (B0:=B0) R s w h
 have hm8:=rdByte_u8 h.u8
 unfold recA at hX
 unfold rdSome
 simp only
 generalize rdByte s = q at *
 obtain ⟨m,s0⟩:=q
 simp only at *
 have HX0:=Lib.hid hX
 have HXR:=Lib.hid hXR
 have hRlt:=h.lt
 have hXlt:=hX.lt
 by_cases hbad : m = 0 ∨ 127 < m
 ·rw [if_pos hbad]
  have fl7:=fl s0 7 (by decide)
  have hpk : (m == 0 || decide (127 < m)) = true:=by
   rcases hbad with h | h
   ·simp [h]
   ·simp [h]
  clear h hX rI fl
  go_enter Tryz.func157,Tryz.ntmps157
  go_wp2_with fail
  refine bt.mono ?_;rintro e w1 ⟨rfl,hR1,hO1⟩
  have HX1:=Lib.hid (hO1.blk HX0.out hXR)
  have HO1:=Lib.hid hO1
  have f1:=fl7 w1 hR1
  clear hR1 hO1 bt fl7
  rcases hbad with rfl | hbad
  ·go_wp2_with fail
   refine f1.mono ?_;rintro e w2 ⟨rfl,hR2,hO2⟩
   have HX2:=Lib.hid (hO2.blk HX1.out HXR.out)
   have HO2:=Lib.hid ((HO1.out.trans hO2).weaken (T:=fun k=>k = R ∨ k = X) (fun k _ hk=>.inl hk))
   clear hO2 f1
   go_wp2
   exact bodyPost_ret (v:=.tuple #[]) (by simp [results,Tryz.results157,go_sem]) rfl ⟨rfl,hR2,by simpa [recA] using HX2.out,HO2.out⟩
  ·have hm0 : (m == 0) = false:=by simp;omega
   go_wp2_with fail
   refine f1.mono ?_;rintro e w2 ⟨rfl,hR2,hO2⟩
   have HX2:=Lib.hid (hO2.blk HX1.out HXR.out)
   have HO2:=Lib.hid ((HO1.out.trans hO2).weaken (T:=fun k=>k = R ∨ k = X) (fun k _ hk=>.inl hk))
   clear hO2 f1
   go_wp2
   exact bodyPost_ret (v:=.tuple #[]) (by simp [results,Tryz.results157,go_sem]) rfl ⟨rfl,hR2,by simpa [recA] using HX2.out,HO2.out⟩
 ·rw [if_neg hbad]
  have hm0 : (m == 0) = false:=by simp;omega
  have hm1 : ¬ 127 < m:=by omega
  obtain ⟨x0,s1,e0⟩ : ∃ x t,rdOne m 0 s0 = (x,t):=⟨_,_,rfl⟩
  obtain ⟨x1,s2,e1⟩ : ∃ x t,rdOne m 1 s1 = (x,t):=⟨_,_,rfl⟩
  obtain ⟨x2,s3,e2⟩ : ∃ x t,rdOne m 2 s2 = (x,t):=⟨_,_,rfl⟩
  obtain ⟨x3,s4,e3⟩ : ∃ x t,rdOne m 3 s3 = (x,t):=⟨_,_,rfl⟩
  obtain ⟨x4,s5,e4⟩ : ∃ x t,rdOne m 4 s4 = (x,t):=⟨_,_,rfl⟩
  obtain ⟨x5,s6,e5⟩ : ∃ x t,rdOne m 5 s5 = (x,t):=⟨_,_,rfl⟩
  obtain ⟨an,s7,e6⟩ : ∃ x t,rdAng m s6 = (x,t):=⟨_,_,rfl⟩
  have HE : Hid (rdOnes m [0,1,2,3,4,5] s0 = ([x0,x1,x2,x3,x4,x5],s6)):=Lib.hid (by
   simp only [rdOnes,e0,e1,e2,e3,e4,e5])
  rw [HE.out]
  simp only
  rw [e6]
  simp only [List.getD_cons_zero,List.getD_cons_succ]
  have a0:=and1_u8 hm8
  have a1:=and1_u8 (y:=m / 2 ^ 1) ⟨by omega,by omega⟩
  have a2:=and1_u8 (y:=m / 2 ^ 2) ⟨by omega,by omega⟩
  have a3:=and1_u8 (y:=m / 2 ^ 3) ⟨by omega,by omega⟩
  have a4:=and1_u8 (y:=m / 2 ^ 4) ⟨by omega,by omega⟩
  have a5:=and1_u8 (y:=m / 2 ^ 5) ⟨by omega,by omega⟩
  have a6:=and64_u8 hm8
  simp only [Int.reducePow,Nat.reducePow,Int.pow_zero] at a1 a2 a3 a4 a5
  obtain ⟨c,hc⟩ : ∃ c : List (Array Value × RdSt),c = [(#[.int .i64 rk,.int .i64 ri,.int .i64 0,.int .i64 0,.int .i64 0,.int .i64 0,.int .i64 0,.int .i64 0,.int .u16 0],s0),(#[.int .i64 rk,.int .i64 ri,.int .i64 x0,.int .i64 0,.int .i64 0,.int .i64 0,.int .i64 0,.int .i64 0,.int .u16 0],s1),(#[.int .i64 rk,.int .i64 ri,.int .i64 x0,.int .i64 x1,.int .i64 0,.int .i64 0,.int .i64 0,.int .i64 0,.int .u16 0],s2),(#[.int .i64 rk,.int .i64 ri,.int .i64 x0,.int .i64 x1,.int .i64 x2,.int .i64 0,.int .i64 0,.int .i64 0,.int .u16 0],s3),(#[.int .i64 rk,.int .i64 ri,.int .i64 x0,.int .i64 x1,.int .i64 x2,.int .i64 x3,.int .i64 0,.int .i64 0,.int .u16 0],s4),(#[.int .i64 rk,.int .i64 ri,.int .i64 x0,.int .i64 x1,.int .i64 x2,.int .i64 x3,.int .i64 x4,.int .i64 0,.int .u16 0],s5),(#[.int .i64 rk,.int .i64 ri,.int .i64 x0,.int .i64 x1,.int .i64 x2,.int .i64 x3,.int .i64 x4,.int .i64 x5,.int .u16 0],s6)]:=⟨_,rfl⟩
  have HC:=Lib.hid hc
  have E0:=Lib.hid e0
  have E1:=Lib.hid e1
  have E2:=Lib.hid e2
  have E3:=Lib.hid e3
  have E4:=Lib.hid e4
  have E5:=Lib.hid e5
  have E6:=Lib.hid e6
  have H8:=Lib.hid hm8
  have HA6:=Lib.hid a6
  have nf:=fun w=>nums_f X w
  unfold ptrs at nf
  clear h hX HE e0 e1 e2 e3 e4 e5 e6 hc hm8 a6 hbad
  go_enter Tryz.func157,Tryz.ntmps157
  go_wp2_with fail
  refine bt.mono ?_;rintro e w1 ⟨rfl,hR1,hO1⟩
  have HX1:=Lib.hid (hO1.blk HX0.out hXR)
  have HR1:=Lib.hid hR1
  have HO1:=Lib.hid hO1
  clear hR1 hO1 bt HX0
  go_wp2_with fail
  refine (nf _).mono ?_;rintro e w2 ⟨rfl,hb2⟩
  have HS : Hid (RsRel w R X B0 c 0 w2):=Lib.hid ⟨_,by rw [HC.out];rfl,HX1.out.below hb2 HX1.out.lt,HR1.out.below hb2,(HO1.out.then_below hb2).weaken (fun k _ hk=>.inl hk)⟩
  clear hb2 nf HX1 HR1 HO1 hXR
  go_wp2_with fail
  go_loopw [19] (fun i wr=>∃ k : Nat,k ≤ 6 ∧ i = .int .i64 k ∧ RsRel w R X B0 c k wr) (fun i _=>6 - (intOf i).toNat)
  case atStart=>exact ⟨0,by omega,rfl,HS.out⟩
  case round =>
   rename_i wr
   obtain ⟨k,hk,rfl,q,hq,hX,hR,hO⟩:=hrel
   rw [HC.out] at hq
   rcases (show k = 0 ∨ k = 1 ∨ k = 2 ∨ k = 3 ∨ k = 4 ∨ k = 5 ∨ k = 6 by omega) with rfl | rfl | rfl | rfl | rfl | rfl | rfl
   ·cases hq
    have e:=E0.out
    have hX:=hX
    have c0:=hX.cell 2
    have f0:=hX.free 2
    simp at c0
    by_cases hb : m % 2 = 0
    ·have hz : x0 = 0 ∧ s1 = s0:=by
      unfold rdOne at e
      rw [if_pos (by simpa using hb)] at e
      cases e;exact ⟨rfl,rfl⟩
     have HS2 : Hid (RsRel w R X B0 c 1 wr):=Lib.hid ⟨_,by rw [HC.out];rfl,by rw [hz.1];exact hX,by rw [hz.2];exact hR,hO⟩
     clear hX hR hO e
     go_wp2
     go_roundw
     case rel=>exact ⟨1,by omega,by first | rfl | go_num,HS2.out⟩
     case measure=>simp [intOf]
    ·unfold rdOne at e
     rw [if_neg (by simpa using hb)] at e
     have r1:=rI s0 wr hR
     generalize rdInt s0 = q1 at *
     obtain ⟨y,t1⟩:=q1
     unfold rdNZ at e
     simp only at e r1
     have hb1 : (m % 2 == 0) = false:=by simpa using hb
     have HX3:=Lib.hid hX
     have HO3:=Lib.hid hO
     have hy : x0 = y:=by cases e;rfl
     subst hy
     clear hX hR hO
     go_wp2_with fail
     refine r1.mono ?_;rintro e' w3 ⟨rfl,hR3,hO3⟩
     have hX4:=hO3.blk HX3.out HXR.out
     have g0:=hX4.cell 2
     have k0:=hX4.free 2
     simp at g0
     have HX5:=Lib.hid (hX4.set 2 (.int .i64 x0))
     have HR5:=Lib.hid (hR3.setFar (p:=⟨X,2,none⟩) (Ne.symm HXR.out) hBX (.int .i64 x0))
     have HO5:=Lib.hid ((HO3.out.trans (hO3.weaken (T:=fun k=>k = R ∨ k = X) (fun k _ hk=>.inl hk))).setCell (p:=⟨X,2,none⟩) (.inl (.inr rfl)) (.int .i64 x0))
     clear hX4 hR3 hO3 HX3 HO3 r1
     by_cases hz : x0 = 0
     ·rw [if_pos hz] at e
      have hz' : s1 = rdFail 7 t1:=by cases e;rfl
      clear e
      subst hz
      have f1:=fl t1 7 (by decide) _ HR5.out
      go_wp2_with fail
      refine f1.mono ?_;rintro e' w4 ⟨rfl,hR6,hO6⟩
      have HS2 : Hid (RsRel w R X B0 c 1 w4):=Lib.hid ⟨_,by rw [HC.out];rfl,by simpa using hO6.blk HX5.out HXR.out,by rw [hz'];exact hR6,HO5.out.trans (hO6.weaken (fun k _ hk=>.inl hk))⟩
      clear hR6 hO6 HX5 HR5 HO5 f1
      go_wp2
      go_roundw
      case rel=>exact ⟨1,by omega,by first | rfl | go_num,HS2.out⟩
      case measure=>simp [intOf]
     ·rw [if_neg hz] at e
      have hz' : s1 = t1:=by cases e;rfl
      have hz2 : (x0 == 0) = false:=by simpa using hz
      have HS2 : Hid (RsRel w R X B0 c 1 (w3.setCell ⟨X,2,none⟩ (.int .i64 x0))):=Lib.hid ⟨_,by rw [HC.out];rfl,by simpa using HX5.out,by rw [hz'];exact HR5.out,HO5.out⟩
      clear HX5 HR5 HO5 e
      go_wp2
      go_roundw
      case rel=>exact ⟨1,by omega,by first | rfl | go_num,HS2.out⟩
      case measure=>simp [intOf]
   ·cases hq
    have e:=E1.out
    have hX:=hX
    have c0:=hX.cell 3
    have f0:=hX.free 3
    simp at c0
    by_cases hb : m / 2 % 2 = 0
    ·have hz : x1 = 0 ∧ s2 = s1:=by
      unfold rdOne at e
      rw [if_pos (by simpa using hb)] at e
      cases e;exact ⟨rfl,rfl⟩
     have HS2 : Hid (RsRel w R X B0 c 2 wr):=Lib.hid ⟨_,by rw [HC.out];rfl,by rw [hz.1];exact hX,by rw [hz.2];exact hR,hO⟩
     clear hX hR hO e
     go_wp2
     go_roundw
     case rel=>exact ⟨2,by omega,by first | rfl | go_num,HS2.out⟩
     case measure=>simp [intOf]
    ·unfold rdOne at e
     rw [if_neg (by simpa using hb)] at e
     have r1:=rI s1 wr hR
     generalize rdInt s1 = q1 at *
     obtain ⟨y,t1⟩:=q1
     unfold rdNZ at e
     simp only at e r1
     have hb1 : (m / 2 % 2 == 0) = false:=by simpa using hb
     have HX3:=Lib.hid hX
     have HO3:=Lib.hid hO
     have hy : x1 = y:=by cases e;rfl
     subst hy
     clear hX hR hO
     go_wp2_with fail
     refine r1.mono ?_;rintro e' w3 ⟨rfl,hR3,hO3⟩
     have hX4:=hO3.blk HX3.out HXR.out
     have g0:=hX4.cell 3
     have k0:=hX4.free 3
     simp at g0
     have HX5:=Lib.hid (hX4.set 3 (.int .i64 x1))
     have HR5:=Lib.hid (hR3.setFar (p:=⟨X,3,none⟩) (Ne.symm HXR.out) hBX (.int .i64 x1))
     have HO5:=Lib.hid ((HO3.out.trans (hO3.weaken (T:=fun k=>k = R ∨ k = X) (fun k _ hk=>.inl hk))).setCell (p:=⟨X,3,none⟩) (.inl (.inr rfl)) (.int .i64 x1))
     clear hX4 hR3 hO3 HX3 HO3 r1
     by_cases hz : x1 = 0
     ·rw [if_pos hz] at e
      have hz' : s2 = rdFail 7 t1:=by cases e;rfl
      clear e
      subst hz
      have f1:=fl t1 7 (by decide) _ HR5.out
      go_wp2_with fail
      refine f1.mono ?_;rintro e' w4 ⟨rfl,hR6,hO6⟩
      have HS2 : Hid (RsRel w R X B0 c 2 w4):=Lib.hid ⟨_,by rw [HC.out];rfl,by simpa using hO6.blk HX5.out HXR.out,by rw [hz'];exact hR6,HO5.out.trans (hO6.weaken (fun k _ hk=>.inl hk))⟩
      clear hR6 hO6 HX5 HR5 HO5 f1
      go_wp2
      go_roundw
      case rel=>exact ⟨2,by omega,by first | rfl | go_num,HS2.out⟩
      case measure=>simp [intOf]
     ·rw [if_neg hz] at e
      have hz' : s2 = t1:=by cases e;rfl
      have hz2 : (x1 == 0) = false:=by simpa using hz
      have HS2 : Hid (RsRel w R X B0 c 2 (w3.setCell ⟨X,3,none⟩ (.int .i64 x1))):=Lib.hid ⟨_,by rw [HC.out];rfl,by simpa using HX5.out,by rw [hz'];exact HR5.out,HO5.out⟩
      clear HX5 HR5 HO5 e
      go_wp2
      go_roundw
      case rel=>exact ⟨2,by omega,by first | rfl | go_num,HS2.out⟩
      case measure=>simp [intOf]
   ·cases hq
    have e:=E2.out
    have hX:=hX
    have c0:=hX.cell 4
    have f0:=hX.free 4
    simp at c0
    by_cases hb : m / 4 % 2 = 0
    ·have hz : x2 = 0 ∧ s3 = s2:=by
      unfold rdOne at e
      rw [if_pos (by simpa using hb)] at e
      cases e;exact ⟨rfl,rfl⟩
     have HS2 : Hid (RsRel w R X B0 c 3 wr):=Lib.hid ⟨_,by rw [HC.out];rfl,by rw [hz.1];exact hX,by rw [hz.2];exact hR,hO⟩
     clear hX hR hO e
     go_wp2
     go_roundw
     case rel=>exact ⟨3,by omega,by first | rfl | go_num,HS2.out⟩
     case measure=>simp [intOf]
    ·unfold rdOne at e
     rw [if_neg (by simpa using hb)] at e
     have r1:=rI s2 wr hR
     generalize rdInt s2 = q1 at *
     obtain ⟨y,t1⟩:=q1
     unfold rdNZ at e
     simp only at e r1
     have hb1 : (m / 4 % 2 == 0) = false:=by simpa using hb
     have HX3:=Lib.hid hX
     have HO3:=Lib.hid hO
     have hy : x2 = y:=by cases e;rfl
     subst hy
     clear hX hR hO
     go_wp2_with fail
     refine r1.mono ?_;rintro e' w3 ⟨rfl,hR3,hO3⟩
     have hX4:=hO3.blk HX3.out HXR.out
     have g0:=hX4.cell 4
     have k0:=hX4.free 4
     simp at g0
     have HX5:=Lib.hid (hX4.set 4 (.int .i64 x2))
     have HR5:=Lib.hid (hR3.setFar (p:=⟨X,4,none⟩) (Ne.symm HXR.out) hBX (.int .i64 x2))
     have HO5:=Lib.hid ((HO3.out.trans (hO3.weaken (T:=fun k=>k = R ∨ k = X) (fun k _ hk=>.inl hk))).setCell (p:=⟨X,4,none⟩) (.inl (.inr rfl)) (.int .i64 x2))
     clear hX4 hR3 hO3 HX3 HO3 r1
     by_cases hz : x2 = 0
     ·rw [if_pos hz] at e
      have hz' : s3 = rdFail 7 t1:=by cases e;rfl
      clear e
      subst hz
      have f1:=fl t1 7 (by decide) _ HR5.out
      go_wp2_with fail
      refine f1.mono ?_;rintro e' w4 ⟨rfl,hR6,hO6⟩
      have HS2 : Hid (RsRel w R X B0 c 3 w4):=Lib.hid ⟨_,by rw [HC.out];rfl,by simpa using hO6.blk HX5.out HXR.out,by rw [hz'];exact hR6,HO5.out.trans (hO6.weaken (fun k _ hk=>.inl hk))⟩
      clear hR6 hO6 HX5 HR5 HO5 f1
      go_wp2
      go_roundw
      case rel=>exact ⟨3,by omega,by first | rfl | go_num,HS2.out⟩
      case measure=>simp [intOf]
     ·rw [if_neg hz] at e
      have hz' : s3 = t1:=by cases e;rfl
      have hz2 : (x2 == 0) = false:=by simpa using hz
      have HS2 : Hid (RsRel w R X B0 c 3 (w3.setCell ⟨X,4,none⟩ (.int .i64 x2))):=Lib.hid ⟨_,by rw [HC.out];rfl,by simpa using HX5.out,by rw [hz'];exact HR5.out,HO5.out⟩
      clear HX5 HR5 HO5 e
      go_wp2
      go_roundw
      case rel=>exact ⟨3,by omega,by first | rfl | go_num,HS2.out⟩
      case measure=>simp [intOf]
   ·cases hq
    have e:=E3.out
    have hX:=hX
    have c0:=hX.cell 5
    have f0:=hX.free 5
    simp at c0
    by_cases hb : m / 8 % 2 = 0
    ·have hz : x3 = 0 ∧ s4 = s3:=by
      unfold rdOne at e
      rw [if_pos (by simpa using hb)] at e
      cases e;exact ⟨rfl,rfl⟩
     have HS2 : Hid (RsRel w R X B0 c 4 wr):=Lib.hid ⟨_,by rw [HC.out];rfl,by rw [hz.1];exact hX,by rw [hz.2];exact hR,hO⟩
     clear hX hR hO e
     go_wp2
     go_roundw
     case rel=>exact ⟨4,by omega,by first | rfl | go_num,HS2.out⟩
     case measure=>simp [intOf]
    ·unfold rdOne at e
     rw [if_neg (by simpa using hb)] at e
     have r1:=rI s3 wr hR
     generalize rdInt s3 = q1 at *
     obtain ⟨y,t1⟩:=q1
     unfold rdNZ at e
     simp only at e r1
     have hb1 : (m / 8 % 2 == 0) = false:=by simpa using hb
     have HX3:=Lib.hid hX
     have HO3:=Lib.hid hO
     have hy : x3 = y:=by cases e;rfl
     subst hy
     clear hX hR hO
     go_wp2_with fail
     refine r1.mono ?_;rintro e' w3 ⟨rfl,hR3,hO3⟩
     have hX4:=hO3.blk HX3.out HXR.out
     have g0:=hX4.cell 5
     have k0:=hX4.free 5
     simp at g0
     have HX5:=Lib.hid (hX4.set 5 (.int .i64 x3))
     have HR5:=Lib.hid (hR3.setFar (p:=⟨X,5,none⟩) (Ne.symm HXR.out) hBX (.int .i64 x3))
     have HO5:=Lib.hid ((HO3.out.trans (hO3.weaken (T:=fun k=>k = R ∨ k = X) (fun k _ hk=>.inl hk))).setCell (p:=⟨X,5,none⟩) (.inl (.inr rfl)) (.int .i64 x3))
     clear hX4 hR3 hO3 HX3 HO3 r1
     by_cases hz : x3 = 0
     ·rw [if_pos hz] at e
      have hz' : s4 = rdFail 7 t1:=by cases e;rfl
      clear e
      subst hz
      have f1:=fl t1 7 (by decide) _ HR5.out
      go_wp2_with fail
      refine f1.mono ?_;rintro e' w4 ⟨rfl,hR6,hO6⟩
      have HS2 : Hid (RsRel w R X B0 c 4 w4):=Lib.hid ⟨_,by rw [HC.out];rfl,by simpa using hO6.blk HX5.out HXR.out,by rw [hz'];exact hR6,HO5.out.trans (hO6.weaken (fun k _ hk=>.inl hk))⟩
      clear hR6 hO6 HX5 HR5 HO5 f1
      go_wp2
      go_roundw
      case rel=>exact ⟨4,by omega,by first | rfl | go_num,HS2.out⟩
      case measure=>simp [intOf]
     ·rw [if_neg hz] at e
      have hz' : s4 = t1:=by cases e;rfl
      have hz2 : (x3 == 0) = false:=by simpa using hz
      have HS2 : Hid (RsRel w R X B0 c 4 (w3.setCell ⟨X,5,none⟩ (.int .i64 x3))):=Lib.hid ⟨_,by rw [HC.out];rfl,by simpa using HX5.out,by rw [hz'];exact HR5.out,HO5.out⟩
      clear HX5 HR5 HO5 e
      go_wp2
      go_roundw
      case rel=>exact ⟨4,by omega,by first | rfl | go_num,HS2.out⟩
      case measure=>simp [intOf]
   ·cases hq
    have e:=E4.out
    have hX:=hX
    have c0:=hX.cell 6
    have f0:=hX.free 6
    simp at c0
    by_cases hb : m / 16 % 2 = 0
    ·have hz : x4 = 0 ∧ s5 = s4:=by
      unfold rdOne at e
      rw [if_pos (by simpa using hb)] at e
      cases e;exact ⟨rfl,rfl⟩
     have HS2 : Hid (RsRel w R X B0 c 5 wr):=Lib.hid ⟨_,by rw [HC.out];rfl,by rw [hz.1];exact hX,by rw [hz.2];exact hR,hO⟩
     clear hX hR hO e
     go_wp2
     go_roundw
     case rel=>exact ⟨5,by omega,by first | rfl | go_num,HS2.out⟩
     case measure=>simp [intOf]
    ·unfold rdOne at e
     rw [if_neg (by simpa using hb)] at e
     have r1:=rI s4 wr hR
     generalize rdInt s4 = q1 at *
     obtain ⟨y,t1⟩:=q1
     unfold rdNZ at e
     simp only at e r1
     have hb1 : (m / 16 % 2 == 0) = false:=by simpa using hb
     have HX3:=Lib.hid hX
     have HO3:=Lib.hid hO
     have hy : x4 = y:=by cases e;rfl
     subst hy
     clear hX hR hO
     go_wp2_with fail
     refine r1.mono ?_;rintro e' w3 ⟨rfl,hR3,hO3⟩
     have hX4:=hO3.blk HX3.out HXR.out
     have g0:=hX4.cell 6
     have k0:=hX4.free 6
     simp at g0
     have HX5:=Lib.hid (hX4.set 6 (.int .i64 x4))
     have HR5:=Lib.hid (hR3.setFar (p:=⟨X,6,none⟩) (Ne.symm HXR.out) hBX (.int .i64 x4))
     have HO5:=Lib.hid ((HO3.out.trans (hO3.weaken (T:=fun k=>k = R ∨ k = X) (fun k _ hk=>.inl hk))).setCell (p:=⟨X,6,none⟩) (.inl (.inr rfl)) (.int .i64 x4))
     clear hX4 hR3 hO3 HX3 HO3 r1
     by_cases hz : x4 = 0
     ·rw [if_pos hz] at e
      have hz' : s5 = rdFail 7 t1:=by cases e;rfl
      clear e
      subst hz
      have f1:=fl t1 7 (by decide) _ HR5.out
      go_wp2_with fail
      refine f1.mono ?_;rintro e' w4 ⟨rfl,hR6,hO6⟩
      have HS2 : Hid (RsRel w R X B0 c 5 w4):=Lib.hid ⟨_,by rw [HC.out];rfl,by simpa using hO6.blk HX5.out HXR.out,by rw [hz'];exact hR6,HO5.out.trans (hO6.weaken (fun k _ hk=>.inl hk))⟩
      clear hR6 hO6 HX5 HR5 HO5 f1
      go_wp2
      go_roundw
      case rel=>exact ⟨5,by omega,by first | rfl | go_num,HS2.out⟩
      case measure=>simp [intOf]
     ·rw [if_neg hz] at e
      have hz' : s5 = t1:=by cases e;rfl
      have hz2 : (x4 == 0) = false:=by simpa using hz
      have HS2 : Hid (RsRel w R X B0 c 5 (w3.setCell ⟨X,6,none⟩ (.int .i64 x4))):=Lib.hid ⟨_,by rw [HC.out];rfl,by simpa using HX5.out,by rw [hz'];exact HR5.out,HO5.out⟩
      clear HX5 HR5 HO5 e
      go_wp2
      go_roundw
      case rel=>exact ⟨5,by omega,by first | rfl | go_num,HS2.out⟩
      case measure=>simp [intOf]
   ·cases hq
    have e:=E5.out
    have hX:=hX
    have c0:=hX.cell 7
    have f0:=hX.free 7
    simp at c0
    by_cases hb : m / 32 % 2 = 0
    ·have hz : x5 = 0 ∧ s6 = s5:=by
      unfold rdOne at e
      rw [if_pos (by simpa using hb)] at e
      cases e;exact ⟨rfl,rfl⟩
     have HS2 : Hid (RsRel w R X B0 c 6 wr):=Lib.hid ⟨_,by rw [HC.out];rfl,by rw [hz.1];exact hX,by rw [hz.2];exact hR,hO⟩
     clear hX hR hO e
     go_wp2
     go_roundw
     case rel=>exact ⟨6,by omega,by first | rfl | go_num,HS2.out⟩
     case measure=>simp [intOf]
    ·unfold rdOne at e
     rw [if_neg (by simpa using hb)] at e
     have r1:=rI s5 wr hR
     generalize rdInt s5 = q1 at *
     obtain ⟨y,t1⟩:=q1
     unfold rdNZ at e
     simp only at e r1
     have hb1 : (m / 32 % 2 == 0) = false:=by simpa using hb
     have HX3:=Lib.hid hX
     have HO3:=Lib.hid hO
     have hy : x5 = y:=by cases e;rfl
     subst hy
     clear hX hR hO
     go_wp2_with fail
     refine r1.mono ?_;rintro e' w3 ⟨rfl,hR3,hO3⟩
     have hX4:=hO3.blk HX3.out HXR.out
     have g0:=hX4.cell 7
     have k0:=hX4.free 7
     simp at g0
     have HX5:=Lib.hid (hX4.set 7 (.int .i64 x5))
     have HR5:=Lib.hid (hR3.setFar (p:=⟨X,7,none⟩) (Ne.symm HXR.out) hBX (.int .i64 x5))
     have HO5:=Lib.hid ((HO3.out.trans (hO3.weaken (T:=fun k=>k = R ∨ k = X) (fun k _ hk=>.inl hk))).setCell (p:=⟨X,7,none⟩) (.inl (.inr rfl)) (.int .i64 x5))
     clear hX4 hR3 hO3 HX3 HO3 r1
     by_cases hz : x5 = 0
     ·rw [if_pos hz] at e
      have hz' : s6 = rdFail 7 t1:=by cases e;rfl
      clear e
      subst hz
      have f1:=fl t1 7 (by decide) _ HR5.out
      go_wp2_with fail
      refine f1.mono ?_;rintro e' w4 ⟨rfl,hR6,hO6⟩
      have HS2 : Hid (RsRel w R X B0 c 6 w4):=Lib.hid ⟨_,by rw [HC.out];rfl,by simpa using hO6.blk HX5.out HXR.out,by rw [hz'];exact hR6,HO5.out.trans (hO6.weaken (fun k _ hk=>.inl hk))⟩
      clear hR6 hO6 HX5 HR5 HO5 f1
      go_wp2
      go_roundw
      case rel=>exact ⟨6,by omega,by first | rfl | go_num,HS2.out⟩
      case measure=>simp [intOf]
     ·rw [if_neg hz] at e
      have hz' : s6 = t1:=by cases e;rfl
      have hz2 : (x5 == 0) = false:=by simpa using hz
      have HS2 : Hid (RsRel w R X B0 c 6 (w3.setCell ⟨X,7,none⟩ (.int .i64 x5))):=Lib.hid ⟨_,by rw [HC.out];rfl,by simpa using HX5.out,by rw [hz'];exact HR5.out,HO5.out⟩
      clear HX5 HR5 HO5 e
      go_wp2
      go_roundw
      case rel=>exact ⟨6,by omega,by first | rfl | go_num,HS2.out⟩
      case measure=>simp [intOf]
   ·cases hq
    have e:=E6.out
    have a6:=HA6.out
    have c0:=hX.cell 8
    have f0:=hX.free 8
    simp at c0
    by_cases hb : m / 64 % 2 = 0
    ·have hz : an = 0 ∧ s7 = s6:=by
      unfold rdAng at e
      rw [if_pos hb] at e
      cases e;exact ⟨rfl,rfl⟩
     have a7 : bits .and .u8 m 64 = 0:=by omega
     have HX5:=Lib.hid hX
     have HR5:=Lib.hid hR
     have HO5:=Lib.hid hO
     clear hX hR hO e a6
     obtain ⟨hz1,hz2⟩:=hz
     subst hz1
     subst hz2
     go_wp2
     exact bodyPost_end (v:=.tuple #[]) (by simp [results,Tryz.results157,go_sem]) rfl ⟨rfl,HR5.out,by simpa [recA] using HX5.out,HO5.out⟩
    ·unfold rdAng at e
     rw [if_neg hb] at e
     have r1:=ruint_f (B0:=B0) R s6 65535 wr hR
     have ub:=rdUint_le (most:=65535) hR.u8 (by decide)
     generalize rdUint 65535 s6 = q1 at *
     obtain ⟨y,t1⟩:=q1
     unfold rdNZ at e
     simp only at e r1 ub
     have a7 : bits .and .u8 m 64 = 64:=by omega
     have HX3:=Lib.hid hX
     have HO3:=Lib.hid hO
     have hy : an = y:=by cases e;rfl
     subst hy
     have hwr : IntKind.u16.wrap an = an:=wraps_u16 _ (by omega) (by omega)
     clear hX hR hO a6
     go_wp2_with fail
     refine r1.mono ?_;rintro e' w3 ⟨rfl,hR3,hO3⟩
     have hX4:=hO3.blk HX3.out HXR.out
     have g0:=hX4.cell 8
     have k0:=hX4.free 8
     simp at g0
     have HX5:=Lib.hid (hX4.set 8 (.int .u16 an))
     have HR5:=Lib.hid (hR3.setFar (p:=⟨X,8,none⟩) (Ne.symm HXR.out) hBX (.int .u16 an))
     have HO5:=Lib.hid ((HO3.out.trans (hO3.weaken (T:=fun k=>k = R ∨ k = X) (fun k _ hk=>.inl hk))).setCell (p:=⟨X,8,none⟩) (.inl (.inr rfl)) (.int .u16 an))
     clear hX4 hR3 hO3 HX3 HO3 r1
     by_cases hz : an = 0
     ·rw [if_pos hz] at e
      have hz' : s7 = rdFail 7 t1:=by cases e;rfl
      clear e
      subst hz
      have f1:=fl t1 7 (by decide) _ HR5.out
      go_wp2_with fail
      refine f1.mono ?_;rintro e' w4 ⟨rfl,hR6,hO6⟩
      have HX6:=Lib.hid (hO6.blk HX5.out HXR.out)
      have HO6:=Lib.hid (HO5.out.trans (hO6.weaken (T:=fun k=>k = R ∨ k = X) (fun k _ hk=>.inl hk)))
      clear hO6 HX5 HR5 HO5 f1
      go_wp2
      exact bodyPost_end (v:=.tuple #[]) (by simp [results,Tryz.results157,go_sem]) rfl ⟨rfl,by rw [hz'];exact hR6,by simpa [recA] using HX6.out,HO6.out⟩
     ·rw [if_neg hz] at e
      have hz' : s7 = t1:=by cases e;rfl
      have hz2 : (an == 0) = false:=by simpa using hz
      clear e
      go_wp2
      exact bodyPost_end (v:=.tuple #[]) (by simp [results,Tryz.results157,go_sem]) rfl ⟨rfl,by rw [hz'];exact HR5.out,by simpa [recA] using HX5.out,HO5.out⟩
set_option maxRecDepth 8000
theorem blk9 {w : World} {b : Nat} {t : TypeId} {o0 v0 o1 v1 o2 v2 o3 v3 o4 v4 o5 v5 o6 v6 o7 v7 o8 v8 : Value} (h : Blk w b #[o0,o1,o2,o3,o4,o5,o6,o7,o8] t) : Blk (((((((((w.setCell ⟨b,0,none⟩ v0).setCell ⟨b,1,none⟩ v1).setCell ⟨b,2,none⟩ v2).setCell ⟨b,3,none⟩ v3).setCell ⟨b,4,none⟩ v4).setCell ⟨b,5,none⟩ v5).setCell ⟨b,6,none⟩ v6).setCell ⟨b,7,none⟩ v7).setCell ⟨b,8,none⟩ v8) b #[v0,v1,v2,v3,v4,v5,v6,v7,v8] t:=by
 simpa using (((((((((h.set 0 v0).set 1 v1).set 2 v2).set 3 v3).set 4 v4).set 5 v5).set 6 v6).set 7 v7).set 8 v8)
theorem only9 {S : Nat → Prop} {w0 w : World} {b : Nat} {v0 v1 v2 v3 v4 v5 v6 v7 v8 : Value} (h : Only S w0 w) (hb : S b ∨ w0.heap.size ≤ b) : Only S w0 (((((((((w.setCell ⟨b,0,none⟩ v0).setCell ⟨b,1,none⟩ v1).setCell ⟨b,2,none⟩ v2).setCell ⟨b,3,none⟩ v3).setCell ⟨b,4,none⟩ v4).setCell ⟨b,5,none⟩ v5).setCell ⟨b,6,none⟩ v6).setCell ⟨b,7,none⟩ v7).setCell ⟨b,8,none⟩ v8) :=
 (((((((((h.setCell (p:=⟨b,0,none⟩) hb v0).setCell (p:=⟨b,1,none⟩) hb v1).setCell (p:=⟨b,2,none⟩) hb v2).setCell (p:=⟨b,3,none⟩) hb v3).setCell (p:=⟨b,4,none⟩) hb v4).setCell (p:=⟨b,5,none⟩) hb v5).setCell (p:=⟨b,6,none⟩) hb v6).setCell (p:=⟨b,7,none⟩) hb v7).setCell (p:=⟨b,8,none⟩) hb v8)
theorem rdAt9 {B0 R : Nat} {s : RdSt} {w : World} {b : Nat} {v0 v1 v2 v3 v4 v5 v6 v7 v8 : Value} (h : RdAt w R B0 s) (hR : R ≠ b) (hB : B0 ≤ b) : RdAt (((((((((w.setCell ⟨b,0,none⟩ v0).setCell ⟨b,1,none⟩ v1).setCell ⟨b,2,none⟩ v2).setCell ⟨b,3,none⟩ v3).setCell ⟨b,4,none⟩ v4).setCell ⟨b,5,none⟩ v5).setCell ⟨b,6,none⟩ v6).setCell ⟨b,7,none⟩ v7).setCell ⟨b,8,none⟩ v8) R B0 s :=
 (((((((((h.setFar (p:=⟨b,0,none⟩) hR hB v0).setFar (p:=⟨b,1,none⟩) hR hB v1).setFar (p:=⟨b,2,none⟩) hR hB v2).setFar (p:=⟨b,3,none⟩) hR hB v3).setFar (p:=⟨b,4,none⟩) hR hB v4).setFar (p:=⟨b,5,none⟩) hR hB v5).setFar (p:=⟨b,6,none⟩) hR hB v6).setFar (p:=⟨b,7,none⟩) hR hB v7).setFar (p:=⟨b,8,none⟩) hR hB v8)
theorem rec_last {B0 : Nat} (R : Nat) (s : RdSt) (last : Int) (hl : last = 65535) (w : World) (h : RdAt w R B0 s) (hB0 : B0 ≤ w.heap.size) :
  Calls Tryz.prog 197 #[.pointer (some ⟨R,0,none⟩),.int .i64 last] w fun e w'=>e = .returned (.tuple #[recV (recRd last s).1,.int .i64 (recRd last s).2.1]) ∧ RdAt w' R B0 (recRd last s).2.2 ∧ Only (· = R) w w':=by
 unfold recRd
 rw [if_pos hl]
 have l1 : ¬ last < -1:=by omega
 have l2 : ¬ 65535 < last:=by omega
 have l3 : (last == 65535) = true:=by simpa using hl
 clear hl
 have hR0 : RdAt (w.alloc (.cells #[.int .i64 0,.int .i64 0,.int .i64 0,.int .i64 0,.int .i64 0,.int .i64 0,.int .i64 0,.int .i64 0,.int .u16 0] 147)) R B0 s:=h.below ((Below.refl _ _).alloc (Nat.le_refl _) _)
 have hA0:=Blk.new w #[.int .i64 0,.int .i64 0,.int .i64 0,.int .i64 0,.int .i64 0,.int .i64 0,.int .i64 0,.int .i64 0,.int .u16 0] 147
 have hO0:=(Only.refl (· = R) w).alloc (.cells #[.int .i64 0,.int .i64 0,.int .i64 0,.int .i64 0,.int .i64 0,.int .i64 0,.int .i64 0,.int .i64 0,.int .u16 0] 147)
 have fl:=rfail_f (B0:=B0) R s 10 (by decide) _ hR0
 rw [show ((s.1,if s.2 = 0 then 10 else s.2) : RdSt) = rdFail 10 s from rfl] at fl
 generalize rdFail 10 s = st at *
 have HA0:=Lib.hid hA0
 have HO0:=Lib.hid hO0
 have er:=fun s w h=>rerr_f (B0:=B0) R s w h
 have hne : ¬ w.heap.size = R:=by have:=h.lt;omega
 have HNE:=Lib.hid hne
 clear hR0 hA0 hO0 h
 unfold recV rec0
 go_enter Tryz.func197,Tryz.ntmps197
 go_wp2_with fail
 refine fl.mono ?_;rintro e w1 ⟨rfl,hR1,hO1⟩
 have hA1:=hO1.blk HA0.out HNE.out
 have e1:=er _ w1 hR1
 have HR1:=Lib.hid hR1
 have HA1:=Lib.hid hA1
 have HO1:=Lib.hid (HO0.out.trans hO1)
 clear hR1 hA1 hO1 fl er hne
 go_wp2_with fail
 refine e1.mono ?_;rintro e w2 ⟨rfl,rfl⟩
 have hA1:=HA1.out
 have c0:=hA1.cell 0
 have c1:=hA1.cell 1
 have c2:=hA1.cell 2
 have c3:=hA1.cell 3
 have c4:=hA1.cell 4
 have c5:=hA1.cell 5
 have c6:=hA1.cell 6
 have c7:=hA1.cell 7
 have c8:=hA1.cell 8
 have f0:=hA1.free 0
 have f1:=hA1.free 1
 have f2:=hA1.free 2
 have f3:=hA1.free 3
 have f4:=hA1.free 4
 have f5:=hA1.free 5
 have f6:=hA1.free 6
 have f7:=hA1.free 7
 have f8:=hA1.free 8
 simp at c0 c1 c2 c3 c4 c5 c6 c7 c8
 clear e1 hA1
 go_wp2
 exact bodyPost_ret (v:=.tuple #[.agg #[.int .i64 0,.int .i64 0,.int .i64 0,.int .i64 0,.int .i64 0,.int .i64 0,.int .i64 0,.int .i64 0,.int .u16 0],.int .i64 st.2])
  (by
    have hh:=blk9 (v0:=.int .i64 0) (v1:=.int .i64 0) (v2:=.int .i64 0) (v3:=.int .i64 0) (v4:=.int .i64 0) (v5:=.int .i64 0) (v6:=.int .i64 0) (v7:=.int .i64 0) (v8:=.int .u16 0) HA1.out
    have g0:=hh.cell 0
    have g1:=hh.cell 1
    have g2:=hh.cell 2
    have g3:=hh.cell 3
    have g4:=hh.cell 4
    have g5:=hh.cell 5
    have g6:=hh.cell 6
    have g7:=hh.cell 7
    have g8:=hh.cell 8
    simp at g0 g1 g2 g3 g4 g5 g6 g7 g8
    simp [results,Tryz.results197,go_sem,g0,g1,g2,g3,g4,g5,g6,g7,g8]) rfl
  ⟨rfl,rdAt9 HR1.out (Ne.symm HNE.out) hB0,only9 HO1.out (.inr (Nat.le_refl _))⟩
set_option maxRecDepth 8000
def smM (ns : List Int) : Nat → Int
 | 0=>0
 | k + 1=>smM ns k + (if ns.getD k 0 ≠ 0 then 2 ^ k else 0)
def smY (ns : List Int) : Nat → List Int
 | 0=>[]
 | k + 1=>smY ns k ++ (if ns.getD k 0 ≠ 0 then zb (ns.getD k 0) else [])
theorem smM_lt (ns : List Int) : ∀ k,0 ≤ smM ns k ∧ smM ns k < 2 ^ k
 | 0=>⟨Int.le_refl _,by simp [smM]⟩
 | k + 1=>by
  have h:=smM_lt ns k
  rw [smM,Int.pow_succ]
  have hp : (0 : Int) < 2 ^ k:=Int.pow_pos (by decide)
  split <;> omega
theorem smY_eq (ns : List Int) : ∀ k,k ≤ ns.length → smY ns k = nb ((ns.take k).filter (· ≠ 0))
 | 0,_=>by simp [smY,nb]
 | k + 1,h=>by
  rw [smY,smY_eq ns k (by omega),List.take_add_one,List.filter_append]
  have hk : ns[k]? = some ns[k]:=List.getElem?_eq_getElem (by omega)
  have hd : ns.getD k 0 = ns[k]:=by simp [List.getD,hk]
  rw [hd,hk]
  simp only [Option.toList_some]
  by_cases h0 : ns[k] = 0
  ·simp [h0,nb]
  ·simp [h0,nb]
theorem smY_len (ns : List Int) (hn : ∀ n ∈ ns,I64 n) : ∀ k,(smY ns k).length ≤ 10 * k
 | 0=>by simp [smY]
 | k + 1=>by
  have h:=smY_len ns hn k
  rw [smY,List.length_append]
  split
  ·have : I64 (ns.getD k 0):=by
    unfold List.getD
    cases hx : ns[k]? with
    | none=>exact ⟨by decide,by decide⟩
    | some x=>exact hn x (List.mem_of_getElem? hx)
   have:=zb_len this
   omega
  ·simp;omega
theorem or_bit {m : Int} {k : Nat} (hk : k ≤ 7) (h0 : 0 ≤ m) (h1 : m < 2 ^ k) : bits .or .u8 m (2 ^ k) = m + 2 ^ k:=by
 have hp : (2 : Int) ^ k ≤ 128:=by
  have : ∀ j : Fin 8,(2 : Int) ^ j.val ≤ 128:=by decide +kernel
  exact this ⟨k,by omega⟩
 exact bits_join_low .u8 8 (by decide) wraps_u8 k m (2 ^ k) h0 h1 (by omega) (by omega) (by simp) (by omega)
theorem OwnB.elem {w : World} {base : Nat} {v : Value} {zs : List Int} (h : OwnB w base v zs) {i : Nat} {z : Int} (hi : zs[i]? = some z) :
  ∃ g c L,v = .slice (some ⟨g,0,none⟩) L c ∧ L = zs.length ∧ L ≤ c ∧ base ≤ g ∧ w.cell? ⟨g,i,none⟩ = some (.int .u8 z) ∧ w.frozen? ⟨g,i,none⟩ = false ∧
   ∀ x,U8 x → OwnB (w.setCell ⟨g,i,none⟩ (.int .u8 x)) base v (zs.set i x):=by
 obtain ⟨⟨h1,h2⟩,h3⟩:=h
 have hil : i < zs.length:=(List.getElem?_eq_some_iff.1 hi).1
 rcases h2 with ⟨_,h2⟩ | ⟨g,c,cur,rfl,hb,hh,hc,hm,hs,ht⟩
 ·omega
 ·have hB : Blk w g cur 5:=hh
  have hci : cur[i]? = some (.int .u8 z):=by
   have h4 : (cur.toList.take (zs.length * 1))[i]? = some (.int .u8 z):=by rw [ht];simp [hi]
   rw [List.getElem?_take] at h4
   split at h4
   ·simpa using h4
   ·cases h4
  refine ⟨g,c,zs.length,rfl,rfl,hc,hb,by rw [hB.cell i,hci],hB.free i,fun x hx=>⟨⟨by simp,.inr ⟨g,c,cur.setIfInBounds i (.int .u8 x),by rw [List.length_set],hb,hB.set i _,by rw [List.length_set];exact hc,hm,by simp [hs],?_⟩⟩,?_⟩⟩
  ·rw [List.length_set,Array.toList_setIfInBounds,List.take_set,ht,List.map_set]
  ·intro y hy
   rcases List.mem_or_eq_of_mem_set hy with h5 | rfl
   ·exact h3 y h5
   ·exact hx
def WsRel (w : World) (base X : Nat) (r : Rec) (zs : List Int) (k : Nat) (v : Value) (wr : World) : Prop :=
 OwnB wr base v (zs ++ smM (recNums r) k :: smY (recNums r) k) ∧ Blk wr X (recA r) 147 ∧ Below base w wr
set_option maxHeartbeats 4000000 in
theorem writeSome_f (v : Value) (zs : List Int) (X : Nat) (r : Rec) (hr : r.Ok) (base : Nat) (w : World) (hz : OwnB w base v zs) (hX : Blk w X (recA r) 147) (hXb : X < base) (hl : (zs.length : Int) ≤ 140737488354000) (hb : base ≤ w.heap.size) :
  Calls Tryz.prog 156 #[v,.pointer (some ⟨X,0,none⟩)] w fun e w'=>∃ v',e = .returned v' ∧ OwnB w' base v' (zs ++ someB r) ∧ Below base w w':=by
 have nf:=fun w=>nums_f X w
 unfold ptrs at nf
 have hns : ∀ n ∈ recNums r,I64 n:=by intro n hn;simp [recNums] at hn;rcases hn with h | h | h | h | h | h <;> subst h;exact hr.px;exact hr.py;exact hr.pz;exact hr.vx;exact hr.vy;exact hr.vz
 have HYL : Hid (∀ k,(smY (recNums r) k).length ≤ 10 * k):=Lib.hid (smY_len _ hns)
 have HML : Hid (∀ k,0 ≤ smM (recNums r) k ∧ smM (recNums r) k < 2 ^ k):=Lib.hid (smM_lt _)
 have ha:=hr.ang
 have hu : U64 r.ang:=⟨by omega,by omega⟩
 have hln:=vsize_le hu
 rw [← vputF_len] at hln
 have HS : Hid (someB r = (if r.ang ≠ 0 then smM (recNums r) 6 + 64 else smM (recNums r) 6) :: (smY (recNums r) 6 ++ (if r.ang ≠ 0 then vputF r.ang else []))):=Lib.hid (by
  unfold someB
  rw [smY_eq _ 6 (by simp [recNums])]
  have hm : maskF r = (if r.ang ≠ 0 then smM (recNums r) 6 + 64 else smM (recNums r) 6):=by
   unfold maskF
   simp only [smM,recNums,List.getD_cons_zero,List.getD_cons_succ]
   split <;> simp <;> omega
  rw [hm]
  simp [recNums])
 have hlen:=hz.bytes
 obtain ⟨az,cz,rfl,hzb,hzc⟩:=hlen
 have HZ:=Lib.hid hz
 have HX:=Lib.hid hX
 have HR:=Lib.hid hr
 have hB0 : Below base w (w.alloc (.cells #[.int .u8 0] 5)):=(Below.refl _ _).alloc hb _
 have HZ1:=Lib.hid (hz.below ((Below.refl _ _).alloc (Nat.le_refl _) (.cells #[.int .u8 0] 5)))
 have HB0:=Lib.hid hB0
 have hin:=ints_new w [0] (AllU8.one ⟨by decide,by decide⟩)
 have HXL:=Lib.hid hX.lt
 clear hz hX hr hzb hzc hns hB0
 go_enter Tryz.func156,Tryz.ntmps156
 go_wp2_with (at_builtin;refine wpList_app_bytes _ rfl (.tmp 10) (.tmp 11) rfl base _ zs rfl HZ1.out (some ⟨w.heap.size,0,none⟩) 1 1 [0] rfl hin (by intro h;cases h) (by omega) (by simp;omega) ?_)
 intro v1 w1 ho1 hg1
 have HO1:=Lib.hid ho1
 have hB1 : Below base w w1:=HB0.out.grown hg1 (by simp;omega) (fun j e=>(HZ1.out.lt j e).1)
 have HB1:=Lib.hid hB1
 clear ho1 hg1 hin
 go_wp2_with fail
 refine (nf _).mono ?_;rintro e w2 ⟨rfl,hb2⟩
 have hs1:=hB1.size
 have HSt : Hid (WsRel w base X r zs 0 v1 w2):=Lib.hid ⟨by simpa [smM,smY] using HO1.out.below hb2,(HX.out.below hB1 hXb).below hb2 (by omega),hB1.trans (hb2.mono (by omega))⟩
 clear hb2 nf hB1
 go_wp2_with fail
 go_loopw [0,15] (fun v i wr=>∃ k : Nat,k ≤ 6 ∧ i = .int .i64 k ∧ WsRel w base X r zs k v wr) (fun _ i _=>6 - (intOf i).toNat)
 case atStart=>exact ⟨0,by omega,rfl,HSt.out⟩
 case round =>
  rename_i wr
  obtain ⟨k,hk,rfl,hO,hX,hB⟩:=hrel
  have hbs : base ≤ wr.heap.size:=Nat.le_trans hb hB.size
  have HB:=Lib.hid hB
  have HX:=Lib.hid hX
  have HO:=Lib.hid hO
  rcases (show k = 0 ∨ k = 1 ∨ k = 2 ∨ k = 3 ∨ k = 4 ∨ k = 5 ∨ k = 6 by omega) with rfl | rfl | rfl | rfl | rfl | rfl | rfl
  ·have c0:=hX.cell 2
   simp at c0
   have HSM : Hid (smM (recNums r) 1 = smM (recNums r) 0 + (if r.px ≠ 0 then 1 else 0)):=Lib.hid rfl
   have HSY : Hid (smY (recNums r) 1 = smY (recNums r) 0 ++ (if r.px ≠ 0 then zb r.px else [])):=Lib.hid rfl
   have hI:=HR.out.px
   obtain ⟨g,c,L,rfl,hLe,hcl,hgb,hc,hf,hset⟩:=hO.elem (i:=zs.length) (z:=smM (recNums r) 0) (by simp)
   have hm : 0 ≤ smM (recNums r) 0 ∧ smM (recNums r) 0 < 1:=HML.out 0
   have hor : bits .or .u8 (smM (recNums r) 0) 1 = smM (recNums r) 0 + 1:=or_bit (k:=0) (by decide) hm.1 hm.2
   have hset':=hset (smM (recNums r) 0 + 1) ⟨by omega,by omega⟩
   have hyl:=HYL.out 0
   rw [show (zs ++ smM (recNums r) 0 :: smY (recNums r) 0).set zs.length (smM (recNums r) 0 + 1) = zs ++ (smM (recNums r) 0 + 1) :: smY (recNums r) 0 by rw [List.set_append_right _ _ (Nat.le_refl _),Nat.sub_self];rfl] at hset'
   generalize hnn : r.px = n at *
   have HNQ:=Lib.hid hnn
   clear hnn
   by_cases hn : n = 0
   ·subst hn
    have HS2 : Hid (WsRel w base X r zs 1 _ wr):=Lib.hid ⟨by rw [HSM.out,HSY.out,if_neg (by simp),if_neg (by simp),Int.add_zero,List.append_nil];exact HO.out,HX.out,HB.out⟩
    clear hX hO hB HO hset hset' hc hf hor
    go_wp2
    go_roundw
    case rel=>exact ⟨1,by omega,by first | rfl | go_num,HS2.out⟩
    case measure=>simp [intOf]
   ·have hn2 : (n != 0) = true:=by simpa using hn
    have HSM2 : Hid (smM (recNums r) 1 = smM (recNums r) 0 + 1):=Lib.hid (by rw [HSM.out,if_pos hn])
    have HSY2 : Hid (smY (recNums r) 1 = smY (recNums r) 0 ++ zb n):=Lib.hid (by rw [HSY.out,if_pos hn])
    have hx8 : U8 (smM (recNums r) 0 + 1):=⟨by omega,by omega⟩
    have HNN : Hid (∀ W,OwnB W base (.slice (some ⟨g,0,none⟩) L c) (zs ++ (smM (recNums r) 0 + 1) :: smY (recNums r) 0) → base ≤ W.heap.size → Calls Tryz.prog 190 #[.slice (some ⟨g,0,none⟩) L c,.int .i64 n] W fun e w'=>∃ v',e = .returned v' ∧ OwnB w' base v' ((zs ++ (smM (recNums r) 0 + 1) :: smY (recNums r) 0) ++ vputF (zigF n)) ∧ Below base W w'):=Lib.hid (fun W h1 h2=>number_f _ _ n hI base W h1 (by simp;omega) h2)
    have HLL : Hid (L = zs.length + 1 + (smY (recNums r) 0).length):=Lib.hid (by rw [hLe];simp;omega)
    clear hX hO hB hset hset' HSM HSY hf
    have hiL : (zs.length : Int) < L:=by have:=HLL.out;omega
    have hLc : (L : Int) ≤ c:=by omega
    clear hLe
    go_wp2_with fail
    apply wp_region_loose 8
    case hm=>kernel_rfl
    case hB=>kernel_rfl
    simp only [List.take_succ_cons,List.take_zero,List.drop_succ_cons,List.drop_zero]
    repeat (apply wpLoose_fix;(next=>(intro W hW K hK;have y0:=hW.cell hc;go_simp;first | exact ⟨Below.refl _ _,hK⟩ | exact hK));(try go_simp))
    refine wpLoose_nil ?_
    intro WC hWC _
    have hO2:=HO.out.below hWC
    obtain ⟨g2,c2,L2,e2,e6,e7,hgb2,hc2,hf2,hset2⟩:=hO2.elem (i:=zs.length) (z:=smM (recNums r) 0) (by simp)
    simp only [Value.slice.injEq,Option.some.injEq,Addr.mk.injEq] at e2
    obtain ⟨⟨e3,_⟩,e5,e4⟩:=e2
    clear e6 e7
    subst e3
    subst e4
    subst e5
    have hO3:=hset2 (smM (recNums r) 0 + 1) hx8
    rw [show (zs ++ smM (recNums r) 0 :: smY (recNums r) 0).set zs.length (smM (recNums r) 0 + 1) = zs ++ (smM (recNums r) 0 + 1) :: smY (recNums r) 0 by rw [List.set_append_right _ _ (Nat.le_refl _),Nat.sub_self];rfl] at hO3
    have hB2:=(HB.out.trans (Below.mono hWC hbs)).setCell (p:=⟨g,zs.length,none⟩) hgb (.int .u8 (smM (recNums r) 0 + 1))
    have hX2:=(HX.out.below hWC HX.out.lt).far (p:=⟨g,zs.length,none⟩) (show X ≠ g by omega) (.int .u8 (smM (recNums r) 0 + 1))
    have hs2:=Nat.le_trans hb hB2.size
    have nn:=HNN.out _ hO3 hs2
    have c1:=hX2.cell 2
    simp at c1
    rw [HNQ.out] at c1
    have HX2:=Lib.hid hX2
    have HB2:=Lib.hid hB2
    clear hO2 hO3 hset2 hB2 hX2 hWC HO HX HB HNN c0 hc
    go_wp2_with fail
    refine nn.mono ?_;rintro e w5 ⟨v5,rfl,ho5,hb5⟩
    have HS2 : Hid (WsRel w base X r zs 1 v5 w5):=Lib.hid ⟨by rw [HSM2.out,HSY2.out];simpa [zb] using ho5,HX2.out.below hb5 hXb,HB2.out.trans hb5⟩
    clear ho5 hb5 nn HX2 HB2
    go_wp2
    go_roundw
    case rel=>exact ⟨1,by omega,by first | rfl | go_num,HS2.out⟩
    case measure=>simp [intOf]
  ·have c0:=hX.cell 3
   simp at c0
   have HSM : Hid (smM (recNums r) 2 = smM (recNums r) 1 + (if r.py ≠ 0 then 2 else 0)):=Lib.hid rfl
   have HSY : Hid (smY (recNums r) 2 = smY (recNums r) 1 ++ (if r.py ≠ 0 then zb r.py else [])):=Lib.hid rfl
   have hI:=HR.out.py
   obtain ⟨g,c,L,rfl,hLe,hcl,hgb,hc,hf,hset⟩:=hO.elem (i:=zs.length) (z:=smM (recNums r) 1) (by simp)
   have hm : 0 ≤ smM (recNums r) 1 ∧ smM (recNums r) 1 < 2:=HML.out 1
   have hor : bits .or .u8 (smM (recNums r) 1) 2 = smM (recNums r) 1 + 2:=or_bit (k:=1) (by decide) hm.1 hm.2
   have hset':=hset (smM (recNums r) 1 + 2) ⟨by omega,by omega⟩
   have hyl:=HYL.out 1
   rw [show (zs ++ smM (recNums r) 1 :: smY (recNums r) 1).set zs.length (smM (recNums r) 1 + 2) = zs ++ (smM (recNums r) 1 + 2) :: smY (recNums r) 1 by rw [List.set_append_right _ _ (Nat.le_refl _),Nat.sub_self];rfl] at hset'
   generalize hnn : r.py = n at *
   have HNQ:=Lib.hid hnn
   clear hnn
   by_cases hn : n = 0
   ·subst hn
    have HS2 : Hid (WsRel w base X r zs 2 _ wr):=Lib.hid ⟨by rw [HSM.out,HSY.out,if_neg (by simp),if_neg (by simp),Int.add_zero,List.append_nil];exact HO.out,HX.out,HB.out⟩
    clear hX hO hB HO hset hset' hc hf hor
    go_wp2
    go_roundw
    case rel=>exact ⟨2,by omega,by first | rfl | go_num,HS2.out⟩
    case measure=>simp [intOf]
   ·have hn2 : (n != 0) = true:=by simpa using hn
    have HSM2 : Hid (smM (recNums r) 2 = smM (recNums r) 1 + 2):=Lib.hid (by rw [HSM.out,if_pos hn])
    have HSY2 : Hid (smY (recNums r) 2 = smY (recNums r) 1 ++ zb n):=Lib.hid (by rw [HSY.out,if_pos hn])
    have hx8 : U8 (smM (recNums r) 1 + 2):=⟨by omega,by omega⟩
    have HNN : Hid (∀ W,OwnB W base (.slice (some ⟨g,0,none⟩) L c) (zs ++ (smM (recNums r) 1 + 2) :: smY (recNums r) 1) → base ≤ W.heap.size → Calls Tryz.prog 190 #[.slice (some ⟨g,0,none⟩) L c,.int .i64 n] W fun e w'=>∃ v',e = .returned v' ∧ OwnB w' base v' ((zs ++ (smM (recNums r) 1 + 2) :: smY (recNums r) 1) ++ vputF (zigF n)) ∧ Below base W w'):=Lib.hid (fun W h1 h2=>number_f _ _ n hI base W h1 (by simp;omega) h2)
    have HLL : Hid (L = zs.length + 1 + (smY (recNums r) 1).length):=Lib.hid (by rw [hLe];simp;omega)
    clear hX hO hB hset hset' HSM HSY hf
    have hiL : (zs.length : Int) < L:=by have:=HLL.out;omega
    have hLc : (L : Int) ≤ c:=by omega
    clear hLe
    go_wp2_with fail
    apply wp_region_loose 8
    case hm=>kernel_rfl
    case hB=>kernel_rfl
    simp only [List.take_succ_cons,List.take_zero,List.drop_succ_cons,List.drop_zero]
    repeat (apply wpLoose_fix;(next=>(intro W hW K hK;have y0:=hW.cell hc;go_simp;first | exact ⟨Below.refl _ _,hK⟩ | exact hK));(try go_simp))
    refine wpLoose_nil ?_
    intro WC hWC _
    have hO2:=HO.out.below hWC
    obtain ⟨g2,c2,L2,e2,e6,e7,hgb2,hc2,hf2,hset2⟩:=hO2.elem (i:=zs.length) (z:=smM (recNums r) 1) (by simp)
    simp only [Value.slice.injEq,Option.some.injEq,Addr.mk.injEq] at e2
    obtain ⟨⟨e3,_⟩,e5,e4⟩:=e2
    clear e6 e7
    subst e3
    subst e4
    subst e5
    have hO3:=hset2 (smM (recNums r) 1 + 2) hx8
    rw [show (zs ++ smM (recNums r) 1 :: smY (recNums r) 1).set zs.length (smM (recNums r) 1 + 2) = zs ++ (smM (recNums r) 1 + 2) :: smY (recNums r) 1 by rw [List.set_append_right _ _ (Nat.le_refl _),Nat.sub_self];rfl] at hO3
    have hB2:=(HB.out.trans (Below.mono hWC hbs)).setCell (p:=⟨g,zs.length,none⟩) hgb (.int .u8 (smM (recNums r) 1 + 2))
    have hX2:=(HX.out.below hWC HX.out.lt).far (p:=⟨g,zs.length,none⟩) (show X ≠ g by omega) (.int .u8 (smM (recNums r) 1 + 2))
    have hs2:=Nat.le_trans hb hB2.size
    have nn:=HNN.out _ hO3 hs2
    have c1:=hX2.cell 3
    simp at c1
    rw [HNQ.out] at c1
    have HX2:=Lib.hid hX2
    have HB2:=Lib.hid hB2
    clear hO2 hO3 hset2 hB2 hX2 hWC HO HX HB HNN c0 hc
    go_wp2_with fail
    refine nn.mono ?_;rintro e w5 ⟨v5,rfl,ho5,hb5⟩
    have HS2 : Hid (WsRel w base X r zs 2 v5 w5):=Lib.hid ⟨by rw [HSM2.out,HSY2.out];simpa [zb] using ho5,HX2.out.below hb5 hXb,HB2.out.trans hb5⟩
    clear ho5 hb5 nn HX2 HB2
    go_wp2
    go_roundw
    case rel=>exact ⟨2,by omega,by first | rfl | go_num,HS2.out⟩
    case measure=>simp [intOf]
  ·have c0:=hX.cell 4
   simp at c0
   have HSM : Hid (smM (recNums r) 3 = smM (recNums r) 2 + (if r.pz ≠ 0 then 4 else 0)):=Lib.hid rfl
   have HSY : Hid (smY (recNums r) 3 = smY (recNums r) 2 ++ (if r.pz ≠ 0 then zb r.pz else [])):=Lib.hid rfl
   have hI:=HR.out.pz
   obtain ⟨g,c,L,rfl,hLe,hcl,hgb,hc,hf,hset⟩:=hO.elem (i:=zs.length) (z:=smM (recNums r) 2) (by simp)
   have hm : 0 ≤ smM (recNums r) 2 ∧ smM (recNums r) 2 < 4:=HML.out 2
   have hor : bits .or .u8 (smM (recNums r) 2) 4 = smM (recNums r) 2 + 4:=or_bit (k:=2) (by decide) hm.1 hm.2
   have hset':=hset (smM (recNums r) 2 + 4) ⟨by omega,by omega⟩
   have hyl:=HYL.out 2
   rw [show (zs ++ smM (recNums r) 2 :: smY (recNums r) 2).set zs.length (smM (recNums r) 2 + 4) = zs ++ (smM (recNums r) 2 + 4) :: smY (recNums r) 2 by rw [List.set_append_right _ _ (Nat.le_refl _),Nat.sub_self];rfl] at hset'
   generalize hnn : r.pz = n at *
   have HNQ:=Lib.hid hnn
   clear hnn
   by_cases hn : n = 0
   ·subst hn
    have HS2 : Hid (WsRel w base X r zs 3 _ wr):=Lib.hid ⟨by rw [HSM.out,HSY.out,if_neg (by simp),if_neg (by simp),Int.add_zero,List.append_nil];exact HO.out,HX.out,HB.out⟩
    clear hX hO hB HO hset hset' hc hf hor
    go_wp2
    go_roundw
    case rel=>exact ⟨3,by omega,by first | rfl | go_num,HS2.out⟩
    case measure=>simp [intOf]
   ·have hn2 : (n != 0) = true:=by simpa using hn
    have HSM2 : Hid (smM (recNums r) 3 = smM (recNums r) 2 + 4):=Lib.hid (by rw [HSM.out,if_pos hn])
    have HSY2 : Hid (smY (recNums r) 3 = smY (recNums r) 2 ++ zb n):=Lib.hid (by rw [HSY.out,if_pos hn])
    have hx8 : U8 (smM (recNums r) 2 + 4):=⟨by omega,by omega⟩
    have HNN : Hid (∀ W,OwnB W base (.slice (some ⟨g,0,none⟩) L c) (zs ++ (smM (recNums r) 2 + 4) :: smY (recNums r) 2) → base ≤ W.heap.size → Calls Tryz.prog 190 #[.slice (some ⟨g,0,none⟩) L c,.int .i64 n] W fun e w'=>∃ v',e = .returned v' ∧ OwnB w' base v' ((zs ++ (smM (recNums r) 2 + 4) :: smY (recNums r) 2) ++ vputF (zigF n)) ∧ Below base W w'):=Lib.hid (fun W h1 h2=>number_f _ _ n hI base W h1 (by simp;omega) h2)
    have HLL : Hid (L = zs.length + 1 + (smY (recNums r) 2).length):=Lib.hid (by rw [hLe];simp;omega)
    clear hX hO hB hset hset' HSM HSY hf
    have hiL : (zs.length : Int) < L:=by have:=HLL.out;omega
    have hLc : (L : Int) ≤ c:=by omega
    clear hLe
    go_wp2_with fail
    apply wp_region_loose 8
    case hm=>kernel_rfl
    case hB=>kernel_rfl
    simp only [List.take_succ_cons,List.take_zero,List.drop_succ_cons,List.drop_zero]
    repeat (apply wpLoose_fix;(next=>(intro W hW K hK;have y0:=hW.cell hc;go_simp;first | exact ⟨Below.refl _ _,hK⟩ | exact hK));(try go_simp))
    refine wpLoose_nil ?_
    intro WC hWC _
    have hO2:=HO.out.below hWC
    obtain ⟨g2,c2,L2,e2,e6,e7,hgb2,hc2,hf2,hset2⟩:=hO2.elem (i:=zs.length) (z:=smM (recNums r) 2) (by simp)
    simp only [Value.slice.injEq,Option.some.injEq,Addr.mk.injEq] at e2
    obtain ⟨⟨e3,_⟩,e5,e4⟩:=e2
    clear e6 e7
    subst e3
    subst e4
    subst e5
    have hO3:=hset2 (smM (recNums r) 2 + 4) hx8
    rw [show (zs ++ smM (recNums r) 2 :: smY (recNums r) 2).set zs.length (smM (recNums r) 2 + 4) = zs ++ (smM (recNums r) 2 + 4) :: smY (recNums r) 2 by rw [List.set_append_right _ _ (Nat.le_refl _),Nat.sub_self];rfl] at hO3
    have hB2:=(HB.out.trans (Below.mono hWC hbs)).setCell (p:=⟨g,zs.length,none⟩) hgb (.int .u8 (smM (recNums r) 2 + 4))
    have hX2:=(HX.out.below hWC HX.out.lt).far (p:=⟨g,zs.length,none⟩) (show X ≠ g by omega) (.int .u8 (smM (recNums r) 2 + 4))
    have hs2:=Nat.le_trans hb hB2.size
    have nn:=HNN.out _ hO3 hs2
    have c1:=hX2.cell 4
    simp at c1
    rw [HNQ.out] at c1
    have HX2:=Lib.hid hX2
    have HB2:=Lib.hid hB2
    clear hO2 hO3 hset2 hB2 hX2 hWC HO HX HB HNN c0 hc
    go_wp2_with fail
    refine nn.mono ?_;rintro e w5 ⟨v5,rfl,ho5,hb5⟩
    have HS2 : Hid (WsRel w base X r zs 3 v5 w5):=Lib.hid ⟨by rw [HSM2.out,HSY2.out];simpa [zb] using ho5,HX2.out.below hb5 hXb,HB2.out.trans hb5⟩
    clear ho5 hb5 nn HX2 HB2
    go_wp2
    go_roundw
    case rel=>exact ⟨3,by omega,by first | rfl | go_num,HS2.out⟩
    case measure=>simp [intOf]
  ·have c0:=hX.cell 5
   simp at c0
   have HSM : Hid (smM (recNums r) 4 = smM (recNums r) 3 + (if r.vx ≠ 0 then 8 else 0)):=Lib.hid rfl
   have HSY : Hid (smY (recNums r) 4 = smY (recNums r) 3 ++ (if r.vx ≠ 0 then zb r.vx else [])):=Lib.hid rfl
   have hI:=HR.out.vx
   obtain ⟨g,c,L,rfl,hLe,hcl,hgb,hc,hf,hset⟩:=hO.elem (i:=zs.length) (z:=smM (recNums r) 3) (by simp)
   have hm : 0 ≤ smM (recNums r) 3 ∧ smM (recNums r) 3 < 8:=HML.out 3
   have hor : bits .or .u8 (smM (recNums r) 3) 8 = smM (recNums r) 3 + 8:=or_bit (k:=3) (by decide) hm.1 hm.2
   have hset':=hset (smM (recNums r) 3 + 8) ⟨by omega,by omega⟩
   have hyl:=HYL.out 3
   rw [show (zs ++ smM (recNums r) 3 :: smY (recNums r) 3).set zs.length (smM (recNums r) 3 + 8) = zs ++ (smM (recNums r) 3 + 8) :: smY (recNums r) 3 by rw [List.set_append_right _ _ (Nat.le_refl _),Nat.sub_self];rfl] at hset'
   generalize hnn : r.vx = n at *
   have HNQ:=Lib.hid hnn
   clear hnn
   by_cases hn : n = 0
   ·subst hn
    have HS2 : Hid (WsRel w base X r zs 4 _ wr):=Lib.hid ⟨by rw [HSM.out,HSY.out,if_neg (by simp),if_neg (by simp),Int.add_zero,List.append_nil];exact HO.out,HX.out,HB.out⟩
    clear hX hO hB HO hset hset' hc hf hor
    go_wp2
    go_roundw
    case rel=>exact ⟨4,by omega,by first | rfl | go_num,HS2.out⟩
    case measure=>simp [intOf]
   ·have hn2 : (n != 0) = true:=by simpa using hn
    have HSM2 : Hid (smM (recNums r) 4 = smM (recNums r) 3 + 8):=Lib.hid (by rw [HSM.out,if_pos hn])
    have HSY2 : Hid (smY (recNums r) 4 = smY (recNums r) 3 ++ zb n):=Lib.hid (by rw [HSY.out,if_pos hn])
    have hx8 : U8 (smM (recNums r) 3 + 8):=⟨by omega,by omega⟩
    have HNN : Hid (∀ W,OwnB W base (.slice (some ⟨g,0,none⟩) L c) (zs ++ (smM (recNums r) 3 + 8) :: smY (recNums r) 3) → base ≤ W.heap.size → Calls Tryz.prog 190 #[.slice (some ⟨g,0,none⟩) L c,.int .i64 n] W fun e w'=>∃ v',e = .returned v' ∧ OwnB w' base v' ((zs ++ (smM (recNums r) 3 + 8) :: smY (recNums r) 3) ++ vputF (zigF n)) ∧ Below base W w'):=Lib.hid (fun W h1 h2=>number_f _ _ n hI base W h1 (by simp;omega) h2)
    have HLL : Hid (L = zs.length + 1 + (smY (recNums r) 3).length):=Lib.hid (by rw [hLe];simp;omega)
    clear hX hO hB hset hset' HSM HSY hf
    have hiL : (zs.length : Int) < L:=by have:=HLL.out;omega
    have hLc : (L : Int) ≤ c:=by omega
    clear hLe
    go_wp2_with fail
    apply wp_region_loose 8
    case hm=>kernel_rfl
    case hB=>kernel_rfl
    simp only [List.take_succ_cons,List.take_zero,List.drop_succ_cons,List.drop_zero]
    repeat (apply wpLoose_fix;(next=>(intro W hW K hK;have y0:=hW.cell hc;go_simp;first | exact ⟨Below.refl _ _,hK⟩ | exact hK));(try go_simp))
    refine wpLoose_nil ?_
    intro WC hWC _
    have hO2:=HO.out.below hWC
    obtain ⟨g2,c2,L2,e2,e6,e7,hgb2,hc2,hf2,hset2⟩:=hO2.elem (i:=zs.length) (z:=smM (recNums r) 3) (by simp)
    simp only [Value.slice.injEq,Option.some.injEq,Addr.mk.injEq] at e2
    obtain ⟨⟨e3,_⟩,e5,e4⟩:=e2
    clear e6 e7
    subst e3
    subst e4
    subst e5
    have hO3:=hset2 (smM (recNums r) 3 + 8) hx8
    rw [show (zs ++ smM (recNums r) 3 :: smY (recNums r) 3).set zs.length (smM (recNums r) 3 + 8) = zs ++ (smM (recNums r) 3 + 8) :: smY (recNums r) 3 by rw [List.set_append_right _ _ (Nat.le_refl _),Nat.sub_self];rfl] at hO3
    have hB2:=(HB.out.trans (Below.mono hWC hbs)).setCell (p:=⟨g,zs.length,none⟩) hgb (.int .u8 (smM (recNums r) 3 + 8))
    have hX2:=(HX.out.below hWC HX.out.lt).far (p:=⟨g,zs.length,none⟩) (show X ≠ g by omega) (.int .u8 (smM (recNums r) 3 + 8))
    have hs2:=Nat.le_trans hb hB2.size
    have nn:=HNN.out _ hO3 hs2
    have c1:=hX2.cell 5
    simp at c1
    rw [HNQ.out] at c1
    have HX2:=Lib.hid hX2
    have HB2:=Lib.hid hB2
    clear hO2 hO3 hset2 hB2 hX2 hWC HO HX HB HNN c0 hc
    go_wp2_with fail
    refine nn.mono ?_;rintro e w5 ⟨v5,rfl,ho5,hb5⟩
    have HS2 : Hid (WsRel w base X r zs 4 v5 w5):=Lib.hid ⟨by rw [HSM2.out,HSY2.out];simpa [zb] using ho5,HX2.out.below hb5 hXb,HB2.out.trans hb5⟩
    clear ho5 hb5 nn HX2 HB2
    go_wp2
    go_roundw
    case rel=>exact ⟨4,by omega,by first | rfl | go_num,HS2.out⟩
    case measure=>simp [intOf]
  ·have c0:=hX.cell 6
   simp at c0
   have HSM : Hid (smM (recNums r) 5 = smM (recNums r) 4 + (if r.vy ≠ 0 then 16 else 0)):=Lib.hid rfl
   have HSY : Hid (smY (recNums r) 5 = smY (recNums r) 4 ++ (if r.vy ≠ 0 then zb r.vy else [])):=Lib.hid rfl
   have hI:=HR.out.vy
   obtain ⟨g,c,L,rfl,hLe,hcl,hgb,hc,hf,hset⟩:=hO.elem (i:=zs.length) (z:=smM (recNums r) 4) (by simp)
   have hm : 0 ≤ smM (recNums r) 4 ∧ smM (recNums r) 4 < 16:=HML.out 4
   have hor : bits .or .u8 (smM (recNums r) 4) 16 = smM (recNums r) 4 + 16:=or_bit (k:=4) (by decide) hm.1 hm.2
   have hset':=hset (smM (recNums r) 4 + 16) ⟨by omega,by omega⟩
   have hyl:=HYL.out 4
   rw [show (zs ++ smM (recNums r) 4 :: smY (recNums r) 4).set zs.length (smM (recNums r) 4 + 16) = zs ++ (smM (recNums r) 4 + 16) :: smY (recNums r) 4 by rw [List.set_append_right _ _ (Nat.le_refl _),Nat.sub_self];rfl] at hset'
   generalize hnn : r.vy = n at *
   have HNQ:=Lib.hid hnn
   clear hnn
   by_cases hn : n = 0
   ·subst hn
    have HS2 : Hid (WsRel w base X r zs 5 _ wr):=Lib.hid ⟨by rw [HSM.out,HSY.out,if_neg (by simp),if_neg (by simp),Int.add_zero,List.append_nil];exact HO.out,HX.out,HB.out⟩
    clear hX hO hB HO hset hset' hc hf hor
    go_wp2
    go_roundw
    case rel=>exact ⟨5,by omega,by first | rfl | go_num,HS2.out⟩
    case measure=>simp [intOf]
   ·have hn2 : (n != 0) = true:=by simpa using hn
    have HSM2 : Hid (smM (recNums r) 5 = smM (recNums r) 4 + 16):=Lib.hid (by rw [HSM.out,if_pos hn])
    have HSY2 : Hid (smY (recNums r) 5 = smY (recNums r) 4 ++ zb n):=Lib.hid (by rw [HSY.out,if_pos hn])
    have hx8 : U8 (smM (recNums r) 4 + 16):=⟨by omega,by omega⟩
    have HNN : Hid (∀ W,OwnB W base (.slice (some ⟨g,0,none⟩) L c) (zs ++ (smM (recNums r) 4 + 16) :: smY (recNums r) 4) → base ≤ W.heap.size → Calls Tryz.prog 190 #[.slice (some ⟨g,0,none⟩) L c,.int .i64 n] W fun e w'=>∃ v',e = .returned v' ∧ OwnB w' base v' ((zs ++ (smM (recNums r) 4 + 16) :: smY (recNums r) 4) ++ vputF (zigF n)) ∧ Below base W w'):=Lib.hid (fun W h1 h2=>number_f _ _ n hI base W h1 (by simp;omega) h2)
    have HLL : Hid (L = zs.length + 1 + (smY (recNums r) 4).length):=Lib.hid (by rw [hLe];simp;omega)
    clear hX hO hB hset hset' HSM HSY hf
    have hiL : (zs.length : Int) < L:=by have:=HLL.out;omega
    have hLc : (L : Int) ≤ c:=by omega
    clear hLe
    go_wp2_with fail
    apply wp_region_loose 8
    case hm=>kernel_rfl
    case hB=>kernel_rfl
    simp only [List.take_succ_cons,List.take_zero,List.drop_succ_cons,List.drop_zero]
    repeat (apply wpLoose_fix;(next=>(intro W hW K hK;have y0:=hW.cell hc;go_simp;first | exact ⟨Below.refl _ _,hK⟩ | exact hK));(try go_simp))
    refine wpLoose_nil ?_
    intro WC hWC _
    have hO2:=HO.out.below hWC
    obtain ⟨g2,c2,L2,e2,e6,e7,hgb2,hc2,hf2,hset2⟩:=hO2.elem (i:=zs.length) (z:=smM (recNums r) 4) (by simp)
    simp only [Value.slice.injEq,Option.some.injEq,Addr.mk.injEq] at e2
    obtain ⟨⟨e3,_⟩,e5,e4⟩:=e2
    clear e6 e7
    subst e3
    subst e4
    subst e5
    have hO3:=hset2 (smM (recNums r) 4 + 16) hx8
    rw [show (zs ++ smM (recNums r) 4 :: smY (recNums r) 4).set zs.length (smM (recNums r) 4 + 16) = zs ++ (smM (recNums r) 4 + 16) :: smY (recNums r) 4 by rw [List.set_append_right _ _ (Nat.le_refl _),Nat.sub_self];rfl] at hO3
    have hB2:=(HB.out.trans (Below.mono hWC hbs)).setCell (p:=⟨g,zs.length,none⟩) hgb (.int .u8 (smM (recNums r) 4 + 16))
    have hX2:=(HX.out.below hWC HX.out.lt).far (p:=⟨g,zs.length,none⟩) (show X ≠ g by omega) (.int .u8 (smM (recNums r) 4 + 16))
    have hs2:=Nat.le_trans hb hB2.size
    have nn:=HNN.out _ hO3 hs2
    have c1:=hX2.cell 6
    simp at c1
    rw [HNQ.out] at c1
    have HX2:=Lib.hid hX2
    have HB2:=Lib.hid hB2
    clear hO2 hO3 hset2 hB2 hX2 hWC HO HX HB HNN c0 hc
    go_wp2_with fail
    refine nn.mono ?_;rintro e w5 ⟨v5,rfl,ho5,hb5⟩
    have HS2 : Hid (WsRel w base X r zs 5 v5 w5):=Lib.hid ⟨by rw [HSM2.out,HSY2.out];simpa [zb] using ho5,HX2.out.below hb5 hXb,HB2.out.trans hb5⟩
    clear ho5 hb5 nn HX2 HB2
    go_wp2
    go_roundw
    case rel=>exact ⟨5,by omega,by first | rfl | go_num,HS2.out⟩
    case measure=>simp [intOf]
  ·have c0:=hX.cell 7
   simp at c0
   have HSM : Hid (smM (recNums r) 6 = smM (recNums r) 5 + (if r.vz ≠ 0 then 32 else 0)):=Lib.hid rfl
   have HSY : Hid (smY (recNums r) 6 = smY (recNums r) 5 ++ (if r.vz ≠ 0 then zb r.vz else [])):=Lib.hid rfl
   have hI:=HR.out.vz
   obtain ⟨g,c,L,rfl,hLe,hcl,hgb,hc,hf,hset⟩:=hO.elem (i:=zs.length) (z:=smM (recNums r) 5) (by simp)
   have hm : 0 ≤ smM (recNums r) 5 ∧ smM (recNums r) 5 < 32:=HML.out 5
   have hor : bits .or .u8 (smM (recNums r) 5) 32 = smM (recNums r) 5 + 32:=or_bit (k:=5) (by decide) hm.1 hm.2
   have hset':=hset (smM (recNums r) 5 + 32) ⟨by omega,by omega⟩
   have hyl:=HYL.out 5
   rw [show (zs ++ smM (recNums r) 5 :: smY (recNums r) 5).set zs.length (smM (recNums r) 5 + 32) = zs ++ (smM (recNums r) 5 + 32) :: smY (recNums r) 5 by rw [List.set_append_right _ _ (Nat.le_refl _),Nat.sub_self];rfl] at hset'
   generalize hnn : r.vz = n at *
   have HNQ:=Lib.hid hnn
   clear hnn
   by_cases hn : n = 0
   ·subst hn
    have HS2 : Hid (WsRel w base X r zs 6 _ wr):=Lib.hid ⟨by rw [HSM.out,HSY.out,if_neg (by simp),if_neg (by simp),Int.add_zero,List.append_nil];exact HO.out,HX.out,HB.out⟩
    clear hX hO hB HO hset hset' hc hf hor
    go_wp2
    go_roundw
    case rel=>exact ⟨6,by omega,by first | rfl | go_num,HS2.out⟩
    case measure=>simp [intOf]
   ·have hn2 : (n != 0) = true:=by simpa using hn
    have HSM2 : Hid (smM (recNums r) 6 = smM (recNums r) 5 + 32):=Lib.hid (by rw [HSM.out,if_pos hn])
    have HSY2 : Hid (smY (recNums r) 6 = smY (recNums r) 5 ++ zb n):=Lib.hid (by rw [HSY.out,if_pos hn])
    have hx8 : U8 (smM (recNums r) 5 + 32):=⟨by omega,by omega⟩
    have HNN : Hid (∀ W,OwnB W base (.slice (some ⟨g,0,none⟩) L c) (zs ++ (smM (recNums r) 5 + 32) :: smY (recNums r) 5) → base ≤ W.heap.size → Calls Tryz.prog 190 #[.slice (some ⟨g,0,none⟩) L c,.int .i64 n] W fun e w'=>∃ v',e = .returned v' ∧ OwnB w' base v' ((zs ++ (smM (recNums r) 5 + 32) :: smY (recNums r) 5) ++ vputF (zigF n)) ∧ Below base W w'):=Lib.hid (fun W h1 h2=>number_f _ _ n hI base W h1 (by simp;omega) h2)
    have HLL : Hid (L = zs.length + 1 + (smY (recNums r) 5).length):=Lib.hid (by rw [hLe];simp;omega)
    clear hX hO hB hset hset' HSM HSY hf
    have hiL : (zs.length : Int) < L:=by have:=HLL.out;omega
    have hLc : (L : Int) ≤ c:=by omega
    clear hLe
    go_wp2_with fail
    apply wp_region_loose 8
    case hm=>kernel_rfl
    case hB=>kernel_rfl
    simp only [List.take_succ_cons,List.take_zero,List.drop_succ_cons,List.drop_zero]
    repeat (apply wpLoose_fix;(next=>(intro W hW K hK;have y0:=hW.cell hc;go_simp;first | exact ⟨Below.refl _ _,hK⟩ | exact hK));(try go_simp))
    refine wpLoose_nil ?_
    intro WC hWC _
    have hO2:=HO.out.below hWC
    obtain ⟨g2,c2,L2,e2,e6,e7,hgb2,hc2,hf2,hset2⟩:=hO2.elem (i:=zs.length) (z:=smM (recNums r) 5) (by simp)
    simp only [Value.slice.injEq,Option.some.injEq,Addr.mk.injEq] at e2
    obtain ⟨⟨e3,_⟩,e5,e4⟩:=e2
    clear e6 e7
    subst e3
    subst e4
    subst e5
    have hO3:=hset2 (smM (recNums r) 5 + 32) hx8
    rw [show (zs ++ smM (recNums r) 5 :: smY (recNums r) 5).set zs.length (smM (recNums r) 5 + 32) = zs ++ (smM (recNums r) 5 + 32) :: smY (recNums r) 5 by rw [List.set_append_right _ _ (Nat.le_refl _),Nat.sub_self];rfl] at hO3
    have hB2:=(HB.out.trans (Below.mono hWC hbs)).setCell (p:=⟨g,zs.length,none⟩) hgb (.int .u8 (smM (recNums r) 5 + 32))
    have hX2:=(HX.out.below hWC HX.out.lt).far (p:=⟨g,zs.length,none⟩) (show X ≠ g by omega) (.int .u8 (smM (recNums r) 5 + 32))
    have hs2:=Nat.le_trans hb hB2.size
    have nn:=HNN.out _ hO3 hs2
    have c1:=hX2.cell 7
    simp at c1
    rw [HNQ.out] at c1
    have HX2:=Lib.hid hX2
    have HB2:=Lib.hid hB2
    clear hO2 hO3 hset2 hB2 hX2 hWC HO HX HB HNN c0 hc
    go_wp2_with fail
    refine nn.mono ?_;rintro e w5 ⟨v5,rfl,ho5,hb5⟩
    have HS2 : Hid (WsRel w base X r zs 6 v5 w5):=Lib.hid ⟨by rw [HSM2.out,HSY2.out];simpa [zb] using ho5,HX2.out.below hb5 hXb,HB2.out.trans hb5⟩
    clear ho5 hb5 nn HX2 HB2
    go_wp2
    go_roundw
    case rel=>exact ⟨6,by omega,by first | rfl | go_num,HS2.out⟩
    case measure=>simp [intOf]
  ·have c0:=hX.cell 8
   simp at c0
   obtain ⟨g,c,L,rfl,hLe,hcl,hgb,hc,hf,hset⟩:=hO.elem (i:=zs.length) (z:=smM (recNums r) 6) (by simp)
   have hm : 0 ≤ smM (recNums r) 6 ∧ smM (recNums r) 6 < 64:=HML.out 6
   have hor : bits .or .u8 (smM (recNums r) 6) 64 = smM (recNums r) 6 + 64:=or_bit (k:=6) (by decide) hm.1 hm.2
   have hset':=hset (smM (recNums r) 6 + 64) ⟨by omega,by omega⟩
   have hyl:=HYL.out 6
   rw [show (zs ++ smM (recNums r) 6 :: smY (recNums r) 6).set zs.length (smM (recNums r) 6 + 64) = zs ++ (smM (recNums r) 6 + 64) :: smY (recNums r) 6 by rw [List.set_append_right _ _ (Nat.le_refl _),Nat.sub_self];rfl] at hset'
   have HLL : Hid (L = zs.length + 1 + (smY (recNums r) 6).length):=Lib.hid (by rw [hLe];simp;omega)
   have hiL : (zs.length : Int) < L:=by have:=HLL.out;omega
   have hLc : (L : Int) ≤ c:=by omega
   generalize hnn : r.ang = n at *
   have HNQ:=Lib.hid hnn
   clear hnn
   by_cases hn : n = 0
   ·subst hn
    have HV : Hid (someB r = smM (recNums r) 6 :: smY (recNums r) 6):=Lib.hid (by rw [HS.out,if_neg (by simp),if_neg (by simp),List.append_nil])
    clear hX hO hB hset hset' hc hf hor hLe HS
    go_wp2
    go_ret
    exact ⟨_,rfl,by rw [HV.out];exact HO.out,HB.out⟩
   ·have hn2 : (n != 0) = true:=by simpa using hn
    have HV : Hid (someB r = (smM (recNums r) 6 + 64) :: (smY (recNums r) 6 ++ vputF n)):=Lib.hid (by rw [HS.out,if_pos hn,if_pos hn])
    have hX2:=HX.out.far (p:=⟨g,zs.length,none⟩) (show X ≠ g by omega) (.int .u8 (smM (recNums r) 6 + 64))
    have hB2:=HB.out.setCell (p:=⟨g,zs.length,none⟩) hgb (.int .u8 (smM (recNums r) 6 + 64))
    have hs2:=Nat.le_trans hb hB2.size
    have c1:=hX2.cell 8
    simp at c1
    rw [HNQ.out] at c1
    have pt:=vput_f n hu (wr.setCell ⟨g,zs.length,none⟩ (.int .u8 (smM (recNums r) 6 + 64)))
    have HO2:=Lib.hid hset'
    have HB2:=Lib.hid hB2
    have hw : IntKind.u64.wrap n = n:=wraps_u64 _ (by omega) (by omega)
    have HYN : Hid ((zs ++ (smM (recNums r) 6 + 64) :: smY (recNums r) 6).length + (vputF n).length ≤ 140737488355328):=Lib.hid (by simp;omega)
    clear hX hO hB hset hset' hLe HS hX2 hB2 HO HX HB
    go_wp2_with fail
    refine pt.mono ?_;rintro e w5 ⟨v5,rfl,ho5,hb5⟩
    obtain ⟨ad,c5,rfl,hba,hac⟩:=ho5.bytes
    have hs5:=hb5.size
    have HO3:=Lib.hid (HO2.out.below hb5)
    have HB3:=Lib.hid (HB2.out.trans (hb5.mono hs2))
    clear ho5 hb5 pt HO2 HB2
    go_wp2_with (at_builtin;refine wpList_app_bytes _ rfl (.tmp 48) (.tmp 54) rfl base _ (zs ++ (smM (recNums r) 6 + 64) :: smY (recNums r) 6) rfl HO3.out ad (vputF n).length c5 (vputF n) rfl hba hac HYN.out (by omega) ?_)
    intro v6 w6 ho6 hg6
    have HB6 : Hid (Below base w w6):=Lib.hid (HB3.out.grown hg6 (by omega) (fun j e=>(HO3.out.lt j e).1))
    have HO6:=Lib.hid ho6
    clear ho6 hg6 hba
    go_wp2
    go_ret
    exact ⟨v6,rfl,by rw [HV.out];simpa using HO6.out,HB6.out⟩
end Go.Proofs.YtklkooeimkedgaaGreat
