/- Walk of TopBeyond. -/
import Derived.Test.YtklkooeimkedgaaGreatB32
import Derived.Test.YtklkooeimkedgaaGreatB33
set_option linter.unusedVariables false
set_option linter.unusedSimpArgs false
namespace Go.Proofs.YtklkooeimkedgaaGreat
open Go.RowKit
set_option maxRecDepth 8000
theorem oH (o : Nat) (cs : Array Value) (w : World) : (part 22 cs o).run Tryz.prog w = .ok (.agg (cs.extract o (o + 3))) w:=by
 obtain ⟨i,hi,hz⟩:=Option.map_eq_some_iff.1 QK
 simp [part,isAgg,run_underlying Tryz.underlying22,run_sizeOf w hi,hz]
theorem GK {d : Nat} {xs ys : Array Value} {w : World} {fs : List Field} {n0 n1 n2 n3 n4 : String} {t0 t1 t2 t3 t4 : TypeId} {o0 o1 o2 o3 o4 : Nat} {a0 b0 a1 b1 a2 b2 a3 b3 a4 b4 : Value} {r0 r1 r2 r3 r4 : Bool}
 (hf : (fs.map λf=>(f.name,f.type,f.offset)) = [(n0,t0,o0),(n1,t1,o1),(n2,t2,o2),(n3,t3,o3),(n4,t4,o4)])
 (hn : n0 ≠ "_" /\ n1 ≠ "_" /\ n2 ≠ "_" /\ n3 ≠ "_" /\ n4 ≠ "_")
 (ha0 : (part t0 xs o0).run Tryz.prog w = .ok a0 w) (hb0 : (part t0 ys o0).run Tryz.prog w = .ok b0 w) (he0 : (Op.equalIn d t0 a0 b0).run Tryz.prog w = .ok r0 w)
 (ha1 : (part t1 xs o1).run Tryz.prog w = .ok a1 w) (hb1 : (part t1 ys o1).run Tryz.prog w = .ok b1 w) (he1 : (Op.equalIn d t1 a1 b1).run Tryz.prog w = .ok r1 w)
 (ha2 : (part t2 xs o2).run Tryz.prog w = .ok a2 w) (hb2 : (part t2 ys o2).run Tryz.prog w = .ok b2 w) (he2 : (Op.equalIn d t2 a2 b2).run Tryz.prog w = .ok r2 w)
 (Zi : (part t3 xs o3).run Tryz.prog w = .ok a3 w) (hb3 : (part t3 ys o3).run Tryz.prog w = .ok b3 w) (uV : (Op.equalIn d t3 a3 b3).run Tryz.prog w = .ok r3 w)
 (ha4 : (part t4 xs o4).run Tryz.prog w = .ok a4 w) (hb4 : (part t4 ys o4).run Tryz.prog w = .ok b4 w) (he4 : (Op.equalIn d t4 a4 b4).run Tryz.prog w = .ok r4 w)
 : (Op.eqFields d xs ys fs).run Tryz.prog w = .ok (r0 && r1 && r2 && r3 && r4) w:=by
 match fs,hf with
 | [f0,f1,f2,f3,f4],hf =>
   simp only [List.map_cons,List.map_nil,List.cons.injEq,Prod.mk.injEq,and_true] at hf
   obtain ⟨⟨rfl,rfl,rfl⟩,⟨rfl,rfl,rfl⟩,⟨rfl,rfl,rfl⟩,⟨rfl,rfl,rfl⟩,⟨rfl,rfl,rfl⟩⟩:=hf
   obtain ⟨h0,h1,h2,h3,h4⟩:=hn
   cases r0 <;> cases r1 <;> cases r2 <;> cases r3 <;> cases r4 <;> simp [Op.eqFields,h0,ha0,hb0,he0,h1,ha1,hb1,he1,h2,ha2,hb2,he2,h3,Zi,hb3,uV,h4,ha4,hb4,he4]
theorem QN : ((Tryz.prog.fieldsOf 147).toList.map λf=>(f.name,f.type,f.offset)) = [("Kind",3,0),("Id",3,1),("Pos",22,2),("Vel",22,5),("Angle",31,8)]:=by kernel_rfl
theorem Ug : Tryz.prog.stoodInHeld 147 = false:=by kernel_rfl
theorem NJ : Tryz.prog.underlying 147 = some (.struct (Tryz.prog.fieldsOf 147)):=by kernel_rfl
theorem Zj (a0 a1 a2 a3 a4 a5 a6 a7 a8 b0 b1 b2 b3 b4 b5 b6 b7 b8 : Int) (w : World) :
 (Op.equalIn 10000 147 (.agg #[.int .i64 a0,.int .i64 a1,.int .i64 a2,.int .i64 a3,.int .i64 a4,.int .i64 a5,.int .i64 a6,.int .i64 a7,.int .u16 a8]) (.agg #[.int .i64 b0,.int .i64 b1,.int .i64 b2,.int .i64 b3,.int .i64 b4,.int .i64 b5,.int .i64 b6,.int .i64 b7,.int .u16 b8])).run Tryz.prog w = .ok (a0 == b0 && a1 == b1 && (a2 == b2 && a3 == b3 && a4 == b4) && (a5 == b5 && a6 == b6 && a7 == b7) && a8 == b8) w:=by
 rw [show 10000 = 9999 + 1 from rfl,run_equalIn_struct w 9999 _ _ _ NJ Ug]
 exact GK QN (by decide)
  (eP Tryz.underlying3 rfl _ 0 _ rfl w) (eP Tryz.underlying3 rfl _ 0 _ rfl w) (run_equalIn_int (P:=Tryz.prog) w 9998 3 .i64 .i64 _ _ Tryz.underlying3)
  (eP Tryz.underlying3 rfl _ 1 _ rfl w) (eP Tryz.underlying3 rfl _ 1 _ rfl w) (run_equalIn_int (P:=Tryz.prog) w 9998 3 .i64 .i64 _ _ Tryz.underlying3)
  (oH 2 _ w) (oH 2 _ w) (EK _ _ _ _ _ _ 9997 w)
  (oH 5 _ w) (oH 5 _ w) (EK _ _ _ _ _ _ 9997 w)
  (eP Tryz.underlying31 rfl _ 8 _ rfl w) (eP Tryz.underlying31 rfl _ 8 _ rfl w) (run_equalIn_int (P:=Tryz.prog) w 9998 31 .u16 .u16 _ _ Tryz.underlying31)
theorem QO : ((Tryz.prog.fieldsOf 33).toList.map λf=>(f.name,f.type,f.offset)) = [("Id",3,0),("Pos",22,1),("Vel",22,4),("Angle",31,7),("Gen",5,8)]:=by kernel_rfl
theorem Uh : Tryz.prog.stoodInHeld 33 = false:=by kernel_rfl
theorem NK : Tryz.prog.underlying 33 = some (.struct (Tryz.prog.fieldsOf 33)):=by kernel_rfl
theorem Zk (a0 a1 a2 a3 a4 a5 a6 a7 a8 b0 b1 b2 b3 b4 b5 b6 b7 b8 : Int) (w : World) :
 (Op.equalIn 10000 33 (.agg #[.int .i64 a0,.int .i64 a1,.int .i64 a2,.int .i64 a3,.int .i64 a4,.int .i64 a5,.int .i64 a6,.int .u16 a7,.int .u8 a8]) (.agg #[.int .i64 b0,.int .i64 b1,.int .i64 b2,.int .i64 b3,.int .i64 b4,.int .i64 b5,.int .i64 b6,.int .u16 b7,.int .u8 b8])).run Tryz.prog w = .ok (a0 == b0 && (a1 == b1 && a2 == b2 && a3 == b3) && (a4 == b4 && a5 == b5 && a6 == b6) && a7 == b7 && a8 == b8) w:=by
 rw [show 10000 = 9999 + 1 from rfl,run_equalIn_struct w 9999 _ _ _ NK Uh]
 exact GK QO (by decide)
  (eP Tryz.underlying3 rfl _ 0 _ rfl w) (eP Tryz.underlying3 rfl _ 0 _ rfl w) (run_equalIn_int (P:=Tryz.prog) w 9998 3 .i64 .i64 _ _ Tryz.underlying3)
  (oH 1 _ w) (oH 1 _ w) (EK _ _ _ _ _ _ 9997 w)
  (oH 4 _ w) (oH 4 _ w) (EK _ _ _ _ _ _ 9997 w)
  (eP Tryz.underlying31 rfl _ 7 _ rfl w) (eP Tryz.underlying31 rfl _ 7 _ rfl w) (run_equalIn_int (P:=Tryz.prog) w 9998 31 .u16 .u16 _ _ Tryz.underlying31)
  (eP Tryz.underlying5 rfl _ 8 _ rfl w) (eP Tryz.underlying5 rfl _ 8 _ rfl w) (run_equalIn_int (P:=Tryz.prog) w 9998 5 .u8 .u8 _ _ Tryz.underlying5)
set_option maxRecDepth 8000
structure Rec where
 kind : Int
 id : Int
 px : Int
 py : Int
 pz : Int
 vx : Int
 vy : Int
 vz : Int
 aJ : Int
structure Rec.Ok (r : Rec) : Prop where
 kind : ay r.kind
 id : ay r.id
 px : ay r.px
 py : ay r.py
 pz : ay r.pz
 vx : ay r.vx
 vy : ay r.vy
 vz : ay r.vz
 aJ : 0 <= r.aJ /\ r.aJ <= 65535
def oI (r : Rec) : List Value:=[.int .i64 r.kind,.int .i64 r.id,.int .i64 r.px,.int .i64 r.py,.int .i64 r.pz,.int .i64 r.vx,.int .i64 r.vy,.int .i64 r.vz,.int .u16 r.aJ]
def lT (r : Rec) : Value:=.agg #[.int .i64 r.kind,.int .i64 r.id,.int .i64 r.px,.int .i64 r.py,.int .i64 r.pz,.int .i64 r.vx,.int .i64 r.vy,.int .i64 r.vz,.int .u16 r.aJ]
def IQ (r : Rec) : Bool:=(r.px == 0 && r.py == 0 && r.pz == 0) && (r.vx == 0 && r.vy == 0 && r.vz == 0) && r.aJ == 0
def dH (r : Rec) : Int :=
 if r.kind < 0 \/ 3 < r.kind then 11 else if r.id < 0 \/ 65535 < r.id then 3 else
 if r.kind = 1 /\ IQ r = true \/ r.kind = 2 /\ IQ r = false then 2 else 0
set_option maxHeartbeats 1000000 in
theorem JG (r : Rec) (w : World) :
 Calls Tryz.prog 111 #[lT r] w λe w'=>e = .returned (.int .i64 (dH r)) /\ Below w.heap.size w w':=by
 obtain ⟨k,id,px,py,pz,vx,vy,vz,an⟩:=r
 have HB : ∀ A B : Array Value,Hid (Below w.heap.size w ((w.alloc (.cells A 147)).alloc (.cells B 147))):=λA B=>aiS ((aiT).alloc (by simp) _)
 unfold dH IQ lT
 simp only
 by_cases h1 : k < 0 \/ 3 < k
 ·rw [if_pos h1]
  go_enter Tryz.func111,Tryz.ntmps111
  rcases h1 with h | h
  ·go_wp2
   go_ret
   exact ⟨rfl,(HB _ _).out⟩
  ·have h0 : ¬ k < 0:=by omega
   go_wp2
   go_ret
   exact ⟨rfl,(HB _ _).out⟩
 rw [if_neg h1]
 have h0 : ¬ k < 0:=by omega
 have h0' : ¬ 3 < k:=by omega
 clear h1
 by_cases h1 : id < 0 \/ 65535 < id
 ·rw [if_pos h1]
  go_enter Tryz.func111,Tryz.ntmps111
  rcases h1 with h | h
  ·go_wp2
   go_ret
   exact ⟨rfl,(HB _ _).out⟩
  ·have h2 : ¬ id < 0:=by omega
   go_wp2
   go_ret
   exact ⟨rfl,(HB _ _).out⟩
 rw [if_neg h1]
 have i0 : ¬ id < 0:=by omega
 have i0' : ¬ 65535 < id:=by omega
 clear h1
 obtain ⟨bb,hbb⟩ : ∃ b : Bool,((px == 0 && py == 0 && pz == 0) && (vx == 0 && vy == 0 && vz == 0) && an == 0) = b:=⟨_,rfl⟩
 rw [hbb]
 have hEq : ∀ w : World,(Op.equalIn 10000 147 (.agg #[.int .i64 k,.int .i64 id,.int .i64 px,.int .i64 py,.int .i64 pz,.int .i64 vx,.int .i64 vy,.int .i64 vz,.int .u16 an]) (.agg #[.int .i64 k,.int .i64 id,.int .i64 0,.int .i64 0,.int .i64 0,.int .i64 0,.int .i64 0,.int .i64 0,.int .u16 0])).run Tryz.prog w = .ok bb w:=λw=>by
  rw [Zj,← hbb]
  simp
 clear hbb
 rcases (show k = 1 \/ k = 2 \/ k = 0 \/ k = 3 by omega) with rfl | rfl | rfl | rfl <;> cases bb
 case inl.true =>
  rw [if_pos (.inl ⟨rfl,rfl⟩)]
  go_enter Tryz.func111,Tryz.ntmps111
  go_wp2
  go_ret
  exact ⟨rfl,(HB _ _).out⟩
 case inr.inl.false =>
  rw [if_pos (.inr ⟨rfl,rfl⟩)]
  go_enter Tryz.func111,Tryz.ntmps111
  go_wp2
  go_ret
  exact ⟨rfl,(HB _ _).out⟩
 all_goals
  rw [if_neg (by simp)]
  go_enter Tryz.func111,Tryz.ntmps111
  go_wp2
  go_ret
  exact ⟨rfl,(HB _ _).out⟩
set_option maxRecDepth 8000
abbrev ptrs (X : Nat) : Value:=.agg #[.pointer (some ⟨X,2,none⟩),.pointer (some ⟨X,3,none⟩),.pointer (some ⟨X,4,none⟩),.pointer (some ⟨X,5,none⟩),.pointer (some ⟨X,6,none⟩),.pointer (some ⟨X,7,none⟩)]
set_option maxHeartbeats 1000000 in
theorem EL (X : Nat) (w : World) :
 Calls Tryz.prog 104 #[.pointer (some ⟨X,0,none⟩)] w λe w'=>e = .returned (ptrs X) /\ Below w.heap.size w w':=by
 go_enter Tryz.func104,Tryz.ntmps104
 go_wp2_with fail
 (refine kF 25 (by kernel_rfl) (by kernel_rfl) ?_;simp only [List.take_succ_cons,List.take_zero,List.drop_succ_cons,List.drop_zero];(repeat still_step);(try refine wpStill_nil ?_))
 go_wp2
 exact bodyPost_ret (v:=ptrs X) (by simp [results,Tryz.results104,go_sem]) rfl ⟨rfl,below_drewN (aiT) 1⟩
@[go_sem] theorem ahM (X : Nat) (w : World) : (Instr.index 197 (.agg #[.pointer (some ⟨X,2,none⟩),.pointer (some ⟨X,3,none⟩),.pointer (some ⟨X,4,none⟩),.pointer (some ⟨X,5,none⟩),.pointer (some ⟨X,6,none⟩),.pointer (some ⟨X,7,none⟩)]) (.int .i64 0)).run Tryz.prog w = .ok (.pointer (some ⟨X,2,none⟩)) w:=by kernel_rfl
@[go_sem] theorem ahN (X : Nat) (w : World) : (Instr.index 197 (.agg #[.pointer (some ⟨X,2,none⟩),.pointer (some ⟨X,3,none⟩),.pointer (some ⟨X,4,none⟩),.pointer (some ⟨X,5,none⟩),.pointer (some ⟨X,6,none⟩),.pointer (some ⟨X,7,none⟩)]) (.int .i64 1)).run Tryz.prog w = .ok (.pointer (some ⟨X,3,none⟩)) w:=by kernel_rfl
@[go_sem] theorem ahO (X : Nat) (w : World) : (Instr.index 197 (.agg #[.pointer (some ⟨X,2,none⟩),.pointer (some ⟨X,3,none⟩),.pointer (some ⟨X,4,none⟩),.pointer (some ⟨X,5,none⟩),.pointer (some ⟨X,6,none⟩),.pointer (some ⟨X,7,none⟩)]) (.int .i64 2)).run Tryz.prog w = .ok (.pointer (some ⟨X,4,none⟩)) w:=by kernel_rfl
@[go_sem] theorem ahP (X : Nat) (w : World) : (Instr.index 197 (.agg #[.pointer (some ⟨X,2,none⟩),.pointer (some ⟨X,3,none⟩),.pointer (some ⟨X,4,none⟩),.pointer (some ⟨X,5,none⟩),.pointer (some ⟨X,6,none⟩),.pointer (some ⟨X,7,none⟩)]) (.int .i64 3)).run Tryz.prog w = .ok (.pointer (some ⟨X,5,none⟩)) w:=by kernel_rfl
@[go_sem] theorem ahQ (X : Nat) (w : World) : (Instr.index 197 (.agg #[.pointer (some ⟨X,2,none⟩),.pointer (some ⟨X,3,none⟩),.pointer (some ⟨X,4,none⟩),.pointer (some ⟨X,5,none⟩),.pointer (some ⟨X,6,none⟩),.pointer (some ⟨X,7,none⟩)]) (.int .i64 4)).run Tryz.prog w = .ok (.pointer (some ⟨X,6,none⟩)) w:=by kernel_rfl
@[go_sem] theorem ahR (X : Nat) (w : World) : (Instr.index 197 (.agg #[.pointer (some ⟨X,2,none⟩),.pointer (some ⟨X,3,none⟩),.pointer (some ⟨X,4,none⟩),.pointer (some ⟨X,5,none⟩),.pointer (some ⟨X,6,none⟩),.pointer (some ⟨X,7,none⟩)]) (.int .i64 5)).run Tryz.prog w = .ok (.pointer (some ⟨X,7,none⟩)) w:=by kernel_rfl
abbrev aX (r : Rec) : Array Value:=#[.int .i64 r.kind,.int .i64 r.id,.int .i64 r.px,.int .i64 r.py,.int .i64 r.pz,.int .i64 r.vx,.int .i64 r.vy,.int .i64 r.vz,.int .u16 r.aJ]
def zb (n : Int) : List Int:=aF (kU n)
def aj (r : Rec) : List Int:=[r.px,r.py,r.pz,r.vx,r.vy,r.vz]
def nb (l : List Int) : List Int:=l.flatMap zb
theorem QS {n : Int} (h : ay n) : (zb n).length <= 10:=by unfold zb;rw [d9];exact dJ (sV h)
theorem XF (l : List Int) (n : Int) : nb (l ++ [n]) = nb l ++ zb n:=by simp [nb]
theorem EM : ∀ (l : List Int),(∀ n ∈ l,ay n) -> (nb l).length <= 10 * l.length
 | [],_=>by simp [nb]
 | n :: l,h=>by
   have h1:=QS (h n (List.mem_cons_self ..))
   have h2:=EM l (λx hx=>h x (List.mem_cons_of_mem _ hx))
   have : nb (n :: l) = zb n ++ nb l:=by simp [nb]
   rw [this,List.length_append,List.length_cons];omega
def xE (w : World) (base X : Nat) (r : Rec) (zs : List Int) (k : Nat) (v : Value) (wr : World) : Prop :=
 aY wr base v (zs ++ nb ((aj r).take k)) /\ ak wr X (aX r) 147 /\ Below base w wr
set_option maxHeartbeats 2000000 in
theorem NP (v : Value) (zs : List Int) (X : Nat) (r : Rec) (hr : r.Ok) (base : Nat) (w : World) (hz : aY w base v zs) (hX : ak w X (aX r) 147) (xG : X < base) (hl : (zs.length : Int) <= 140737488354000) (hb : base <= w.heap.size) :
 Calls Tryz.prog 154 #[v,.pointer (some ⟨X,0,none⟩)] w λe w'=>∃ v',e = .returned v' /\ aY w' base v' (zs ++ nb (aj r) ++ aF r.aJ) /\ Below base w w':=by
 have nf:=EL X w
 unfold ptrs at nf
 have hnl : ∀ k,(nb ((aj r).take k)).length <= 60:=λk=>by
  have h1:=EM ((aj r).take k) (λn hn=>by
   have hn:=List.mem_of_mem_take hn
   simp [aj] at hn
   rcases hn with rfl | rfl | rfl | rfl | rfl | rfl
   ·exact hr.px
   ·exact hr.py
   ·exact hr.pz
   ·exact hr.vx
   ·exact hr.vy
   ·exact hr.vz)
  have h2 : ((aj r).take k).length <= 6:=by rw [List.length_take];simp [aj];omega
  omega
 have nmf:=λv zs n hn w hz hl hb=>qQ v zs n hn base w hz hl hb
 have HN : Hid (∀ v k n w,ay n -> aY w base v (zs ++ nb ((aj r).take k)) -> base <= w.heap.size -> (aj r).take (k + 1) = (aj r).take k ++ [n] ->
  Calls Tryz.prog 190 #[v,.int .i64 n] w λe w'=>∃ v',e = .returned v' /\ aY w' base v' (zs ++ nb ((aj r).take (k + 1))) /\ Below base w w'):=aiS (λv k n w hn ho hb he=>by
  have h1:=hnl k
  have:=nmf v _ n hn w ho (by rw [List.length_append];omega) hb
  rw [he,XF,← List.append_assoc]
  exact this)
 go_enter Tryz.func154,Tryz.ntmps154
 go_wp2_with fail
 refine nf.mono ?_;rintro e w1 ⟨rfl,hb1⟩
 have HS : Hid (xE w base X r zs 0 v w1):=aiS ⟨by simpa [nb] using hz.below hb1,hX.below hb1 hX.lt,hb1.mono hb⟩
 clear nf nmf hb1 hz hX
 go_wp2_with fail
 go_loopw [0,9] (λv i wr=>∃ k : Nat,k <= 6 /\ i = .int .i64 k /\ xE w base X r zs k v wr) (λ_ i _=>6 - (intOf i).toNat)
 case atStart=>exact ⟨0,by omega,rfl,HS.out⟩
 case round =>
  rename_i wr
  obtain ⟨k,hk,rfl,hO,hX,hB⟩:=hrel
  have hbs : base <= wr.heap.size:=Nat.le_trans hb hB.size
  have HB:=aiS hB;have HX:=aiS hX;have HO:=aiS hO
  rcases (show k = 0 \/ k = 1 \/ k = 2 \/ k = 3 \/ k = 4 \/ k = 5 \/ k = 6 by omega) with rfl | rfl | rfl | rfl | rfl | rfl | rfl
  ·have c0:=hX.cell 2
   simp at c0;have nn:=HN.out u0 0 r.px wr hr.px hO hbs rfl;clear hX hO hB
   go_wp2_with fail
   refine nn.mono ?_;rintro e w2 ⟨v2,rfl,hO2,hB2⟩
   have HS2 : Hid (xE w base X r zs 1 v2 w2):=aiS ⟨hO2,HX.out.below hB2 xG,HB.out.trans hB2⟩
   clear hO2 hB2 nn
   go_wp2
   go_roundw
   case rel=>exact ⟨1,by omega,by first | rfl | go_num,HS2.out⟩
   case measure=>simp [intOf]
  ·have c0:=hX.cell 3
   simp at c0;have nn:=HN.out u0 1 r.py wr hr.py hO hbs rfl;clear hX hO hB
   go_wp2_with fail
   refine nn.mono ?_;rintro e w2 ⟨v2,rfl,hO2,hB2⟩
   have HS2 : Hid (xE w base X r zs 2 v2 w2):=aiS ⟨hO2,HX.out.below hB2 xG,HB.out.trans hB2⟩
   clear hO2 hB2 nn
   go_wp2
   go_roundw
   case rel=>exact ⟨2,by omega,by first | rfl | go_num,HS2.out⟩
   case measure=>simp [intOf]
  ·have c0:=hX.cell 4
   simp at c0;have nn:=HN.out u0 2 r.pz wr hr.pz hO hbs rfl;clear hX hO hB
   go_wp2_with fail
   refine nn.mono ?_;rintro e w2 ⟨v2,rfl,hO2,hB2⟩
   have HS2 : Hid (xE w base X r zs 3 v2 w2):=aiS ⟨hO2,HX.out.below hB2 xG,HB.out.trans hB2⟩
   clear hO2 hB2 nn
   go_wp2
   go_roundw
   case rel=>exact ⟨3,by omega,by first | rfl | go_num,HS2.out⟩
   case measure=>simp [intOf]
  ·have c0:=hX.cell 5
   simp at c0;have nn:=HN.out u0 3 r.vx wr hr.vx hO hbs rfl;clear hX hO hB
   go_wp2_with fail
   refine nn.mono ?_;rintro e w2 ⟨v2,rfl,hO2,hB2⟩
   have HS2 : Hid (xE w base X r zs 4 v2 w2):=aiS ⟨hO2,HX.out.below hB2 xG,HB.out.trans hB2⟩
   clear hO2 hB2 nn
   go_wp2
   go_roundw
   case rel=>exact ⟨4,by omega,by first | rfl | go_num,HS2.out⟩
   case measure=>simp [intOf]
  ·have c0:=hX.cell 6
   simp at c0;have nn:=HN.out u0 4 r.vy wr hr.vy hO hbs rfl;clear hX hO hB
   go_wp2_with fail
   refine nn.mono ?_;rintro e w2 ⟨v2,rfl,hO2,hB2⟩
   have HS2 : Hid (xE w base X r zs 5 v2 w2):=aiS ⟨hO2,HX.out.below hB2 xG,HB.out.trans hB2⟩
   clear hO2 hB2 nn
   go_wp2
   go_roundw
   case rel=>exact ⟨5,by omega,by first | rfl | go_num,HS2.out⟩
   case measure=>simp [intOf]
  ·have c0:=hX.cell 7
   simp at c0;have nn:=HN.out u0 5 r.vz wr hr.vz hO hbs rfl;clear hX hO hB
   go_wp2_with fail
   refine nn.mono ?_;rintro e w2 ⟨v2,rfl,hO2,hB2⟩
   have HS2 : Hid (xE w base X r zs 6 v2 w2):=aiS ⟨hO2,HX.out.below hB2 xG,HB.out.trans hB2⟩
   clear hO2 hB2 nn
   go_wp2
   go_roundw
   case rel=>exact ⟨6,by omega,by first | rfl | go_num,HS2.out⟩
   case measure=>simp [intOf]
  ·have c0:=hX.cell 8
   simp at c0;have ha:=hr.aJ
   have hu : gY r.aJ:=⟨by omega,by omega⟩
   have pt:=nH r.aJ hu wr;have hln:=dJ hu
   rw [← d9] at hln
   have hz6:=hnl 6
   rw [show (aj r).take 6 = aj r from rfl] at HO hz6
   generalize hys : aF r.aJ = ys at *
   have HYS:=aiS hys;clear hys
   have hw : IntKind.u64.wrap r.aJ = r.aJ:=wraps_u64 _ (by omega) (by omega)
   have HZ : Hid ((zs ++ nb (aj r)).length + ys.length <= 140737488355000):=aiS (by rw [List.length_append];omega)
   generalize hz2 : zs ++ nb (aj r) = zs2 at *
   have HZ2:=aiS hz2;clear hz2;clear hX hO hB HN hnl hz6 HS
   go_wp2_with fail
   refine pt.mono ?_;rintro e w2 ⟨v1,rfl,ho1,hb1⟩
   obtain ⟨a,c,rfl,hba,hac⟩:=ho1.bytes
   have hs1:=hb1.size;have hO2:=HO.out.below hb1;have HB2:=aiS (HB.out.trans (hb1.mono hbs));have bQ:=aiS hO2;clear ho1 hb1 hO2 pt
   go_wp2_with (at_builtin;refine bF _ rfl (.tmp 18) (.tmp 24) rfl base _ zs2 rfl bQ.out a ys.length c ys rfl hba hac (by have:=HZ.out;omega) (by omega) ?_)
   intro v2 w3 ho2 hg2
   have HB3 : Hid (Below base w w3):=aiS (HB2.out.grown hg2 (by omega) (λj e=>(bQ.out.lt j e).1))
   have fK:=aiS ho2;clear ho2 hg2
   go_wp2
   go_ret
   exact ⟨v2,rfl,by rw [HZ2.out,HYS.out];exact fK.out,HB3.out⟩
end Go.Proofs.YtklkooeimkedgaaGreat
