/- Parts of the walk of TopJumps: Pose10, Pose11. -/
import Derived.Deep.RegionWith
import Derived.DeepKeys
import Derived.Test.YtklkooeimkedgaaGreatJ25
set_option linter.unusedVariables false
set_option linter.unusedSimpArgs false
namespace Go.Proofs.YtklkooeimkedgaaGreat
open Go.RowKit
set_option maxRecDepth 100000
def Rets (w : World) (n : Nat) (E : Int) (P : Nat → Po) (e : Ending) (w' : World) : Prop :=
 ∃ s cp,e = .returned (.tuple #[.slice s n cp,.int .i64 E]) ∧ PosesAt w' s n P ∧ Below w.heap.size w w'
def btwE (c : Cfg) (ka ta : Int) (aa : Option Addr) (la ca : Nat) (A : Nat → Ent) (kb tb : Int) (ab : Option Addr) (lb cb : Nat) (B : Nat → Ent) (at0 : Int) : Int :=
 if chk2 c ka ta aa la ca A kb tb ab lb cb B = 0 then partE ta tb at0 else chk2 c ka ta aa la ca A kb tb ab lb cb B
def bydE (c : Cfg) (ka ta : Int) (aa : Option Addr) (la ca : Nat) (A : Nat → Ent) (at0 : Int) : Int :=
 if chk1 c ka ta aa la ca A = 0 then beyE ta at0 else chk1 c ka ta aa la ca A
def okN (E : Int) (n : Nat) : Nat:=if E = 0 then n else 0
theorem pbtw_f (c : Cfg) (ka ta : Int) (aa : Option Addr) (la ca : Nat) (A : Nat → Ent) (kb tb : Int) (ab : Option Addr) (lb cb : Nat) (B : Nat → Ent) (at0 : Int) (w : World) (ha : EntsAt w aa la A) (hb : EntsAt w ab lb B) (hla : (la : Int) ≤ 4611686018427387904) (hlb : (lb : Int) ≤ 4611686018427387904) :
  Calls Tryz.prog 48 #[cfgV c,snapV ka ta aa la ca,snapV kb tb ab lb cb,.int .i64 at0] w (Rets w (okN (btwE c ka ta aa la ca A kb tb ab lb cb B at0) la) (btwE c ka ta aa la ca A kb tb ab lb cb B at0) (btwF c.curved A B lb (at0 - ta) (tb - ta))):=by
 by_cases h0 : chk2 c ka ta aa la ca A kb tb ab lb cb B = 0
 ·by_cases h1 : partE ta tb at0 = 0
  ·have e : btwE c ka ta aa la ca A kb tb ab lb cb B at0 = 0:=by unfold btwE;rw [if_pos h0,h1]
   rw [e]
   unfold Rets okN
   rw [if_pos rfl]
   cases hc : c.curved
   ·exact pbtw_line c hc ka ta aa la ca A kb tb ab lb cb B at0 w ha hb hla hlb h0 h1
   ·exact pbtw_curved c hc ka ta aa la ca A kb tb ab lb cb B at0 w ha hb hla hlb h0 h1
  ·have e : btwE c ka ta aa la ca A kb tb ab lb cb B at0 = partE ta tb at0:=by unfold btwE;rw [if_pos h0]
   rw [e]
   unfold Rets okN
   rw [if_neg h1]
   exact (pbtw_bad2 c ka ta aa la ca A kb tb ab lb cb B at0 w ha hb hla hlb h0 h1).mono fun e w' ⟨h2,h3⟩=>⟨none,0,h2,.inl rfl,h3⟩
 ·have e : btwE c ka ta aa la ca A kb tb ab lb cb B at0 = chk2 c ka ta aa la ca A kb tb ab lb cb B:=by unfold btwE;rw [if_neg h0]
  rw [e]
  unfold Rets okN
  rw [if_neg h0]
  exact (pbtw_bad c ka ta aa la ca A kb tb ab lb cb B at0 w ha hb hla hlb h0).mono fun e w' ⟨h2,h3⟩=>⟨none,0,h2,.inl rfl,h3⟩
theorem pbyd_f (c : Cfg) (ok : c.Ok) (ka ta : Int) (aa : Option Addr) (la ca : Nat) (A : Nat → Ent) (at0 : Int) (w : World) (hta : I64 ta) (hat : I64 at0) (ha : EntsAt w aa la A) (hla : (la : Int) ≤ 4611686018427387904) :
  Calls Tryz.prog 47 #[cfgV c,snapV ka ta aa la ca,.int .i64 at0] w (Rets w (okN (bydE c ka ta aa la ca A at0) la) (bydE c ka ta aa la ca A at0) (byF (byM c (subF at0 ta)) (byD c (subF at0 ta)) A)):=by
 by_cases h0 : chk1 c ka ta aa la ca A = 0
 ·by_cases h1 : beyE ta at0 = 0
  ·have e : bydE c ka ta aa la ca A at0 = 0:=by unfold bydE;rw [if_pos h0,h1]
   rw [e]
   unfold Rets okN
   rw [if_pos rfl]
   obtain ⟨_,hex,_,_⟩:=chk1_ok h0
   by_cases hd : subF at0 ta = 0
   ·have:=pbey_Z c ok ka ta aa la ca A at0 w hta hat ha hla h0 h1 hd
    rw [show byM c (subF at0 ta) = 0 by unfold byM;rw [if_pos hd],show byD c (subF at0 ta) = 0 by unfold byD;rw [if_neg (by omega)];exact hd]
    exact this
   ·by_cases hf : c.extra < subF at0 ta
    ·have:=pbey_F c ok ka ta aa la ca A at0 w hta hat ha hla h0 h1 hd hf
     rw [show byM c (subF at0 ta) = 4 by unfold byM;rw [if_neg hd,if_pos hf],show byD c (subF at0 ta) = c.extra by unfold byD;rw [if_pos hf]]
     exact this
    ·have:=pbey_N c ok ka ta aa la ca A at0 w hta hat ha hla h0 h1 hd hf
     rw [show byM c (subF at0 ta) = 3 by unfold byM;rw [if_neg hd,if_neg hf],show byD c (subF at0 ta) = subF at0 ta by unfold byD;rw [if_neg hf]]
     exact this
  ·have e : bydE c ka ta aa la ca A at0 = beyE ta at0:=by unfold bydE;rw [if_pos h0]
   rw [e]
   unfold Rets okN
   rw [if_neg h1]
   exact (pbey_bad2 c ka ta aa la ca A at0 w hta hat ha hla h0 h1).mono fun e w' ⟨h2,h3⟩=>⟨none,0,h2,.inl rfl,h3⟩
 ·have e : bydE c ka ta aa la ca A at0 = chk1 c ka ta aa la ca A:=by unfold bydE;rw [if_neg h0]
  rw [e]
  unfold Rets okN
  rw [if_neg h0]
  exact (pbey_bad c ka ta aa la ca A at0 w hta hat ha hla h0).mono fun e w' ⟨h2,h3⟩=>⟨none,0,h2,.inl rfl,h3⟩
theorem infoV3 : (Tryz.prog.info? 22).map (fun i=>i.size) = some 3:=by kernel_rfl
theorem part_v3 (cs : Array Value) (w : World) : (part 22 cs 1).run Tryz.prog w = .ok (.agg (cs.extract 1 4)) w:=by
 obtain ⟨i,hi,hz⟩:=Option.map_eq_some_iff.1 infoV3
 simp [part,isAgg,run_underlying Tryz.underlying22,run_sizeOf w hi,hz]
theorem part_cell {t : TypeId} {d : TypeDesc} (hu : Tryz.prog.underlying t = some d) (hd : (match d with | .array _ _=>true | .struct _=>true | _=>false) = false) (cs : Array Value) (off : Nat) (v : Value) (h : cs[off]? = some v) (w : World) : (part t cs off).run Tryz.prog w = .ok v w:=by
 cases d <;> simp_all [part,isAgg,run_underlying hu]
theorem eq_v3 (a b c d e f : Int) (n : Nat) (w : World) :
  (Op.equalIn (n + 2) 22 (.agg #[.int .i64 a,.int .i64 b,.int .i64 c]) (.agg #[.int .i64 d,.int .i64 e,.int .i64 f])).run Tryz.prog w = .ok (a == d && b == e && c == f) w:=by
 obtain ⟨i,hi⟩:=info_int
 rw [run_equalIn_array w (n + 1) _ _ Tryz.underlying22 hi,show Tryz.prog.cellsOf 2 = 1 by kernel_rfl]
 have q : ∀ x y : Int,(Op.equalIn (n + 1) 2 (.int .i64 x) (.int .i64 y)).run Tryz.prog w = .ok (x == y) w:=fun x y=>run_equalIn_int (P:=Tryz.prog) w n 2 .i64 .i64 x y Tryz.underlying2
 have p0:=part_int #[.int .i64 a,.int .i64 b,.int .i64 c] 0 _ rfl w
 have p1:=part_int #[.int .i64 a,.int .i64 b,.int .i64 c] 1 _ rfl w
 have p2:=part_int #[.int .i64 a,.int .i64 b,.int .i64 c] 2 _ rfl w
 have r0:=part_int #[.int .i64 d,.int .i64 e,.int .i64 f] 0 _ rfl w
 have r1:=part_int #[.int .i64 d,.int .i64 e,.int .i64 f] 1 _ rfl w
 have r2:=part_int #[.int .i64 d,.int .i64 e,.int .i64 f] 2 _ rfl w
 rw [show List.range 3 = [0,1,2] from rfl]
 cases h0 : (a == d) <;> cases h1 : (b == e) <;> cases h2 : (c == f) <;> simp [Op.eqItems,p0,p1,p2,r0,r1,r2,q,h0,h1,h2]
theorem poseFields : ((Tryz.prog.fieldsOf 52).toList.map fun f=>(f.name,f.type,f.offset)) = [("Id",3,0),("Pos",22,1),("Angle",31,4),("Mode",3,5)]:=by kernel_rfl
theorem poseStood : Tryz.prog.stoodInHeld 52 = false:=by kernel_rfl
theorem pose_struct : Tryz.prog.underlying 52 = some (.struct (Tryz.prog.fieldsOf 52)):=by kernel_rfl
theorem eqFields4 {d : Nat} {xs ys : Array Value} {w : World} {fs : List Field} {n0 n1 n2 n3 : String} {t0 t1 t2 t3 : TypeId} {o0 o1 o2 o3 : Nat} {a0 a1 a2 a3 b0 b1 b2 b3 : Value} {r0 r1 r2 r3 : Bool}
  (hf : (fs.map fun f=>(f.name,f.type,f.offset)) = [(n0,t0,o0),(n1,t1,o1),(n2,t2,o2),(n3,t3,o3)])
  (hn : n0 ≠ "_" ∧ n1 ≠ "_" ∧ n2 ≠ "_" ∧ n3 ≠ "_")
  (ha0 : (part t0 xs o0).run Tryz.prog w = .ok a0 w) (hb0 : (part t0 ys o0).run Tryz.prog w = .ok b0 w) (he0 : (Op.equalIn d t0 a0 b0).run Tryz.prog w = .ok r0 w)
  (ha1 : (part t1 xs o1).run Tryz.prog w = .ok a1 w) (hb1 : (part t1 ys o1).run Tryz.prog w = .ok b1 w) (he1 : (Op.equalIn d t1 a1 b1).run Tryz.prog w = .ok r1 w)
  (ha2 : (part t2 xs o2).run Tryz.prog w = .ok a2 w) (hb2 : (part t2 ys o2).run Tryz.prog w = .ok b2 w) (he2 : (Op.equalIn d t2 a2 b2).run Tryz.prog w = .ok r2 w)
  (ha3 : (part t3 xs o3).run Tryz.prog w = .ok a3 w) (hb3 : (part t3 ys o3).run Tryz.prog w = .ok b3 w) (he3 : (Op.equalIn d t3 a3 b3).run Tryz.prog w = .ok r3 w) :
  (Op.eqFields d xs ys fs).run Tryz.prog w = .ok (r0 && r1 && r2 && r3) w:=by
 match fs,hf with
 | [f0,f1,f2,f3],hf =>
  simp only [List.map_cons,List.map_nil,List.cons.injEq,Prod.mk.injEq,and_true] at hf
  obtain ⟨⟨rfl,rfl,rfl⟩,⟨rfl,rfl,rfl⟩,⟨rfl,rfl,rfl⟩,⟨rfl,rfl,rfl⟩⟩:=hf
  obtain ⟨h0,h1,h2,h3⟩:=hn
  cases r0 <;> cases r1 <;> cases r2 <;> cases r3 <;> simp [Op.eqFields,h0,h1,h2,h3,ha0,hb0,he0,ha1,hb1,he1,ha2,hb2,he2,ha3,hb3,he3]
theorem eq_pose (a0 a1 a2 a3 a4 a5 b0 b1 b2 b3 b4 b5 : Int) (w : World) :
  (Op.equalIn 10000 52 (.agg #[.int .i64 a0,.int .i64 a1,.int .i64 a2,.int .i64 a3,.int .u16 a4,.int .i64 a5]) (.agg #[.int .i64 b0,.int .i64 b1,.int .i64 b2,.int .i64 b3,.int .u16 b4,.int .i64 b5])).run Tryz.prog w = .ok (a0 == b0 && (a1 == b1 && a2 == b2 && a3 == b3) && a4 == b4 && a5 == b5) w:=by
 rw [show 10000 = 9999 + 1 from rfl,run_equalIn_struct w 9999 _ _ _ pose_struct poseStood]
 exact eqFields4 poseFields (by decide)
  (part_cell Tryz.underlying3 rfl _ 0 _ rfl w) (part_cell Tryz.underlying3 rfl _ 0 _ rfl w) (run_equalIn_int (P:=Tryz.prog) w 9998 3 .i64 .i64 _ _ Tryz.underlying3)
  (part_v3 _ w) (part_v3 _ w) (eq_v3 _ _ _ _ _ _ 9997 w)
  (part_cell Tryz.underlying31 rfl _ 4 _ rfl w) (part_cell Tryz.underlying31 rfl _ 4 _ rfl w) (run_equalIn_int (P:=Tryz.prog) w 9998 31 .u16 .u16 _ _ Tryz.underlying31)
  (part_cell Tryz.underlying3 rfl _ 5 _ rfl w) (part_cell Tryz.underlying3 rfl _ 5 _ rfl w) (run_equalIn_int (P:=Tryz.prog) w 9998 3 .i64 .i64 _ _ Tryz.underlying3)
set_option maxRecDepth 100000
def shA (T : Nat → Int) (at0 : Int) (len : Nat) : Nat := (pickA T at0 len).toNat
def shB (T : Nat → Int) (at0 : Int) (len : Nat) : Nat := (pickB T at0 len).toNat
def shE (c : Cfg) (at0 : Int) (K T : Nat → Int) (E : Nat → Option Addr × Nat × Nat) (EE : Nat → Nat → Ent) (len : Nat) : Int :=
  if pchk c K T E EE len = 0 then (if pickE T at0 len = 0 then
    (if pickB T at0 len < 0 then bydE c (K (shA T at0 len)) (T (shA T at0 len)) (E (shA T at0 len)).1 (E (shA T at0 len)).2.1 (E (shA T at0 len)).2.2 (EE (shA T at0 len)) at0
     else btwE c (K (shA T at0 len)) (T (shA T at0 len)) (E (shA T at0 len)).1 (E (shA T at0 len)).2.1 (E (shA T at0 len)).2.2 (EE (shA T at0 len)) (K (shB T at0 len)) (T (shB T at0 len)) (E (shB T at0 len)).1 (E (shB T at0 len)).2.1 (E (shB T at0 len)).2.2 (EE (shB T at0 len)) at0)
    else pickE T at0 len) else pchk c K T E EE len
def shN (c : Cfg) (at0 : Int) (K T : Nat → Int) (E : Nat → Option Addr × Nat × Nat) (EE : Nat → Nat → Ent) (len : Nat) : Nat :=
  if shE c at0 K T E EE len = 0 then (E (shA T at0 len)).2.1 else 0
def shP (c : Cfg) (at0 : Int) (K T : Nat → Int) (E : Nat → Option Addr × Nat × Nat) (EE : Nat → Nat → Ent) (len : Nat) : Nat → Po :=
  if pickB T at0 len < 0 then byF (byM c (subF at0 (T (shA T at0 len)))) (byD c (subF at0 (T (shA T at0 len)))) (EE (shA T at0 len))
  else btwF c.curved (EE (shA T at0 len)) (EE (shB T at0 len)) (E (shB T at0 len)).2.1 (at0 - T (shA T at0 len)) (T (shB T at0 len) - T (shA T at0 len))
theorem pick_in {T : Nat → Int} {at0 : Int} {len : Nat} (h : pickE T at0 len = 0) : pickA T at0 len = ((shA T at0 len : Nat) : Int) ∧ shA T at0 len < len ∧ (¬ pickB T at0 len < 0 → pickB T at0 len = ((shB T at0 len : Nat) : Int) ∧ shB T at0 len < len) := by
  have hc : chkT T len = 0 := by
    unfold pickE at h
    split at h
    · assumption
    · contradiction
  have h0 : lastLe T at0 len ≠ 0 := by
    unfold pickE at h
    rw [if_pos hc] at h
    intro e
    rw [if_pos e] at h
    exact absurd h (by decide)
  have hl := lastLe_le T at0 len
  unfold shA shB pickA pickB
  rw [if_pos hc, if_neg h0, if_pos hc, if_neg h0]
  refine ⟨by omega, by omega, fun hb => ?_⟩
  split
  · rename_i e; rw [if_pos e] at hb; omega
  · omega
set_option maxHeartbeats 1000000 in
theorem psh_a (c : Cfg) (ok : c.Ok) (at0 : Int) (hat : I64 at0) (s : Option Addr) (len cap : Nat) (K T : Nat → Int) (E : Nat → Option Addr × Nat × Nat) (EE : Nat → Nat → Ent) (w : World) (h : SnsAt w s len K T E EE) (hT : ∀ i, i < len → I64 (T i)) (hlen : (len : Int) ≤ 4611686018427387904) (h0 : pchk c K T E EE len ≠ 0) :
    Calls Tryz.prog 19 #[cfgV c, .int .i64 at0, .slice s len cap] w fun e w' => e = .returned (.tuple #[.slice none 0 0, .int .i64 (pchk c K T E EE len)]) ∧ Below w.heap.size w w' := by
  have CK := pcheck_f c s len cap K T E EE (w.alloc (.cells #[.int .i64 c.ring, .int .i64 c.window, .int .i64 c.base, .int .i64 c.gain, .int .i64 c.least, .int .i64 c.most, .int .i64 c.slack, .int .i64 c.num, .int .i64 c.den, .int .i64 c.extra, .bool c.curved] 29)) (h.below ((Below.refl _ _).alloc (Nat.le_refl _) _)) hlen
  have bc := Blk.new w #[.int .i64 c.ring, .int .i64 c.window, .int .i64 c.base, .int .i64 c.gain, .int .i64 c.least, .int .i64 c.most, .int .i64 c.slack, .int .i64 c.num, .int .i64 c.den, .int .i64 c.extra, .bool c.curved] 29
  have hB0 : Below w.heap.size w (w.alloc (.cells #[.int .i64 c.ring, .int .i64 c.window, .int .i64 c.base, .int .i64 c.gain, .int .i64 c.least, .int .i64 c.most, .int .i64 c.slack, .int .i64 c.num, .int .i64 c.den, .int .i64 c.extra, .bool c.curved] 29)) := (Below.refl _ _).alloc (Nat.le_refl _) _
  unfold cfgV at CK ⊢
  generalize pchk c K T E EE len = z at *
  have hz : (z != 0) = true := by simpa using h0
  go_enter Tryz.func19, Tryz.ntmps19
  go_wp2_with fail
  refine CK.mono ?_; rintro e w1 ⟨rfl, hb1⟩
  have SC := Lib.hid (bc.below hb1 (by simp))
  have HB1 : Hid (Below w.heap.size w w1) := Lib.hid (hB0.trans (hb1.mono (by simp)))
  clear hb1 CK bc hB0
  go_wp2
  exact bodyPost_ret (v := .tuple #[.slice none 0 0, .int .i64 z]) (by simp [results, Tryz.results19, go_sem]) rfl ⟨rfl, HB1.out⟩
set_option maxHeartbeats 1000000 in
theorem psh_b (c : Cfg) (ok : c.Ok) (at0 : Int) (hat : I64 at0) (s : Option Addr) (len cap : Nat) (K T : Nat → Int) (E : Nat → Option Addr × Nat × Nat) (EE : Nat → Nat → Ent) (w : World) (h : SnsAt w s len K T E EE) (hT : ∀ i, i < len → I64 (T i)) (hlen : (len : Int) ≤ 4611686018427387904) (h0 : pchk c K T E EE len = 0) (h1 : pickE T at0 len ≠ 0) :
    Calls Tryz.prog 19 #[cfgV c, .int .i64 at0, .slice s len cap] w fun e w' => e = .returned (.tuple #[.slice none 0 0, .int .i64 (pickE T at0 len)]) ∧ Below w.heap.size w w' := by
  have CK := pcheck_f c s len cap K T E EE (w.alloc (.cells #[.int .i64 c.ring, .int .i64 c.window, .int .i64 c.base, .int .i64 c.gain, .int .i64 c.least, .int .i64 c.most, .int .i64 c.slack, .int .i64 c.num, .int .i64 c.den, .int .i64 c.extra, .bool c.curved] 29)) (h.below ((Below.refl _ _).alloc (Nat.le_refl _) _)) hlen
  have bc := Blk.new w #[.int .i64 c.ring, .int .i64 c.window, .int .i64 c.base, .int .i64 c.gain, .int .i64 c.least, .int .i64 c.most, .int .i64 c.slack, .int .i64 c.num, .int .i64 c.den, .int .i64 c.extra, .bool c.curved] 29
  have hB0 : Below w.heap.size w (w.alloc (.cells #[.int .i64 c.ring, .int .i64 c.window, .int .i64 c.base, .int .i64 c.gain, .int .i64 c.least, .int .i64 c.most, .int .i64 c.slack, .int .i64 c.num, .int .i64 c.den, .int .i64 c.extra, .bool c.curved] 29)) := (Below.refl _ _).alloc (Nat.le_refl _) _
  have PK := fun w' hw => pick_f at0 s len cap K T E w' hw hlen
  unfold cfgV at CK ⊢
  generalize pickE T at0 len = z at *
  generalize pickA T at0 len = pa at *
  generalize pickB T at0 len = pb at *
  have hz : (z != 0) = true := by simpa using h1
  rw [h0] at CK
  clear h0
  go_enter Tryz.func19, Tryz.ntmps19
  go_wp2_with fail
  refine CK.mono ?_; rintro e w1 ⟨rfl, hb1⟩
  have SC := Lib.hid (bc.below hb1 (by simp))
  have HB1 : Hid (Below w.heap.size w w1) := Lib.hid (hB0.trans (hb1.mono (by simp)))
  clear hb1 CK bc hB0
  go_wp2_with fail
  refine (PK _ (h.1.below HB1.out)).mono ?_; rintro e w2 ⟨rfl, hb2⟩
  have SCn := Lib.hid (SC.out.below hb2 SC.out.lt)
  have HB2 : Hid (Below w.heap.size w w2) := Lib.hid (HB1.out.trans (hb2.mono HB1.out.size))
  clear hb2 PK SC HB1
  go_wp2
  exact bodyPost_ret (v := .tuple #[.slice none 0 0, .int .i64 z]) (by simp [results, Tryz.results19, go_sem]) rfl ⟨rfl, HB2.out⟩
set_option maxHeartbeats 2000000 in
theorem psh_c (c : Cfg) (ok : c.Ok) (at0 : Int) (hat : I64 at0) (s : Option Addr) (len cap : Nat) (K T : Nat → Int) (E : Nat → Option Addr × Nat × Nat) (EE : Nat → Nat → Ent) (w : World) (h : SnsAt w s len K T E EE) (hT : ∀ i, i < len → I64 (T i)) (hlen : (len : Int) ≤ 4611686018427387904) (h0 : pchk c K T E EE len = 0) (h1 : pickE T at0 len = 0) (hb : pickB T at0 len < 0) :
    Calls Tryz.prog 19 #[cfgV c, .int .i64 at0, .slice s len cap] w (Rets w (okN (bydE c (K (shA T at0 len)) (T (shA T at0 len)) (E (shA T at0 len)).1 (E (shA T at0 len)).2.1 (E (shA T at0 len)).2.2 (EE (shA T at0 len)) at0) (E (shA T at0 len)).2.1) (bydE c (K (shA T at0 len)) (T (shA T at0 len)) (E (shA T at0 len)).1 (E (shA T at0 len)).2.1 (E (shA T at0 len)).2.2 (EE (shA T at0 len)) at0) (byF (byM c (subF at0 (T (shA T at0 len)))) (byD c (subF at0 (T (shA T at0 len)))) (EE (shA T at0 len)))) := by
  obtain ⟨hpa, hva, _⟩ := pick_in h1
  generalize shA T at0 len = va at *
  have BY := fun w' (hw : Below w.heap.size w w') => pbyd_f c ok (K va) (T va) (E va).1 (E va).2.1 (E va).2.2 (EE va) at0 w' (hT va hva) hat ((h.2 va hva).1.below hw) (h.2 va hva).2
  unfold Rets at BY ⊢
  generalize okN (bydE c (K va) (T va) (E va).1 (E va).2.1 (E va).2.2 (EE va) at0) (E va).2.1 = rn at *
  generalize bydE c (K va) (T va) (E va).1 (E va).2.1 (E va).2.2 (EE va) at0 = re at *
  generalize (byF (byM c (subF at0 (T va))) (byD c (subF at0 (T va))) (EE va)) = rp at *
  have CK := pcheck_f c s len cap K T E EE (w.alloc (.cells #[.int .i64 c.ring, .int .i64 c.window, .int .i64 c.base, .int .i64 c.gain, .int .i64 c.least, .int .i64 c.most, .int .i64 c.slack, .int .i64 c.num, .int .i64 c.den, .int .i64 c.extra, .bool c.curved] 29)) (h.below ((Below.refl _ _).alloc (Nat.le_refl _) _)) hlen
  have bc := Blk.new w #[.int .i64 c.ring, .int .i64 c.window, .int .i64 c.base, .int .i64 c.gain, .int .i64 c.least, .int .i64 c.most, .int .i64 c.slack, .int .i64 c.num, .int .i64 c.den, .int .i64 c.extra, .bool c.curved] 29
  have hB0 : Below w.heap.size w (w.alloc (.cells #[.int .i64 c.ring, .int .i64 c.window, .int .i64 c.base, .int .i64 c.gain, .int .i64 c.least, .int .i64 c.most, .int .i64 c.slack, .int .i64 c.num, .int .i64 c.den, .int .i64 c.extra, .bool c.curved] 29)) := (Below.refl _ _).alloc (Nat.le_refl _) _
  have PK := fun w' hw => pick_f at0 s len cap K T E w' hw hlen
  unfold cfgV at CK ⊢
  rw [h1, hpa] at PK
  generalize pickB T at0 len = pb at *
  rw [h0] at CK
  unfold cfgV snapV at BY
  have hpb : decide (pb < 0) = true := decide_eq_true hb
  clear h0 h1 hpa
  have HS := Lib.hid h
  go_enter Tryz.func19, Tryz.ntmps19
  go_wp2_with fail
  refine CK.mono ?_; rintro e w1 ⟨rfl, hb1⟩
  have SC := Lib.hid (bc.below hb1 (by simp))
  have HB1 : Hid (Below w.heap.size w w1) := Lib.hid (hB0.trans (hb1.mono (by simp)))
  clear hb1 CK bc hB0
  go_wp2_with fail
  refine (PK _ (h.1.below HB1.out)).mono ?_; rintro e w2 ⟨rfl, hb2⟩
  have SCn := Lib.hid (SC.out.below hb2 SC.out.lt)
  have HB2 : Hid (Below w.heap.size w w2) := Lib.hid (HB1.out.trans (hb2.mono HB1.out.size))
  clear hb2 PK SC HB1
  obtain ⟨q0, q1, q2, q3, q4, q5, q6, q7, q8, q9, q10⟩ := cfg_cells SCn.out
  have hpb0 := hb
  clear hb
  rcases HS.out.1 with hz | ⟨b, off, rfl, hb, hcs⟩
  · omega
  have hval : (va : Int) < len := by omega
  obtain ⟨d0, d1, d2⟩ := hcs va hva
  have s0 := (HB2.out.cell (p := ⟨b, off + va * 3, none⟩) hb).trans d0
  have s1 := (HB2.out.cell (p := ⟨b, off + va * 3 + 1, none⟩) hb).trans d1
  have s2 := (HB2.out.cell (p := ⟨b, off + va * 3 + 2, none⟩) hb).trans d2
  clear d0 d1 d2
  have BY2 := Lib.hid (fun w' (hw : Below w2.heap.size w2 w') => BY w' (HB2.out.trans (hw.mono HB2.out.size)))
  clear BY hcs h HS
  generalize K va = ka at *
  generalize T va = ta at *
  generalize (E va).1 = ea at *
  generalize (E va).2.1 = el at *
  generalize (E va).2.2 = ec at *
  go_wp2_with fail
  go_region_with (go_at_call 47; refine (BY2.out _ (below_drewN (Below.refl _ _) 1)).mono ?_; rintro e w3 ⟨s3, c3, rfl, hp3, hb3⟩)
  all_goals
    have HP3 := Lib.hid hp3
    have HB3 : Hid (Below w.heap.size w w3) := Lib.hid (HB2.out.trans (Below.trans (below_drewN (Below.refl _ _) 1) (hb3.mono HB2.out.size)))
    clear hp3 hb3
    go_wp2
    exact bodyPost_ret (v := .tuple #[.slice s3 rn c3, .int .i64 re]) (by simp [results, Tryz.results19, go_sem]) rfl ⟨s3, c3, rfl, HP3.out, HB3.out⟩
set_option maxHeartbeats 4000000 in
theorem psh_d (c : Cfg) (ok : c.Ok) (at0 : Int) (hat : I64 at0) (s : Option Addr) (len cap : Nat) (K T : Nat → Int) (E : Nat → Option Addr × Nat × Nat) (EE : Nat → Nat → Ent) (w : World) (h : SnsAt w s len K T E EE) (hT : ∀ i, i < len → I64 (T i)) (hlen : (len : Int) ≤ 4611686018427387904) (h0 : pchk c K T E EE len = 0) (h1 : pickE T at0 len = 0) (hb : ¬ pickB T at0 len < 0) :
    Calls Tryz.prog 19 #[cfgV c, .int .i64 at0, .slice s len cap] w (Rets w (okN (btwE c (K (shA T at0 len)) (T (shA T at0 len)) (E (shA T at0 len)).1 (E (shA T at0 len)).2.1 (E (shA T at0 len)).2.2 (EE (shA T at0 len)) (K (shB T at0 len)) (T (shB T at0 len)) (E (shB T at0 len)).1 (E (shB T at0 len)).2.1 (E (shB T at0 len)).2.2 (EE (shB T at0 len)) at0) (E (shA T at0 len)).2.1) (btwE c (K (shA T at0 len)) (T (shA T at0 len)) (E (shA T at0 len)).1 (E (shA T at0 len)).2.1 (E (shA T at0 len)).2.2 (EE (shA T at0 len)) (K (shB T at0 len)) (T (shB T at0 len)) (E (shB T at0 len)).1 (E (shB T at0 len)).2.1 (E (shB T at0 len)).2.2 (EE (shB T at0 len)) at0) (btwF c.curved (EE (shA T at0 len)) (EE (shB T at0 len)) (E (shB T at0 len)).2.1 (at0 - T (shA T at0 len)) (T (shB T at0 len) - T (shA T at0 len)))) := by
  obtain ⟨hpa, hva, hpb⟩ := pick_in h1
  obtain ⟨hpb, hvb⟩ := hpb hb
  generalize shA T at0 len = va at *
  generalize shB T at0 len = vb at *
  have BY := fun w' (hw : Below w.heap.size w w') => pbtw_f c (K va) (T va) (E va).1 (E va).2.1 (E va).2.2 (EE va) (K vb) (T vb) (E vb).1 (E vb).2.1 (E vb).2.2 (EE vb) at0 w' ((h.2 va hva).1.below hw) ((h.2 vb hvb).1.below hw) (h.2 va hva).2 (h.2 vb hvb).2
  unfold Rets at BY ⊢
  generalize okN (btwE c (K va) (T va) (E va).1 (E va).2.1 (E va).2.2 (EE va) (K vb) (T vb) (E vb).1 (E vb).2.1 (E vb).2.2 (EE vb) at0) (E va).2.1 = rn at *
  generalize btwE c (K va) (T va) (E va).1 (E va).2.1 (E va).2.2 (EE va) (K vb) (T vb) (E vb).1 (E vb).2.1 (E vb).2.2 (EE vb) at0 = re at *
  generalize (btwF c.curved (EE va) (EE vb) (E vb).2.1 (at0 - T va) (T vb - T va)) = rp at *
  have CK := pcheck_f c s len cap K T E EE (w.alloc (.cells #[.int .i64 c.ring, .int .i64 c.window, .int .i64 c.base, .int .i64 c.gain, .int .i64 c.least, .int .i64 c.most, .int .i64 c.slack, .int .i64 c.num, .int .i64 c.den, .int .i64 c.extra, .bool c.curved] 29)) (h.below ((Below.refl _ _).alloc (Nat.le_refl _) _)) hlen
  have bc := Blk.new w #[.int .i64 c.ring, .int .i64 c.window, .int .i64 c.base, .int .i64 c.gain, .int .i64 c.least, .int .i64 c.most, .int .i64 c.slack, .int .i64 c.num, .int .i64 c.den, .int .i64 c.extra, .bool c.curved] 29
  have hB0 : Below w.heap.size w (w.alloc (.cells #[.int .i64 c.ring, .int .i64 c.window, .int .i64 c.base, .int .i64 c.gain, .int .i64 c.least, .int .i64 c.most, .int .i64 c.slack, .int .i64 c.num, .int .i64 c.den, .int .i64 c.extra, .bool c.curved] 29)) := (Below.refl _ _).alloc (Nat.le_refl _) _
  have PK := fun w' hw => pick_f at0 s len cap K T E w' hw hlen
  unfold cfgV at CK ⊢
  rw [h1, hpa, hpb] at PK
  rw [h0] at CK
  unfold cfgV snapV at BY
  have hpb2 : decide ((vb : Int) < 0) = false := decide_eq_false (by omega)
  clear h0 h1 hpa hpb hb
  have HS := Lib.hid h
  go_enter Tryz.func19, Tryz.ntmps19
  go_wp2_with fail
  refine CK.mono ?_; rintro e w1 ⟨rfl, hb1⟩
  have SC := Lib.hid (bc.below hb1 (by simp))
  have HB1 : Hid (Below w.heap.size w w1) := Lib.hid (hB0.trans (hb1.mono (by simp)))
  clear hb1 CK bc hB0
  go_wp2_with fail
  refine (PK _ (h.1.below HB1.out)).mono ?_; rintro e w2 ⟨rfl, hb2⟩
  have SCn := Lib.hid (SC.out.below hb2 SC.out.lt)
  have HB2 : Hid (Below w.heap.size w w2) := Lib.hid (HB1.out.trans (hb2.mono HB1.out.size))
  clear hb2 PK SC HB1
  obtain ⟨q0, q1, q2, q3, q4, q5, q6, q7, q8, q9, q10⟩ := cfg_cells SCn.out
  rcases HS.out.1 with hz | ⟨b, off, rfl, hb, hcs⟩
  · omega
  have hval : (va : Int) < len := by omega
  have hvbl : (vb : Int) < len := by omega
  obtain ⟨d0, d1, d2⟩ := hcs va hva
  have s0 := (HB2.out.cell (p := ⟨b, off + va * 3, none⟩) hb).trans d0
  have s1 := (HB2.out.cell (p := ⟨b, off + va * 3 + 1, none⟩) hb).trans d1
  have s2 := (HB2.out.cell (p := ⟨b, off + va * 3 + 2, none⟩) hb).trans d2
  clear d0 d1 d2
  obtain ⟨d0, d1, d2⟩ := hcs vb hvb
  have r0 := (HB2.out.cell (p := ⟨b, off + vb * 3, none⟩) hb).trans d0
  have r1 := (HB2.out.cell (p := ⟨b, off + vb * 3 + 1, none⟩) hb).trans d1
  have r2 := (HB2.out.cell (p := ⟨b, off + vb * 3 + 2, none⟩) hb).trans d2
  clear d0 d1 d2
  have BY2 := Lib.hid (fun w' (hw : Below w2.heap.size w2 w') => BY w' (HB2.out.trans (hw.mono HB2.out.size)))
  clear BY hcs h HS
  generalize K va = ka at *
  generalize T va = ta at *
  generalize (E va).1 = ea at *
  generalize (E va).2.1 = el at *
  generalize (E va).2.2 = ec at *
  generalize K vb = kb at *
  generalize T vb = tb at *
  generalize (E vb).1 = fa at *
  generalize (E vb).2.1 = fl at *
  generalize (E vb).2.2 = fc at *
  go_wp2_with fail
  go_region_with (go_at_call 48; refine (BY2.out _ (below_drewN (Below.refl _ _) 1)).mono ?_; rintro e w3 ⟨s3, c3, rfl, hp3, hb3⟩)
  all_goals
    have HP3 := Lib.hid hp3
    have HB3 : Hid (Below w.heap.size w w3) := Lib.hid (HB2.out.trans (Below.trans (below_drewN (Below.refl _ _) 1) (hb3.mono HB2.out.size)))
    clear hp3 hb3
    go_wp2
    exact bodyPost_ret (v := .tuple #[.slice s3 rn c3, .int .i64 re]) (by simp [results, Tryz.results19, go_sem]) rfl ⟨s3, c3, rfl, HP3.out, HB3.out⟩
theorem psh_f (c : Cfg) (ok : c.Ok) (at0 : Int) (hat : I64 at0) (s : Option Addr) (len cap : Nat) (K T : Nat → Int) (E : Nat → Option Addr × Nat × Nat) (EE : Nat → Nat → Ent) (w : World) (h : SnsAt w s len K T E EE) (hT : ∀ i, i < len → I64 (T i)) (hlen : (len : Int) ≤ 4611686018427387904) : Calls Tryz.prog 19 #[cfgV c, .int .i64 at0, .slice s len cap] w (Rets w (shN c at0 K T E EE len) (shE c at0 K T E EE len) (shP c at0 K T E EE len)) := by
  by_cases h0 : pchk c K T E EE len = 0
  · by_cases h1 : pickE T at0 len = 0
    · by_cases hb : pickB T at0 len < 0
      · have e : shE c at0 K T E EE len = bydE c (K (shA T at0 len)) (T (shA T at0 len)) (E (shA T at0 len)).1 (E (shA T at0 len)).2.1 (E (shA T at0 len)).2.2 (EE (shA T at0 len)) at0 := by unfold shE; rw [if_pos h0, if_pos h1, if_pos hb]
        unfold shN shP
        rw [e, if_pos hb]
        exact psh_c c ok at0 hat s len cap K T E EE w h hT hlen h0 h1 hb
      · have e : shE c at0 K T E EE len = btwE c (K (shA T at0 len)) (T (shA T at0 len)) (E (shA T at0 len)).1 (E (shA T at0 len)).2.1 (E (shA T at0 len)).2.2 (EE (shA T at0 len)) (K (shB T at0 len)) (T (shB T at0 len)) (E (shB T at0 len)).1 (E (shB T at0 len)).2.1 (E (shB T at0 len)).2.2 (EE (shB T at0 len)) at0 := by unfold shE; rw [if_pos h0, if_pos h1, if_neg hb]
        unfold shN shP
        rw [e, if_neg hb]
        exact psh_d c ok at0 hat s len cap K T E EE w h hT hlen h0 h1 hb
    · have e : shE c at0 K T E EE len = pickE T at0 len := by unfold shE; rw [if_pos h0, if_neg h1]
      unfold shN
      rw [e, if_neg h1]
      exact (psh_b c ok at0 hat s len cap K T E EE w h hT hlen h0 h1).mono fun e w' ⟨h2, h3⟩ => ⟨none, 0, h2, .inl rfl, h3⟩
  · have e : shE c at0 K T E EE len = pchk c K T E EE len := by unfold shE; rw [if_neg h0]
    unfold shN
    rw [e, if_neg h0]
    exact (psh_a c ok at0 hat s len cap K T E EE w h hT hlen h0).mono fun e w' ⟨h2, h3⟩ => ⟨none, 0, h2, .inl rfl, h3⟩
end Go.Proofs.YtklkooeimkedgaaGreat
