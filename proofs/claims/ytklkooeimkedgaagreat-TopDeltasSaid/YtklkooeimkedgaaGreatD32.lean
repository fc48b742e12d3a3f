/- Walk of TopDeltas. -/
import Derived.DeepKeys
import Derived.Test.YtklkooeimkedgaaGreatD30
set_option linter.unusedVariables false
set_option linter.unusedSimpArgs false
namespace Go.Proofs.YtklkooeimkedgaaGreat
open Go.RowKit
set_option maxRecDepth 100000
def rQ (w : World) (n : Nat) (E : Int) (P : Nat -> Po) (e : Ending) (w' : World) : Prop :=
 ∃ s cp,e = .returned (.tuple #[.slice s n cp,.int .i64 E]) /\ dP w' s n P /\ Below w.heap.size w w'
def oQ (c : aP) (ka ta : Int) (aa : Option Addr) (la ca : Nat) (A : Nat -> ay) (kb tb : Int) (ab : Option Addr) (lb cb : Nat) (B : Nat -> ay) (au : Int) : Int :=
 if oO c ka ta aa la ca A kb tb ab lb cb B = 0 then jP ta tb au else oO c ka ta aa la ca A kb tb ab lb cb B
def oU (c : aP) (ka ta : Int) (aa : Option Addr) (la ca : Nat) (A : Nat -> ay) (au : Int) : Int :=
 if nL c ka ta aa la ca A = 0 then mJ ta au else nL c ka ta aa la ca A
def AA (E : Int) (n : Nat) : Nat:=if E = 0 then n else 0
theorem aae (c : aP) (ka ta : Int) (aa : Option Addr) (la ca : Nat) (A : Nat -> ay) (kb tb : Int) (ab : Option Addr) (lb cb : Nat) (B : Nat -> ay) (au : Int) (w : World) (ha : bV w aa la A) (hb : bV w ab lb B) (hla : (la : Int) <= 4611686018427387904) (hlb : (lb : Int) <= 4611686018427387904) :
 Calls Tryz.prog 48 #[aT c,bC ka ta aa la ca,bC kb tb ab lb cb,.int .i64 au] w (rQ w (AA (oQ c ka ta aa la ca A kb tb ab lb cb B au) la) (oQ c ka ta aa la ca A kb tb ab lb cb B au) (Bu c.aC A B lb (au - ta) (tb - ta))):=by
 by_cases h0 : oO c ka ta aa la ca A kb tb ab lb cb B = 0
 ·by_cases h1 : jP ta tb au = 0
  ·have e : oQ c ka ta aa la ca A kb tb ab lb cb B au = 0:=by unfold oQ;rw [if_pos h0,h1]
   rw [e]
   unfold rQ AA
   rw [if_pos rfl]
   cases hc : c.aC
   ·exact RF c hc ka ta aa la ca A kb tb ab lb cb B au w ha hb hla hlb h0 h1
   ·exact MO c hc ka ta aa la ca A kb tb ab lb cb B au w ha hb hla hlb h0 h1
  ·have e : oQ c ka ta aa la ca A kb tb ab lb cb B au = jP ta tb au:=by unfold oQ;rw [if_pos h0]
   rw [e]
   unfold rQ AA
   rw [if_neg h1]
   exact (RD c ka ta aa la ca A kb tb ab lb cb B au w ha hb hla hlb h0 h1).mono λe w' ⟨h2,h3⟩=>⟨none,0,h2,.inl rfl,h3⟩
 ·have e : oQ c ka ta aa la ca A kb tb ab lb cb B au = oO c ka ta aa la ca A kb tb ab lb cb B:=by unfold oQ;rw [if_neg h0]
  rw [e]
  unfold rQ AA
  rw [if_neg h0]
  exact (Vt c ka ta aa la ca A kb tb ab lb cb B au w ha hb hla hlb h0).mono λe w' ⟨h2,h3⟩=>⟨none,0,h2,.inl rfl,h3⟩
theorem aaf (c : aP) (ok : c.Ok) (ka ta : Int) (aa : Option Addr) (la ca : Nat) (A : Nat -> ay) (au : Int) (w : World) (yh : aA ta) (hat : aA au) (ha : bV w aa la A) (hla : (la : Int) <= 4611686018427387904) :
 Calls Tryz.prog 47 #[aT c,bC ka ta aa la ca,.int .i64 au] w (rQ w (AA (oU c ka ta aa la ca A au) la) (oU c ka ta aa la ca A au) (DY (DZ c (aQ au ta)) (D5 c (aQ au ta)) A)):=by
 by_cases h0 : nL c ka ta aa la ca A = 0
 ·by_cases h1 : mJ ta au = 0
  ·have e : oU c ka ta aa la ca A au = 0:=by unfold oU;rw [if_pos h0,h1]
   rw [e]
   unfold rQ AA
   rw [if_pos rfl]
   obtain ⟨_,hex,_,_⟩:=Dj h0
   by_cases hd : aQ au ta = 0
   ·have:=Z8 c ok ka ta aa la ca A au w yh hat ha hla h0 h1 hd
    rw [show DZ c (aQ au ta) = 0 by unfold DZ;rw [if_pos hd],show D5 c (aQ au ta) = 0 by unfold D5;rw [if_neg (by omega)];exact hd]
    exact this
   ·by_cases hf : c.extra < aQ au ta
    ·have:=aac c ok ka ta aa la ca A au w yh hat ha hla h0 h1 hd hf
     rw [show DZ c (aQ au ta) = 4 by unfold DZ;rw [if_neg hd,if_pos hf],show D5 c (aQ au ta) = c.extra by unfold D5;rw [if_pos hf]]
     exact this
    ·have:=aad c ok ka ta aa la ca A au w yh hat ha hla h0 h1 hd hf
     rw [show DZ c (aQ au ta) = 3 by unfold DZ;rw [if_neg hd,if_neg hf],show D5 c (aQ au ta) = aQ au ta by unfold D5;rw [if_neg hf]]
     exact this
  ·have e : oU c ka ta aa la ca A au = mJ ta au:=by unfold oU;rw [if_pos h0]
   rw [e]
   unfold rQ AA
   rw [if_neg h1]
   exact (RV c ka ta aa la ca A au w yh hat ha hla h0 h1).mono λe w' ⟨h2,h3⟩=>⟨none,0,h2,.inl rfl,h3⟩
 ·have e : oU c ka ta aa la ca A au = nL c ka ta aa la ca A:=by unfold oU;rw [if_neg h0]
  rw [e]
  unfold rQ AA
  rw [if_neg h0]
  exact (Vu c ka ta aa la ca A au w yh hat ha hla h0).mono λe w' ⟨h2,h3⟩=>⟨none,0,h2,.inl rfl,h3⟩
theorem RY : (Tryz.prog.info? 22).map (λi=>i.size) = some 3:=by kernel_rfl
theorem NA (cs : Array Value) (w : World) : (part 22 cs 1).run Tryz.prog w = .ok (.agg (cs.extract 1 4)) w:=by
 obtain ⟨i,hi,hz⟩:=Option.map_eq_some_iff.1 RY
 simp [part,isAgg,run_underlying Tryz.underlying22,run_sizeOf w hi,hz]
theorem fH {t : TypeId} {d : TypeDesc} (hu : Tryz.prog.underlying t = some d) (hd : (match d with | .array _ _=>true | .struct _=>true | _=>false) = false) (cs : Array Value) (off : Nat) (v : Value) (h : cs[off]? = some v) (w : World) : (part t cs off).run Tryz.prog w = .ok v w:=by
 cases d <;> simp_all [part,isAgg,run_underlying hu]
theorem Dk (a b c d e f : Int) (n : Nat) (w : World) :
 (Op.equalIn (n + 2) 22 (.agg #[.int .i64 a,.int .i64 b,.int .i64 c]) (.agg #[.int .i64 d,.int .i64 e,.int .i64 f])).run Tryz.prog w = .ok (a == d && b == e && c == f) w:=by
 obtain ⟨i,hi⟩:=Ko
 rw [run_equalIn_array w (n + 1) _ _ Tryz.underlying22 hi,show Tryz.prog.cellsOf 2 = 1 by kernel_rfl]
 have q : ∀ x y : Int,(Op.equalIn (n + 1) 2 (.int .i64 x) (.int .i64 y)).run Tryz.prog w = .ok (x == y) w:=λx y=>run_equalIn_int (P:=Tryz.prog) w n 2 .i64 .i64 x y Tryz.underlying2
 have p0:=kC #[.int .i64 a,.int .i64 b,.int .i64 c] 0 _ rfl w;have p1:=kC #[.int .i64 a,.int .i64 b,.int .i64 c] 1 _ rfl w;have p2:=kC #[.int .i64 a,.int .i64 b,.int .i64 c] 2 _ rfl w;have r0:=kC #[.int .i64 d,.int .i64 e,.int .i64 f] 0 _ rfl w;have r1:=kC #[.int .i64 d,.int .i64 e,.int .i64 f] 1 _ rfl w;have r2:=kC #[.int .i64 d,.int .i64 e,.int .i64 f] 2 _ rfl w
 rw [show List.range 3 = [0,1,2] from rfl]
 cases h0 : (a == d) <;> cases h1 : (b == e) <;> cases h2 : (c == f) <;> simp [Op.eqItems,p0,p1,p2,r0,r1,r2,q,h0,h1,h2]
@[go_sem] theorem ahf (a b c d e f : Int) (w : World) :
 (Op.equalIn 9999 22 (.agg #[.int .i64 a,.int .i64 b,.int .i64 c]) (.agg #[.int .i64 d,.int .i64 e,.int .i64 f])).run Tryz.prog w = .ok (a == d && b == e && c == f) w:=Dk a b c d e f 9997 w
theorem Pg : ((Tryz.prog.fieldsOf 52).toList.map λf=>(f.name,f.type,f.offset)) = [("Id",3,0),("Pos",22,1),("Angle",31,4),("Mode",3,5)]:=by kernel_rfl
theorem RZ : Tryz.prog.stoodInHeld 52 = false:=by kernel_rfl
theorem MP : Tryz.prog.underlying 52 = some (.struct (Tryz.prog.fieldsOf 52)):=by kernel_rfl
theorem R8 {d : Nat} {xs ys : Array Value} {w : World} {fs : List Field} {n0 n1 n2 n3 : String} {t0 t1 t2 t3 : TypeId} {o0 o1 o2 o3 : Nat} {a0 a1 a2 a3 b0 b1 b2 b3 : Value} {r0 r1 r2 r3 : Bool}
 (hf : (fs.map λf=>(f.name,f.type,f.offset)) = [(n0,t0,o0),(n1,t1,o1),(n2,t2,o2),(n3,t3,o3)])
 (hn : n0 ≠ "_" /\ n1 ≠ "_" /\ n2 ≠ "_" /\ n3 ≠ "_")
 (ha0 : (part t0 xs o0).run Tryz.prog w = .ok a0 w) (hb0 : (part t0 ys o0).run Tryz.prog w = .ok b0 w) (he0 : (Op.equalIn d t0 a0 b0).run Tryz.prog w = .ok r0 w)
 (ha1 : (part t1 xs o1).run Tryz.prog w = .ok a1 w) (hb1 : (part t1 ys o1).run Tryz.prog w = .ok b1 w) (he1 : (Op.equalIn d t1 a1 b1).run Tryz.prog w = .ok r1 w)
 (ha2 : (part t2 xs o2).run Tryz.prog w = .ok a2 w) (hb2 : (part t2 ys o2).run Tryz.prog w = .ok b2 w) (he2 : (Op.equalIn d t2 a2 b2).run Tryz.prog w = .ok r2 w)
 (ha3 : (part t3 xs o3).run Tryz.prog w = .ok a3 w) (hb3 : (part t3 ys o3).run Tryz.prog w = .ok b3 w) (wM : (Op.equalIn d t3 a3 b3).run Tryz.prog w = .ok r3 w) :
 (Op.eqFields d xs ys fs).run Tryz.prog w = .ok (r0 && r1 && r2 && r3) w:=by
 match fs,hf with
 | [f0,f1,f2,f3],hf =>
   simp only [List.map_cons,List.map_nil,List.cons.injEq,Prod.mk.injEq,and_true] at hf
   obtain ⟨⟨rfl,rfl,rfl⟩,⟨rfl,rfl,rfl⟩,⟨rfl,rfl,rfl⟩,⟨rfl,rfl,rfl⟩⟩:=hf
   obtain ⟨h0,h1,h2,h3⟩:=hn
   cases r0 <;> cases r1 <;> cases r2 <;> cases r3 <;> simp [Op.eqFields,h0,h1,h2,h3,ha0,hb0,he0,ha1,hb1,he1,ha2,hb2,he2,ha3,hb3,wM]
theorem GR (a0 a1 a2 a3 a4 a5 b0 b1 b2 b3 b4 b5 : Int) (w : World) :
 (Op.equalIn 10000 52 (.agg #[.int .i64 a0,.int .i64 a1,.int .i64 a2,.int .i64 a3,.int .u16 a4,.int .i64 a5]) (.agg #[.int .i64 b0,.int .i64 b1,.int .i64 b2,.int .i64 b3,.int .u16 b4,.int .i64 b5])).run Tryz.prog w = .ok (a0 == b0 && (a1 == b1 && a2 == b2 && a3 == b3) && a4 == b4 && a5 == b5) w:=by
 rw [show 10000 = 9999 + 1 from rfl,run_equalIn_struct w 9999 _ _ _ MP RZ]
 exact R8 Pg (by decide)
  (fH Tryz.underlying3 rfl _ 0 _ rfl w) (fH Tryz.underlying3 rfl _ 0 _ rfl w) (run_equalIn_int (P:=Tryz.prog) w 9998 3 .i64 .i64 _ _ Tryz.underlying3)
  (NA _ w) (NA _ w) (Dk _ _ _ _ _ _ 9997 w)
  (fH Tryz.underlying31 rfl _ 4 _ rfl w) (fH Tryz.underlying31 rfl _ 4 _ rfl w) (run_equalIn_int (P:=Tryz.prog) w 9998 31 .u16 .u16 _ _ Tryz.underlying31)
  (fH Tryz.underlying3 rfl _ 5 _ rfl w) (fH Tryz.underlying3 rfl _ 5 _ rfl w) (run_equalIn_int (P:=Tryz.prog) w 9998 3 .i64 .i64 _ _ Tryz.underlying3)
set_option maxHeartbeats 1000000 in
theorem aah (s1 s2 : Option Addr) (n c1 c2 : Nat) (P : Nat -> Po) (w : World) (h1 : dP w s1 n P) (h2 : dP w s2 n P) (hn : (n : Int) <= 4611686018427387904) :
 Calls Tryz.prog 51 #[.slice s1 n c1,.slice s2 n c2] w λe w'=>e = .returned (.bool true) /\ Below w.heap.size w w':=by
 rcases h1 with hz | ⟨b1,o1,rfl,hb1,hc1⟩
 ·subst hz
  go_enter Tryz.func51,Tryz.ntmps51
  go_wp2_with fail
  go_loopw [5] (λi wr=>i = .int .i64 0 /\ Below w.heap.size w wr) (λ_ _=>0)
  case atStart=>exact ⟨rfl,Below.refl _ _⟩
  case round =>
   obtain ⟨rfl,hB⟩:=hrel
   go_wp2
   go_ret
   exact ⟨rfl,hB⟩
 rcases h2 with hz | ⟨b2,o2,rfl,hb2,hc2⟩
 ·subst hz
  go_enter Tryz.func51,Tryz.ntmps51
  go_wp2_with fail
  go_loopw [5] (λi wr=>i = .int .i64 0 /\ Below w.heap.size w wr) (λ_ _=>0)
  case atStart=>exact ⟨rfl,Below.refl _ _⟩
  case round =>
   obtain ⟨rfl,hB⟩:=hrel
   go_wp2
   go_ret
   exact ⟨rfl,hB⟩
 ·go_enter Tryz.func51,Tryz.ntmps51
  go_wp2_with fail
  go_loopw [5] (λi wr=>∃ k : Nat,k <= n /\ i = .int .i64 k /\ Below w.heap.size w wr) (λi _=>n - (intOf i).toNat)
  case atStart=>exact ⟨0,Nat.zero_le _,rfl,Below.refl _ _⟩
  case round =>
   rename_i wr
   obtain ⟨k,hk,rfl,hB⟩:=hrel
   by_cases hlt : k < n
   ·have u1 : kY wr b1 (o1 + k * 6) (P k):=by
     have:=hc1 k hlt
     unfold kY at *
     refine ⟨?_,?_,?_,?_,?_,?_⟩ <;> (rw [hB.cell (by simpa using hb1)];first | exact this.1 | exact this.2.1 | exact this.2.2.1 | exact this.2.2.2.1 | exact this.2.2.2.2.1 | exact this.2.2.2.2.2)
    have u2 : kY wr b2 (o2 + k * 6) (P k):=by
     have:=hc2 k hlt
     unfold kY at *
     refine ⟨?_,?_,?_,?_,?_,?_⟩ <;> (rw [hB.cell (by simpa using hb2)];first | exact this.1 | exact this.2.1 | exact this.2.2.1 | exact this.2.2.2.1 | exact this.2.2.2.2.1 | exact this.2.2.2.2.2)
    have HC:=ajK (And.intro hc1 hc2);clear hc1 hc2
    have hkn : (k : Int) < n:=by omega
    generalize P k = p at *
    obtain ⟨fq,px,py,pz,aG,mode⟩:=p
    obtain ⟨p0,p1,p2,p3,p4,p5⟩:=u1
    obtain ⟨q0,q1,q2,q3,q4,q5⟩:=u2
    dsimp only at p0 p1 p2 p3 p4 p5 q0 q1 q2 q3 q4 q5
    go_wp2_with fail
    refine aS 8 (by kernel_rfl) (by kernel_rfl) ?_
    simp only [List.take_succ_cons,List.take_zero,List.drop_succ_cons,List.drop_zero]
    repeat (apply aF;(next=>(intro W hW K hK;have y0:=hW.cell p0;have y1:=hW.cell p1;have y2:=hW.cell p2;have y3:=hW.cell p3;have y4:=hW.cell p4;have y5:=hW.cell p5;have y6:=hW.cell q0;have y7:=hW.cell q1;have y8:=hW.cell q2;have y9:=hW.cell q3;have Iy:=hW.cell q4;have Nz:=hW.cell q5;go_simp;first | exact ⟨hW,hK⟩ | exact hK));(next=>exact aN.self _);(try go_simp))
    refine aX ?_
    intro WC aO
    have HB2 : Hid (Below w.heap.size w WC):=ajK (hB.trans (Below.mono aO hB.size))
    clear aO p0 p1 p2 p3 p4 p5 q0 q1 q2 q3 q4 q5
    go_wp2
    go_roundw
    case rel=>exact ⟨k + 1,by omega,by go_num,HB2.out⟩
    case measure=>simp [intOf];omega
   ·obtain rfl : k = n:=by omega
    clear hc1 hc2
    go_wp2
    go_ret
    exact ⟨rfl,hB⟩
set_option maxRecDepth 100000
def dB (T : Nat -> Int) (au : Int) (len : Nat) : Nat:=(qZ T au len).toNat
def jO (T : Nat -> Int) (au : Int) (len : Nat) : Nat:=(kM T au len).toNat
def yN (c : aP) (au : Int) (K T : Nat -> Int) (E : Nat -> Option Addr × Nat × Nat) (EE : Nat -> Nat -> ay) (len : Nat) : Int :=
 if jU c K T E EE len = 0 then (if j5 T au len = 0 then
  (if kM T au len < 0 then oU c (K (dB T au len)) (T (dB T au len)) (E (dB T au len)).1 (E (dB T au len)).2.1 (E (dB T au len)).2.2 (EE (dB T au len)) au
   else oQ c (K (dB T au len)) (T (dB T au len)) (E (dB T au len)).1 (E (dB T au len)).2.1 (E (dB T au len)).2.2 (EE (dB T au len)) (K (jO T au len)) (T (jO T au len)) (E (jO T au len)).1 (E (jO T au len)).2.1 (E (jO T au len)).2.2 (EE (jO T au len)) au)
  else j5 T au len) else jU c K T E EE len
def Gj (c : aP) (au : Int) (K T : Nat -> Int) (E : Nat -> Option Addr × Nat × Nat) (EE : Nat -> Nat -> ay) (len : Nat) : Nat :=
 if yN c au K T E EE len = 0 then (E (dB T au len)).2.1 else 0
def Ow (c : aP) (au : Int) (K T : Nat -> Int) (E : Nat -> Option Addr × Nat × Nat) (EE : Nat -> Nat -> ay) (len : Nat) : Nat -> Po :=
 if kM T au len < 0 then DY (DZ c (aQ au (T (dB T au len)))) (D5 c (aQ au (T (dB T au len)))) (EE (dB T au len))
 else Bu c.aC (EE (dB T au len)) (EE (jO T au len)) (E (jO T au len)).2.1 (au - T (dB T au len)) (T (jO T au len) - T (dB T au len))
theorem Ox {T : Nat -> Int} {au : Int} {len : Nat} (h : j5 T au len = 0) : qZ T au len = ((dB T au len : Nat) : Int) /\ dB T au len < len /\ (¬ kM T au len < 0 -> kM T au len = ((jO T au len : Nat) : Int) /\ jO T au len < len):=by
 have hc : gY T len = 0:=by
  unfold j5 at h
  split at h
  ·assumption
  ·contradiction
 have h0 : gL T au len ≠ 0:=by
  unfold j5 at h
  rw [if_pos hc] at h
  intro e
  rw [if_pos e] at h
  exact absurd h (by decide)
 have hl:=Iu T au len
 unfold dB jO qZ kM
 rw [if_pos hc,if_neg h0,if_pos hc,if_neg h0]
 refine ⟨by omega,by omega,λhb=>?_⟩
 split
 ·rename_i e;rw [if_pos e] at hb;omega
 ·omega
set_option maxHeartbeats 1000000 in
theorem acW (c : aP) (ok : c.Ok) (au : Int) (hat : aA au) (s : Option Addr) (len cap : Nat) (K T : Nat -> Int) (E : Nat -> Option Addr × Nat × Nat) (EE : Nat -> Nat -> ay) (w : World) (h : rz w s len K T E EE) (hT : ∀ i,i < len -> aA (T i)) (hlen : (len : Int) <= 4611686018427387904) (h0 : jU c K T E EE len ≠ 0) :
 Calls Tryz.prog 19 #[aT c,.int .i64 au,.slice s len cap] w λe w'=>e = .returned (.tuple #[.slice none 0 0,.int .i64 (jU c K T E EE len)]) /\ Below w.heap.size w w':=by
 have CK:=jJ c s len cap K T E EE (w.alloc (.cells #[.int .i64 c.ring,.int .i64 c.window,.int .i64 c.base,.int .i64 c.gain,.int .i64 c.least,.int .i64 c.most,.int .i64 c.aD,.int .i64 c.num,.int .i64 c.den,.int .i64 c.extra,.bool c.aC] 29)) (h.below (ajL)) hlen;have bc:=ak.new w #[.int .i64 c.ring,.int .i64 c.window,.int .i64 c.base,.int .i64 c.gain,.int .i64 c.least,.int .i64 c.most,.int .i64 c.aD,.int .i64 c.num,.int .i64 c.den,.int .i64 c.extra,.bool c.aC] 29
 have hB0 : Below w.heap.size w (w.alloc (.cells #[.int .i64 c.ring,.int .i64 c.window,.int .i64 c.base,.int .i64 c.gain,.int .i64 c.least,.int .i64 c.most,.int .i64 c.aD,.int .i64 c.num,.int .i64 c.den,.int .i64 c.extra,.bool c.aC] 29)):=ajL
 unfold aT at CK ⊢
 generalize jU c K T E EE len = z at *
 have hz : (z != 0) = true:=by simpa using h0
 go_enter Tryz.func19,Tryz.ntmps19
 go_wp2_with fail
 refine CK.mono ?_;rintro e w1 ⟨rfl,hb1⟩
 have SC:=ajK (bc.below hb1 (by simp))
 have HB1 : Hid (Below w.heap.size w w1):=ajK (hB0.trans (hb1.mono (by simp)))
 clear hb1 CK bc hB0
 go_wp2
 exact bodyPost_ret (v:=.tuple #[.slice none 0 0,.int .i64 z]) (by simp [results,Tryz.results19,go_sem]) rfl ⟨rfl,HB1.out⟩
set_option maxHeartbeats 1000000 in
theorem acX (c : aP) (ok : c.Ok) (au : Int) (hat : aA au) (s : Option Addr) (len cap : Nat) (K T : Nat -> Int) (E : Nat -> Option Addr × Nat × Nat) (EE : Nat -> Nat -> ay) (w : World) (h : rz w s len K T E EE) (hT : ∀ i,i < len -> aA (T i)) (hlen : (len : Int) <= 4611686018427387904) (h0 : jU c K T E EE len = 0) (h1 : j5 T au len ≠ 0) :
 Calls Tryz.prog 19 #[aT c,.int .i64 au,.slice s len cap] w λe w'=>e = .returned (.tuple #[.slice none 0 0,.int .i64 (j5 T au len)]) /\ Below w.heap.size w w':=by
 have CK:=jJ c s len cap K T E EE (w.alloc (.cells #[.int .i64 c.ring,.int .i64 c.window,.int .i64 c.base,.int .i64 c.gain,.int .i64 c.least,.int .i64 c.most,.int .i64 c.aD,.int .i64 c.num,.int .i64 c.den,.int .i64 c.extra,.bool c.aC] 29)) (h.below (ajL)) hlen;have bc:=ak.new w #[.int .i64 c.ring,.int .i64 c.window,.int .i64 c.base,.int .i64 c.gain,.int .i64 c.least,.int .i64 c.most,.int .i64 c.aD,.int .i64 c.num,.int .i64 c.den,.int .i64 c.extra,.bool c.aC] 29
 have hB0 : Below w.heap.size w (w.alloc (.cells #[.int .i64 c.ring,.int .i64 c.window,.int .i64 c.base,.int .i64 c.gain,.int .i64 c.least,.int .i64 c.most,.int .i64 c.aD,.int .i64 c.num,.int .i64 c.den,.int .i64 c.extra,.bool c.aC] 29)):=ajL
 have PK:=λw' hw=>Kn au s len cap K T E w' hw hlen
 unfold aT at CK ⊢
 generalize j5 T au len = z at *
 generalize qZ T au len = pa at *
 generalize kM T au len = pb at *
 have hz : (z != 0) = true:=by simpa using h1
 rw [h0] at CK
 clear h0
 go_enter Tryz.func19,Tryz.ntmps19
 go_wp2_with fail
 refine CK.mono ?_;rintro e w1 ⟨rfl,hb1⟩
 have SC:=ajK (bc.below hb1 (by simp))
 have HB1 : Hid (Below w.heap.size w w1):=ajK (hB0.trans (hb1.mono (by simp)))
 clear hb1 CK bc hB0
 go_wp2_with fail
 refine (PK _ (h.1.below HB1.out)).mono ?_;rintro e w2 ⟨rfl,hb2⟩
 have qG:=ajK (SC.out.below hb2 SC.out.lt)
 have HB2 : Hid (Below w.heap.size w w2):=ajK (HB1.out.trans (hb2.mono HB1.out.size))
 clear hb2 PK SC HB1
 go_wp2
 exact bodyPost_ret (v:=.tuple #[.slice none 0 0,.int .i64 z]) (by simp [results,Tryz.results19,go_sem]) rfl ⟨rfl,HB2.out⟩
set_option maxHeartbeats 2000000 in
theorem acY (c : aP) (ok : c.Ok) (au : Int) (hat : aA au) (s : Option Addr) (len cap : Nat) (K T : Nat -> Int) (E : Nat -> Option Addr × Nat × Nat) (EE : Nat -> Nat -> ay) (w : World) (h : rz w s len K T E EE) (hT : ∀ i,i < len -> aA (T i)) (hlen : (len : Int) <= 4611686018427387904) (h0 : jU c K T E EE len = 0) (h1 : j5 T au len = 0) (hb : kM T au len < 0) :
 Calls Tryz.prog 19 #[aT c,.int .i64 au,.slice s len cap] w (rQ w (AA (oU c (K (dB T au len)) (T (dB T au len)) (E (dB T au len)).1 (E (dB T au len)).2.1 (E (dB T au len)).2.2 (EE (dB T au len)) au) (E (dB T au len)).2.1) (oU c (K (dB T au len)) (T (dB T au len)) (E (dB T au len)).1 (E (dB T au len)).2.1 (E (dB T au len)).2.2 (EE (dB T au len)) au) (DY (DZ c (aQ au (T (dB T au len)))) (D5 c (aQ au (T (dB T au len)))) (EE (dB T au len)))):=by
 obtain ⟨hpa,hva,_⟩:=Ox h1
 generalize dB T au len = va at *
 have BY:=λw' (hw : Below w.heap.size w w')=>aaf c ok (K va) (T va) (E va).1 (E va).2.1 (E va).2.2 (EE va) au w' (hT va hva) hat ((h.2 va hva).1.below hw) (h.2 va hva).2
 unfold rQ at BY ⊢
 generalize AA (oU c (K va) (T va) (E va).1 (E va).2.1 (E va).2.2 (EE va) au) (E va).2.1 = rn at *
 generalize oU c (K va) (T va) (E va).1 (E va).2.1 (E va).2.2 (EE va) au = re at *
 generalize (DY (DZ c (aQ au (T va))) (D5 c (aQ au (T va))) (EE va)) = rp at *
 have CK:=jJ c s len cap K T E EE (w.alloc (.cells #[.int .i64 c.ring,.int .i64 c.window,.int .i64 c.base,.int .i64 c.gain,.int .i64 c.least,.int .i64 c.most,.int .i64 c.aD,.int .i64 c.num,.int .i64 c.den,.int .i64 c.extra,.bool c.aC] 29)) (h.below (ajL)) hlen;have bc:=ak.new w #[.int .i64 c.ring,.int .i64 c.window,.int .i64 c.base,.int .i64 c.gain,.int .i64 c.least,.int .i64 c.most,.int .i64 c.aD,.int .i64 c.num,.int .i64 c.den,.int .i64 c.extra,.bool c.aC] 29
 have hB0 : Below w.heap.size w (w.alloc (.cells #[.int .i64 c.ring,.int .i64 c.window,.int .i64 c.base,.int .i64 c.gain,.int .i64 c.least,.int .i64 c.most,.int .i64 c.aD,.int .i64 c.num,.int .i64 c.den,.int .i64 c.extra,.bool c.aC] 29)):=ajL
 have PK:=λw' hw=>Kn au s len cap K T E w' hw hlen
 unfold aT at CK ⊢
 rw [h1,hpa] at PK
 generalize kM T au len = pb at *
 rw [h0] at CK
 unfold aT bC at BY
 have hpb : decide (pb < 0) = true:=decide_eq_true hb
 clear h0 h1 hpa;have HS:=ajK h
 go_enter Tryz.func19,Tryz.ntmps19
 go_wp2_with fail
 refine CK.mono ?_;rintro e w1 ⟨rfl,hb1⟩
 have SC:=ajK (bc.below hb1 (by simp))
 have HB1 : Hid (Below w.heap.size w w1):=ajK (hB0.trans (hb1.mono (by simp)))
 clear hb1 CK bc hB0
 go_wp2_with fail
 refine (PK _ (h.1.below HB1.out)).mono ?_;rintro e w2 ⟨rfl,hb2⟩
 have qG:=ajK (SC.out.below hb2 SC.out.lt)
 have HB2 : Hid (Below w.heap.size w w2):=ajK (HB1.out.trans (hb2.mono HB1.out.size))
 clear hb2 PK SC HB1
 obtain ⟨q0,q1,q2,q3,q4,q5,q6,q7,q8,q9,jG⟩:=dJ qG.out
 have ai3:=hb;clear hb
 rcases HS.out.1 with hz | ⟨b,off,rfl,hb,hcs⟩
 ·omega
 have hval : (va : Int) < len:=by omega
 obtain ⟨d0,d1,d2⟩:=hcs va hva
 have s0:=(HB2.out.cell (p:=⟨b,off + va * 3,none⟩) hb).trans d0;have s1:=(HB2.out.cell (p:=⟨b,off + va * 3 + 1,none⟩) hb).trans d1;have s2:=(HB2.out.cell (p:=⟨b,off + va * 3 + 2,none⟩) hb).trans d2;clear d0 d1 d2
 have BY2:=ajK (λw' (hw : Below w2.heap.size w2 w')=>BY w' (HB2.out.trans (hw.mono HB2.out.size)))
 clear BY hcs h HS
 generalize K va = ka at *
 generalize T va = ta at *
 generalize (E va).1 = ea at *
 generalize (E va).2.1 = el at *
 generalize (E va).2.2 = ec at *
 go_wp2_with fail
 go_region_with (go_at_call 47;refine (BY2.out _ (below_drewN ajM 1)).mono ?_;rintro e w3 ⟨s3,c3,rfl,hp3,hb3⟩)
 all_goals
  have HP3:=ajK hp3
  have HB3 : Hid (Below w.heap.size w w3):=ajK (HB2.out.trans (Below.trans (below_drewN ajM 1) (hb3.mono HB2.out.size)))
  clear hp3 hb3
  go_wp2
  exact bodyPost_ret (v:=.tuple #[.slice s3 rn c3,.int .i64 re]) (by simp [results,Tryz.results19,go_sem]) rfl ⟨s3,c3,rfl,HP3.out,HB3.out⟩
set_option maxHeartbeats 4000000 in
theorem acZ (c : aP) (ok : c.Ok) (au : Int) (hat : aA au) (s : Option Addr) (len cap : Nat) (K T : Nat -> Int) (E : Nat -> Option Addr × Nat × Nat) (EE : Nat -> Nat -> ay) (w : World) (h : rz w s len K T E EE) (hT : ∀ i,i < len -> aA (T i)) (hlen : (len : Int) <= 4611686018427387904) (h0 : jU c K T E EE len = 0) (h1 : j5 T au len = 0) (hb : ¬ kM T au len < 0) :
 Calls Tryz.prog 19 #[aT c,.int .i64 au,.slice s len cap] w (rQ w (AA (oQ c (K (dB T au len)) (T (dB T au len)) (E (dB T au len)).1 (E (dB T au len)).2.1 (E (dB T au len)).2.2 (EE (dB T au len)) (K (jO T au len)) (T (jO T au len)) (E (jO T au len)).1 (E (jO T au len)).2.1 (E (jO T au len)).2.2 (EE (jO T au len)) au) (E (dB T au len)).2.1) (oQ c (K (dB T au len)) (T (dB T au len)) (E (dB T au len)).1 (E (dB T au len)).2.1 (E (dB T au len)).2.2 (EE (dB T au len)) (K (jO T au len)) (T (jO T au len)) (E (jO T au len)).1 (E (jO T au len)).2.1 (E (jO T au len)).2.2 (EE (jO T au len)) au) (Bu c.aC (EE (dB T au len)) (EE (jO T au len)) (E (jO T au len)).2.1 (au - T (dB T au len)) (T (jO T au len) - T (dB T au len)))):=by
 obtain ⟨hpa,hva,hpb⟩:=Ox h1
 obtain ⟨hpb,hvb⟩:=hpb hb
 generalize dB T au len = va at *
 generalize jO T au len = vb at *
 have BY:=λw' (hw : Below w.heap.size w w')=>aae c (K va) (T va) (E va).1 (E va).2.1 (E va).2.2 (EE va) (K vb) (T vb) (E vb).1 (E vb).2.1 (E vb).2.2 (EE vb) au w' ((h.2 va hva).1.below hw) ((h.2 vb hvb).1.below hw) (h.2 va hva).2 (h.2 vb hvb).2
 unfold rQ at BY ⊢
 generalize AA (oQ c (K va) (T va) (E va).1 (E va).2.1 (E va).2.2 (EE va) (K vb) (T vb) (E vb).1 (E vb).2.1 (E vb).2.2 (EE vb) au) (E va).2.1 = rn at *
 generalize oQ c (K va) (T va) (E va).1 (E va).2.1 (E va).2.2 (EE va) (K vb) (T vb) (E vb).1 (E vb).2.1 (E vb).2.2 (EE vb) au = re at *
 generalize (Bu c.aC (EE va) (EE vb) (E vb).2.1 (au - T va) (T vb - T va)) = rp at *
 have CK:=jJ c s len cap K T E EE (w.alloc (.cells #[.int .i64 c.ring,.int .i64 c.window,.int .i64 c.base,.int .i64 c.gain,.int .i64 c.least,.int .i64 c.most,.int .i64 c.aD,.int .i64 c.num,.int .i64 c.den,.int .i64 c.extra,.bool c.aC] 29)) (h.below (ajL)) hlen;have bc:=ak.new w #[.int .i64 c.ring,.int .i64 c.window,.int .i64 c.base,.int .i64 c.gain,.int .i64 c.least,.int .i64 c.most,.int .i64 c.aD,.int .i64 c.num,.int .i64 c.den,.int .i64 c.extra,.bool c.aC] 29
 have hB0 : Below w.heap.size w (w.alloc (.cells #[.int .i64 c.ring,.int .i64 c.window,.int .i64 c.base,.int .i64 c.gain,.int .i64 c.least,.int .i64 c.most,.int .i64 c.aD,.int .i64 c.num,.int .i64 c.den,.int .i64 c.extra,.bool c.aC] 29)):=ajL
 have PK:=λw' hw=>Kn au s len cap K T E w' hw hlen
 unfold aT at CK ⊢
 rw [h1,hpa,hpb] at PK
 rw [h0] at CK
 unfold aT bC at BY
 have ai4 : decide ((vb : Int) < 0) = false:=decide_eq_false (by omega)
 clear h0 h1 hpa hpb hb;have HS:=ajK h
 go_enter Tryz.func19,Tryz.ntmps19
 go_wp2_with fail
 refine CK.mono ?_;rintro e w1 ⟨rfl,hb1⟩
 have SC:=ajK (bc.below hb1 (by simp))
 have HB1 : Hid (Below w.heap.size w w1):=ajK (hB0.trans (hb1.mono (by simp)))
 clear hb1 CK bc hB0
 go_wp2_with fail
 refine (PK _ (h.1.below HB1.out)).mono ?_;rintro e w2 ⟨rfl,hb2⟩
 have qG:=ajK (SC.out.below hb2 SC.out.lt)
 have HB2 : Hid (Below w.heap.size w w2):=ajK (HB1.out.trans (hb2.mono HB1.out.size))
 clear hb2 PK SC HB1
 obtain ⟨q0,q1,q2,q3,q4,q5,q6,q7,q8,q9,jG⟩:=dJ qG.out
 rcases HS.out.1 with hz | ⟨b,off,rfl,hb,hcs⟩
 ·omega
 have hval : (va : Int) < len:=by omega
 have ai5 : (vb : Int) < len:=by omega
 obtain ⟨d0,d1,d2⟩:=hcs va hva
 have s0:=(HB2.out.cell (p:=⟨b,off + va * 3,none⟩) hb).trans d0;have s1:=(HB2.out.cell (p:=⟨b,off + va * 3 + 1,none⟩) hb).trans d1;have s2:=(HB2.out.cell (p:=⟨b,off + va * 3 + 2,none⟩) hb).trans d2;clear d0 d1 d2
 obtain ⟨d0,d1,d2⟩:=hcs vb hvb
 have r0:=(HB2.out.cell (p:=⟨b,off + vb * 3,none⟩) hb).trans d0;have r1:=(HB2.out.cell (p:=⟨b,off + vb * 3 + 1,none⟩) hb).trans d1;have r2:=(HB2.out.cell (p:=⟨b,off + vb * 3 + 2,none⟩) hb).trans d2;clear d0 d1 d2
 have BY2:=ajK (λw' (hw : Below w2.heap.size w2 w')=>BY w' (HB2.out.trans (hw.mono HB2.out.size)))
 clear BY hcs h HS
 generalize K va = ka at *
 generalize T va = ta at *
 generalize (E va).1 = ea at *
 generalize (E va).2.1 = el at *
 generalize (E va).2.2 = ec at *
 generalize K vb = kb at *
 generalize T vb = tb at *
 generalize (E vb).1 = fa at *
 generalize (E vb).2.1 = fl at *
 generalize (E vb).2.2 = fc at *
 go_wp2_with fail
 go_region_with (go_at_call 48;refine (BY2.out _ (below_drewN ajM 1)).mono ?_;rintro e w3 ⟨s3,c3,rfl,hp3,hb3⟩)
 all_goals
  have HP3:=ajK hp3
  have HB3 : Hid (Below w.heap.size w w3):=ajK (HB2.out.trans (Below.trans (below_drewN ajM 1) (hb3.mono HB2.out.size)))
  clear hp3 hb3
  go_wp2
  exact bodyPost_ret (v:=.tuple #[.slice s3 rn c3,.int .i64 re]) (by simp [results,Tryz.results19,go_sem]) rfl ⟨s3,c3,rfl,HP3.out,HB3.out⟩
theorem ac0 (c : aP) (ok : c.Ok) (au : Int) (hat : aA au) (s : Option Addr) (len cap : Nat) (K T : Nat -> Int) (E : Nat -> Option Addr × Nat × Nat) (EE : Nat -> Nat -> ay) (w : World) (h : rz w s len K T E EE) (hT : ∀ i,i < len -> aA (T i)) (hlen : (len : Int) <= 4611686018427387904) : Calls Tryz.prog 19 #[aT c,.int .i64 au,.slice s len cap] w (rQ w (Gj c au K T E EE len) (yN c au K T E EE len) (Ow c au K T E EE len)):=by
 by_cases h0 : jU c K T E EE len = 0
 ·by_cases h1 : j5 T au len = 0
  ·by_cases hb : kM T au len < 0
   ·have e : yN c au K T E EE len = oU c (K (dB T au len)) (T (dB T au len)) (E (dB T au len)).1 (E (dB T au len)).2.1 (E (dB T au len)).2.2 (EE (dB T au len)) au:=by unfold yN;rw [if_pos h0,if_pos h1,if_pos hb]
    unfold Gj Ow
    rw [e,if_pos hb]
    exact acY c ok au hat s len cap K T E EE w h hT hlen h0 h1 hb
   ·have e : yN c au K T E EE len = oQ c (K (dB T au len)) (T (dB T au len)) (E (dB T au len)).1 (E (dB T au len)).2.1 (E (dB T au len)).2.2 (EE (dB T au len)) (K (jO T au len)) (T (jO T au len)) (E (jO T au len)).1 (E (jO T au len)).2.1 (E (jO T au len)).2.2 (EE (jO T au len)) au:=by unfold yN;rw [if_pos h0,if_pos h1,if_neg hb]
    unfold Gj Ow
    rw [e,if_neg hb]
    exact acZ c ok au hat s len cap K T E EE w h hT hlen h0 h1 hb
  ·have e : yN c au K T E EE len = j5 T au len:=by unfold yN;rw [if_pos h0,if_neg h1]
   unfold Gj
   rw [e,if_neg h1]
   exact (acX c ok au hat s len cap K T E EE w h hT hlen h0 h1).mono λe w' ⟨h2,h3⟩=>⟨none,0,h2,.inl rfl,h3⟩
 ·have e : yN c au K T E EE len = jU c K T E EE len:=by unfold yN;rw [if_neg h0]
  unfold Gj
  rw [e,if_neg h0]
  exact (acW c ok au hat s len cap K T E EE w h hT hlen h0).mono λe w' ⟨h2,h3⟩=>⟨none,0,h2,.inl rfl,h3⟩
end Go.Proofs.YtklkooeimkedgaaGreat
