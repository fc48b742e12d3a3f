/- Walk of TopExact. -/
import Derived.DeepKeys
import Derived.Test.YtklkooeimkedgaaGreatE31
set_option linter.unusedVariables false
set_option linter.unusedSimpArgs false
namespace Go.Proofs.YtklkooeimkedgaaGreat
open Go.RowKit
set_option maxRecDepth 100000
def qO (w : World) (n : Nat) (E : Int) (P : Nat -> Po) (e : Ending) (w' : World) : Prop :=
 ∃ s cp,e = .returned (.tuple #[.slice s n cp,.int .i64 E]) /\ dY w' s n P /\ Below w.heap.size w w'
def nS (c : aN) (ka ta : Int) (aa : Option Addr) (la ca : Nat) (A : Nat -> aA) (kb tb : Int) (ab : Option Addr) (lb cb : Nat) (B : Nat -> aA) (au : Int) : Int :=
 if nu c ka ta aa la ca A kb tb ab lb cb B = 0 then jl ta tb au else nu c ka ta aa la ca A kb tb ab lb cb B
def nT (c : aN) (ka ta : Int) (aa : Option Addr) (la ca : Nat) (A : Nat -> aA) (au : Int) : Int :=
 if lQ c ka ta aa la ca A = 0 then kX ta au else lQ c ka ta aa la ca A
def zY (E : Int) (n : Nat) : Nat:=if E = 0 then n else 0
theorem YH (c : aN) (ka ta : Int) (aa : Option Addr) (la ca : Nat) (A : Nat -> aA) (kb tb : Int) (ab : Option Addr) (lb cb : Nat) (B : Nat -> aA) (au : Int) (w : World) (ha : dx w aa la A) (hb : dx w ab lb B) (hla : (la : Int) <= 4611686018427387904) (hlb : (lb : Int) <= 4611686018427387904) :
 Calls Tryz.prog 48 #[aY c,bP ka ta aa la ca,bP kb tb ab lb cb,.int .i64 au] w (qO w (zY (nS c ka ta aa la ca A kb tb ab lb cb B au) la) (nS c ka ta aa la ca A kb tb ab lb cb B au) (zH c.aB A B lb (au - ta) (tb - ta))):=by
 by_cases h0 : nu c ka ta aa la ca A kb tb ab lb cb B = 0
 ·by_cases h1 : jl ta tb au = 0
  ·have e : nS c ka ta aa la ca A kb tb ab lb cb B au = 0:=by unfold nS;rw [if_pos h0,h1]
   rw [e]
   unfold qO zY
   rw [if_pos rfl]
   cases hc : c.aB
   ·exact Qg c hc ka ta aa la ca A kb tb ab lb cb B au w ha hb hla hlb h0 h1
   ·exact La c hc ka ta aa la ca A kb tb ab lb cb B au w ha hb hla hlb h0 h1
  ·have e : nS c ka ta aa la ca A kb tb ab lb cb B au = jl ta tb au:=by unfold nS;rw [if_pos h0]
   rw [e]
   unfold qO zY
   rw [if_neg h1]
   exact (Qf c ka ta aa la ca A kb tb ab lb cb B au w ha hb hla hlb h0 h1).mono λe w' ⟨h2,h3⟩=>⟨none,0,h2,.inl rfl,h3⟩
 ·have e : nS c ka ta aa la ca A kb tb ab lb cb B au = nu c ka ta aa la ca A kb tb ab lb cb B:=by unfold nS;rw [if_neg h0]
  rw [e]
  unfold qO zY
  rw [if_neg h0]
  exact (TH c ka ta aa la ca A kb tb ab lb cb B au w ha hb hla hlb h0).mono λe w' ⟨h2,h3⟩=>⟨none,0,h2,.inl rfl,h3⟩
theorem YI (c : aN) (ok : c.Ok) (ka ta : Int) (aa : Option Addr) (la ca : Nat) (A : Nat -> aA) (au : Int) (w : World) (xB : ay ta) (hat : ay au) (ha : dx w aa la A) (hla : (la : Int) <= 4611686018427387904) :
 Calls Tryz.prog 47 #[aY c,bP ka ta aa la ca,.int .i64 au] w (qO w (zY (nT c ka ta aa la ca A au) la) (nT c ka ta aa la ca A au) (AY (xw c (aM au ta)) (xA c (aM au ta)) A)):=by
 by_cases h0 : lQ c ka ta aa la ca A = 0
 ·by_cases h1 : kX ta au = 0
  ·have e : nT c ka ta aa la ca A au = 0:=by unfold nT;rw [if_pos h0,h1]
   rw [e]
   unfold qO zY
   rw [if_pos rfl]
   obtain ⟨_,hex,_,_⟩:=Cv h0
   by_cases hd : aM au ta = 0
   ·have:=YE c ok ka ta aa la ca A au w xB hat ha hla h0 h1 hd
    rw [show xw c (aM au ta) = 0 by unfold xw;rw [if_pos hd],show xA c (aM au ta) = 0 by unfold xA;rw [if_neg (by omega)];exact hd]
    exact this
   ·by_cases hf : c.extra < aM au ta
    ·have:=YF c ok ka ta aa la ca A au w xB hat ha hla h0 h1 hd hf
     rw [show xw c (aM au ta) = 4 by unfold xw;rw [if_neg hd,if_pos hf],show xA c (aM au ta) = c.extra by unfold xA;rw [if_pos hf]]
     exact this
    ·have:=YG c ok ka ta aa la ca A au w xB hat ha hla h0 h1 hd hf
     rw [show xw c (aM au ta) = 3 by unfold xw;rw [if_neg hd,if_neg hf],show xA c (aM au ta) = aM au ta by unfold xA;rw [if_neg hf]]
     exact this
  ·have e : nT c ka ta aa la ca A au = kX ta au:=by unfold nT;rw [if_pos h0]
   rw [e]
   unfold qO zY
   rw [if_neg h1]
   exact (Qr c ka ta aa la ca A au w xB hat ha hla h0 h1).mono λe w' ⟨h2,h3⟩=>⟨none,0,h2,.inl rfl,h3⟩
 ·have e : nT c ka ta aa la ca A au = lQ c ka ta aa la ca A:=by unfold nT;rw [if_neg h0]
  rw [e]
  unfold qO zY
  rw [if_neg h0]
  exact (TJ c ka ta aa la ca A au w xB hat ha hla h0).mono λe w' ⟨h2,h3⟩=>⟨none,0,h2,.inl rfl,h3⟩
theorem Qt : (Tryz.prog.info? 22).map (λi=>i.size) = some 3:=by kernel_rfl
theorem L8 (cs : Array Value) (w : World) : (part 22 cs 1).run Tryz.prog w = .ok (.agg (cs.extract 1 4)) w:=by
 obtain ⟨i,hi,hz⟩:=Option.map_eq_some_iff.1 Qt
 simp [part,isAgg,run_underlying Tryz.underlying22,run_sizeOf w hi,hz]
theorem eO {t : TypeId} {d : TypeDesc} (hu : Tryz.prog.underlying t = some d) (hd : (match d with | .array _ _=>true | .struct _=>true | _=>false) = false) (cs : Array Value) (off : Nat) (v : Value) (h : cs[off]? = some v) (w : World) : (part t cs off).run Tryz.prog w = .ok v w:=by
 cases d <;> simp_all [part,isAgg,run_underlying hu]
theorem ED (a b c d e f : Int) (n : Nat) (w : World) :
 (Op.equalIn (n + 2) 22 (.agg #[.int .i64 a,.int .i64 b,.int .i64 c]) (.agg #[.int .i64 d,.int .i64 e,.int .i64 f])).run Tryz.prog w = .ok (a == d && b == e && c == f) w:=by
 obtain ⟨i,hi⟩:=Jo
 rw [run_equalIn_array w (n + 1) _ _ Tryz.underlying22 hi,show Tryz.prog.cellsOf 2 = 1 by kernel_rfl]
 have q : ∀ x y : Int,(Op.equalIn (n + 1) 2 (.int .i64 x) (.int .i64 y)).run Tryz.prog w = .ok (x == y) w:=λx y=>run_equalIn_int (P:=Tryz.prog) w n 2 .i64 .i64 x y Tryz.underlying2
 have p0:=jS #[.int .i64 a,.int .i64 b,.int .i64 c] 0 _ rfl w;have p1:=jS #[.int .i64 a,.int .i64 b,.int .i64 c] 1 _ rfl w;have p2:=jS #[.int .i64 a,.int .i64 b,.int .i64 c] 2 _ rfl w;have r0:=jS #[.int .i64 d,.int .i64 e,.int .i64 f] 0 _ rfl w;have r1:=jS #[.int .i64 d,.int .i64 e,.int .i64 f] 1 _ rfl w;have r2:=jS #[.int .i64 d,.int .i64 e,.int .i64 f] 2 _ rfl w
 rw [show List.range 3 = [0,1,2] from rfl]
 cases h0 : (a == d) <;> cases h1 : (b == e) <;> cases h2 : (c == f) <;> simp [Op.eqItems,p0,p1,p2,r0,r1,r2,q,h0,h1,h2]
theorem Nt : ((Tryz.prog.fieldsOf 52).toList.map λf=>(f.name,f.type,f.offset)) = [("Id",3,0),("Pos",22,1),("Angle",31,4),("Mode",3,5)]:=by kernel_rfl
theorem Qu : Tryz.prog.stoodInHeld 52 = false:=by kernel_rfl
theorem Lb : Tryz.prog.underlying 52 = some (.struct (Tryz.prog.fieldsOf 52)):=by kernel_rfl
theorem Qv {d : Nat} {xs ys : Array Value} {w : World} {fs : List Field} {n0 n1 n2 n3 : String} {t0 t1 t2 t3 : TypeId} {o0 o1 o2 o3 : Nat} {a0 a1 a2 a3 b0 b1 b2 b3 : Value} {r0 r1 r2 r3 : Bool}
 (hf : (fs.map λf=>(f.name,f.type,f.offset)) = [(n0,t0,o0),(n1,t1,o1),(n2,t2,o2),(n3,t3,o3)])
 (hn : n0 ≠ "_" /\ n1 ≠ "_" /\ n2 ≠ "_" /\ n3 ≠ "_")
 (ha0 : (part t0 xs o0).run Tryz.prog w = .ok a0 w) (hb0 : (part t0 ys o0).run Tryz.prog w = .ok b0 w) (he0 : (Op.equalIn d t0 a0 b0).run Tryz.prog w = .ok r0 w)
 (ha1 : (part t1 xs o1).run Tryz.prog w = .ok a1 w) (hb1 : (part t1 ys o1).run Tryz.prog w = .ok b1 w) (he1 : (Op.equalIn d t1 a1 b1).run Tryz.prog w = .ok r1 w)
 (ha2 : (part t2 xs o2).run Tryz.prog w = .ok a2 w) (hb2 : (part t2 ys o2).run Tryz.prog w = .ok b2 w) (he2 : (Op.equalIn d t2 a2 b2).run Tryz.prog w = .ok r2 w)
 (YJ : (part t3 xs o3).run Tryz.prog w = .ok a3 w) (hb3 : (part t3 ys o3).run Tryz.prog w = .ok b3 w) (qY : (Op.equalIn d t3 a3 b3).run Tryz.prog w = .ok r3 w) :
 (Op.eqFields d xs ys fs).run Tryz.prog w = .ok (r0 && r1 && r2 && r3) w:=by
 match fs,hf with
 | [f0,f1,f2,f3],hf =>
   simp only [List.map_cons,List.map_nil,List.cons.injEq,Prod.mk.injEq,and_true] at hf
   obtain ⟨⟨rfl,rfl,rfl⟩,⟨rfl,rfl,rfl⟩,⟨rfl,rfl,rfl⟩,⟨rfl,rfl,rfl⟩⟩:=hf
   obtain ⟨h0,h1,h2,h3⟩:=hn
   cases r0 <;> cases r1 <;> cases r2 <;> cases r3 <;> simp [Op.eqFields,h0,h1,h2,h3,ha0,hb0,he0,ha1,hb1,he1,ha2,hb2,he2,YJ,hb3,qY]
theorem FY (a0 a1 a2 a3 a4 a5 b0 b1 b2 b3 b4 b5 : Int) (w : World) :
 (Op.equalIn 10000 52 (.agg #[.int .i64 a0,.int .i64 a1,.int .i64 a2,.int .i64 a3,.int .u16 a4,.int .i64 a5]) (.agg #[.int .i64 b0,.int .i64 b1,.int .i64 b2,.int .i64 b3,.int .u16 b4,.int .i64 b5])).run Tryz.prog w = .ok (a0 == b0 && (a1 == b1 && a2 == b2 && a3 == b3) && a4 == b4 && a5 == b5) w:=by
 rw [show 10000 = 9999 + 1 from rfl,run_equalIn_struct w 9999 _ _ _ Lb Qu]
 exact Qv Nt (by decide)
  (eO Tryz.underlying3 rfl _ 0 _ rfl w) (eO Tryz.underlying3 rfl _ 0 _ rfl w) (run_equalIn_int (P:=Tryz.prog) w 9998 3 .i64 .i64 _ _ Tryz.underlying3)
  (L8 _ w) (L8 _ w) (ED _ _ _ _ _ _ 9997 w)
  (eO Tryz.underlying31 rfl _ 4 _ rfl w) (eO Tryz.underlying31 rfl _ 4 _ rfl w) (run_equalIn_int (P:=Tryz.prog) w 9998 31 .u16 .u16 _ _ Tryz.underlying31)
  (eO Tryz.underlying3 rfl _ 5 _ rfl w) (eO Tryz.underlying3 rfl _ 5 _ rfl w) (run_equalIn_int (P:=Tryz.prog) w 9998 3 .i64 .i64 _ _ Tryz.underlying3)
set_option maxRecDepth 100000
def cO (T : Nat -> Int) (au : Int) (len : Nat) : Nat:=(pF T au len).toNat
def jg (T : Nat -> Int) (au : Int) (len : Nat) : Nat:=(iV T au len).toNat
def rC (c : aN) (au : Int) (K T : Nat -> Int) (E : Nat -> Option Addr × Nat × Nat) (EE : Nat -> Nat -> aA) (len : Nat) : Int :=
 if gD c K T E EE len = 0 then (if iN T au len = 0 then
  (if iV T au len < 0 then nT c (K (cO T au len)) (T (cO T au len)) (E (cO T au len)).1 (E (cO T au len)).2.1 (E (cO T au len)).2.2 (EE (cO T au len)) au
   else nS c (K (cO T au len)) (T (cO T au len)) (E (cO T au len)).1 (E (cO T au len)).2.1 (E (cO T au len)).2.2 (EE (cO T au len)) (K (jg T au len)) (T (jg T au len)) (E (jg T au len)).1 (E (jg T au len)).2.1 (E (jg T au len)).2.2 (EE (jg T au len)) au)
  else iN T au len) else gD c K T E EE len
def Ci (c : aN) (au : Int) (K T : Nat -> Int) (E : Nat -> Option Addr × Nat × Nat) (EE : Nat -> Nat -> aA) (len : Nat) : Nat :=
 if rC c au K T E EE len = 0 then (E (cO T au len)).2.1 else 0
def Ij (c : aN) (au : Int) (K T : Nat -> Int) (E : Nat -> Option Addr × Nat × Nat) (EE : Nat -> Nat -> aA) (len : Nat) : Nat -> Po :=
 if iV T au len < 0 then AY (xw c (aM au (T (cO T au len)))) (xA c (aM au (T (cO T au len)))) (EE (cO T au len))
 else zH c.aB (EE (cO T au len)) (EE (jg T au len)) (E (jg T au len)).2.1 (au - T (cO T au len)) (T (jg T au len) - T (cO T au len))
theorem MQ {T : Nat -> Int} {au : Int} {len : Nat} (h : iN T au len = 0) : pF T au len = ((cO T au len : Nat) : Int) /\ cO T au len < len /\ (¬ iV T au len < 0 -> iV T au len = ((jg T au len : Nat) : Int) /\ jg T au len < len):=by
 have hc : eu T len = 0:=by
  unfold iN at h
  split at h
  ·assumption
  ·contradiction
 have h0 : bE T au len ≠ 0:=by
  unfold iN at h
  rw [if_pos hc] at h
  intro e
  rw [if_pos e] at h
  exact absurd h (by decide)
 have hl:=AP T au len
 unfold cO jg pF iV
 rw [if_pos hc,if_neg h0,if_pos hc,if_neg h0]
 refine ⟨by omega,by omega,λhb=>?_⟩
 split
 ·rename_i e;rw [if_pos e] at hb;omega
 ·omega
set_option maxHeartbeats 1000000 in
theorem abb (c : aN) (ok : c.Ok) (au : Int) (hat : ay au) (s : Option Addr) (len cap : Nat) (K T : Nat -> Int) (E : Nat -> Option Addr × Nat × Nat) (EE : Nat -> Nat -> aA) (w : World) (h : qE w s len K T E EE) (hT : ∀ i,i < len -> ay (T i)) (hlen : (len : Int) <= 4611686018427387904) (h0 : gD c K T E EE len ≠ 0) :
 Calls Tryz.prog 19 #[aY c,.int .i64 au,.slice s len cap] w λe w'=>e = .returned (.tuple #[.slice none 0 0,.int .i64 (gD c K T E EE len)]) /\ Below w.heap.size w w':=by
 have CK:=jy c s len cap K T E EE (w.alloc (.cells #[.int .i64 c.ring,.int .i64 c.window,.int .i64 c.base,.int .i64 c.gain,.int .i64 c.least,.int .i64 c.most,.int .i64 c.aC,.int .i64 c.num,.int .i64 c.den,.int .i64 c.extra,.bool c.aB] 29)) (h.below (ah7)) hlen;have bc:=ak.new w #[.int .i64 c.ring,.int .i64 c.window,.int .i64 c.base,.int .i64 c.gain,.int .i64 c.least,.int .i64 c.most,.int .i64 c.aC,.int .i64 c.num,.int .i64 c.den,.int .i64 c.extra,.bool c.aB] 29
 have hB0 : Below w.heap.size w (w.alloc (.cells #[.int .i64 c.ring,.int .i64 c.window,.int .i64 c.base,.int .i64 c.gain,.int .i64 c.least,.int .i64 c.most,.int .i64 c.aC,.int .i64 c.num,.int .i64 c.den,.int .i64 c.extra,.bool c.aB] 29)):=ah7
 unfold aY at CK ⊢
 generalize gD c K T E EE len = z at *
 have hz : (z != 0) = true:=by simpa using h0
 go_enter Tryz.func19,Tryz.ntmps19
 go_wp2_with fail
 refine CK.mono ?_;rintro e w1 ⟨rfl,hb1⟩
 have SC:=ah6 (bc.below hb1 (by simp))
 have HB1 : Hid (Below w.heap.size w w1):=ah6 (hB0.trans (hb1.mono (by simp)))
 clear hb1 CK bc hB0
 go_wp2
 exact bodyPost_ret (v:=.tuple #[.slice none 0 0,.int .i64 z]) (by simp [results,Tryz.results19,go_sem]) rfl ⟨rfl,HB1.out⟩
set_option maxHeartbeats 1000000 in
theorem abd (c : aN) (ok : c.Ok) (au : Int) (hat : ay au) (s : Option Addr) (len cap : Nat) (K T : Nat -> Int) (E : Nat -> Option Addr × Nat × Nat) (EE : Nat -> Nat -> aA) (w : World) (h : qE w s len K T E EE) (hT : ∀ i,i < len -> ay (T i)) (hlen : (len : Int) <= 4611686018427387904) (h0 : gD c K T E EE len = 0) (h1 : iN T au len ≠ 0) :
 Calls Tryz.prog 19 #[aY c,.int .i64 au,.slice s len cap] w λe w'=>e = .returned (.tuple #[.slice none 0 0,.int .i64 (iN T au len)]) /\ Below w.heap.size w w':=by
 have CK:=jy c s len cap K T E EE (w.alloc (.cells #[.int .i64 c.ring,.int .i64 c.window,.int .i64 c.base,.int .i64 c.gain,.int .i64 c.least,.int .i64 c.most,.int .i64 c.aC,.int .i64 c.num,.int .i64 c.den,.int .i64 c.extra,.bool c.aB] 29)) (h.below (ah7)) hlen;have bc:=ak.new w #[.int .i64 c.ring,.int .i64 c.window,.int .i64 c.base,.int .i64 c.gain,.int .i64 c.least,.int .i64 c.most,.int .i64 c.aC,.int .i64 c.num,.int .i64 c.den,.int .i64 c.extra,.bool c.aB] 29
 have hB0 : Below w.heap.size w (w.alloc (.cells #[.int .i64 c.ring,.int .i64 c.window,.int .i64 c.base,.int .i64 c.gain,.int .i64 c.least,.int .i64 c.most,.int .i64 c.aC,.int .i64 c.num,.int .i64 c.den,.int .i64 c.extra,.bool c.aB] 29)):=ah7
 have PK:=λw' hw=>Jm au s len cap K T E w' hw hlen
 unfold aY at CK ⊢
 generalize iN T au len = z at *
 generalize pF T au len = pa at *
 generalize iV T au len = pb at *
 have hz : (z != 0) = true:=by simpa using h1
 rw [h0] at CK
 clear h0
 go_enter Tryz.func19,Tryz.ntmps19
 go_wp2_with fail
 refine CK.mono ?_;rintro e w1 ⟨rfl,hb1⟩
 have SC:=ah6 (bc.below hb1 (by simp))
 have HB1 : Hid (Below w.heap.size w w1):=ah6 (hB0.trans (hb1.mono (by simp)))
 clear hb1 CK bc hB0
 go_wp2_with fail
 refine (PK _ (h.1.below HB1.out)).mono ?_;rintro e w2 ⟨rfl,hb2⟩
 have pX:=ah6 (SC.out.below hb2 SC.out.lt)
 have HB2 : Hid (Below w.heap.size w w2):=ah6 (HB1.out.trans (hb2.mono HB1.out.size))
 clear hb2 PK SC HB1
 go_wp2
 exact bodyPost_ret (v:=.tuple #[.slice none 0 0,.int .i64 z]) (by simp [results,Tryz.results19,go_sem]) rfl ⟨rfl,HB2.out⟩
set_option maxHeartbeats 2000000 in
theorem abe (c : aN) (ok : c.Ok) (au : Int) (hat : ay au) (s : Option Addr) (len cap : Nat) (K T : Nat -> Int) (E : Nat -> Option Addr × Nat × Nat) (EE : Nat -> Nat -> aA) (w : World) (h : qE w s len K T E EE) (hT : ∀ i,i < len -> ay (T i)) (hlen : (len : Int) <= 4611686018427387904) (h0 : gD c K T E EE len = 0) (h1 : iN T au len = 0) (hb : iV T au len < 0) :
 Calls Tryz.prog 19 #[aY c,.int .i64 au,.slice s len cap] w (qO w (zY (nT c (K (cO T au len)) (T (cO T au len)) (E (cO T au len)).1 (E (cO T au len)).2.1 (E (cO T au len)).2.2 (EE (cO T au len)) au) (E (cO T au len)).2.1) (nT c (K (cO T au len)) (T (cO T au len)) (E (cO T au len)).1 (E (cO T au len)).2.1 (E (cO T au len)).2.2 (EE (cO T au len)) au) (AY (xw c (aM au (T (cO T au len)))) (xA c (aM au (T (cO T au len)))) (EE (cO T au len)))):=by
 obtain ⟨hpa,hva,_⟩:=MQ h1
 generalize cO T au len = va at *
 have BY:=λw' (hw : Below w.heap.size w w')=>YI c ok (K va) (T va) (E va).1 (E va).2.1 (E va).2.2 (EE va) au w' (hT va hva) hat ((h.2 va hva).1.below hw) (h.2 va hva).2
 unfold qO at BY ⊢
 generalize zY (nT c (K va) (T va) (E va).1 (E va).2.1 (E va).2.2 (EE va) au) (E va).2.1 = rn at *
 generalize nT c (K va) (T va) (E va).1 (E va).2.1 (E va).2.2 (EE va) au = re at *
 generalize (AY (xw c (aM au (T va))) (xA c (aM au (T va))) (EE va)) = rp at *
 have CK:=jy c s len cap K T E EE (w.alloc (.cells #[.int .i64 c.ring,.int .i64 c.window,.int .i64 c.base,.int .i64 c.gain,.int .i64 c.least,.int .i64 c.most,.int .i64 c.aC,.int .i64 c.num,.int .i64 c.den,.int .i64 c.extra,.bool c.aB] 29)) (h.below (ah7)) hlen;have bc:=ak.new w #[.int .i64 c.ring,.int .i64 c.window,.int .i64 c.base,.int .i64 c.gain,.int .i64 c.least,.int .i64 c.most,.int .i64 c.aC,.int .i64 c.num,.int .i64 c.den,.int .i64 c.extra,.bool c.aB] 29
 have hB0 : Below w.heap.size w (w.alloc (.cells #[.int .i64 c.ring,.int .i64 c.window,.int .i64 c.base,.int .i64 c.gain,.int .i64 c.least,.int .i64 c.most,.int .i64 c.aC,.int .i64 c.num,.int .i64 c.den,.int .i64 c.extra,.bool c.aB] 29)):=ah7
 have PK:=λw' hw=>Jm au s len cap K T E w' hw hlen
 unfold aY at CK ⊢
 rw [h1,hpa] at PK
 generalize iV T au len = pb at *
 rw [h0] at CK
 unfold aY bP at BY
 have hpb : decide (pb < 0) = true:=decide_eq_true hb
 clear h0 h1 hpa;have HS:=ah6 h
 go_enter Tryz.func19,Tryz.ntmps19
 go_wp2_with fail
 refine CK.mono ?_;rintro e w1 ⟨rfl,hb1⟩
 have SC:=ah6 (bc.below hb1 (by simp))
 have HB1 : Hid (Below w.heap.size w w1):=ah6 (hB0.trans (hb1.mono (by simp)))
 clear hb1 CK bc hB0
 go_wp2_with fail
 refine (PK _ (h.1.below HB1.out)).mono ?_;rintro e w2 ⟨rfl,hb2⟩
 have pX:=ah6 (SC.out.below hb2 SC.out.lt)
 have HB2 : Hid (Below w.heap.size w w2):=ah6 (HB1.out.trans (hb2.mono HB1.out.size))
 clear hb2 PK SC HB1
 obtain ⟨q0,q1,q2,q3,q4,q5,q6,q7,q8,q9,ku⟩:=eH pX.out
 have ahi:=hb;clear hb
 rcases HS.out.1 with hz | ⟨b,off,rfl,hb,hcs⟩
 ·omega
 have hval : (va : Int) < len:=by omega
 obtain ⟨d0,d1,d2⟩:=hcs va hva
 have s0:=(HB2.out.cell (p:=⟨b,off + va * 3,none⟩) hb).trans d0;have s1:=(HB2.out.cell (p:=⟨b,off + va * 3 + 1,none⟩) hb).trans d1;have s2:=(HB2.out.cell (p:=⟨b,off + va * 3 + 2,none⟩) hb).trans d2;clear d0 d1 d2
 have ZT:=ah6 (λw' (hw : Below w2.heap.size w2 w')=>BY w' (HB2.out.trans (hw.mono HB2.out.size)))
 clear BY hcs h HS
 generalize K va = ka at *
 generalize T va = ta at *
 generalize (E va).1 = ea at *
 generalize (E va).2.1 = el at *
 generalize (E va).2.2 = ec at *
 go_wp2_with fail
 go_region_with (go_at_call 47;refine (ZT.out _ (below_drewN ah8 1)).mono ?_;rintro e w3 ⟨s3,c3,rfl,hp3,hb3⟩)
 all_goals
  have ZU:=ah6 hp3
  have HB3 : Hid (Below w.heap.size w w3):=ah6 (HB2.out.trans (Below.trans (below_drewN ah8 1) (hb3.mono HB2.out.size)))
  clear hp3 hb3
  go_wp2
  exact bodyPost_ret (v:=.tuple #[.slice s3 rn c3,.int .i64 re]) (by simp [results,Tryz.results19,go_sem]) rfl ⟨s3,c3,rfl,ZU.out,HB3.out⟩
set_option maxHeartbeats 4000000 in
theorem abf (c : aN) (ok : c.Ok) (au : Int) (hat : ay au) (s : Option Addr) (len cap : Nat) (K T : Nat -> Int) (E : Nat -> Option Addr × Nat × Nat) (EE : Nat -> Nat -> aA) (w : World) (h : qE w s len K T E EE) (hT : ∀ i,i < len -> ay (T i)) (hlen : (len : Int) <= 4611686018427387904) (h0 : gD c K T E EE len = 0) (h1 : iN T au len = 0) (hb : ¬ iV T au len < 0) :
 Calls Tryz.prog 19 #[aY c,.int .i64 au,.slice s len cap] w (qO w (zY (nS c (K (cO T au len)) (T (cO T au len)) (E (cO T au len)).1 (E (cO T au len)).2.1 (E (cO T au len)).2.2 (EE (cO T au len)) (K (jg T au len)) (T (jg T au len)) (E (jg T au len)).1 (E (jg T au len)).2.1 (E (jg T au len)).2.2 (EE (jg T au len)) au) (E (cO T au len)).2.1) (nS c (K (cO T au len)) (T (cO T au len)) (E (cO T au len)).1 (E (cO T au len)).2.1 (E (cO T au len)).2.2 (EE (cO T au len)) (K (jg T au len)) (T (jg T au len)) (E (jg T au len)).1 (E (jg T au len)).2.1 (E (jg T au len)).2.2 (EE (jg T au len)) au) (zH c.aB (EE (cO T au len)) (EE (jg T au len)) (E (jg T au len)).2.1 (au - T (cO T au len)) (T (jg T au len) - T (cO T au len)))):=by
 obtain ⟨hpa,hva,hpb⟩:=MQ h1
 obtain ⟨hpb,hvb⟩:=hpb hb
 generalize cO T au len = va at *
 generalize jg T au len = vb at *
 have BY:=λw' (hw : Below w.heap.size w w')=>YH c (K va) (T va) (E va).1 (E va).2.1 (E va).2.2 (EE va) (K vb) (T vb) (E vb).1 (E vb).2.1 (E vb).2.2 (EE vb) au w' ((h.2 va hva).1.below hw) ((h.2 vb hvb).1.below hw) (h.2 va hva).2 (h.2 vb hvb).2
 unfold qO at BY ⊢
 generalize zY (nS c (K va) (T va) (E va).1 (E va).2.1 (E va).2.2 (EE va) (K vb) (T vb) (E vb).1 (E vb).2.1 (E vb).2.2 (EE vb) au) (E va).2.1 = rn at *
 generalize nS c (K va) (T va) (E va).1 (E va).2.1 (E va).2.2 (EE va) (K vb) (T vb) (E vb).1 (E vb).2.1 (E vb).2.2 (EE vb) au = re at *
 generalize (zH c.aB (EE va) (EE vb) (E vb).2.1 (au - T va) (T vb - T va)) = rp at *
 have CK:=jy c s len cap K T E EE (w.alloc (.cells #[.int .i64 c.ring,.int .i64 c.window,.int .i64 c.base,.int .i64 c.gain,.int .i64 c.least,.int .i64 c.most,.int .i64 c.aC,.int .i64 c.num,.int .i64 c.den,.int .i64 c.extra,.bool c.aB] 29)) (h.below (ah7)) hlen;have bc:=ak.new w #[.int .i64 c.ring,.int .i64 c.window,.int .i64 c.base,.int .i64 c.gain,.int .i64 c.least,.int .i64 c.most,.int .i64 c.aC,.int .i64 c.num,.int .i64 c.den,.int .i64 c.extra,.bool c.aB] 29
 have hB0 : Below w.heap.size w (w.alloc (.cells #[.int .i64 c.ring,.int .i64 c.window,.int .i64 c.base,.int .i64 c.gain,.int .i64 c.least,.int .i64 c.most,.int .i64 c.aC,.int .i64 c.num,.int .i64 c.den,.int .i64 c.extra,.bool c.aB] 29)):=ah7
 have PK:=λw' hw=>Jm au s len cap K T E w' hw hlen
 unfold aY at CK ⊢
 rw [h1,hpa,hpb] at PK
 rw [h0] at CK
 unfold aY bP at BY
 have ahj : decide ((vb : Int) < 0) = false:=decide_eq_false (by omega)
 clear h0 h1 hpa hpb hb;have HS:=ah6 h
 go_enter Tryz.func19,Tryz.ntmps19
 go_wp2_with fail
 refine CK.mono ?_;rintro e w1 ⟨rfl,hb1⟩
 have SC:=ah6 (bc.below hb1 (by simp))
 have HB1 : Hid (Below w.heap.size w w1):=ah6 (hB0.trans (hb1.mono (by simp)))
 clear hb1 CK bc hB0
 go_wp2_with fail
 refine (PK _ (h.1.below HB1.out)).mono ?_;rintro e w2 ⟨rfl,hb2⟩
 have pX:=ah6 (SC.out.below hb2 SC.out.lt)
 have HB2 : Hid (Below w.heap.size w w2):=ah6 (HB1.out.trans (hb2.mono HB1.out.size))
 clear hb2 PK SC HB1
 obtain ⟨q0,q1,q2,q3,q4,q5,q6,q7,q8,q9,ku⟩:=eH pX.out
 rcases HS.out.1 with hz | ⟨b,off,rfl,hb,hcs⟩
 ·omega
 have hval : (va : Int) < len:=by omega
 have ahk : (vb : Int) < len:=by omega
 obtain ⟨d0,d1,d2⟩:=hcs va hva
 have s0:=(HB2.out.cell (p:=⟨b,off + va * 3,none⟩) hb).trans d0;have s1:=(HB2.out.cell (p:=⟨b,off + va * 3 + 1,none⟩) hb).trans d1;have s2:=(HB2.out.cell (p:=⟨b,off + va * 3 + 2,none⟩) hb).trans d2;clear d0 d1 d2
 obtain ⟨d0,d1,d2⟩:=hcs vb hvb
 have r0:=(HB2.out.cell (p:=⟨b,off + vb * 3,none⟩) hb).trans d0;have r1:=(HB2.out.cell (p:=⟨b,off + vb * 3 + 1,none⟩) hb).trans d1;have r2:=(HB2.out.cell (p:=⟨b,off + vb * 3 + 2,none⟩) hb).trans d2;clear d0 d1 d2
 have ZT:=ah6 (λw' (hw : Below w2.heap.size w2 w')=>BY w' (HB2.out.trans (hw.mono HB2.out.size)))
 clear BY hcs h HS
 generalize K va = ka at *
 generalize T va = ta at *
 generalize (E va).1 = ea at *
 generalize (E va).2.1 = el at *
 generalize (E va).2.2 = ec at *
 generalize K vb = kb at *
 generalize T vb = tb at *
 generalize (E vb).1 = fa at *
 generalize (E vb).2.1 = fl at *
 generalize (E vb).2.2 = fc at *
 go_wp2_with fail
 go_region_with (go_at_call 48;refine (ZT.out _ (below_drewN ah8 1)).mono ?_;rintro e w3 ⟨s3,c3,rfl,hp3,hb3⟩)
 all_goals
  have ZU:=ah6 hp3
  have HB3 : Hid (Below w.heap.size w w3):=ah6 (HB2.out.trans (Below.trans (below_drewN ah8 1) (hb3.mono HB2.out.size)))
  clear hp3 hb3
  go_wp2
  exact bodyPost_ret (v:=.tuple #[.slice s3 rn c3,.int .i64 re]) (by simp [results,Tryz.results19,go_sem]) rfl ⟨s3,c3,rfl,ZU.out,HB3.out⟩
theorem abg (c : aN) (ok : c.Ok) (au : Int) (hat : ay au) (s : Option Addr) (len cap : Nat) (K T : Nat -> Int) (E : Nat -> Option Addr × Nat × Nat) (EE : Nat -> Nat -> aA) (w : World) (h : qE w s len K T E EE) (hT : ∀ i,i < len -> ay (T i)) (hlen : (len : Int) <= 4611686018427387904) : Calls Tryz.prog 19 #[aY c,.int .i64 au,.slice s len cap] w (qO w (Ci c au K T E EE len) (rC c au K T E EE len) (Ij c au K T E EE len)):=by
 by_cases h0 : gD c K T E EE len = 0
 ·by_cases h1 : iN T au len = 0
  ·by_cases hb : iV T au len < 0
   ·have e : rC c au K T E EE len = nT c (K (cO T au len)) (T (cO T au len)) (E (cO T au len)).1 (E (cO T au len)).2.1 (E (cO T au len)).2.2 (EE (cO T au len)) au:=by unfold rC;rw [if_pos h0,if_pos h1,if_pos hb]
    unfold Ci Ij
    rw [e,if_pos hb]
    exact abe c ok au hat s len cap K T E EE w h hT hlen h0 h1 hb
   ·have e : rC c au K T E EE len = nS c (K (cO T au len)) (T (cO T au len)) (E (cO T au len)).1 (E (cO T au len)).2.1 (E (cO T au len)).2.2 (EE (cO T au len)) (K (jg T au len)) (T (jg T au len)) (E (jg T au len)).1 (E (jg T au len)).2.1 (E (jg T au len)).2.2 (EE (jg T au len)) au:=by unfold rC;rw [if_pos h0,if_pos h1,if_neg hb]
    unfold Ci Ij
    rw [e,if_neg hb]
    exact abf c ok au hat s len cap K T E EE w h hT hlen h0 h1 hb
  ·have e : rC c au K T E EE len = iN T au len:=by unfold rC;rw [if_pos h0,if_neg h1]
   unfold Ci
   rw [e,if_neg h1]
   exact (abd c ok au hat s len cap K T E EE w h hT hlen h0 h1).mono λe w' ⟨h2,h3⟩=>⟨none,0,h2,.inl rfl,h3⟩
 ·have e : rC c au K T E EE len = gD c K T E EE len:=by unfold rC;rw [if_neg h0]
  unfold Ci
  rw [e,if_neg h0]
  exact (abb c ok au hat s len cap K T E EE w h hT hlen h0).mono λe w' ⟨h2,h3⟩=>⟨none,0,h2,.inl rfl,h3⟩
end Go.Proofs.YtklkooeimkedgaaGreat
