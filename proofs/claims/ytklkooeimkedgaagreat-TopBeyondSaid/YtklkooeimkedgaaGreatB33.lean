/- Walk of TopBeyond. -/
import Derived.DeepKeys
import Derived.Test.YtklkooeimkedgaaGreatB31
set_option linter.unusedVariables false
set_option linter.unusedSimpArgs false
namespace Go.Proofs.YtklkooeimkedgaaGreat
open Go.RowKit
set_option maxRecDepth 100000
def qU (w : World) (n : Nat) (E : Int) (P : Nat -> Po) (e : Ending) (w' : World) : Prop :=
 ∃ s cp,e = .returned (.tuple #[.slice s n cp,.int .i64 E]) /\ dZ w' s n P /\ Below w.heap.size w w'
def nS (c : aO) (ka ta : Int) (aa : Option Addr) (la ca : Nat) (A : Nat -> aB) (kb tb : Int) (ab : Option Addr) (lb cb : Nat) (B : Nat -> aB) (au : Int) : Int :=
 if nu c ka ta aa la ca A kb tb ab lb cb B = 0 then jh ta tb au else nu c ka ta aa la ca A kb tb ab lb cb B
def nT (c : aO) (ka ta : Int) (aa : Option Addr) (la ca : Nat) (A : Nat -> aB) (au : Int) : Int :=
 if lS c ka ta aa la ca A = 0 then kV ta au else lS c ka ta aa la ca A
def zZ (E : Int) (n : Nat) : Nat:=if E = 0 then n else 0
theorem Zg (c : aO) (ka ta : Int) (aa : Option Addr) (la ca : Nat) (A : Nat -> aB) (kb tb : Int) (ab : Option Addr) (lb cb : Nat) (B : Nat -> aB) (au : Int) (w : World) (ha : dw w aa la A) (hb : dw w ab lb B) (hla : (la : Int) <= 4611686018427387904) (hlb : (lb : Int) <= 4611686018427387904) :
 Calls Tryz.prog 48 #[aZ c,bO ka ta aa la ca,bO kb tb ab lb cb,.int .i64 au] w (qU w (zZ (nS c ka ta aa la ca A kb tb ab lb cb B au) la) (nS c ka ta aa la ca A kb tb ab lb cb B au) (tq c.aC A B lb (au - ta) (tb - ta))):=by
 by_cases h0 : nu c ka ta aa la ca A kb tb ab lb cb B = 0
 ·by_cases h1 : jh ta tb au = 0
  ·have e : nS c ka ta aa la ca A kb tb ab lb cb B au = 0:=by unfold nS;rw [if_pos h0,h1]
   rw [e]
   unfold qU zZ
   rw [if_pos rfl]
   cases hc : c.aC
   ·exact Qw c hc ka ta aa la ca A kb tb ab lb cb B au w ha hb hla hlb h0 h1
   ·exact Lf c hc ka ta aa la ca A kb tb ab lb cb B au w ha hb hla hlb h0 h1
  ·have e : nS c ka ta aa la ca A kb tb ab lb cb B au = jh ta tb au:=by unfold nS;rw [if_pos h0]
   rw [e]
   unfold qU zZ
   rw [if_neg h1]
   exact (Qv c ka ta aa la ca A kb tb ab lb cb B au w ha hb hla hlb h0 h1).mono λe w' ⟨h2,h3⟩=>⟨none,0,h2,.inl rfl,h3⟩
 ·have e : nS c ka ta aa la ca A kb tb ab lb cb B au = nu c ka ta aa la ca A kb tb ab lb cb B:=by unfold nS;rw [if_neg h0]
  rw [e]
  unfold qU zZ
  rw [if_neg h0]
  exact (Ue c ka ta aa la ca A kb tb ab lb cb B au w ha hb hla hlb h0).mono λe w' ⟨h2,h3⟩=>⟨none,0,h2,.inl rfl,h3⟩
theorem Zh (c : aO) (ok : c.Ok) (ka ta : Int) (aa : Option Addr) (la ca : Nat) (A : Nat -> aB) (au : Int) (w : World) (xD : ay ta) (hat : ay au) (ha : dw w aa la A) (hla : (la : Int) <= 4611686018427387904) :
 Calls Tryz.prog 47 #[aZ c,bO ka ta aa la ca,.int .i64 au] w (qU w (zZ (nT c ka ta aa la ca A au) la) (nT c ka ta aa la ca A au) (yT (xC c (aK au ta)) (yU c (aK au ta)) A)):=by
 by_cases h0 : lS c ka ta aa la ca A = 0
 ·by_cases h1 : kV ta au = 0
  ·have e : nT c ka ta aa la ca A au = 0:=by unfold nT;rw [if_pos h0,h1]
   rw [e]
   unfold qU zZ
   rw [if_pos rfl]
   obtain ⟨_,hex,_,_⟩:=CF h0
   by_cases hd : aK au ta = 0
   ·have:=Zd c ok ka ta aa la ca A au w xD hat ha hla h0 h1 hd
    rw [show xC c (aK au ta) = 0 by unfold xC;rw [if_pos hd],show yU c (aK au ta) = 0 by unfold yU;rw [if_neg (by omega)];exact hd]
    exact this
   ·by_cases hf : c.extra < aK au ta
    ·have:=Ze c ok ka ta aa la ca A au w xD hat ha hla h0 h1 hd hf
     rw [show xC c (aK au ta) = 4 by unfold xC;rw [if_neg hd,if_pos hf],show yU c (aK au ta) = c.extra by unfold yU;rw [if_pos hf]]
     exact this
    ·have:=Zf c ok ka ta aa la ca A au w xD hat ha hla h0 h1 hd hf
     rw [show xC c (aK au ta) = 3 by unfold xC;rw [if_neg hd,if_neg hf],show yU c (aK au ta) = aK au ta by unfold yU;rw [if_neg hf]]
     exact this
  ·have e : nT c ka ta aa la ca A au = kV ta au:=by unfold nT;rw [if_pos h0]
   rw [e]
   unfold qU zZ
   rw [if_neg h1]
   exact (QI c ka ta aa la ca A au w xD hat ha hla h0 h1).mono λe w' ⟨h2,h3⟩=>⟨none,0,h2,.inl rfl,h3⟩
 ·have e : nT c ka ta aa la ca A au = lS c ka ta aa la ca A:=by unfold nT;rw [if_neg h0]
  rw [e]
  unfold qU zZ
  rw [if_neg h0]
  exact (Uf c ka ta aa la ca A au w xD hat ha hla h0).mono λe w' ⟨h2,h3⟩=>⟨none,0,h2,.inl rfl,h3⟩
theorem QK : (Tryz.prog.info? 22).map (λi=>i.size) = some 3:=by kernel_rfl
theorem Me (cs : Array Value) (w : World) : (part 22 cs 1).run Tryz.prog w = .ok (.agg (cs.extract 1 4)) w:=by
 obtain ⟨i,hi,hz⟩:=Option.map_eq_some_iff.1 QK
 simp [part,isAgg,run_underlying Tryz.underlying22,run_sizeOf w hi,hz]
theorem eP {t : TypeId} {d : TypeDesc} (hu : Tryz.prog.underlying t = some d) (hd : (match d with | .array _ _=>true | .struct _=>true | _=>false) = false) (cs : Array Value) (off : Nat) (v : Value) (h : cs[off]? = some v) (w : World) : (part t cs off).run Tryz.prog w = .ok v w:=by
 cases d <;> simp_all [part,isAgg,run_underlying hu]
theorem EK (a b c d e f : Int) (n : Nat) (w : World) :
 (Op.equalIn (n + 2) 22 (.agg #[.int .i64 a,.int .i64 b,.int .i64 c]) (.agg #[.int .i64 d,.int .i64 e,.int .i64 f])).run Tryz.prog w = .ok (a == d && b == e && c == f) w:=by
 obtain ⟨i,hi⟩:=Js
 rw [run_equalIn_array w (n + 1) _ _ Tryz.underlying22 hi,show Tryz.prog.cellsOf 2 = 1 by kernel_rfl]
 have q : ∀ x y : Int,(Op.equalIn (n + 1) 2 (.int .i64 x) (.int .i64 y)).run Tryz.prog w = .ok (x == y) w:=λx y=>run_equalIn_int (P:=Tryz.prog) w n 2 .i64 .i64 x y Tryz.underlying2
 have p0:=jP #[.int .i64 a,.int .i64 b,.int .i64 c] 0 _ rfl w;have p1:=jP #[.int .i64 a,.int .i64 b,.int .i64 c] 1 _ rfl w;have p2:=jP #[.int .i64 a,.int .i64 b,.int .i64 c] 2 _ rfl w;have r0:=jP #[.int .i64 d,.int .i64 e,.int .i64 f] 0 _ rfl w;have r1:=jP #[.int .i64 d,.int .i64 e,.int .i64 f] 1 _ rfl w;have r2:=jP #[.int .i64 d,.int .i64 e,.int .i64 f] 2 _ rfl w
 rw [show List.range 3 = [0,1,2] from rfl]
 cases h0 : (a == d) <;> cases h1 : (b == e) <;> cases h2 : (c == f) <;> simp [Op.eqItems,p0,p1,p2,r0,r1,r2,q,h0,h1,h2]
theorem NI : ((Tryz.prog.fieldsOf 52).toList.map λf=>(f.name,f.type,f.offset)) = [("Id",3,0),("Pos",22,1),("Angle",31,4),("Mode",3,5)]:=by kernel_rfl
theorem QL : Tryz.prog.stoodInHeld 52 = false:=by kernel_rfl
theorem Lg : Tryz.prog.underlying 52 = some (.struct (Tryz.prog.fieldsOf 52)):=by kernel_rfl
theorem QM {d : Nat} {xs ys : Array Value} {w : World} {fs : List Field} {n0 n1 n2 n3 : String} {t0 t1 t2 t3 : TypeId} {o0 o1 o2 o3 : Nat} {a0 a1 a2 a3 b0 b1 b2 b3 : Value} {r0 r1 r2 r3 : Bool}
 (hf : (fs.map λf=>(f.name,f.type,f.offset)) = [(n0,t0,o0),(n1,t1,o1),(n2,t2,o2),(n3,t3,o3)])
 (hn : n0 ≠ "_" /\ n1 ≠ "_" /\ n2 ≠ "_" /\ n3 ≠ "_")
 (ha0 : (part t0 xs o0).run Tryz.prog w = .ok a0 w) (hb0 : (part t0 ys o0).run Tryz.prog w = .ok b0 w) (he0 : (Op.equalIn d t0 a0 b0).run Tryz.prog w = .ok r0 w)
 (ha1 : (part t1 xs o1).run Tryz.prog w = .ok a1 w) (hb1 : (part t1 ys o1).run Tryz.prog w = .ok b1 w) (he1 : (Op.equalIn d t1 a1 b1).run Tryz.prog w = .ok r1 w)
 (ha2 : (part t2 xs o2).run Tryz.prog w = .ok a2 w) (hb2 : (part t2 ys o2).run Tryz.prog w = .ok b2 w) (he2 : (Op.equalIn d t2 a2 b2).run Tryz.prog w = .ok r2 w)
 (Zi : (part t3 xs o3).run Tryz.prog w = .ok a3 w) (hb3 : (part t3 ys o3).run Tryz.prog w = .ok b3 w) (uV : (Op.equalIn d t3 a3 b3).run Tryz.prog w = .ok r3 w) :
 (Op.eqFields d xs ys fs).run Tryz.prog w = .ok (r0 && r1 && r2 && r3) w:=by
 match fs,hf with
 | [f0,f1,f2,f3],hf =>
   simp only [List.map_cons,List.map_nil,List.cons.injEq,Prod.mk.injEq,and_true] at hf
   obtain ⟨⟨rfl,rfl,rfl⟩,⟨rfl,rfl,rfl⟩,⟨rfl,rfl,rfl⟩,⟨rfl,rfl,rfl⟩⟩:=hf
   obtain ⟨h0,h1,h2,h3⟩:=hn
   cases r0 <;> cases r1 <;> cases r2 <;> cases r3 <;> simp [Op.eqFields,h0,h1,h2,h3,ha0,hb0,he0,ha1,hb1,he1,ha2,hb2,he2,Zi,hb3,uV]
theorem F6 (a0 a1 a2 a3 a4 a5 b0 b1 b2 b3 b4 b5 : Int) (w : World) :
 (Op.equalIn 10000 52 (.agg #[.int .i64 a0,.int .i64 a1,.int .i64 a2,.int .i64 a3,.int .u16 a4,.int .i64 a5]) (.agg #[.int .i64 b0,.int .i64 b1,.int .i64 b2,.int .i64 b3,.int .u16 b4,.int .i64 b5])).run Tryz.prog w = .ok (a0 == b0 && (a1 == b1 && a2 == b2 && a3 == b3) && a4 == b4 && a5 == b5) w:=by
 rw [show 10000 = 9999 + 1 from rfl,run_equalIn_struct w 9999 _ _ _ Lg QL]
 exact QM NI (by decide)
  (eP Tryz.underlying3 rfl _ 0 _ rfl w) (eP Tryz.underlying3 rfl _ 0 _ rfl w) (run_equalIn_int (P:=Tryz.prog) w 9998 3 .i64 .i64 _ _ Tryz.underlying3)
  (Me _ w) (Me _ w) (EK _ _ _ _ _ _ 9997 w)
  (eP Tryz.underlying31 rfl _ 4 _ rfl w) (eP Tryz.underlying31 rfl _ 4 _ rfl w) (run_equalIn_int (P:=Tryz.prog) w 9998 31 .u16 .u16 _ _ Tryz.underlying31)
  (eP Tryz.underlying3 rfl _ 5 _ rfl w) (eP Tryz.underlying3 rfl _ 5 _ rfl w) (run_equalIn_int (P:=Tryz.prog) w 9998 3 .i64 .i64 _ _ Tryz.underlying3)
set_option maxRecDepth 100000
def cK (T : Nat -> Int) (au : Int) (len : Nat) : Nat:=(pI T au len).toNat
def je (T : Nat -> Int) (au : Int) (len : Nat) : Nat:=(iT T au len).toNat
def rE (c : aO) (au : Int) (K T : Nat -> Int) (E : Nat -> Option Addr × Nat × Nat) (EE : Nat -> Nat -> aB) (len : Nat) : Int :=
 if gD c K T E EE len = 0 then (if iL T au len = 0 then
  (if iT T au len < 0 then nT c (K (cK T au len)) (T (cK T au len)) (E (cK T au len)).1 (E (cK T au len)).2.1 (E (cK T au len)).2.2 (EE (cK T au len)) au
   else nS c (K (cK T au len)) (T (cK T au len)) (E (cK T au len)).1 (E (cK T au len)).2.1 (E (cK T au len)).2.2 (EE (cK T au len)) (K (je T au len)) (T (je T au len)) (E (je T au len)).1 (E (je T au len)).2.1 (E (je T au len)).2.2 (EE (je T au len)) au)
  else iL T au len) else gD c K T E EE len
def Am (c : aO) (au : Int) (K T : Nat -> Int) (E : Nat -> Option Addr × Nat × Nat) (EE : Nat -> Nat -> aB) (len : Nat) : Nat :=
 if rE c au K T E EE len = 0 then (E (cK T au len)).2.1 else 0
def Ip (c : aO) (au : Int) (K T : Nat -> Int) (E : Nat -> Option Addr × Nat × Nat) (EE : Nat -> Nat -> aB) (len : Nat) : Nat -> Po :=
 if iT T au len < 0 then yT (xC c (aK au (T (cK T au len)))) (yU c (aK au (T (cK T au len)))) (EE (cK T au len))
 else tq c.aC (EE (cK T au len)) (EE (je T au len)) (E (je T au len)).2.1 (au - T (cK T au len)) (T (je T au len) - T (cK T au len))
theorem MZ {T : Nat -> Int} {au : Int} {len : Nat} (h : iL T au len = 0) : pI T au len = ((cK T au len : Nat) : Int) /\ cK T au len < len /\ (¬ iT T au len < 0 -> iT T au len = ((je T au len : Nat) : Int) /\ je T au len < len):=by
 have hc : eD T len = 0:=by
  unfold iL at h
  split at h
  ·assumption
  ·contradiction
 have h0 : bS T au len ≠ 0:=by
  unfold iL at h
  rw [if_pos hc] at h
  intro e
  rw [if_pos e] at h
  exact absurd h (by decide)
 have hl:=AP T au len
 unfold cK je pI iT
 rw [if_pos hc,if_neg h0,if_pos hc,if_neg h0]
 refine ⟨by omega,by omega,λhb=>?_⟩
 split
 ·rename_i e;rw [if_pos e] at hb;omega
 ·omega
set_option maxHeartbeats 1000000 in
theorem abU (c : aO) (ok : c.Ok) (au : Int) (hat : ay au) (s : Option Addr) (len cap : Nat) (K T : Nat -> Int) (E : Nat -> Option Addr × Nat × Nat) (EE : Nat -> Nat -> aB) (w : World) (h : qI w s len K T E EE) (hT : ∀ i,i < len -> ay (T i)) (hlen : (len : Int) <= 4611686018427387904) (h0 : gD c K T E EE len ≠ 0) :
 Calls Tryz.prog 19 #[aZ c,.int .i64 au,.slice s len cap] w λe w'=>e = .returned (.tuple #[.slice none 0 0,.int .i64 (gD c K T E EE len)]) /\ Below w.heap.size w w':=by
 have CK:=jr c s len cap K T E EE (w.alloc (.cells #[.int .i64 c.ring,.int .i64 c.window,.int .i64 c.base,.int .i64 c.gain,.int .i64 c.least,.int .i64 c.most,.int .i64 c.aD,.int .i64 c.num,.int .i64 c.den,.int .i64 c.extra,.bool c.aC] 29)) (h.below (aiT)) hlen;have bc:=ak.new w #[.int .i64 c.ring,.int .i64 c.window,.int .i64 c.base,.int .i64 c.gain,.int .i64 c.least,.int .i64 c.most,.int .i64 c.aD,.int .i64 c.num,.int .i64 c.den,.int .i64 c.extra,.bool c.aC] 29
 have hB0 : Below w.heap.size w (w.alloc (.cells #[.int .i64 c.ring,.int .i64 c.window,.int .i64 c.base,.int .i64 c.gain,.int .i64 c.least,.int .i64 c.most,.int .i64 c.aD,.int .i64 c.num,.int .i64 c.den,.int .i64 c.extra,.bool c.aC] 29)):=aiT
 unfold aZ at CK ⊢
 generalize gD c K T E EE len = z at *
 have hz : (z != 0) = true:=by simpa using h0
 go_enter Tryz.func19,Tryz.ntmps19
 go_wp2_with fail
 refine CK.mono ?_;rintro e w1 ⟨rfl,hb1⟩
 have SC:=aiS (bc.below hb1 (by simp))
 have HB1 : Hid (Below w.heap.size w w1):=aiS (hB0.trans (hb1.mono (by simp)))
 clear hb1 CK bc hB0
 go_wp2
 exact bodyPost_ret (v:=.tuple #[.slice none 0 0,.int .i64 z]) (by simp [results,Tryz.results19,go_sem]) rfl ⟨rfl,HB1.out⟩
set_option maxHeartbeats 1000000 in
theorem abV (c : aO) (ok : c.Ok) (au : Int) (hat : ay au) (s : Option Addr) (len cap : Nat) (K T : Nat -> Int) (E : Nat -> Option Addr × Nat × Nat) (EE : Nat -> Nat -> aB) (w : World) (h : qI w s len K T E EE) (hT : ∀ i,i < len -> ay (T i)) (hlen : (len : Int) <= 4611686018427387904) (h0 : gD c K T E EE len = 0) (h1 : iL T au len ≠ 0) :
 Calls Tryz.prog 19 #[aZ c,.int .i64 au,.slice s len cap] w λe w'=>e = .returned (.tuple #[.slice none 0 0,.int .i64 (iL T au len)]) /\ Below w.heap.size w w':=by
 have CK:=jr c s len cap K T E EE (w.alloc (.cells #[.int .i64 c.ring,.int .i64 c.window,.int .i64 c.base,.int .i64 c.gain,.int .i64 c.least,.int .i64 c.most,.int .i64 c.aD,.int .i64 c.num,.int .i64 c.den,.int .i64 c.extra,.bool c.aC] 29)) (h.below (aiT)) hlen;have bc:=ak.new w #[.int .i64 c.ring,.int .i64 c.window,.int .i64 c.base,.int .i64 c.gain,.int .i64 c.least,.int .i64 c.most,.int .i64 c.aD,.int .i64 c.num,.int .i64 c.den,.int .i64 c.extra,.bool c.aC] 29
 have hB0 : Below w.heap.size w (w.alloc (.cells #[.int .i64 c.ring,.int .i64 c.window,.int .i64 c.base,.int .i64 c.gain,.int .i64 c.least,.int .i64 c.most,.int .i64 c.aD,.int .i64 c.num,.int .i64 c.den,.int .i64 c.extra,.bool c.aC] 29)):=aiT
 have PK:=λw' hw=>Jr au s len cap K T E w' hw hlen
 unfold aZ at CK ⊢
 generalize iL T au len = z at *
 generalize pI T au len = pa at *
 generalize iT T au len = pb at *
 have hz : (z != 0) = true:=by simpa using h1
 rw [h0] at CK
 clear h0
 go_enter Tryz.func19,Tryz.ntmps19
 go_wp2_with fail
 refine CK.mono ?_;rintro e w1 ⟨rfl,hb1⟩
 have SC:=aiS (bc.below hb1 (by simp))
 have HB1 : Hid (Below w.heap.size w w1):=aiS (hB0.trans (hb1.mono (by simp)))
 clear hb1 CK bc hB0
 go_wp2_with fail
 refine (PK _ (h.1.below HB1.out)).mono ?_;rintro e w2 ⟨rfl,hb2⟩
 have qc:=aiS (SC.out.below hb2 SC.out.lt)
 have HB2 : Hid (Below w.heap.size w w2):=aiS (HB1.out.trans (hb2.mono HB1.out.size))
 clear hb2 PK SC HB1
 go_wp2
 exact bodyPost_ret (v:=.tuple #[.slice none 0 0,.int .i64 z]) (by simp [results,Tryz.results19,go_sem]) rfl ⟨rfl,HB2.out⟩
set_option maxHeartbeats 2000000 in
theorem abW (c : aO) (ok : c.Ok) (au : Int) (hat : ay au) (s : Option Addr) (len cap : Nat) (K T : Nat -> Int) (E : Nat -> Option Addr × Nat × Nat) (EE : Nat -> Nat -> aB) (w : World) (h : qI w s len K T E EE) (hT : ∀ i,i < len -> ay (T i)) (hlen : (len : Int) <= 4611686018427387904) (h0 : gD c K T E EE len = 0) (h1 : iL T au len = 0) (hb : iT T au len < 0) :
 Calls Tryz.prog 19 #[aZ c,.int .i64 au,.slice s len cap] w (qU w (zZ (nT c (K (cK T au len)) (T (cK T au len)) (E (cK T au len)).1 (E (cK T au len)).2.1 (E (cK T au len)).2.2 (EE (cK T au len)) au) (E (cK T au len)).2.1) (nT c (K (cK T au len)) (T (cK T au len)) (E (cK T au len)).1 (E (cK T au len)).2.1 (E (cK T au len)).2.2 (EE (cK T au len)) au) (yT (xC c (aK au (T (cK T au len)))) (yU c (aK au (T (cK T au len)))) (EE (cK T au len)))):=by
 obtain ⟨hpa,hva,_⟩:=MZ h1
 generalize cK T au len = va at *
 have BY:=λw' (hw : Below w.heap.size w w')=>Zh c ok (K va) (T va) (E va).1 (E va).2.1 (E va).2.2 (EE va) au w' (hT va hva) hat ((h.2 va hva).1.below hw) (h.2 va hva).2
 unfold qU at BY ⊢
 generalize zZ (nT c (K va) (T va) (E va).1 (E va).2.1 (E va).2.2 (EE va) au) (E va).2.1 = rn at *
 generalize nT c (K va) (T va) (E va).1 (E va).2.1 (E va).2.2 (EE va) au = re at *
 generalize (yT (xC c (aK au (T va))) (yU c (aK au (T va))) (EE va)) = rp at *
 have CK:=jr c s len cap K T E EE (w.alloc (.cells #[.int .i64 c.ring,.int .i64 c.window,.int .i64 c.base,.int .i64 c.gain,.int .i64 c.least,.int .i64 c.most,.int .i64 c.aD,.int .i64 c.num,.int .i64 c.den,.int .i64 c.extra,.bool c.aC] 29)) (h.below (aiT)) hlen;have bc:=ak.new w #[.int .i64 c.ring,.int .i64 c.window,.int .i64 c.base,.int .i64 c.gain,.int .i64 c.least,.int .i64 c.most,.int .i64 c.aD,.int .i64 c.num,.int .i64 c.den,.int .i64 c.extra,.bool c.aC] 29
 have hB0 : Below w.heap.size w (w.alloc (.cells #[.int .i64 c.ring,.int .i64 c.window,.int .i64 c.base,.int .i64 c.gain,.int .i64 c.least,.int .i64 c.most,.int .i64 c.aD,.int .i64 c.num,.int .i64 c.den,.int .i64 c.extra,.bool c.aC] 29)):=aiT
 have PK:=λw' hw=>Jr au s len cap K T E w' hw hlen
 unfold aZ at CK ⊢
 rw [h1,hpa] at PK
 generalize iT T au len = pb at *
 rw [h0] at CK
 unfold aZ bO at BY
 have hpb : decide (pb < 0) = true:=decide_eq_true hb
 clear h0 h1 hpa;have HS:=aiS h
 go_enter Tryz.func19,Tryz.ntmps19
 go_wp2_with fail
 refine CK.mono ?_;rintro e w1 ⟨rfl,hb1⟩
 have SC:=aiS (bc.below hb1 (by simp))
 have HB1 : Hid (Below w.heap.size w w1):=aiS (hB0.trans (hb1.mono (by simp)))
 clear hb1 CK bc hB0
 go_wp2_with fail
 refine (PK _ (h.1.below HB1.out)).mono ?_;rintro e w2 ⟨rfl,hb2⟩
 have qc:=aiS (SC.out.below hb2 SC.out.lt)
 have HB2 : Hid (Below w.heap.size w w2):=aiS (HB1.out.trans (hb2.mono HB1.out.size))
 clear hb2 PK SC HB1
 obtain ⟨q0,q1,q2,q3,q4,q5,q6,q7,q8,q9,kr⟩:=eu qc.out
 have ah4:=hb;clear hb
 rcases HS.out.1 with hz | ⟨b,off,rfl,hb,hcs⟩
 ·omega
 have hval : (va : Int) < len:=by omega
 obtain ⟨d0,d1,d2⟩:=hcs va hva
 have s0:=(HB2.out.cell (p:=⟨b,off + va * 3,none⟩) hb).trans d0;have s1:=(HB2.out.cell (p:=⟨b,off + va * 3 + 1,none⟩) hb).trans d1;have s2:=(HB2.out.cell (p:=⟨b,off + va * 3 + 2,none⟩) hb).trans d2;clear d0 d1 d2
 have BY2:=aiS (λw' (hw : Below w2.heap.size w2 w')=>BY w' (HB2.out.trans (hw.mono HB2.out.size)))
 clear BY hcs h HS
 generalize K va = ka at *
 generalize T va = ta at *
 generalize (E va).1 = ea at *
 generalize (E va).2.1 = el at *
 generalize (E va).2.2 = ec at *
 go_wp2_with fail
 go_region_with (go_at_call 47;refine (BY2.out _ (below_drewN aiU 1)).mono ?_;rintro e w3 ⟨s3,c3,rfl,hp3,hb3⟩)
 all_goals
  have HP3:=aiS hp3
  have HB3 : Hid (Below w.heap.size w w3):=aiS (HB2.out.trans (Below.trans (below_drewN aiU 1) (hb3.mono HB2.out.size)))
  clear hp3 hb3
  go_wp2
  exact bodyPost_ret (v:=.tuple #[.slice s3 rn c3,.int .i64 re]) (by simp [results,Tryz.results19,go_sem]) rfl ⟨s3,c3,rfl,HP3.out,HB3.out⟩
set_option maxHeartbeats 4000000 in
theorem abX (c : aO) (ok : c.Ok) (au : Int) (hat : ay au) (s : Option Addr) (len cap : Nat) (K T : Nat -> Int) (E : Nat -> Option Addr × Nat × Nat) (EE : Nat -> Nat -> aB) (w : World) (h : qI w s len K T E EE) (hT : ∀ i,i < len -> ay (T i)) (hlen : (len : Int) <= 4611686018427387904) (h0 : gD c K T E EE len = 0) (h1 : iL T au len = 0) (hb : ¬ iT T au len < 0) :
 Calls Tryz.prog 19 #[aZ c,.int .i64 au,.slice s len cap] w (qU w (zZ (nS c (K (cK T au len)) (T (cK T au len)) (E (cK T au len)).1 (E (cK T au len)).2.1 (E (cK T au len)).2.2 (EE (cK T au len)) (K (je T au len)) (T (je T au len)) (E (je T au len)).1 (E (je T au len)).2.1 (E (je T au len)).2.2 (EE (je T au len)) au) (E (cK T au len)).2.1) (nS c (K (cK T au len)) (T (cK T au len)) (E (cK T au len)).1 (E (cK T au len)).2.1 (E (cK T au len)).2.2 (EE (cK T au len)) (K (je T au len)) (T (je T au len)) (E (je T au len)).1 (E (je T au len)).2.1 (E (je T au len)).2.2 (EE (je T au len)) au) (tq c.aC (EE (cK T au len)) (EE (je T au len)) (E (je T au len)).2.1 (au - T (cK T au len)) (T (je T au len) - T (cK T au len)))):=by
 obtain ⟨hpa,hva,hpb⟩:=MZ h1
 obtain ⟨hpb,hvb⟩:=hpb hb
 generalize cK T au len = va at *
 generalize je T au len = vb at *
 have BY:=λw' (hw : Below w.heap.size w w')=>Zg c (K va) (T va) (E va).1 (E va).2.1 (E va).2.2 (EE va) (K vb) (T vb) (E vb).1 (E vb).2.1 (E vb).2.2 (EE vb) au w' ((h.2 va hva).1.below hw) ((h.2 vb hvb).1.below hw) (h.2 va hva).2 (h.2 vb hvb).2
 unfold qU at BY ⊢
 generalize zZ (nS c (K va) (T va) (E va).1 (E va).2.1 (E va).2.2 (EE va) (K vb) (T vb) (E vb).1 (E vb).2.1 (E vb).2.2 (EE vb) au) (E va).2.1 = rn at *
 generalize nS c (K va) (T va) (E va).1 (E va).2.1 (E va).2.2 (EE va) (K vb) (T vb) (E vb).1 (E vb).2.1 (E vb).2.2 (EE vb) au = re at *
 generalize (tq c.aC (EE va) (EE vb) (E vb).2.1 (au - T va) (T vb - T va)) = rp at *
 have CK:=jr c s len cap K T E EE (w.alloc (.cells #[.int .i64 c.ring,.int .i64 c.window,.int .i64 c.base,.int .i64 c.gain,.int .i64 c.least,.int .i64 c.most,.int .i64 c.aD,.int .i64 c.num,.int .i64 c.den,.int .i64 c.extra,.bool c.aC] 29)) (h.below (aiT)) hlen;have bc:=ak.new w #[.int .i64 c.ring,.int .i64 c.window,.int .i64 c.base,.int .i64 c.gain,.int .i64 c.least,.int .i64 c.most,.int .i64 c.aD,.int .i64 c.num,.int .i64 c.den,.int .i64 c.extra,.bool c.aC] 29
 have hB0 : Below w.heap.size w (w.alloc (.cells #[.int .i64 c.ring,.int .i64 c.window,.int .i64 c.base,.int .i64 c.gain,.int .i64 c.least,.int .i64 c.most,.int .i64 c.aD,.int .i64 c.num,.int .i64 c.den,.int .i64 c.extra,.bool c.aC] 29)):=aiT
 have PK:=λw' hw=>Jr au s len cap K T E w' hw hlen
 unfold aZ at CK ⊢
 rw [h1,hpa,hpb] at PK
 rw [h0] at CK
 unfold aZ bO at BY
 have ah5 : decide ((vb : Int) < 0) = false:=decide_eq_false (by omega)
 clear h0 h1 hpa hpb hb;have HS:=aiS h
 go_enter Tryz.func19,Tryz.ntmps19
 go_wp2_with fail
 refine CK.mono ?_;rintro e w1 ⟨rfl,hb1⟩
 have SC:=aiS (bc.below hb1 (by simp))
 have HB1 : Hid (Below w.heap.size w w1):=aiS (hB0.trans (hb1.mono (by simp)))
 clear hb1 CK bc hB0
 go_wp2_with fail
 refine (PK _ (h.1.below HB1.out)).mono ?_;rintro e w2 ⟨rfl,hb2⟩
 have qc:=aiS (SC.out.below hb2 SC.out.lt)
 have HB2 : Hid (Below w.heap.size w w2):=aiS (HB1.out.trans (hb2.mono HB1.out.size))
 clear hb2 PK SC HB1
 obtain ⟨q0,q1,q2,q3,q4,q5,q6,q7,q8,q9,kr⟩:=eu qc.out
 rcases HS.out.1 with hz | ⟨b,off,rfl,hb,hcs⟩
 ·omega
 have hval : (va : Int) < len:=by omega
 have ah6 : (vb : Int) < len:=by omega
 obtain ⟨d0,d1,d2⟩:=hcs va hva
 have s0:=(HB2.out.cell (p:=⟨b,off + va * 3,none⟩) hb).trans d0;have s1:=(HB2.out.cell (p:=⟨b,off + va * 3 + 1,none⟩) hb).trans d1;have s2:=(HB2.out.cell (p:=⟨b,off + va * 3 + 2,none⟩) hb).trans d2;clear d0 d1 d2
 obtain ⟨d0,d1,d2⟩:=hcs vb hvb
 have r0:=(HB2.out.cell (p:=⟨b,off + vb * 3,none⟩) hb).trans d0;have r1:=(HB2.out.cell (p:=⟨b,off + vb * 3 + 1,none⟩) hb).trans d1;have r2:=(HB2.out.cell (p:=⟨b,off + vb * 3 + 2,none⟩) hb).trans d2;clear d0 d1 d2
 have BY2:=aiS (λw' (hw : Below w2.heap.size w2 w')=>BY w' (HB2.out.trans (hw.mono HB2.out.size)))
 clear BY hcs h HS
 generalize K va = ka at *
 generalize T va = ta at *
 generalize (E va).1 = ea at *
 generalize (E va).2.1 = el at *
 generalize (E va).2.2 = ec at *
 generalize K vb = kb at *
 generalize T vb = tb at *
 generalize (E vb).1 = fa at *
 generalize (E vb).2.1 = fl at *
 generalize (E vb).2.2 = fc at *
 go_wp2_with fail
 go_region_with (go_at_call 48;refine (BY2.out _ (below_drewN aiU 1)).mono ?_;rintro e w3 ⟨s3,c3,rfl,hp3,hb3⟩)
 all_goals
  have HP3:=aiS hp3
  have HB3 : Hid (Below w.heap.size w w3):=aiS (HB2.out.trans (Below.trans (below_drewN aiU 1) (hb3.mono HB2.out.size)))
  clear hp3 hb3
  go_wp2
  exact bodyPost_ret (v:=.tuple #[.slice s3 rn c3,.int .i64 re]) (by simp [results,Tryz.results19,go_sem]) rfl ⟨s3,c3,rfl,HP3.out,HB3.out⟩
theorem abY (c : aO) (ok : c.Ok) (au : Int) (hat : ay au) (s : Option Addr) (len cap : Nat) (K T : Nat -> Int) (E : Nat -> Option Addr × Nat × Nat) (EE : Nat -> Nat -> aB) (w : World) (h : qI w s len K T E EE) (hT : ∀ i,i < len -> ay (T i)) (hlen : (len : Int) <= 4611686018427387904) : Calls Tryz.prog 19 #[aZ c,.int .i64 au,.slice s len cap] w (qU w (Am c au K T E EE len) (rE c au K T E EE len) (Ip c au K T E EE len)):=by
 by_cases h0 : gD c K T E EE len = 0
 ·by_cases h1 : iL T au len = 0
  ·by_cases hb : iT T au len < 0
   ·have e : rE c au K T E EE len = nT c (K (cK T au len)) (T (cK T au len)) (E (cK T au len)).1 (E (cK T au len)).2.1 (E (cK T au len)).2.2 (EE (cK T au len)) au:=by unfold rE;rw [if_pos h0,if_pos h1,if_pos hb]
    unfold Am Ip
    rw [e,if_pos hb]
    exact abW c ok au hat s len cap K T E EE w h hT hlen h0 h1 hb
   ·have e : rE c au K T E EE len = nS c (K (cK T au len)) (T (cK T au len)) (E (cK T au len)).1 (E (cK T au len)).2.1 (E (cK T au len)).2.2 (EE (cK T au len)) (K (je T au len)) (T (je T au len)) (E (je T au len)).1 (E (je T au len)).2.1 (E (je T au len)).2.2 (EE (je T au len)) au:=by unfold rE;rw [if_pos h0,if_pos h1,if_neg hb]
    unfold Am Ip
    rw [e,if_neg hb]
    exact abX c ok au hat s len cap K T E EE w h hT hlen h0 h1 hb
  ·have e : rE c au K T E EE len = iL T au len:=by unfold rE;rw [if_pos h0,if_neg h1]
   unfold Am
   rw [e,if_neg h1]
   exact (abV c ok au hat s len cap K T E EE w h hT hlen h0 h1).mono λe w' ⟨h2,h3⟩=>⟨none,0,h2,.inl rfl,h3⟩
 ·have e : rE c au K T E EE len = gD c K T E EE len:=by unfold rE;rw [if_neg h0]
  unfold Am
  rw [e,if_neg h0]
  exact (abU c ok au hat s len cap K T E EE w h hT hlen h0).mono λe w' ⟨h2,h3⟩=>⟨none,0,h2,.inl rfl,h3⟩
end Go.Proofs.YtklkooeimkedgaaGreat
