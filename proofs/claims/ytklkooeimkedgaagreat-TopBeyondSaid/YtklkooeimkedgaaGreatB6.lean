/- Walk of TopBeyond. -/
import Derived.Deep.CutBlock
import Derived.Deep.DeepCutAuto
import Derived.Test.YtklkooeimkedgaaGreatB4
import Derived.Test.YtklkooeimkedgaaGreatB5
set_option linter.unusedVariables false
set_option linter.unusedSimpArgs false
namespace Go.Proofs.YtklkooeimkedgaaGreat
open Go.RowKit
theorem C9 : ∀ (n x : Nat),n <= 64 -> x < 2 ^ n -> x < 2 ^ Lib.bitLen x /\ (x ≠ 0 -> 2 ^ Lib.bitLen x <= 2 * x) /\ Lib.bitLen x <= n
 | 0,x,_,h=>by
   have : x = 0:=by simpa using h
   subst this
   exact ⟨by decide,λh=>absurd rfl h,by decide⟩
 | n + 1,x,hn,h=>by
   by_cases h0 : x = 0
   ·subst h0
    exact ⟨by decide,λh=>absurd rfl h,by (have : Lib.bitLen 0 = 0:=by decide);omega⟩
   ·have h64 : x < 2 ^ 64:=Nat.lt_of_lt_of_le h (Nat.pow_le_pow_right (by omega) hn)
    rw [Lib.bitLen_half x h0 h64,Nat.add_comm 1,Nat.pow_succ]
    obtain ⟨a,b,c⟩:=C9 n (x / 2) (by omega) (by rw [Nat.pow_succ] at h;omega)
    refine ⟨by omega,λ_=>?_,by omega⟩
    by_cases h1 : x / 2 = 0
    ·rw [h1]
     have : Lib.bitLen 0 = 0:=by decide
     rw [this]
     omega
    ·have:=b h1
     omega
theorem Yz (x : Nat) (h0 : 1 <= x) (h1 : x < 18446744073709551616) :
 ∃ s : Nat,s <= 63 /\ Lib.bitLen x = 64 - s /\ 9223372036854775808 <= x * 2 ^ s /\ x * 2 ^ s < 18446744073709551616:=by
 obtain ⟨a,b,c⟩:=C9 64 x (by omega) h1
 have b:=b (by omega)
 have hb1 : 1 <= Lib.bitLen x:=by
  rcases Nat.eq_zero_or_pos (Lib.bitLen x) with h | h
  ·rw [h] at a;omega
  ·exact h
 refine ⟨64 - Lib.bitLen x,by omega,by omega,?_,?_⟩
 ·have h2 : 2 ^ Lib.bitLen x * 2 ^ (64 - Lib.bitLen x) <= 2 * x * 2 ^ (64 - Lib.bitLen x):=Nat.mul_le_mul_right _ b
  rw [← Nat.pow_add,show Lib.bitLen x + (64 - Lib.bitLen x) = 64 by omega,Nat.mul_assoc] at h2
  omega
 ·have h2 : x * 2 ^ (64 - Lib.bitLen x) < 2 ^ Lib.bitLen x * 2 ^ (64 - Lib.bitLen x):=Nat.mul_lt_mul_of_pos_right a (Nat.two_pow_pos _)
  rw [← Nat.pow_add,show Lib.bitLen x + (64 - Lib.bitLen x) = 64 by omega] at h2
  exact h2
theorem aeA (x : Nat) (s : Nat) (hs : s <= 63) (hb : Lib.bitLen x = 64 - s) (h1 : x < 18446744073709551616) (w : World) :
 Calls Tryz.prog 183 #[.int .u64 x] w λe w'=>e = .returned (.int .i64 s) /\ w = w':=by
 have HB:=aiS hb;clear hb
 have hx0 : (0 : Int) <= (x : Int):=by omega
 have hx1 : (x : Int) <= 18446744073709551615:=by omega
 have hc:=LM x hx0 hx1
 go_enter Tryz.func183,Tryz.ntmps183
 go_wp2_with (go_at_call 150;refine (hc _).mono ?_;rintro e w' ⟨rfl,rfl⟩)
 go_ret
 refine ⟨aR ?_,rfl⟩
 rw [HB.out]
 unfold wrap64
 omega
theorem zx {u v y1 y0 q r : Int} (h : Nm u v y1 y0) (hd : wU u v y1 y0 q r) :
 IntKind.u64.wrap (IntKind.u64.wrap (4294967296 * r) + v) = 4294967296 * r + v /\ (q < 4294967296 -> IntKind.u64.wrap (q * y0) = q * y0) /\ IntKind.u64.wrap (r + y1) = r + y1 /\ (1 <= q -> IntKind.u64.wrap (q - 1) = q - 1):=by
 obtain ⟨a,b,c,d,e,f,g,i⟩:=h
 obtain ⟨d1,d2,d3,d4,d5,d6⟩:=hd
 simp only [IntKind.wrap_u64]
 refine ⟨by omega,λhq=>?_,by omega,λ_=>by omega⟩
 have h1 : 0 <= q * y0:=Int.mul_nonneg d5 c
 have h2 : q * y0 <= 4294967296 * y0:=Int.mul_le_mul_of_nonneg_right (by omega) c
 omega
theorem Eu {u y1 : Int} (hu : 0 <= u) (hu1 : u <= 18446744073709551615) (hy : 0 < y1) : IntKind.u64.wrap (u - IntKind.u64.wrap (u / y1 * y1)) = u - u / y1 * y1:=by
 have h1:=wT u y1 hy
 have h2 : 0 <= u / y1 * y1:=Int.mul_nonneg (Int.ediv_nonneg hu (by omega)) (by omega)
 simp only [IntKind.wrap_u64]
 omega
theorem Ev {u v y1 y0 q r : Int} (h : Nm u v y1 y0) (hd : wU u v y1 y0 q r)
 (hc : 4294967296 <= q \/ IntKind.u64.wrap (IntKind.u64.wrap (4294967296 * r) + v) < IntKind.u64.wrap (q * y0)) : 4294967296 <= q \/ 4294967296 * r + v < q * y0:=by
 obtain ⟨w1,w2,w3,w4⟩:=zx h hd
 rcases hc with hc | hc
 ·exact .inl hc
 ·rcases Int.lt_or_le q 4294967296 with hq | hq
  ·rw [w1,w2 hq] at hc;exact .inr hc
  ·exact .inl hq
def Nj (u v y1 y0 : Int) (q : Value) : Prop:=∃ a : Int,q = .int .u64 a /\ Got u v y1 y0 a
theorem wV {u v y1 y0 q r : Int} (h : Nm u v y1 y0) (hd : wU u v y1 y0 q r)
 (hc : 4294967296 <= q \/ IntKind.u64.wrap (IntKind.u64.wrap (4294967296 * r) + v) < IntKind.u64.wrap (q * y0)) (hr : 4294967296 <= IntKind.u64.wrap (r + y1)) :
 Nj u v y1 y0 (.int .u64 (IntKind.u64.wrap (q - 1))):=by
 have hc':=Ev h hd hc
 obtain ⟨w1,w2,w3,w4⟩:=zx h hd
 rw [w4 (zw h hd hc').2]
 rw [w3] at hr
 exact ⟨_,rfl,Pb h hd hc' hr⟩
theorem I7 {u v y1 y0 q r : Int} (h : Nm u v y1 y0) (hd : wU u v y1 y0 q r) (hq : q < 4294967296)
 (hc : IntKind.u64.wrap (q * y0) <= IntKind.u64.wrap (IntKind.u64.wrap (4294967296 * r) + v)) :
 Nj u v y1 y0 (.int .u64 q):=by
 obtain ⟨w1,w2,w3,w4⟩:=zx h hd
 rw [w1,w2 hq] at hc
 exact ⟨_,rfl,TF h hd hc⟩
theorem Ew {u v y1 y0 q r : Int} (h : Nm u v y1 y0) (hd : wU u v y1 y0 q r)
 (hc : 4294967296 <= q \/ IntKind.u64.wrap (IntKind.u64.wrap (4294967296 * r) + v) < IntKind.u64.wrap (q * y0)) (hr : IntKind.u64.wrap (r + y1) < 4294967296) :
 (∃ a b : Int,Value.int .u64 (IntKind.u64.wrap (q - 1)) = .int .u64 a /\ Value.int .u64 (IntKind.u64.wrap (r + y1)) = .int .u64 b /\ wU u v y1 y0 a b) /\ (IntKind.u64.wrap (q - 1)).toNat < q.toNat:=by
 have hc':=Ev h hd hc
 obtain ⟨w1,w2,w3,w4⟩:=zx h hd
 have hm:=(zw h hd hc').2
 rw [w4 hm]
 rw [w3] at hr ⊢
 exact ⟨⟨_,_,rfl,rfl,Yy h hd hc' hr⟩,by omega⟩
theorem Nk {U L l1 l0 y1 y0 Y q1 q0 V hi lo y : Int} {s : Nat} (g1 : Got U l1 y1 y0 q1) (g0 : Got V l0 y1 y0 q0)
 (hY : y1 * 4294967296 + y0 = Y) (hV : V = U * 4294967296 + l1 - q1 * Y) (hL : l1 * 4294967296 + l0 = L)
 (hU : U * 18446744073709551616 + L = (hi * 18446744073709551616 + lo) * 2 ^ s) (hy : Y = y * 2 ^ s) (hy0 : 0 < y) :
 q1 * 4294967296 + q0 = (hi * 18446744073709551616 + lo) / y /\ (V * 4294967296 + l0 - q0 * Y) / 2 ^ s = (hi * 18446744073709551616 + lo) % y:=by
 obtain ⟨a1,b1⟩:=g1
 obtain ⟨a0,b0⟩:=g0
 rw [hY] at a1 b1 a0 b0
 have hp : (0 : Int) < 2 ^ s:=by
  have : (0 : Nat) < 2 ^ s:=Nat.two_pow_pos s
  have h2 : ((2 ^ s : Nat) : Int) = (2 : Int) ^ s:=by push_cast;rfl
  omega
 generalize (2 : Int) ^ s = p at *
 generalize hN : hi * 18446744073709551616 + lo = N at *
 have e1 : N * p = (q1 * 4294967296 + q0) * Y + (V * 4294967296 + l0 - q0 * Y):=by
  rw [← hU,← hL,hV];grind
 have e2 : V * 4294967296 + l0 - q0 * Y = (N - (q1 * 4294967296 + q0) * y) * p:=by
  rw [hy] at e1 ⊢;grind
 generalize hR : V * 4294967296 + l0 - q0 * Y = R at *
 generalize hQ : q1 * 4294967296 + q0 = Q at *
 have r0 : 0 <= R:=by omega
 have r1 : R < y * p:=by rw [Int.add_mul] at b0;omega
 rw [e2] at r0 r1
 have s0 : 0 <= N - Q * y:=by
  rcases Int.lt_or_le (N - Q * y) 0 with h | h
  ·have:=Int.mul_neg_of_neg_of_pos h hp;omega
  ·exact h
 have s1 : N - Q * y < y:=Int.lt_of_mul_lt_mul_right r1 (by omega)
 have hq : N / y = Q:=zu hy0 (by omega) (by omega)
 refine ⟨hq.symm,?_⟩
 rw [e2,Int.mul_ediv_cancel _ (by omega)]
 have h5:=Int.mul_ediv_add_emod N y
 rw [hq,Int.mul_comm] at h5
 omega
set_option maxRecDepth 100000 in
set_option maxHeartbeats 2000000 in
theorem Nl (hi lo y Y U L y1 y0 l1 l0 : Int) (s : Nat) (h0 : 1 <= hi) (h1 : hi < y) (h2 : y <= 18446744073709551615) (h3 : 0 <= lo) (h4 : lo <= 18446744073709551615) (w : World)
 (hs : s <= 63) (hz : ∀ w,Calls Tryz.prog 183 #[.int .u64 y] w λe w'=>e = .returned (.int .i64 s) /\ w = w')
 (n1 : Nm U l1 y1 y0) (n0 : 0 <= l0 /\ l0 < 4294967296)
 (eY : IntKind.u64.wrap (y * 2 ^ s) = Y) (eU : bits .or .u64 (IntKind.u64.wrap (hi * 2 ^ s)) (lo / 2 ^ (64 - s)) = U) (eL : IntKind.u64.wrap (lo * 2 ^ s) = L)
 (e1 : Y / 4294967296 = y1) (e0 : bits .and .u64 Y 4294967295 = y0) (e2 : L / 4294967296 = l1) (e3 : bits .and .u64 L 4294967295 = l0)
 (hY : Hid (y1 * 4294967296 + y0 = Y)) (hL : Hid (l1 * 4294967296 + l0 = L)) (hU : Hid (U * 18446744073709551616 + L = (hi * 18446744073709551616 + lo) * 2 ^ s)) (hy : Hid (Y = y * 2 ^ s)) :
 Calls Tryz.prog 139 #[.int .u64 hi,.int .u64 lo,.int .u64 y] w λe w'=>e = .returned (.tuple #[.int .u64 ((hi * 18446744073709551616 + lo) / y),.int .u64 ((hi * 18446744073709551616 + lo) % y)]) /\ w = w':=by
 have c0 : (y == 0) = false:=beq_eq_false_iff_ne.2 (by omega)
 have c1 : (hi == 0) = false:=beq_eq_false_iff_ne.2 (by omega)
 have c2 : decide (y <= hi) = false:=by simp;omega
 have HZ:=aiS hz;clear hz
 have N1:=aiS n1
 obtain ⟨a,b,c,d,e,f,g,i⟩:=n1
 have u1 : U <= 18446744073709551615:=by omega
 have hYs : Y <= 18446744073709551615 /\ 0 < Y:=by have:=hY.out;omega
 go_enter Tryz.func139,Tryz.ntmps139
 go_upto_block 0 with (go_at_call 183;refine (HZ.out _).mono ?_;rintro e w' ⟨rfl,rfl⟩)
 go_cut [15] (λq wc=>Nj U l1 y1 y0 q /\ w = wc)
 case first =>
  go_wp2_with fail
  go_loop [15,16] (λq r=>∃ a b : Int,q = .int .u64 a /\ r = .int .u64 b /\ wU U l1 y1 y0 a b) (λq _=>(intOf q).toNat)
  case atStart=>exact ⟨_,_,rfl,rfl,by rw [Eu g u1 (by omega)];exact Gu N1.out⟩
  case round =>
   obtain ⟨a,b,rfl,rfl,hd⟩:=hrel
   go_wp2
   ·go_meet
    case rel=>exact ⟨wV N1.out hd (by assumption) (by assumption),rfl⟩
   ·exact Ew N1.out hd (by assumption) (by assumption)
   ·have hm : a < 4294967296 /\ IntKind.u64.wrap (a * y0) <= IntKind.u64.wrap (IntKind.u64.wrap (4294967296 * b) + l1):=by assumption
    go_meet
    case rel=>exact ⟨I7 N1.out hd hm.1 hm.2,rfl⟩
   ·go_meet
    case rel=>exact ⟨wV N1.out hd (.inl (by assumption)) (by assumption),rfl⟩
   ·exact Ew N1.out hd (.inl (by omega)) (by assumption)
 case rest =>
  obtain ⟨⟨q1,rfl,hq1⟩,rfl⟩:=hcut
  obtain ⟨ahG,ahH⟩:=Gv N1.out hq1
  obtain ⟨v1,v2,v3⟩:=I6 hq1 hY.out (by omega)
  obtain ⟨V,hV⟩ : ∃ V,V = U * 4294967296 + l1 - q1 * Y:=⟨_,rfl⟩
  rw [← hV] at v1 v2 v3
  have HV:=aiS hV;clear hV
  have e4 : IntKind.u64.wrap (IntKind.u64.wrap (IntKind.u64.wrap (U * 4294967296) + l1) - IntKind.u64.wrap (q1 * Y)) = V:=by
   simp only [IntKind.wrap_u64];exact v1
  clear v1
  have N0 : Nm V l0 y1 y0:=⟨a,b,c,d,n0.1,n0.2,v2,by have:=hY.out;omega⟩
  have I8:=aiS N0;clear N0
  have v4 : V <= 18446744073709551615:=by omega
  go_upto_block 2 with fail
  go_cut [18] (λq wc=>Nj V l0 y1 y0 q /\ w = wc)
  case first =>
   go_wp2_with fail
   go_loop [18,16] (λq r=>∃ a b : Int,q = .int .u64 a /\ r = .int .u64 b /\ wU V l0 y1 y0 a b) (λq _=>(intOf q).toNat)
   case atStart=>exact ⟨_,_,rfl,rfl,by rw [Eu v2 v4 (by omega)];exact Gu I8.out⟩
   case round =>
    obtain ⟨a,b,rfl,rfl,hd⟩:=hrel
    go_wp2
    ·go_meet
     case rel=>exact ⟨wV I8.out hd (by assumption) (by assumption),rfl⟩
    ·exact Ew I8.out hd (by assumption) (by assumption)
    ·have hm : a < 4294967296 /\ IntKind.u64.wrap (a * y0) <= IntKind.u64.wrap (IntKind.u64.wrap (4294967296 * b) + l0):=by assumption
     go_meet
     case rel=>exact ⟨I7 I8.out hd hm.1 hm.2,rfl⟩
    ·go_meet
     case rel=>exact ⟨wV I8.out hd (.inl (by assumption)) (by assumption),rfl⟩
    ·exact Ew I8.out hd (.inl (by omega)) (by assumption)
  case rest =>
   obtain ⟨⟨q0,rfl,hq0⟩,rfl⟩:=hcut
   obtain ⟨ahI,ahJ⟩:=Gv I8.out hq0
   obtain ⟨r1,r2,r3⟩:=I6 hq0 hY.out (by omega)
   obtain ⟨f1,f2⟩:=Nk hq1 hq0 hY.out HV.out hL.out hU.out hy.out (by omega)
   have F1:=aiS f1;have F2:=aiS f2;have R1:=aiS r1
   clear f1 f2 r1
   go_wp2
   go_ret2
   refine ⟨?_,rfl⟩
   rw [← F1.out,← F2.out,← R1.out]
   simp only [IntKind.wrap_u64]
   rfl
theorem Pd (h l s : Nat) (hl : l < 2 ^ s) : h * 2 ^ s ||| l = h * 2 ^ s + l:=by
 have:=Nat.shiftLeft_add_eq_or_of_lt hl h
 rw [Nat.shiftLeft_eq] at this
 exact this.symm
theorem Pe (hi lo y : Nat) (h0 : 1 <= hi) (h1 : hi < y) (h2 : y < 18446744073709551616) (h4 : lo < 18446744073709551616) (w : World) :
 Calls Tryz.prog 139 #[.int .u64 hi,.int .u64 lo,.int .u64 y] w λe w'=>e = .returned (.tuple #[.int .u64 (((hi : Int) * 18446744073709551616 + lo) / y),.int .u64 (((hi : Int) * 18446744073709551616 + lo) % y)]) /\ w = w':=by
 obtain ⟨s,hs,hb,ya,yb⟩:=Yz y (by omega) h2
 have hp : 0 < 2 ^ s:=Nat.two_pow_pos s
 have hpp : 2 ^ (64 - s) * 2 ^ s = 18446744073709551616:=by rw [← Nat.pow_add,show 64 - s + s = 64 by omega]
 have k1 : lo * 2 ^ s / 18446744073709551616 = lo / 2 ^ (64 - s):=by rw [← hpp,Nat.mul_div_mul_right _ _ hp]
 have k2 : lo / 2 ^ (64 - s) < 2 ^ s:=by
  rw [Nat.div_lt_iff_lt_mul (Nat.two_pow_pos _),Nat.mul_comm,hpp];exact h4
 have k3 : hi * 2 ^ s + 2 ^ s <= y * 2 ^ s:=by rw [← Nat.succ_mul];exact Nat.mul_le_mul_right _ h1
 have k4 : (hi * 18446744073709551616 + lo) * 2 ^ s = hi * 2 ^ s * 18446744073709551616 + lo * 2 ^ s:=by
  rw [Nat.add_mul,Nat.mul_right_comm]
 have cY : (y : Int) * 2 ^ s = ((y * 2 ^ s : Nat) : Int):=by push_cast;rfl
 have cH : (hi : Int) * 2 ^ s = ((hi * 2 ^ s : Nat) : Int):=by push_cast;rfl
 have cL : (lo : Int) * 2 ^ s = ((lo * 2 ^ s : Nat) : Int):=by push_cast;rfl
 have cD : (lo : Int) / 2 ^ (64 - s) = ((lo / 2 ^ (64 - s) : Nat) : Int):=by push_cast;rfl
 have cN : ((hi : Int) * 18446744073709551616 + lo) * 2 ^ s = (((hi * 18446744073709551616 + lo) * 2 ^ s : Nat) : Int):=by
  rw [Int.natCast_mul,Int.natCast_add,Int.natCast_mul,Int.natCast_pow];rfl
 have kor:=Pd hi (lo / 2 ^ (64 - s)) s k2;have kd:=Nat.div_add_mod (lo * 2 ^ s) 18446744073709551616
 refine Nl hi lo y ((y * 2 ^ s : Nat) : Int) ((hi * 2 ^ s + lo / 2 ^ (64 - s) : Nat) : Int) ((lo * 2 ^ s % 18446744073709551616 : Nat) : Int)
  ((y * 2 ^ s / 4294967296 : Nat) : Int) ((y * 2 ^ s % 4294967296 : Nat) : Int) ((lo * 2 ^ s % 18446744073709551616 / 4294967296 : Nat) : Int) ((lo * 2 ^ s % 18446744073709551616 % 4294967296 : Nat) : Int)
  s (by omega) (by omega) (by omega) (by omega) (by omega) w hs (λw=>aeA y s hs hb h2 w) ?_ (by omega) ?_ ?_ ?_ ?_ ?_ ?_ ?_ (aiS ?_) (aiS ?_) (aiS ?_) (aiS ?_)
 ·constructor <;> omega
 ·rw [cY,IntKind.wrap_u64];omega
 ·rw [cH,cD,qX.wrapN _ (by omega),bits_or_u64_nat _ _ (by omega) (by omega),kor]
 ·rw [cL,IntKind.wrap_u64];omega
 ·omega
 ·exact qX.maskN _ yb
 ·omega
 ·exact qX.maskN _ (by omega)
 ·omega
 ·omega
 ·rw [cN,k4];omega
 ·exact cY.symm
theorem LP (hi lo y : Int) (h0 : 0 <= hi) (h1 : hi < y) (h2 : y <= 18446744073709551615) (h3 : 0 <= lo) (h4 : lo <= 18446744073709551615) (w : World) :
 Calls Tryz.prog 139 #[.int .u64 hi,.int .u64 lo,.int .u64 y] w λe w'=>e = .returned (.tuple #[.int .u64 ((hi * 18446744073709551616 + lo) / y),.int .u64 ((hi * 18446744073709551616 + lo) % y)]) /\ ∃ n,w' = w.drewN n:=by
 rcases Int.lt_or_le 0 hi with hh | hh
 ·obtain ⟨hi,rfl⟩:=Int.eq_ofNat_of_zero_le h0
  obtain ⟨lo,rfl⟩:=Int.eq_ofNat_of_zero_le h3
  obtain ⟨y,rfl⟩:=Int.eq_ofNat_of_zero_le (show 0 <= y by omega)
  refine (Pe hi lo y (by omega) (by omega) (by omega) (by omega) w).mono ?_
  rintro e w' ⟨rfl,rfl⟩
  exact ⟨rfl,0,rfl⟩
 ·obtain rfl : hi = 0:=by omega
  have c0 : (y == 0) = false:=beq_eq_false_iff_ne.2 (by omega)
  have c2 : decide (y <= 0) = false:=by simp;omega
  rw [show (0 : Int) * 18446744073709551616 + lo = lo by omega]
  go_enter Tryz.func139,Tryz.ntmps139
  go_wp2
  go_region
  all_goals
   go_wp2
   go_ret2
   exact ⟨rfl,1,rfl⟩
theorem Cx {a : Int} (h : ay a) : gY (a.natAbs : Int):=by unfold ay at h;unfold gY;omega
theorem sign_mul (a b : Int) : a * b = if decide (a < 0) = decide (b < 0) then (a.natAbs : Int) * (b.natAbs : Int) else -((a.natAbs : Int) * (b.natAbs : Int)):=by
 rcases Int.lt_or_le a 0 with ha | ha <;> rcases Int.lt_or_le b 0 with hb | hb
 ·rw [show (a.natAbs : Int) = -a by omega,show (b.natAbs : Int) = -b by omega]
  simp [ha,hb,Int.neg_mul,Int.mul_neg]
 ·rw [show (a.natAbs : Int) = -a by omega,show (b.natAbs : Int) = b by omega]
  simp [ha,Int.not_lt.2 hb,Int.neg_mul]
 ·rw [show (a.natAbs : Int) = a by omega,show (b.natAbs : Int) = -b by omega]
  simp [hb,Int.not_lt.2 ha,Int.mul_neg]
 ·rw [show (a.natAbs : Int) = a by omega,show (b.natAbs : Int) = b by omega]
  simp [Int.not_lt.2 ha,Int.not_lt.2 hb]
theorem aeB (h l : Int) (h0 : 0 <= h) (h1 : h < 65536) (l0 : 0 <= l) (l1 : l < 18446744073709551616) :
 bits .or .u64 (IntKind.u64.wrap (h * 281474976710656)) (l / 65536) = h * 281474976710656 + l / 65536:=by
 obtain ⟨h,rfl⟩:=Int.eq_ofNat_of_zero_le h0
 obtain ⟨l,rfl⟩:=Int.eq_ofNat_of_zero_le l0
 rw [show (h : Int) * 281474976710656 = ((h * 281474976710656 : Nat) : Int) by omega,qX.wrapN _ (by omega),show (l : Int) / 65536 = ((l / 65536 : Nat) : Int) by omega,
  bits_or_u64_nat _ _ (by omega) (by omega)]
 have:=Pd h (l / 65536) 48 (by omega)
 rw [show (2 : Nat) ^ 48 = 281474976710656 from rfl] at this
 rw [this]
 omega
theorem TG {a b P : Int} (hP : (a.natAbs : Int) * (b.natAbs : Int) = P) (h0 : 0 <= P) (h : (P / 18446744073709551616 / 65536 != 0) = true) :
 Cu (!decide (a < 0) == decide (b < 0)) = aN a b:=by
 have h' : P / 18446744073709551616 / 65536 ≠ 0:=by simpa using h
 unfold aN sat Cu
 rw [sign_mul a b,hP]
 by_cases c : decide (a < 0) = decide (b < 0)
 ·rw [if_pos c,c];simp;omega
 ·rw [if_neg c]
  have : (!decide (a < 0) == decide (b < 0)) = true:=by
   cases h1 : decide (a < 0) <;> cases h2 : decide (b < 0) <;> simp_all
  rw [if_pos this];omega
theorem YA {a b P : Int} (hP : (a.natAbs : Int) * (b.natAbs : Int) = P) (h0 : 0 <= P) (h : (P / 18446744073709551616 / 65536 != 0) = false) :
 Es (bits .or .u64 (IntKind.u64.wrap (P / 18446744073709551616 * 281474976710656)) (P % 18446744073709551616 / 65536)) (IntKind.u64.wrap (P % 18446744073709551616 * 281474976710656) != 0) (!decide (a < 0) == decide (b < 0)) = aN a b /\
  gY (bits .or .u64 (IntKind.u64.wrap (P / 18446744073709551616 * 281474976710656)) (P % 18446744073709551616 / 65536)):=by
 have h' : P / 18446744073709551616 / 65536 = 0:=by simpa using h
 rw [aeB _ _ (by omega) (by omega) (by omega) (by omega)]
 refine ⟨?_,by unfold gY;omega⟩
 have hm : (IntKind.u64.wrap (P % 18446744073709551616 * 281474976710656) != 0) = decide (P % 65536 ≠ 0):=by
  rw [IntKind.wrap_u64,Bool.eq_iff_iff]
  simp only [bne_iff_ne,ne_eq,decide_eq_true_eq]
  omega
 rw [hm]
 unfold Es aN
 rw [sign_mul a b,hP]
 by_cases c : decide (a < 0) = decide (b < 0)
 ·have : (!decide (a < 0) == decide (b < 0)) = false:=by rw [c];simp
  rw [if_pos c,this,if_neg (by simp)]
  congr 1;omega
 ·have : (!decide (a < 0) == decide (b < 0)) = true:=by
   cases h1 : decide (a < 0) <;> cases h2 : decide (b < 0) <;> simp_all
  rw [if_neg c,this,if_pos rfl]
  congr 1
  by_cases d : P % 65536 ≠ 0
  ·rw [if_pos (by simpa using d)];omega
  ·rw [if_neg (by simpa using d)];omega
theorem qH (a b : Int) (ha0 : ay a) (hb0 : ay b) (w : World) :
 Calls Tryz.prog 29 #[.int .i64 a,.int .i64 b] w λe w'=>e = .returned (.int .i64 (aN a b)) /\ w = w':=by
 have ca:=O7 a ha0;have cb:=O7 b hb0;have hm:=FN (a.natAbs : Int) b.natAbs (Cx ha0) (Cx hb0)
 obtain ⟨P,hP⟩ : ∃ P,(a.natAbs : Int) * (b.natAbs : Int) = P:=⟨_,rfl⟩
 have h0 : 0 <= P:=by rw [← hP];exact Int.mul_nonneg (by omega) (by omega)
 have hu : P / 18446744073709551616 <= 18446744073709551615:=by
  have h1:=(Cx ha0).2
  have h2 : (b.natAbs : Int) <= 18446744073709551616:=by have:=(Cx hb0).2;omega
  have h3 : P <= 18446744073709551615 * 18446744073709551616:=by rw [← hP];exact Int.mul_le_mul h1 h2 (by omega) (by omega)
  omega
 rw [hP] at hm
 have HP:=aiS hP;clear hP
 go_enter Tryz.func29,Tryz.ntmps29
 go_wp2_with fail
 refine (ca _).mono ?_;rintro e w' ⟨rfl,rfl⟩
 go_wp2_with fail
 refine (cb _).mono ?_;rintro e w' ⟨rfl,rfl⟩
 go_wp2_with fail
 refine (hm _).mono ?_;rintro e w' ⟨rfl,rfl⟩
 go_wp2_with fail
 ·have hc : (P / 18446744073709551616 / 65536 != 0) = true:=by assumption
  refine (Et _ _).mono ?_;rintro e w' ⟨rfl,rfl⟩
  have HE:=aiS (TG HP.out h0 hc)
  go_wp2
  go_ret
  exact ⟨aR HE.out,rfl⟩
 ·have hc : (P / 18446744073709551616 / 65536 != 0) = false:=by assumption
  have hg:=YA HP.out h0 hc
  refine (Xc _ _ _ hg.2 _).mono ?_;rintro e w' ⟨rfl,rfl⟩
  have HE:=aiS hg.1;clear hg
  go_wp2
  go_ret
  exact ⟨aR HE.out,rfl⟩
theorem VW (a : Int) (ha0 : ay a) (w : World) :
 Calls Tryz.prog 30 #[.int .i64 a] w λe w'=>e = .returned (.int .i64 (ql a)) /\ w = w':=by
 have hs:=tQ 0 a (by unfold ay;omega) ha0
 rw [show aK 0 a = ql a by unfold aK ql;congr 1;omega] at hs
 go_enter Tryz.func30,Tryz.ntmps30
 go_wp2_with fail
 refine (hs _).mono ?_;rintro e w' ⟨rfl,rfl⟩
 go_wp2
 go_ret
 exact ⟨rfl,rfl⟩
theorem LQ (x a b : Int) (w : World) :
 Calls Tryz.prog 140 #[.int .i64 x,.int .i64 a,.int .i64 b] w λe w'=>e = .returned (.int .i64 (rH x a b)) /\ w = w':=by
 go_enter Tryz.func140,Tryz.ntmps140
 go_wp2_with fail
 all_goals
  refine (Gt _ _ _ _).mono ?_;rintro e w' ⟨rfl,rfl⟩
  go_wp2
  all_goals
   go_ret
   refine ⟨aR ?_,rfl⟩
   unfold rH
   omega
theorem neg_ediv (x d : Int) (hd : 0 < d) : (-x) / d = -(x / d + (if x % d ≠ 0 then 1 else 0)):=by
 have h1:=Int.mul_ediv_add_emod x d
 have h2:=Int.emod_nonneg x (show d ≠ 0 by omega)
 have h3:=Int.emod_lt_of_pos x hd
 rw [Int.mul_comm] at h1
 generalize x / d = q at *
 by_cases h : x % d ≠ 0
 ·rw [if_pos h]
  refine zu hd ?_ ?_
  ·rw [Int.neg_mul,Int.add_mul];omega
  ·rw [Int.neg_mul,Int.add_mul];omega
 ·rw [if_neg h]
  refine zu hd ?_ ?_
  ·rw [Int.neg_mul,Int.add_mul];omega
  ·rw [Int.neg_mul,Int.add_mul];omega
theorem I9 (n num den : Int) (hn : gY n) (h1 : 1 <= den) (h2 : den <= 4611686018427387904) (h3 : 0 <= num) (h4 : num <= den) (w : World) :
 Calls Tryz.prog 180 #[.int .u64 n,.int .i64 num,.int .i64 den] w λe w'=>e = .returned (.tuple #[.int .u64 (n * num / den),.bool (n * num % den != 0)]) /\ ∃ k,w' = w.drewN k:=by
 obtain ⟨n1,n2⟩:=hn
 have hm:=FN n num ⟨n1,n2⟩ ⟨h3,by omega⟩
 obtain ⟨P,hP⟩ : ∃ P,n * num = P:=⟨_,rfl⟩
 rw [hP] at hm ⊢
 have p0 : 0 <= P:=by rw [← hP];exact Int.mul_nonneg n1 h3
 have p1 : P / 18446744073709551616 < den:=by
  rw [Int.ediv_lt_iff_lt_mul (by omega),← hP]
  have : n * num <= 18446744073709551615 * den:=Int.mul_le_mul n2 h4 h3 (by omega)
  omega
 have hd:=LP (P / 18446744073709551616) (P % 18446744073709551616) den (by omega) p1 (by omega) (by omega) (by omega)
 rw [show P / 18446744073709551616 * 18446744073709551616 + P % 18446744073709551616 = P by omega] at hd
 clear hP
 go_enter Tryz.func180,Tryz.ntmps180
 go_wp2_with fail
 refine (hm _).mono ?_;rintro e w' ⟨rfl,rfl⟩
 go_wp2_with fail
 refine (hd _).mono ?_;rintro e w' ⟨rfl,k,rfl⟩
 go_wp2
 go_ret2
 exact ⟨rfl,k,rfl⟩
def qN (num den : Int) : Int:=if iJ num den then 0 else 3
theorem FP (num den : Int) (w : World) :
 Calls Tryz.prog 179 #[.int .i64 num,.int .i64 den] w λe w'=>e = .returned (.int .i64 (qN num den)) /\ w = w':=by
 by_cases h1 : den < 1
 ·have HE : Hid (qN num den = 3):=aiS (by unfold qN iJ;rw [if_neg (by simp;omega)])
  go_enter Tryz.func179,Tryz.ntmps179
  go_wp2
  go_ret
  exact ⟨aR HE.out.symm,rfl⟩
 by_cases h2 : 4611686018427387904 < den
 ·have HE : Hid (qN num den = 3):=aiS (by unfold qN iJ;rw [if_neg (by simp;omega)])
  go_enter Tryz.func179,Tryz.ntmps179
  go_wp2
  go_ret
  exact ⟨aR HE.out.symm,rfl⟩
 have hc:=Gt num 0 den
 by_cases h3 : 0 <= num /\ num <= den
 ·have HE : Hid (qN num den = 0):=aiS (by unfold qN iJ;rw [if_pos (by simp;omega)])
  rw [show min (max num 0) den = num by omega] at hc
  clear h3
  go_enter Tryz.func179,Tryz.ntmps179
  go_wp2_with fail
  refine (hc _).mono ?_;rintro e w' ⟨rfl,rfl⟩
  go_wp2
  go_ret
  exact ⟨aR HE.out.symm,rfl⟩
 ·have HE : Hid (qN num den = 3):=aiS (by unfold qN iJ;rw [if_neg (by simp;omega)])
  obtain ⟨c,hcc⟩ : ∃ c,min (max num 0) den = c:=⟨_,rfl⟩
  rw [hcc] at hc
  have hne : (num != c) = true:=by rw [bne_iff_ne];omega
  clear h3 hcc
  go_enter Tryz.func179,Tryz.ntmps179
  go_wp2_with fail
  refine (hc _).mono ?_;rintro e w' ⟨rfl,rfl⟩
  go_wp2
  go_ret
  exact ⟨aR HE.out.symm,rfl⟩
theorem LU (num den : Int) (h : iJ num den = true) (w : World) :
 Calls Tryz.prog 251 #[.int .i64 num,.int .i64 den] w λe w'=>e = .returned (.tuple #[.int .i64 (rJ num den),.int .i64 0]) /\ ∃ k,w' = w.drewN k:=by
 have hc:=FP num den
 rw [show qN num den = 0 by unfold qN;rw [h];rfl] at hc
 obtain ⟨h1,h2,h3,h4⟩:=qW.1 h
 have hp:=I9 65536 num den (by unfold gY;omega) h1 h2 h3 h4
 obtain ⟨b1,b2⟩:=Aq h
 rw [show 65536 * num / den = rJ num den from rfl] at hp
 clear h
 go_enter Tryz.func251,Tryz.ntmps251
 go_wp2_with fail
 refine (hc _).mono ?_;rintro e w' ⟨rfl,rfl⟩
 go_wp2_with fail
 refine (hp _).mono ?_;rintro e w' ⟨rfl,k,rfl⟩
 go_wp2
 go_ret2
 exact ⟨rfl,k,rfl⟩
set_option maxHeartbeats 400000 in
theorem Pf (a b num den : Int) (ha0 : ay a) (hb0 : ay b) (h : iJ num den = true) (w : World) :
 Calls Tryz.prog 135 #[.int .i64 a,.int .i64 b,.int .i64 num,.int .i64 den] w λe w'=>e = .returned (.tuple #[.int .i64 (cO a b num den),.int .i64 0]) /\ ∃ k,w' = w.drewN k:=by
 have hc:=FP num den
 rw [show qN num den = 0 by unfold qN;rw [h];rfl] at hc
 obtain ⟨h1,h2,h3,h4⟩:=qW.1 h
 obtain ⟨a1,a2⟩:=ha0
 obtain ⟨b1,b2⟩:=hb0
 clear h
 by_cases hab : a <= b
 ·have hp:=I9 (b - a) num den (by unfold gY;omega) h1 h2 h3 h4
  have hq:=Cw (n:=b - a) (num:=num) (den:=den) (by omega) (by omega) h3 h4
  have HE : Hid (cO a b num den = a + (b - a) * num / den):=aiS rfl
  generalize (b - a) * num = P at *
  generalize P / den = q at *
  obtain ⟨q1,q2⟩:=hq
  go_enter Tryz.func135,Tryz.ntmps135
  go_wp2_with fail
  refine (hc _).mono ?_;rintro e w' ⟨rfl,rfl⟩
  go_wp2_with fail
  rw [show IntKind.u64.wrap (wrap64 (b - a)) = b - a by rw [IntKind.wrap_u64];unfold wrap64;omega]
  refine (hp _).mono ?_;rintro e w' ⟨rfl,k,rfl⟩
  go_wp2
  go_ret2
  refine ⟨?_,k,rfl⟩
  rw [HE.out]
  have : wrap64 (a + wrap64 q) = a + q:=by unfold wrap64;omega
  rw [← this]
  rfl
 ·have hp:=I9 (a - b) num den (by unfold gY;omega) h1 h2 h3 h4
  have hq:=Cw (n:=a - b) (num:=num) (den:=den) (by omega) (by omega) h3 h4
  have hr:=Int.mul_ediv_add_emod ((a - b) * num) den
  have hr0:=Int.emod_nonneg ((a - b) * num) (show den ≠ 0 by omega)
  have hle : (a - b) * num <= (a - b) * den:=Int.mul_le_mul_of_nonneg_left h4 (by omega)
  have key : (a - b) * num % den ≠ 0 -> (a - b) * num / den + 1 <= a - b:=by
   intro hne
   have : (a - b) * num / den < a - b:=(Int.ediv_lt_iff_lt_mul (by omega)).2 (by
    rcases Int.lt_or_le ((a - b) * num) ((a - b) * den) with h | h
    ·exact h
    ·have e : (a - b) * num = (a - b) * den:=by omega
     rw [e,Int.mul_emod_left] at hne
     exact absurd rfl hne)
   omega
  have HE : Hid (cO a b num den = a - ((a - b) * num / den + (if (a - b) * num % den ≠ 0 then 1 else 0))):=by
   refine aiS ?_
   unfold cO
   rw [show (b - a) * num = -((a - b) * num) by rw [← Int.neg_mul];congr 1;omega,neg_ediv _ _ (by omega)]
   omega
  clear hr hr0 hle
  generalize (a - b) * num = P at *
  generalize P / den = q at *
  obtain ⟨q1,q2⟩:=hq
  by_cases hm : P % den ≠ 0
  ·have key:=key hm
   have hm' : (P % den != 0) = true:=by rw [bne_iff_ne];exact hm
   rw [hm'] at hp
   have HE : Hid (cO a b num den = a - (q + 1)):=aiS (by rw [HE.out,if_pos hm])
   clear hm hm'
   go_enter Tryz.func135,Tryz.ntmps135
   go_wp2_with fail
   refine (hc _).mono ?_;rintro e w' ⟨rfl,rfl⟩
   go_wp2_with fail
   rw [show IntKind.u64.wrap (wrap64 (a - b)) = a - b by rw [IntKind.wrap_u64];unfold wrap64;omega]
   refine (hp _).mono ?_;rintro e w' ⟨rfl,k,rfl⟩
   go_wp2
   go_ret2
   refine ⟨?_,k,rfl⟩
   rw [HE.out]
   have : wrap64 (a - wrap64 (q + 1)) = a - (q + 1):=by unfold wrap64;omega
   rw [← this]
   rfl
  ·have hm' : (P % den != 0) = false:=by rw [bne_eq_false_iff_eq];omega
   rw [hm'] at hp
   have HE : Hid (cO a b num den = a - q):=aiS (by rw [HE.out,if_neg hm];omega)
   clear hm hm' key
   go_enter Tryz.func135,Tryz.ntmps135
   go_wp2_with fail
   refine (hc _).mono ?_;rintro e w' ⟨rfl,rfl⟩
   go_wp2_with fail
   rw [show IntKind.u64.wrap (wrap64 (a - b)) = a - b by rw [IntKind.wrap_u64];unfold wrap64;omega]
   refine (hp _).mono ?_;rintro e w' ⟨rfl,k,rfl⟩
   go_wp2
   go_ret2
   refine ⟨?_,k,rfl⟩
   rw [HE.out]
   have : wrap64 (a - wrap64 q) = a - q:=by unfold wrap64;omega
   rw [← this]
   rfl
theorem zy {k l : IntKind} {a b c d : Int} (h : a = c) (h2 : b = d) : Ending.returned (.tuple #[.int k a,.int l b]) = .returned (.tuple #[.int k c,.int l d]):=by rw [h,h2]
def Dn (a : Int) : Prop:=0 <= a /\ a <= 65535
def ni (a b : Int) : Int:=(b - a + 32768) % 65536 - 32768
def EF (a n : Int) : Int:=(a + n) % 65536
def rP (a b num den : Int) : Int:=EF a (cO 0 (ni a b) num den)
theorem AU (a b : Int) : -32768 <= ni a b /\ ni a b <= 32767:=by unfold ni;omega
theorem F3 {a : Int} (h : -9223372036854775808 <= a:=by omega) (h2 : a <= 9223372036854775807:=by omega) : ay a:=⟨h,h2⟩
theorem ND {a b num den : Int} (h : iJ num den = true) : -32768 <= cO 0 (ni a b) num den /\ cO 0 (ni a b) num den <= 32767:=by
 have:=AU a b
 have:=IC (a:=0) (b:=ni a b) h
 omega
theorem Ub (n : Int) : IntKind.i16.wrap n = (n + 32768) % 65536 - 32768:=by
 simp [IntKind.wrap,IntKind.bits,IntKind.signed]
 omega
theorem aeG (a b : Int) (ha : Dn a) (hb : Dn b) (w : World) :
 Calls Tryz.prog 181 #[.int .u16 a,.int .u16 b] w λe w'=>e = .returned (.int .i64 (ni a b)) /\ w = w':=by
 obtain ⟨a1,a2⟩:=ha
 obtain ⟨b1,b2⟩:=hb
 go_enter Tryz.func181,Tryz.ntmps181
 go_wp2
 go_ret
 refine ⟨aR ?_,rfl⟩
 unfold ni
 (try unfold wrap64)
 (try simp only [IntKind.wrap_u16,Ub])
 omega
theorem Y6 (a b : Int) (ha : Dn a) (hb : Dn b) (w : World) :
 Calls Tryz.prog 136 #[.int .u16 a,.int .u16 b] w λe w'=>e = .returned (.int .i64 (ni a b)) /\ w = w':=by
 have h:=aeG a b ha hb
 go_enter Tryz.func136,Tryz.ntmps136
 go_wp2_with fail
 refine (h _).mono ?_;rintro e w' ⟨rfl,rfl⟩
 go_wp2
 go_ret
 exact ⟨rfl,rfl⟩
theorem aeH (a n : Int) (ha : Dn a) (hn : ay n) (w : World) :
 Calls Tryz.prog 182 #[.int .u16 a,.int .i64 n] w λe w'=>e = .returned (.int .u16 (EF a n)) /\ w = w':=by
 obtain ⟨a1,a2⟩:=ha
 obtain ⟨b1,b2⟩:=hn
 go_enter Tryz.func182,Tryz.ntmps182
 go_wp2
 go_ret
 refine ⟨aR ?_,rfl⟩
 unfold EF
 (try simp only [IntKind.wrap_u16])
 omega
theorem Za (a n : Int) (ha : Dn a) (hn : ay n) (w : World) :
 Calls Tryz.prog 137 #[.int .u16 a,.int .i64 n] w λe w'=>e = .returned (.int .u16 (EF a n)) /\ w = w':=by
 have h:=aeH a n ha hn
 go_enter Tryz.func137,Tryz.ntmps137
 go_wp2_with fail
 refine (h _).mono ?_;rintro e w' ⟨rfl,rfl⟩
 go_wp2
 go_ret
 exact ⟨rfl,rfl⟩
theorem XC (a b num den : Int) (ha : Dn a) (hb : Dn b) (h : iJ num den = true) (w : World) :
 Calls Tryz.prog 98 #[.int .u16 a,.int .u16 b,.int .i64 num,.int .i64 den] w λe w'=>e = .returned (.tuple #[.int .u16 (rP a b num den),.int .i64 0]) /\ ∃ n,w' = w.drewN n:=by
 have d:=Y6 a b ha hb
 obtain ⟨d1,d2⟩:=AU a b
 have l:=Pf 0 (ni a b) num den F3 F3 h
 obtain ⟨w1,w2⟩:=ND (a:=a) (b:=b) h
 have t:=Za a (cO 0 (ni a b) num den) ha F3
 rw [show EF a (cO 0 (ni a b) num den) = rP a b num den from rfl] at t
 generalize cO 0 (ni a b) num den = z at *
 generalize ni a b = y at *
 clear h
 go_enter Tryz.func98,Tryz.ntmps98
 go_wp2_with fail
 refine (d _).mono ?_;rintro e w' ⟨rfl,rfl⟩
 go_wp2_with fail
 refine (l _).mono ?_;rintro e w' ⟨rfl,kd4,rfl⟩
 go_wp2_with fail
 refine (t _).mono ?_;rintro e w' ⟨rfl,rfl⟩
 go_wp2
 go_ret2
 exact ⟨rfl,_,rfl⟩
end Go.Proofs.YtklkooeimkedgaaGreat
