/- Walk of TopBeyond. -/
import Derived.Test.YtklkooeimkedgaaGreatB0
set_option linter.unusedVariables false
set_option linter.unusedSimpArgs false
namespace Go.Proofs.YtklkooeimkedgaaGreat
def ay (x : Int) : Prop:=-9223372036854775808 <= x /\ x <= 9223372036854775807
def gY (x : Int) : Prop:=0 <= x /\ x <= 18446744073709551615
def sat (x : Int) : Int:=max (-9223372036854775808) (min 9223372036854775807 x)
def aN (a b : Int) : Int:=sat (a * b / 65536)
def aU (a b : Int) : Int:=sat (a + b)
def aK (a b : Int) : Int:=sat (a - b)
def ql (a : Int) : Int:=sat (-a)
def rH (x a b : Int) : Int:=min (max x (min a b)) (max a b)
def iJ (num den : Int) : Bool:=decide (1 <= den /\ den <= 4611686018427387904 /\ 0 <= num /\ num <= den)
def cO (a b num den : Int) : Int:=a + (b - a) * num / den
def rJ (num den : Int) : Int:=65536 * num / den
def Cu (m : Bool) : Int:=if m then -9223372036854775808 else 9223372036854775807
def Es (n : Int) (more minus : Bool) : Int:=sat (if minus then -(n + (if more then 1 else 0)) else n)
theorem Cv (x : Int) : ay (sat x):=by unfold ay sat;omega
theorem O6 {x : Int} (h : ay x) : sat x = x:=by unfold ay at h;unfold sat;omega
theorem vJ (a b : Int) : ay (aU a b):=Cv _
theorem jq (a b : Int) : ay (aK a b):=Cv _
theorem TD (a : Int) : ay (ql a):=Cv _
theorem lQ (a b : Int) : ay (aN a b):=Cv _
theorem qW {num den : Int} : iJ num den = true ↔ (1 <= den /\ den <= 4611686018427387904 /\ 0 <= num /\ num <= den):=by
 unfold iJ;simp
theorem wT (x d : Int) (hd : 0 < d) : x / d * d <= x /\ x < x / d * d + d:=by
 have h1:=Int.mul_ediv_add_emod x d
 have h2:=Int.emod_nonneg x (show d ≠ 0 by omega)
 have h3:=Int.emod_lt_of_pos x hd
 rw [Int.mul_comm] at h1
 omega
theorem zu {x d q : Int} (hd : 0 < d) (h1 : q * d <= x) (h2 : x < q * d + d) : x / d = q:=by
 have h3 : x / d ≥ q:=(Int.le_ediv_iff_mul_le hd).2 h1
 have h4 : x / d < q + 1:=(Int.ediv_lt_iff_lt_mul hd).2 (by rw [Int.add_mul];omega)
 omega
theorem Cw {n num den : Int} (hn : 0 <= n) (hd : 0 < den) (h0 : 0 <= num) (h1 : num <= den) : 0 <= n * num / den /\ n * num / den <= n:=by
 constructor
 ·exact Int.ediv_nonneg (Int.mul_nonneg hn h0) (by omega)
 ·have : n * num <= n * den:=Int.mul_le_mul_of_nonneg_left h1 hn
  have h3:=Int.ediv_le_ediv hd this
  rw [Int.mul_ediv_cancel _ (by omega)] at h3
  exact h3
theorem La {n num den : Int} (hn : n <= 0) (hd : 0 < den) (h0 : 0 <= num) (h1 : num <= den) : n <= n * num / den /\ n * num / den <= 0:=by
 constructor
 ·have : n * den <= n * num:=Int.mul_le_mul_of_nonpos_left hn h1
  have h3:=Int.ediv_le_ediv hd this
  rw [Int.mul_ediv_cancel _ (by omega)] at h3
  exact h3
 ·have : n * num <= 0:=Int.mul_nonpos_of_nonpos_of_nonneg hn h0
  have h3:=Int.ediv_le_ediv hd this
  simpa using h3
theorem IC {a b num den : Int} (h : iJ num den = true) : min a b <= cO a b num den /\ cO a b num den <= max a b:=by
 obtain ⟨h1,h2,h3,h4⟩:=qW.1 h
 unfold cO
 rcases Int.le_total a b with hab | hab
 ·have:=Cw (n:=b - a) (by omega) (show 0 < den by omega) h3 h4;omega
 ·have:=La (n:=b - a) (by omega) (show 0 < den by omega) h3 h4;omega
theorem Aq {num den : Int} (h : iJ num den = true) : 0 <= rJ num den /\ rJ num den <= 65536:=by
 obtain ⟨h1,h2,h3,h4⟩:=qW.1 h
 exact Cw (n:=65536) (by omega) (by omega) h3 h4
end Go.Proofs.YtklkooeimkedgaaGreat
namespace Go.Proofs.YtklkooeimkedgaaGreat
def wU (u v y1 y0 q r : Int) : Prop :=
 q * y1 + r = u /\ 0 <= r /\ r < 4294967296 /\ u * 4294967296 + v < (q + 1) * (y1 * 4294967296 + y0) /\ 0 <= q /\ q <= 4294967297
def Got (u v y1 y0 q : Int) : Prop :=
 q * (y1 * 4294967296 + y0) <= u * 4294967296 + v /\ u * 4294967296 + v < (q + 1) * (y1 * 4294967296 + y0)
structure Nm (u v y1 y0 : Int) : Prop where
 y1l : 2147483648 <= y1
 y1u : y1 < 4294967296
 y0l : 0 <= y0
 y0u : y0 < 4294967296
 vl : 0 <= v
 vu : v < 4294967296
 ul : 0 <= u
 uu : u < y1 * 4294967296 + y0
theorem Gu {u v y1 y0 : Int} (h : Nm u v y1 y0) : wU u v y1 y0 (u / y1) (u - u / y1 * y1):=by
 obtain ⟨a,b,c,d,e,f,g,i⟩:=h
 have h1:=wT u y1 (by omega)
 have h2 : 0 <= u / y1:=Int.ediv_nonneg g (by omega)
 have h3 : u / y1 <= 4294967297:=by
  have : u / y1 < 4294967298:=(Int.ediv_lt_iff_lt_mul (by omega)).2 (by omega)
  omega
 generalize u / y1 = q at *
 refine ⟨by omega,by omega,by omega,?_,h2,h3⟩
 have h4 : 0 <= (q + 1) * y0:=Int.mul_nonneg (by omega) c
 rw [Int.mul_add,← Int.mul_assoc,Int.add_mul q 1 y1]
 omega
theorem zw {u v y1 y0 q r : Int} (h : Nm u v y1 y0) (hd : wU u v y1 y0 q r) (hc : 4294967296 <= q \/ 4294967296 * r + v < q * y0) :
 u * 4294967296 + v < q * (y1 * 4294967296 + y0) /\ 1 <= q:=by
 obtain ⟨a,b,c,d,e,f,g,i⟩:=h
 obtain ⟨d1,d2,d3,d4,d5,d6⟩:=hd
 have key : u * 4294967296 + v < q * (y1 * 4294967296 + y0):=by
  rcases hc with hc | hc
  ·have : 4294967296 * (y1 * 4294967296 + y0) <= q * (y1 * 4294967296 + y0):=Int.mul_le_mul_of_nonneg_right hc (by omega)
   omega
  ·rw [Int.mul_add,← Int.mul_assoc]
   omega
 refine ⟨key,?_⟩
 rcases Int.lt_or_le q 1 with hq | hq
 ·have hq0 : q = 0:=by omega
  subst hq0
  omega
 ·exact hq
theorem Yy {u v y1 y0 q r : Int} (h : Nm u v y1 y0) (hd : wU u v y1 y0 q r) (hc : 4294967296 <= q \/ 4294967296 * r + v < q * y0) (hr : r + y1 < 4294967296) :
 wU u v y1 y0 (q - 1) (r + y1):=by
 obtain ⟨k1,k2⟩:=zw h hd hc
 obtain ⟨a,b,c,d,e,f,g,i⟩:=h
 obtain ⟨d1,d2,d3,d4,d5,d6⟩:=hd
 refine ⟨by rw [Int.sub_mul];omega,by omega,by omega,?_,by omega,by omega⟩
 rw [show q - 1 + 1 = q by omega]
 exact k1
theorem Pb {u v y1 y0 q r : Int} (h : Nm u v y1 y0) (hd : wU u v y1 y0 q r) (hc : 4294967296 <= q \/ 4294967296 * r + v < q * y0) (hr : 4294967296 <= r + y1) :
 Got u v y1 y0 (q - 1):=by
 obtain ⟨k1,k2⟩:=zw h hd hc
 obtain ⟨a,b,c,d,e,f,g,i⟩:=h
 obtain ⟨d1,d2,d3,d4,d5,d6⟩:=hd
 refine ⟨?_,by rw [show q - 1 + 1 = q by omega];exact k1⟩
 have h1 : (q - 1) * y0 <= 4294967296 * y0:=Int.mul_le_mul_of_nonneg_right (by omega) c
 rw [Int.mul_add,← Int.mul_assoc,Int.sub_mul q 1 y1]
 omega
theorem TF {u v y1 y0 q r : Int} (_h : Nm u v y1 y0) (hd : wU u v y1 y0 q r) (hc : q * y0 <= 4294967296 * r + v) :
 Got u v y1 y0 q:=by
 obtain ⟨d1,d2,d3,d4,d5,d6⟩:=hd
 refine ⟨?_,d4⟩
 rw [Int.mul_add,← Int.mul_assoc]
 omega
theorem Gv {u v y1 y0 q : Int} (h : Nm u v y1 y0) (hg : Got u v y1 y0 q) : 0 <= q /\ q < 4294967296:=by
 obtain ⟨a,b,c,d,e,f,g,i⟩:=h
 obtain ⟨g1,g2⟩:=hg
 constructor
 ·rcases Int.lt_or_le q 0 with hq | hq
  ·have : (q + 1) * (y1 * 4294967296 + y0) <= 0:=Int.mul_nonpos_of_nonpos_of_nonneg (by omega) (by omega)
   omega
  ·exact hq
 ·rcases Int.lt_or_le q 4294967296 with hq | hq
  ·exact hq
  ·have : 4294967296 * (y1 * 4294967296 + y0) <= q * (y1 * 4294967296 + y0):=Int.mul_le_mul_of_nonneg_right hq (by omega)
   omega
theorem I6 {u v y1 y0 q Y : Int} (hg : Got u v y1 y0 q) (hY : y1 * 4294967296 + y0 = Y) (hY1 : Y <= 18446744073709551616) :
 ((u * 4294967296 % 18446744073709551616 + v) % 18446744073709551616 - q * Y % 18446744073709551616) % 18446744073709551616 = u * 4294967296 + v - q * Y /\ 0 <= u * 4294967296 + v - q * Y /\ u * 4294967296 + v - q * Y < Y:=by
 obtain ⟨g1,g2⟩:=hg
 rw [hY] at g1 g2
 rw [Int.add_mul] at g2
 generalize q * Y = p at *
 omega
end Go.Proofs.YtklkooeimkedgaaGreat
namespace Go.Proofs.YtklkooeimkedgaaGreat
theorem Pg (a : Int) : aK a a = 0:=by unfold aK sat;omega
end Go.Proofs.YtklkooeimkedgaaGreat
