/- Walk of TopBeyond. -/
import Derived.Laws.Bits64b
import Derived.Laws.BitsLemmas
import Derived.Lib.Hide
import Derived.Lib.Mul64
import Derived.Outline
import Derived.Test.YtklkooeimkedgaaGreatProg
import Derived.WalkKit
import Derived.WalkLawsBesides
import Derived.WalkSpells
import Derived.Test.YtklkooeimkedgaaGreatB3
set_option linter.unusedVariables false
set_option linter.unusedSimpArgs false
namespace Go.Proofs.YtklkooeimkedgaaGreat
open Go.RowKit
theorem aR {k : IntKind} {a b : Int} (h : a = b) : Ending.returned (.int k a) = .returned (.int k b):=by rw [h]
theorem Et (m : Bool) (w : World) : Calls Tryz.prog 57 #[.bool m] w λe w'=>e = .returned (.int .i64 (Cu m)) /\ w = w':=by
 cases m
 ·go_enter Tryz.func57,Tryz.ntmps57
  go_wp2
  go_ret
  exact ⟨rfl,rfl⟩
 ·go_enter Tryz.func57,Tryz.ntmps57
  go_wp2
  go_ret
  exact ⟨rfl,rfl⟩
theorem tO (a b : Int) (ha0 : ay a) (hb0 : ay b) (w : World) :
 Calls Tryz.prog 28 #[.int .i64 a,.int .i64 b] w λe w'=>e = .returned (.int .i64 (aU a b)) /\ w = w':=by
 obtain ⟨ha,ha'⟩:=ha0
 obtain ⟨hb,hb'⟩:=hb0
 go_enter Tryz.func28,Tryz.ntmps28
 go_wp2_with (go_at_call 57;refine (Et _ _).mono ?_;rintro e w' ⟨rfl,rfl⟩)
 all_goals
  go_ret
  refine ⟨aR ?_,rfl⟩
  (try simp at *)
  unfold aU sat
  (try unfold Cu)
  (try simp only [decide_eq_true_eq])
  (try unfold wrap64 at *)
  omega
theorem tQ (a b : Int) (ha0 : ay a) (hb0 : ay b) (w : World) :
 Calls Tryz.prog 27 #[.int .i64 a,.int .i64 b] w λe w'=>e = .returned (.int .i64 (aK a b)) /\ w = w':=by
 obtain ⟨ha,ha'⟩:=ha0
 obtain ⟨hb,hb'⟩:=hb0
 go_enter Tryz.func27,Tryz.ntmps27
 go_wp2_with (go_at_call 57;refine (Et _ _).mono ?_;rintro e w' ⟨rfl,rfl⟩)
 all_goals
  go_ret
  refine ⟨aR ?_,rfl⟩
  (try simp at *)
  unfold aK sat
  (try unfold Cu)
  (try simp only [decide_eq_true_eq])
  (try unfold wrap64 at *)
  omega
theorem O7 (a : Int) (ha0 : ay a) (w : World) :
 Calls Tryz.prog 59 #[.int .i64 a] w λe w'=>e = .returned (.int .u64 a.natAbs) /\ w = w':=by
 obtain ⟨ha,ha'⟩:=ha0
 go_enter Tryz.func59,Tryz.ntmps59
 go_wp2
 all_goals
  go_ret
  refine ⟨aR ?_,rfl⟩
  (try simp only [IntKind.wrap_u64] at *)
  omega
theorem Xc (n : Int) (m s : Bool) (hn0 : gY n) (w : World) :
 Calls Tryz.prog 60 #[.int .u64 n,.bool m,.bool s] w λe w'=>e = .returned (.int .i64 (Es n m s)) /\ w = w':=by
 obtain ⟨hn,hn'⟩:=hn0
 cases m <;> cases s
 all_goals
  go_enter Tryz.func60,Tryz.ntmps60
  go_wp2_with (go_at_call 57;refine (Et _ _).mono ?_;rintro e w' ⟨rfl,rfl⟩)
  all_goals
   go_ret
   refine ⟨aR ?_,rfl⟩
   (try simp only [bne_iff_ne,bne_eq_false_iff_eq,ne_eq] at *)
   (try simp only [IntKind.wrap_u64] at *)
   unfold Es sat
   (try unfold Cu)
   (try unfold wrap64)
   simp
   omega
theorem I4 (x y : Nat) : ((x * y / 18446744073709551616 : Nat) : Int) = (x : Int) * (y : Int) / 18446744073709551616:=by
 rw [Int.natCast_ediv,Int.natCast_mul];rfl
theorem I5 (x y : Nat) : ((x * y % 18446744073709551616 : Nat) : Int) = (x : Int) * (y : Int) % 18446744073709551616:=by
 rw [Int.natCast_emod,Int.natCast_mul];rfl
namespace qX
theorem maskN (a : Nat) (ha : a < 18446744073709551616) : bits .and .u64 (a : Int) 4294967295 = ((a % 4294967296 : Nat) : Int):=by
 have h:=bits_and_u64_nat a 4294967295 ha (by omega)
 have e : a &&& 4294967295 = a % 4294967296:=Nat.and_two_pow_sub_one_eq_mod a 32
 rw [e] at h
 exact h
theorem divN (a : Nat) : (a : Int) / 4294967296 = ((a / 4294967296 : Nat) : Int):=by omega
theorem mulN (a b : Nat) : (a : Int) * (b : Int) = ((a * b : Nat) : Int):=(Int.natCast_mul a b).symm
theorem addN (a b : Nat) : (a : Int) + (b : Int) = ((a + b : Nat) : Int):=(Int.natCast_add a b).symm
theorem wrapN (a : Nat) (ha : a < 18446744073709551616) : IntKind.u64.wrap (a : Int) = (a : Int):=by rw [IntKind.wrap_u64];omega
theorem wrapM (a : Nat) : IntKind.u64.wrap (a : Int) = ((a % 18446744073709551616 : Nat) : Int):=by rw [IntKind.wrap_u64];omega
end qX
set_option maxHeartbeats 1000000 in
theorem O8 (x y : Nat) (hx : x < 18446744073709551616) (hy : y < 18446744073709551616) (w : World) :
 Calls Tryz.prog 58 #[.int .u64 x,.int .u64 y] w λe w'=>e = .returned (.tuple #[.int .u64 ((x * y / 18446744073709551616 : Nat) : Int),.int .u64 ((x * y % 18446744073709551616 : Nat) : Int)]) /\ w = w':=by
 obtain ⟨bd,bt,bw,hhi⟩:=Lib.mul64_hi x y hx hy
 have ba:=Lib.half_mul_le (a:=x / 4294967296) (b:=y / 4294967296) (by omega) (by omega)
 have bb:=Lib.half_mul_le (a:=x / 4294967296) (b:=y % 4294967296) (by omega) (by omega)
 have bc:=Lib.half_mul_le (a:=x % 4294967296) (b:=y / 4294967296) (by omega) (by omega)
 have ba' : x / 4294967296 * (y / 4294967296) < 18446744073709551616:=by omega
 have bb' : x / 4294967296 * (y % 4294967296) < 18446744073709551616:=by omega
 have bc' : x % 4294967296 * (y / 4294967296) < 18446744073709551616:=by omega
 have bh1 : x / 4294967296 * (y / 4294967296) + (x / 4294967296 * (y % 4294967296) + x % 4294967296 * (y % 4294967296) / 4294967296) / 4294967296 < 18446744073709551616:=by omega
 have bh : x / 4294967296 * (y / 4294967296) + (x / 4294967296 * (y % 4294967296) + x % 4294967296 * (y % 4294967296) / 4294967296) / 4294967296 + ((x / 4294967296 * (y % 4294967296) + x % 4294967296 * (y % 4294967296) / 4294967296) % 4294967296 + x % 4294967296 * (y / 4294967296)) / 4294967296 < 18446744073709551616:=by omega
 go_enter Tryz.func58,Tryz.ntmps58
 go_wp2
 simp only [qX.maskN x hx,qX.maskN y hy,qX.divN,qX.mulN,qX.addN,qX.wrapN _ bd,qX.wrapN _ bb',qX.wrapN _ bt,qX.maskN _ bt,qX.wrapN _ bc',qX.wrapN _ bw,qX.wrapN _ ba',qX.wrapN _ bh1,qX.wrapN _ bh,qX.wrapM (x * y)]
 rw [hhi]
 go_ret2
 exact ⟨rfl,rfl⟩
theorem FN (x y : Int) (hx0 : gY x) (hy0 : gY y) (w : World) :
 Calls Tryz.prog 58 #[.int .u64 x,.int .u64 y] w λe w'=>e = .returned (.tuple #[.int .u64 (x * y / 18446744073709551616),.int .u64 (x * y % 18446744073709551616)]) /\ w = w':=by
 obtain ⟨hx,hx'⟩:=hx0
 obtain ⟨hy,hy'⟩:=hy0
 obtain ⟨x,rfl⟩:=Int.eq_ofNat_of_zero_le hx
 obtain ⟨y,rfl⟩:=Int.eq_ofNat_of_zero_le hy
 have h:=O8 x y (by omega) (by omega) w
 rw [I4,I5] at h
 exact h
theorem Gt (x lo hi : Int) (w : World) :
 Calls Tryz.prog 184 #[.int .i64 x,.int .i64 lo,.int .i64 hi] w λe w'=>e = .returned (.int .i64 (min (max x lo) hi)) /\ w = w':=by
 go_enter Tryz.func184,Tryz.ntmps184
 go_wp2
 all_goals
  go_ret
  refine ⟨aR ?_,rfl⟩
  omega
end Go.Proofs.YtklkooeimkedgaaGreat
