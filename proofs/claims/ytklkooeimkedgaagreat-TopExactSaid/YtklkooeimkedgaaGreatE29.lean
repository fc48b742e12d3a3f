/- Walk of TopExact. -/
import Derived.LoopTactic
import Derived.Test.YtklkooeimkedgaaGreatE28
set_option linter.unusedVariables false
set_option linter.unusedSimpArgs false
namespace Go.Proofs.YtklkooeimkedgaaGreat
open Go.RowKit
theorem uj (a : Int) (h : -9223372036854775808 <= a /\ a <= 9223372036854775807) : ay a:=h
def oC (u : Int) : Int:=u * u / 65536
def uP (u : Int) : Int:=oC u * u / 65536
def qL (u : Int) : Int:=3 * oC u - 2 * uP u
def kJ (u : Int) : Int:=uP u - 2 * oC u + u
def ng (u : Int) : Int:=uP u - oC u
theorem Yq {u k : Int} (hk : k = 65536 - u) : oC u = 65536 - 2 * k + k * k / 65536:=by
 unfold oC
 have : u * u = k * k + 65536 * (65536 - 2 * k):=by
  have h : u = 65536 - k:=by omega
  rw [h,Int.sub_mul,Int.mul_sub,Int.mul_sub,Int.mul_sub];omega
 rw [this,Int.add_mul_ediv_left _ _ (by decide)];omega
theorem adV {u k : Int} (hk : k = 65536 - u) : uP u = 65536 - 3 * k + k * k / 65536 + (2 * (k * k) - k * k / 65536 * k) / 65536:=by
 unfold uP
 rw [Yq hk]
 generalize k * k / 65536 = c
 have : (65536 - 2 * k + c) * u = (2 * (k * k) - c * k) + 65536 * (65536 - 3 * k + c):=by
  have h : u = 65536 - k:=by omega
  have e : 2 * k * k = 2 * (k * k):=Int.mul_assoc _ _ _
  rw [h,Int.mul_sub,Int.add_mul _ _ k,Int.sub_mul _ _ k,e];omega
 rw [this,Int.add_mul_ediv_left _ _ (by decide)];omega
theorem pI {u : Int} (h0 : 0 <= u) (h1 : u <= 65536) :
 0 <= oC u /\ oC u <= 65536 /\ 0 <= uP u /\ uP u <= oC u /\ 0 <= qL u /\ qL u <= 65536 /\ 0 <= kJ u /\ kJ u <= 65536 /\ ng u <= 0 /\ -65536 <= ng u:=by
 have s0 : 0 <= oC u:=Int.ediv_nonneg (Int.mul_nonneg h0 h0) (by decide)
 have s1 : oC u <= 65536:=by
  unfold oC
  have : u * u <= 65536 * 65536:=Int.mul_le_mul h1 h1 h0 (by decide)
  omega
 have c0 : 0 <= uP u:=Int.ediv_nonneg (Int.mul_nonneg s0 h0) (by decide)
 have c1 : uP u <= oC u:=by
  unfold uP
  have : oC u * u <= oC u * 65536:=Int.mul_le_mul_of_nonneg_left h1 s0
  omega
 obtain ⟨k,hk⟩ : ∃ k,k = 65536 - u:=⟨_,rfl⟩
 have e2:=Yq hk;have e3:=adV hk
 have k0 : 0 <= k:=by omega
 have k1 : k <= 65536:=by omega
 have kk : k * k <= 65536 * k:=Int.mul_le_mul_of_nonneg_right k1 k0
 have kk0 : 0 <= k * k:=Int.mul_nonneg k0 k0
 have cc : k * k / 65536 <= k:=by omega
 have ck : k * k / 65536 * k <= k * k:=Int.mul_le_mul_of_nonneg_right cc k0
 have ff : k * k / 65536 <= (2 * (k * k) - k * k / 65536 * k) / 65536:=Int.ediv_le_ediv (by decide) (by omega)
 generalize (2 * (k * k) - k * k / 65536 * k) / 65536 = f at *
 have cz : 0 <= k * k / 65536:=by omega
 generalize k * k / 65536 = c at *
 unfold qL kJ ng
 omega
theorem WR {u : Int} (h0 : 0 <= u) (h1 : u <= 65536) : aQ u u = oC u:=by
 obtain ⟨s0,s1,_⟩:=pI h0 h1
 exact IV (x:=oC u) (by unfold ay;omega)
theorem WS {u : Int} (h0 : 0 <= u) (h1 : u <= 65536) : aQ (oC u) u = uP u:=by
 obtain ⟨s0,s1,s2,s3,_⟩:=pI h0 h1
 exact IV (x:=uP u) (by unfold ay;omega)
theorem aa0 (u : Int) (h0 : 0 <= u) (h1 : u <= 65536) (w : World) :
 Calls Tryz.prog 252 #[.int .i64 u] w λe w'=>e = .returned (v3 (qL u) (kJ u) (ng u)) /\ w' = w.alloc (.cells #[.int .i64 (qL u),.int .i64 (kJ u),.int .i64 (ng u)] 344):=by
 obtain ⟨s0,s1,s2,s3,s4,s5,s6,s7,s8,s9⟩:=pI h0 h1
 have c1:=rJ u u (uj _ (by omega)) (uj _ (by omega))
 rw [WR h0 h1] at c1
 have c2:=rJ (oC u) u (uj _ (by omega)) (uj _ (by omega))
 rw [WS h0 h1] at c2
 have E1 : qL u = 3 * oC u - 2 * uP u:=rfl
 have E2 : kJ u = uP u - 2 * oC u + u:=rfl
 have E3 : ng u = uP u - oC u:=rfl
 generalize qL u = a at *
 generalize kJ u = b at *
 generalize ng u = c at *
 generalize oC u = s at *
 generalize uP u = t at *
 subst E1;subst E2;subst E3
 go_enter Tryz.func252,Tryz.ntmps252
 go_wp2_with fail
 refine (c1 _).mono ?_;rintro e w' ⟨rfl,rfl⟩
 go_wp2_with fail
 refine (c2 _).mono ?_;rintro e w' ⟨rfl,rfl⟩
 go_wp2
 exact bodyPost_ret (v:=v3 (3 * s - 2 * t) (t - 2 * s + u) (t - s)) (by simp [results,Tryz.results252,go_sem]) rfl ⟨rfl,rfl⟩
def xk (n x p y q z r : Int) : Int:=bJ (bJ (bJ n (aQ x p)) (aQ y q)) (aQ z r)
set_option maxHeartbeats 1000000 in
theorem Yr (n x p y q z r : Int) (hn : ay n) (hx : ay x) (hp : ay p) (hy : ay y) (hq : ay q) (hz : ay z) (hr : ay r) (b : Nat) (w : World)
 (hb : ak w b #[.int .i64 x,.int .i64 p,.int .i64 y,.int .i64 q,.int .i64 z,.int .i64 r] 348) :
 Calls Tryz.prog 253 #[.int .i64 n,.slice (some ⟨b,0,none⟩) 3 3] w λe w'=>e = .returned (.int .i64 (xk n x p y q z r)) /\ Below w.heap.size w w':=by
 have m0:=rJ x p hx hp;have m1:=rJ y q hy hq;have m2:=rJ z r hz hr;have a0:=uZ n (aQ x p) hn (mZ _ _);have a1:=uZ (bJ n (aQ x p)) (aQ y q) (Dy _ _) (mZ _ _);have a2:=uZ (bJ (bJ n (aQ x p)) (aQ y q)) (aQ z r) (Dy _ _) (mZ _ _)
 have HE : Hid (xk n x p y q z r = bJ (bJ (bJ n (aQ x p)) (aQ y q)) (aQ z r)):=ah6 rfl
 generalize xk n x p y q z r = s at *
 generalize bJ (bJ (bJ n (aQ x p)) (aQ y q)) (aQ z r) = s3 at *
 generalize bJ (bJ n (aQ x p)) (aQ y q) = s2 at *
 generalize bJ n (aQ x p) = s1 at *
 generalize aQ x p = k0 at *
 generalize aQ y q = k1 at *
 generalize aQ z r = k2 at *
 have lt:=hb.lt
 have BL : ∀ wr,Below w.heap.size w wr -> ak wr b #[.int .i64 x,.int .i64 p,.int .i64 y,.int .i64 q,.int .i64 z,.int .i64 r] 348:=λwr h=>hb.below h lt
 clear hn hx hp hy hq hz hr
 go_enter Tryz.func253,Tryz.ntmps253
 go_wp2_with fail
 go_loopw [0,9] (λv i wr=>((i = .int .i64 0 /\ v = .int .i64 n) \/ (i = .int .i64 1 /\ v = .int .i64 s1) \/ (i = .int .i64 2 /\ v = .int .i64 s2) \/ (i = .int .i64 3 /\ v = .int .i64 s3)) /\ Below w.heap.size w wr) (λ_ i _=>3 - (intOf i).toNat)
 case atStart=>exact ⟨.inl ⟨rfl,rfl⟩,Below.refl _ _⟩
 case round =>
  rename_i wr
  obtain ⟨hi,hB⟩:=hrel
  have B:=BL _ hB
  have q0:=B.cell 0;have q1:=B.cell 1;have q2:=B.cell 2;have q3:=B.cell 3;have q4:=B.cell 4;have q5:=B.cell 5
  simp at q0 q1 q2 q3 q4 q5
  rcases hi with ⟨rfl,rfl⟩ | ⟨rfl,rfl⟩ | ⟨rfl,rfl⟩ | ⟨rfl,rfl⟩
  ·go_wp2_with fail
   refine (m0 _).mono ?_;rintro e w' ⟨rfl,rfl⟩
   go_wp2_with fail
   refine (a0 _).mono ?_;rintro e w' ⟨rfl,rfl⟩
   go_wp2_with fail
   go_roundw
   case rel=>exact ⟨.inr (.inl ⟨rfl,rfl⟩),hB.alloc hB.size _⟩
   case measure=>decide
  ·go_wp2_with fail
   refine (m1 _).mono ?_;rintro e w' ⟨rfl,rfl⟩
   go_wp2_with fail
   refine (a1 _).mono ?_;rintro e w' ⟨rfl,rfl⟩
   go_wp2_with fail
   go_roundw
   case rel=>exact ⟨.inr (.inr (.inl ⟨rfl,rfl⟩)),hB.alloc hB.size _⟩
   case measure=>decide
  ·go_wp2_with fail
   refine (m2 _).mono ?_;rintro e w' ⟨rfl,rfl⟩
   go_wp2_with fail
   refine (a2 _).mono ?_;rintro e w' ⟨rfl,rfl⟩
   go_wp2_with fail
   go_roundw
   case rel=>exact ⟨.inr (.inr (.inr ⟨rfl,rfl⟩)),hB.alloc hB.size _⟩
   case measure=>decide
  ·go_wp2
   go_ret
   exact ⟨aP HE.out.symm,hB⟩
def dO (a v b w num den : Int) : Int :=
 if num = 0 then a else if num = den then b else
  rG (xk a (qL (rH num den)) (aM b a) (kJ (rH num den)) (aQ v den) (ng (rH num den)) (aQ w den)) a b
end Go.Proofs.YtklkooeimkedgaaGreat
