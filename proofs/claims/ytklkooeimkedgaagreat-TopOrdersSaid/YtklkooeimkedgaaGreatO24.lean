/- Parts of the walk of TopOrders: Vec5, Curve, Curve2. -/
import Derived.Test.YtklkooeimkedgaaGreatO0
import Derived.LoopTactic
import Derived.Test.YtklkooeimkedgaaGreatO23
set_option linter.unusedVariables false
set_option linter.unusedSimpArgs false
namespace Go.Proofs.YtklkooeimkedgaaGreat
open Go.RowKit
theorem uE (a : Int) (h : -9223372036854775808 <= a /\ a <= 9223372036854775807) : aA a:=h
def oF (u : Int) : Int:=u * u / 65536
def uU (u : Int) : Int:=oF u * u / 65536
def qO (u : Int) : Int:=3 * oF u - 2 * uU u
def kK (u : Int) : Int:=uU u - 2 * oF u + u
def ni (u : Int) : Int:=uU u - oF u
theorem Y0 {u k : Int} (hk : k = 65536 - u) : oF u = 65536 - 2 * k + k * k / 65536:=by
 unfold oF
 have : u * u = k * k + 65536 * (65536 - 2 * k):=by
  have h : u = 65536 - k:=by omega
  rw [h,Int.sub_mul,Int.mul_sub,Int.mul_sub,Int.mul_sub];omega
 rw [this,Int.add_mul_ediv_left _ _ (by decide)];omega
theorem aee {u k : Int} (hk : k = 65536 - u) : uU u = 65536 - 3 * k + k * k / 65536 + (2 * (k * k) - k * k / 65536 * k) / 65536:=by
 unfold uU
 rw [Y0 hk]
 generalize k * k / 65536 = c
 have : (65536 - 2 * k + c) * u = (2 * (k * k) - c * k) + 65536 * (65536 - 3 * k + c):=by
  have h : u = 65536 - k:=by omega
  have e : 2 * k * k = 2 * (k * k):=Int.mul_assoc _ _ _
  rw [h,Int.mul_sub,Int.add_mul _ _ k,Int.sub_mul _ _ k,e];omega
 rw [this,Int.add_mul_ediv_left _ _ (by decide)];omega
theorem pU {u : Int} (h0 : 0 <= u) (h1 : u <= 65536) :
  0 <= oF u /\ oF u <= 65536 /\ 0 <= uU u /\ uU u <= oF u /\ 0 <= qO u /\ qO u <= 65536 /\ 0 <= kK u /\ kK u <= 65536 /\ ni u <= 0 /\ -65536 <= ni u:=by
 have s0 : 0 <= oF u:=Int.ediv_nonneg (Int.mul_nonneg h0 h0) (by decide)
 have s1 : oF u <= 65536:=by
  unfold oF
  have : u * u <= 65536 * 65536:=Int.mul_le_mul h1 h1 h0 (by decide)
  omega
 have c0 : 0 <= uU u:=Int.ediv_nonneg (Int.mul_nonneg s0 h0) (by decide)
 have c1 : uU u <= oF u:=by
  unfold uU
  have : oF u * u <= oF u * 65536:=Int.mul_le_mul_of_nonneg_left h1 s0
  omega
 obtain ⟨k,hk⟩ : ∃ k,k = 65536 - u:=⟨_,rfl⟩
 have e2:=Y0 hk
 have e3:=aee hk
 have k0 : 0 <= k:=by omega
 have k1 : k <= 65536:=by omega
 have kk : k * k <= 65536 * k:=Int.mul_le_mul_of_nonneg_right k1 k0
 have kk0 : 0 <= k * k:=Int.mul_nonneg k0 k0
 have cc : k * k / 65536 <= k:=by omega
 have ck : k * k / 65536 * k <= k * k:=Int.mul_le_mul_of_nonneg_right cc k0
 have ff : k * k / 65536 <= (2 * (k * k) - k * k / 65536 * k) / 65536:=Int.ediv_le_ediv (by decide) (by omega)
 generalize (2 * (k * k) - k * k / 65536 * k) / 65536 = f at *
 have cz : 0 <= k * k / 65536:=by omega
 generalize k * k / 65536 = c at *
 unfold qO kK ni
 omega
theorem XI {u : Int} (h0 : 0 <= u) (h1 : u <= 65536) : aT u u = oF u:=by
 obtain ⟨s0,s1,_⟩:=pU h0 h1
 exact PS (x:=oF u) (by unfold aA;omega)
theorem XJ {u : Int} (h0 : 0 <= u) (h1 : u <= 65536) : aT (oF u) u = uU u:=by
 obtain ⟨s0,s1,s2,s3,_⟩:=pU h0 h1
 exact PS (x:=uU u) (by unfold aA;omega)
theorem abG (u : Int) (h0 : 0 <= u) (h1 : u <= 65536) (w : World) :
  Calls Tryz.prog 252 #[.int .i64 u] w λe w'=>e = .returned (v3 (qO u) (kK u) (ni u)) /\ w' = w.alloc (.cells #[.int .i64 (qO u),.int .i64 (kK u),.int .i64 (ni u)] 344):=by
 obtain ⟨s0,s1,s2,s3,s4,s5,s6,s7,s8,s9⟩:=pU h0 h1
 have c1:=rH u u (uE _ (by omega)) (uE _ (by omega))
 rw [XI h0 h1] at c1
 have c2:=rH (oF u) u (uE _ (by omega)) (uE _ (by omega))
 rw [XJ h0 h1] at c2
 have E1 : qO u = 3 * oF u - 2 * uU u:=rfl
 have E2 : kK u = uU u - 2 * oF u + u:=rfl
 have E3 : ni u = uU u - oF u:=rfl
 generalize qO u = a at *
 generalize kK u = b at *
 generalize ni u = c at *
 generalize oF u = s at *
 generalize uU u = t at *
 subst E1;subst E2;subst E3
 go_enter Tryz.func252,Tryz.ntmps252
 go_wp2_with fail
 refine (c1 _).mono ?_;rintro e w' ⟨rfl,rfl⟩
 go_wp2_with fail
 refine (c2 _).mono ?_;rintro e w' ⟨rfl,rfl⟩
 go_wp2
 exact bodyPost_ret (v:=v3 (3 * s - 2 * t) (t - 2 * s + u) (t - s)) (by simp [results,Tryz.results252,go_sem]) rfl ⟨rfl,rfl⟩
def xw (n x p y q z r : Int) : Int:=bM (bM (bM n (aT x p)) (aT y q)) (aT z r)
set_option maxHeartbeats 1000000 in
theorem Y1 (n x p y q z r : Int) (hn : aA n) (hx : aA x) (hp : aA p) (hy : aA y) (hq : aA q) (hz : aA z) (hr : aA r) (b : Nat) (w : World)
  (hb : ak w b #[.int .i64 x,.int .i64 p,.int .i64 y,.int .i64 q,.int .i64 z,.int .i64 r] 348) :
  Calls Tryz.prog 253 #[.int .i64 n,.slice (some ⟨b,0,none⟩) 3 3] w λe w'=>e = .returned (.int .i64 (xw n x p y q z r)) /\ Below w.heap.size w w':=by
 have m0:=rH x p hx hp
 have m1:=rH y q hy hq
 have m2:=rH z r hz hr
 have a0:=vk n (aT x p) hn (ng _ _)
 have a1:=vk (bM n (aT x p)) (aT y q) (DY _ _) (ng _ _)
 have a2:=vk (bM (bM n (aT x p)) (aT y q)) (aT z r) (DY _ _) (ng _ _)
 have HE : Hid (xw n x p y q z r = bM (bM (bM n (aT x p)) (aT y q)) (aT z r)):=ahZ rfl
 generalize xw n x p y q z r = s at *
 generalize bM (bM (bM n (aT x p)) (aT y q)) (aT z r) = s3 at *
 generalize bM (bM n (aT x p)) (aT y q) = s2 at *
 generalize bM n (aT x p) = s1 at *
 generalize aT x p = k0 at *
 generalize aT y q = k1 at *
 generalize aT z r = k2 at *
 have lt:=hb.lt
 have BL : ∀ wr,Below w.heap.size w wr -> ak wr b #[.int .i64 x,.int .i64 p,.int .i64 y,.int .i64 q,.int .i64 z,.int .i64 r] 348:=λwr h=>hb.below h lt
 clear hn hx hp hy hq hz hr
 go_enter Tryz.func253,Tryz.ntmps253
 go_wp2_with fail
 go_loopw [0,9] (λv i wr=>((i = .int .i64 0 /\ v = .int .i64 n) \/ (i = .int .i64 1 /\ v = .int .i64 s1) \/ (i = .int .i64 2 /\ v = .int .i64 s2) \/ (i = .int .i64 3 /\ v = .int .i64 s3)) /\ Below w.heap.size w wr) (λ_ i _=>3 - (intOf i).toNat)
 case atStart=>exact ⟨.inl ⟨rfl,rfl⟩,Below.refl _ _⟩
 case round =>
  rename_i wr
  obtain ⟨hi,hB⟩:=hrel
  have B:=BL _ hB
  have q0:=B.cell 0;have q1:=B.cell 1;have q2:=B.cell 2;have q3:=B.cell 3;have q4:=B.cell 4;have q5:=B.cell 5
  simp at q0 q1 q2 q3 q4 q5
  rcases hi with ⟨rfl,rfl⟩ | ⟨rfl,rfl⟩ | ⟨rfl,rfl⟩ | ⟨rfl,rfl⟩
  ·go_wp2_with fail
   refine (m0 _).mono ?_;rintro e w' ⟨rfl,rfl⟩
   go_wp2_with fail
   refine (a0 _).mono ?_;rintro e w' ⟨rfl,rfl⟩
   go_wp2_with fail
   go_roundw
   case rel=>exact ⟨.inr (.inl ⟨rfl,rfl⟩),hB.alloc hB.size _⟩
   case measure=>decide
  ·go_wp2_with fail
   refine (m1 _).mono ?_;rintro e w' ⟨rfl,rfl⟩
   go_wp2_with fail
   refine (a1 _).mono ?_;rintro e w' ⟨rfl,rfl⟩
   go_wp2_with fail
   go_roundw
   case rel=>exact ⟨.inr (.inr (.inl ⟨rfl,rfl⟩)),hB.alloc hB.size _⟩
   case measure=>decide
  ·go_wp2_with fail
   refine (m2 _).mono ?_;rintro e w' ⟨rfl,rfl⟩
   go_wp2_with fail
   refine (a2 _).mono ?_;rintro e w' ⟨rfl,rfl⟩
   go_wp2_with fail
   go_roundw
   case rel=>exact ⟨.inr (.inr (.inr ⟨rfl,rfl⟩)),hB.alloc hB.size _⟩
   case measure=>decide
  ·go_wp2
   go_ret
   exact ⟨aQ HE.out.symm,hB⟩
def dP (a v b w num den : Int) : Int :=
 if num = 0 then a else if num = den then b else
  rF (xw a (qO (rG num den)) (aN b a) (kK (rG num den)) (aT v den) (ni (rG num den)) (aT w den)) a b
end Go.Proofs.YtklkooeimkedgaaGreat
