/- Walk of TopDeltas. -/
import Derived.LoopTactic
import Derived.Test.YtklkooeimkedgaaGreatD27
set_option linter.unusedVariables false
set_option linter.unusedSimpArgs false
namespace Go.Proofs.YtklkooeimkedgaaGreat
open Go.RowKit
theorem uX (a : Int) (h : -9223372036854775808 <= a /\ a <= 9223372036854775807) : aA a:=h
def oM (u : Int) : Int:=u * u / 65536
def vM (u : Int) : Int:=oM u * u / 65536
def rM (u : Int) : Int:=3 * oM u - 2 * vM u
def lg (u : Int) : Int:=vM u - 2 * oM u + u
def nI (u : Int) : Int:=vM u - oM u
theorem ZQ {u k : Int} (hk : k = 65536 - u) : oM u = 65536 - 2 * k + k * k / 65536:=by
 unfold oM
 have : u * u = k * k + 65536 * (65536 - 2 * k):=by
  have h : u = 65536 - k:=by omega
  rw [h,Int.sub_mul,Int.mul_sub,Int.mul_sub,Int.mul_sub];omega
 rw [this,Int.add_mul_ediv_left _ _ (by decide)];omega
theorem afn {u k : Int} (hk : k = 65536 - u) : vM u = 65536 - 3 * k + k * k / 65536 + (2 * (k * k) - k * k / 65536 * k) / 65536:=by
 unfold vM
 rw [ZQ hk]
 generalize k * k / 65536 = c
 have : (65536 - 2 * k + c) * u = (2 * (k * k) - c * k) + 65536 * (65536 - 3 * k + c):=by
  have h : u = 65536 - k:=by omega
  have e : 2 * k * k = 2 * (k * k):=Int.mul_assoc _ _ _
  rw [h,Int.mul_sub,Int.add_mul _ _ k,Int.sub_mul _ _ k,e];omega
 rw [this,Int.add_mul_ediv_left _ _ (by decide)];omega
theorem qo {u : Int} (h0 : 0 <= u) (h1 : u <= 65536) :
 0 <= oM u /\ oM u <= 65536 /\ 0 <= vM u /\ vM u <= oM u /\ 0 <= rM u /\ rM u <= 65536 /\ 0 <= lg u /\ lg u <= 65536 /\ nI u <= 0 /\ -65536 <= nI u:=by
 have s0 : 0 <= oM u:=Int.ediv_nonneg (Int.mul_nonneg h0 h0) (by decide)
 have s1 : oM u <= 65536:=by
  unfold oM
  have : u * u <= 65536 * 65536:=Int.mul_le_mul h1 h1 h0 (by decide)
  omega
 have c0 : 0 <= vM u:=Int.ediv_nonneg (Int.mul_nonneg s0 h0) (by decide)
 have c1 : vM u <= oM u:=by
  unfold vM
  have : oM u * u <= oM u * 65536:=Int.mul_le_mul_of_nonneg_left h1 s0
  omega
 obtain ⟨k,hk⟩ : ∃ k,k = 65536 - u:=⟨_,rfl⟩
 have e2:=ZQ hk;have e3:=afn hk
 have k0 : 0 <= k:=by omega
 have k1 : k <= 65536:=by omega
 have kk : k * k <= 65536 * k:=Int.mul_le_mul_of_nonneg_right k1 k0
 have kk0 : 0 <= k * k:=Int.mul_nonneg k0 k0
 have cc : k * k / 65536 <= k:=by omega
 have ck : k * k / 65536 * k <= k * k:=Int.mul_le_mul_of_nonneg_right cc k0
 have ff : k * k / 65536 <= (2 * (k * k) - k * k / 65536 * k) / 65536:=Int.ediv_le_ediv (by decide) (by omega)
 generalize (2 * (k * k) - k * k / 65536 * k) / 65536 = f at *
 have cz : 0 <= k * k / 65536:=by omega
 generalize k * k / 65536 = c at *
 unfold rM lg nI
 omega
theorem YE {u : Int} (h0 : 0 <= u) (h1 : u <= 65536) : aR u u = oM u:=by
 obtain ⟨s0,s1,_⟩:=qo h0 h1
 exact QA (x:=oM u) (by unfold aA;omega)
theorem YF {u : Int} (h0 : 0 <= u) (h1 : u <= 65536) : aR (oM u) u = vM u:=by
 obtain ⟨s0,s1,s2,s3,_⟩:=qo h0 h1
 exact QA (x:=vM u) (by unfold aA;omega)
theorem acJ (u : Int) (h0 : 0 <= u) (h1 : u <= 65536) (w : World) :
 Calls Tryz.prog 252 #[.int .i64 u] w λe w'=>e = .returned (v3 (rM u) (lg u) (nI u)) /\ w' = w.alloc (.cells #[.int .i64 (rM u),.int .i64 (lg u),.int .i64 (nI u)] 344):=by
 obtain ⟨s0,s1,s2,s3,s4,s5,s6,s7,s8,s9⟩:=qo h0 h1
 have c1:=sF u u (uX _ (by omega)) (uX _ (by omega))
 rw [YE h0 h1] at c1
 have c2:=sF (oM u) u (uX _ (by omega)) (uX _ (by omega))
 rw [YF h0 h1] at c2
 have E1 : rM u = 3 * oM u - 2 * vM u:=rfl
 have E2 : lg u = vM u - 2 * oM u + u:=rfl
 have E3 : nI u = vM u - oM u:=rfl
 generalize rM u = a at *
 generalize lg u = b at *
 generalize nI u = c at *
 generalize oM u = s at *
 generalize vM u = t at *
 subst E1;subst E2;subst E3
 go_enter Tryz.func252,Tryz.ntmps252
 go_wp2_with fail
 refine (c1 _).mono ?_;rintro e w' ⟨rfl,rfl⟩
 go_wp2_with fail
 refine (c2 _).mono ?_;rintro e w' ⟨rfl,rfl⟩
 go_wp2
 exact bodyPost_ret (v:=v3 (3 * s - 2 * t) (t - 2 * s + u) (t - s)) (by simp [results,Tryz.results252,go_sem]) rfl ⟨rfl,rfl⟩
def xZ (n x p y q z r : Int) : Int:=bJ (bJ (bJ n (aR x p)) (aR y q)) (aR z r)
set_option maxHeartbeats 1000000 in
theorem ZR (n x p y q z r : Int) (hn : aA n) (hx : aA x) (hp : aA p) (hy : aA y) (hq : aA q) (hz : aA z) (hr : aA r) (b : Nat) (w : World)
 (hb : ak w b #[.int .i64 x,.int .i64 p,.int .i64 y,.int .i64 q,.int .i64 z,.int .i64 r] 348) :
 Calls Tryz.prog 253 #[.int .i64 n,.slice (some ⟨b,0,none⟩) 3 3] w λe w'=>e = .returned (.int .i64 (xZ n x p y q z r)) /\ Below w.heap.size w w':=by
 have m0:=sF x p hx hp;have m1:=sF y q hy hq;have m2:=sF z r hz hr;have a0:=vX n (aR x p) hn (nG _ _);have a1:=vX (bJ n (aR x p)) (aR y q) (El _ _) (nG _ _);have a2:=vX (bJ (bJ n (aR x p)) (aR y q)) (aR z r) (El _ _) (nG _ _)
 have HE : Hid (xZ n x p y q z r = bJ (bJ (bJ n (aR x p)) (aR y q)) (aR z r)):=ajK rfl
 generalize xZ n x p y q z r = s at *
 generalize bJ (bJ (bJ n (aR x p)) (aR y q)) (aR z r) = s3 at *
 generalize bJ (bJ n (aR x p)) (aR y q) = s2 at *
 generalize bJ n (aR x p) = s1 at *
 generalize aR x p = k0 at *
 generalize aR y q = k1 at *
 generalize aR z r = k2 at *
 have lt:=hb.lt
 have BL : ∀ wr,Below w.heap.size w wr -> ak wr b #[.int .i64 x,.int .i64 p,.int .i64 y,.int .i64 q,.int .i64 z,.int .i64 r] 348:=λwr h=>hb.below h lt
 clear hn hx hp hy hq hz hr
 go_enter Tryz.func253,Tryz.ntmps253
 go_wp2_with fail
 go_loopw [0,9] (λv i wr=>((i = .int .i64 0 /\ v = .int .i64 n) \/ (i = .int .i64 1 /\ v = .int .i64 s1) \/ (i = .int .i64 2 /\ v = .int .i64 s2) \/ (i = .int .i64 3 /\ v = .int .i64 s3)) /\ Below w.heap.size w wr) (λ_ i _=>3 - (intOf i).toNat)
 case atStart=>exact ⟨.inl ⟨rfl,rfl⟩,Below.refl _ _⟩
 case round =>
  rename_i wr
  obtain ⟨hi,hB⟩:=hrel
  have B:=BL _ hB
  have q0:=B.cell 0;have q1:=B.cell 1;have q2:=B.cell 2;have q3:=B.cell 3;have q4:=B.cell 4;have q5:=B.cell 5
  simp at q0 q1 q2 q3 q4 q5
  rcases hi with ⟨rfl,rfl⟩ | ⟨rfl,rfl⟩ | ⟨rfl,rfl⟩ | ⟨rfl,rfl⟩
  ·go_wp2_with fail
   refine (m0 _).mono ?_;rintro e w' ⟨rfl,rfl⟩
   go_wp2_with fail
   refine (a0 _).mono ?_;rintro e w' ⟨rfl,rfl⟩
   go_wp2_with fail
   go_roundw
   case rel=>exact ⟨.inr (.inl ⟨rfl,rfl⟩),hB.alloc hB.size _⟩
   case measure=>decide
  ·go_wp2_with fail
   refine (m1 _).mono ?_;rintro e w' ⟨rfl,rfl⟩
   go_wp2_with fail
   refine (a1 _).mono ?_;rintro e w' ⟨rfl,rfl⟩
   go_wp2_with fail
   go_roundw
   case rel=>exact ⟨.inr (.inr (.inl ⟨rfl,rfl⟩)),hB.alloc hB.size _⟩
   case measure=>decide
  ·go_wp2_with fail
   refine (m2 _).mono ?_;rintro e w' ⟨rfl,rfl⟩
   go_wp2_with fail
   refine (a2 _).mono ?_;rintro e w' ⟨rfl,rfl⟩
   go_wp2_with fail
   go_roundw
   case rel=>exact ⟨.inr (.inr (.inr ⟨rfl,rfl⟩)),hB.alloc hB.size _⟩
   case measure=>decide
  ·go_wp2
   go_ret
   exact ⟨aL HE.out.symm,hB⟩
def dS (a v b w num den : Int) : Int :=
 if num = 0 then a else if num = den then b else
  sw (xZ a (rM (sD num den)) (aQ b a) (lg (sD num den)) (aR v den) (nI (sD num den)) (aR w den)) a b
end Go.Proofs.YtklkooeimkedgaaGreat
