/- Walk of TopBeyond. -/
import Derived.LoopTactic
import Derived.Test.YtklkooeimkedgaaGreatB15
set_option linter.unusedVariables false
set_option linter.unusedSimpArgs false
namespace Go.Proofs.YtklkooeimkedgaaGreat
open Go.RowKit
theorem uD (a : Int) (h : -9223372036854775808 <= a /\ a <= 9223372036854775807) : ay a:=h
def oD (u : Int) : Int:=u * u / 65536
def uT (u : Int) : Int:=oD u * u / 65536
def qP (u : Int) : Int:=3 * oD u - 2 * uT u
def kI (u : Int) : Int:=uT u - 2 * oD u + u
def ng (u : Int) : Int:=uT u - oD u
theorem YW {u k : Int} (hk : k = 65536 - u) : oD u = 65536 - 2 * k + k * k / 65536:=by
 unfold oD
 have : u * u = k * k + 65536 * (65536 - 2 * k):=by
  have h : u = 65536 - k:=by omega
  rw [h,Int.sub_mul,Int.mul_sub,Int.mul_sub,Int.mul_sub];omega
 rw [this,Int.add_mul_ediv_left _ _ (by decide)];omega
theorem aeF {u k : Int} (hk : k = 65536 - u) : uT u = 65536 - 3 * k + k * k / 65536 + (2 * (k * k) - k * k / 65536 * k) / 65536:=by
 unfold uT
 rw [YW hk]
 generalize k * k / 65536 = c
 have : (65536 - 2 * k + c) * u = (2 * (k * k) - c * k) + 65536 * (65536 - 3 * k + c):=by
  have h : u = 65536 - k:=by omega
  have e : 2 * k * k = 2 * (k * k):=Int.mul_assoc _ _ _
  rw [h,Int.mul_sub,Int.add_mul _ _ k,Int.sub_mul _ _ k,e];omega
 rw [this,Int.add_mul_ediv_left _ _ (by decide)];omega
theorem pK {u : Int} (h0 : 0 <= u) (h1 : u <= 65536) :
 0 <= oD u /\ oD u <= 65536 /\ 0 <= uT u /\ uT u <= oD u /\ 0 <= qP u /\ qP u <= 65536 /\ 0 <= kI u /\ kI u <= 65536 /\ ng u <= 0 /\ -65536 <= ng u:=by
 have s0 : 0 <= oD u:=Int.ediv_nonneg (Int.mul_nonneg h0 h0) (by decide)
 have s1 : oD u <= 65536:=by
  unfold oD
  have : u * u <= 65536 * 65536:=Int.mul_le_mul h1 h1 h0 (by decide)
  omega
 have c0 : 0 <= uT u:=Int.ediv_nonneg (Int.mul_nonneg s0 h0) (by decide)
 have c1 : uT u <= oD u:=by
  unfold uT
  have : oD u * u <= oD u * 65536:=Int.mul_le_mul_of_nonneg_left h1 s0
  omega
 obtain ⟨k,hk⟩ : ∃ k,k = 65536 - u:=⟨_,rfl⟩
 have e2:=YW hk;have e3:=aeF hk
 have k0 : 0 <= k:=by omega
 have k1 : k <= 65536:=by omega
 have kk : k * k <= 65536 * k:=Int.mul_le_mul_of_nonneg_right k1 k0
 have kk0 : 0 <= k * k:=Int.mul_nonneg k0 k0
 have cc : k * k / 65536 <= k:=by omega
 have ck : k * k / 65536 * k <= k * k:=Int.mul_le_mul_of_nonneg_right cc k0
 have ff : k * k / 65536 <= (2 * (k * k) - k * k / 65536 * k) / 65536:=Int.ediv_le_ediv (by decide) (by omega)
 generalize (2 * (k * k) - k * k / 65536 * k) / 65536 = f at *
 have cz : 0 <= k * k / 65536:=by omega
 generalize k * k / 65536 = c at *
 unfold qP kI ng
 omega
theorem Xy {u : Int} (h0 : 0 <= u) (h1 : u <= 65536) : aN u u = oD u:=by
 obtain ⟨s0,s1,_⟩:=pK h0 h1
 exact O6 (x:=oD u) (by unfold ay;omega)
theorem Xz {u : Int} (h0 : 0 <= u) (h1 : u <= 65536) : aN (oD u) u = uT u:=by
 obtain ⟨s0,s1,s2,s3,_⟩:=pK h0 h1
 exact O6 (x:=uT u) (by unfold ay;omega)
theorem abK (u : Int) (h0 : 0 <= u) (h1 : u <= 65536) (w : World) :
 Calls Tryz.prog 252 #[.int .i64 u] w λe w'=>e = .returned (v3 (qP u) (kI u) (ng u)) /\ w' = w.alloc (.cells #[.int .i64 (qP u),.int .i64 (kI u),.int .i64 (ng u)] 344):=by
 obtain ⟨s0,s1,s2,s3,s4,s5,s6,s7,s8,s9⟩:=pK h0 h1
 have c1:=qH u u (uD _ (by omega)) (uD _ (by omega))
 rw [Xy h0 h1] at c1
 have c2:=qH (oD u) u (uD _ (by omega)) (uD _ (by omega))
 rw [Xz h0 h1] at c2
 have E1 : qP u = 3 * oD u - 2 * uT u:=rfl
 have E2 : kI u = uT u - 2 * oD u + u:=rfl
 have E3 : ng u = uT u - oD u:=rfl
 generalize qP u = a at *
 generalize kI u = b at *
 generalize ng u = c at *
 generalize oD u = s at *
 generalize uT u = t at *
 subst E1;subst E2;subst E3
 go_enter Tryz.func252,Tryz.ntmps252
 go_wp2_with fail
 refine (c1 _).mono ?_;rintro e w' ⟨rfl,rfl⟩
 go_wp2_with fail
 refine (c2 _).mono ?_;rintro e w' ⟨rfl,rfl⟩
 go_wp2
 exact bodyPost_ret (v:=v3 (3 * s - 2 * t) (t - 2 * s + u) (t - s)) (by simp [results,Tryz.results252,go_sem]) rfl ⟨rfl,rfl⟩
def xw (n x p y q z r : Int) : Int:=aU (aU (aU n (aN x p)) (aN y q)) (aN z r)
set_option maxHeartbeats 1000000 in
theorem YX (n x p y q z r : Int) (hn : ay n) (hx : ay x) (hp : ay p) (hy : ay y) (hq : ay q) (hz : ay z) (hr : ay r) (b : Nat) (w : World)
 (hb : ak w b #[.int .i64 x,.int .i64 p,.int .i64 y,.int .i64 q,.int .i64 z,.int .i64 r] 348) :
 Calls Tryz.prog 253 #[.int .i64 n,.slice (some ⟨b,0,none⟩) 3 3] w λe w'=>e = .returned (.int .i64 (xw n x p y q z r)) /\ Below w.heap.size w w':=by
 have m0:=qH x p hx hp;have m1:=qH y q hy hq;have m2:=qH z r hz hr;have a0:=tO n (aN x p) hn (lQ _ _);have a1:=tO (aU n (aN x p)) (aN y q) (vJ _ _) (lQ _ _);have a2:=tO (aU (aU n (aN x p)) (aN y q)) (aN z r) (vJ _ _) (lQ _ _)
 have HE : Hid (xw n x p y q z r = aU (aU (aU n (aN x p)) (aN y q)) (aN z r)):=aiS rfl
 generalize xw n x p y q z r = s at *
 generalize aU (aU (aU n (aN x p)) (aN y q)) (aN z r) = s3 at *
 generalize aU (aU n (aN x p)) (aN y q) = s2 at *
 generalize aU n (aN x p) = s1 at *
 generalize aN x p = k0 at *
 generalize aN y q = k1 at *
 generalize aN z r = k2 at *
 have lt:=hb.lt
 have BL : ∀ wr,Below w.heap.size w wr -> ak wr b #[.int .i64 x,.int .i64 p,.int .i64 y,.int .i64 q,.int .i64 z,.int .i64 r] 348:=λwr h=>hb.below h lt
 clear hn hx hp hy hq hz hr
 go_enter Tryz.func253,Tryz.ntmps253
 go_wp2_with fail
 go_loopw [0,9] (λv i wr=>((i = .int .i64 0 /\ v = .int .i64 n) \/ (i = .int .i64 1 /\ v = .int .i64 s1) \/ (i = .int .i64 2 /\ v = .int .i64 s2) \/ (i = .int .i64 3 /\ v = .int .i64 s3)) /\ Below w.heap.size w wr) (λ_ i _=>3 - (intOf i).toNat)
 case atStart=>exact ⟨.inl ⟨rfl,rfl⟩,Below.refl _ _⟩
 case round =>
  rename_i wr
  obtain ⟨hi,hB⟩:=hrel
  have B:=BL _ hB
  have q0:=B.cell 0;have q1:=B.cell 1;have q2:=B.cell 2;have q3:=B.cell 3;have q4:=B.cell 4;have q5:=B.cell 5
  simp at q0 q1 q2 q3 q4 q5
  rcases hi with ⟨rfl,rfl⟩ | ⟨rfl,rfl⟩ | ⟨rfl,rfl⟩ | ⟨rfl,rfl⟩
  ·go_wp2_with fail
   refine (m0 _).mono ?_;rintro e w' ⟨rfl,rfl⟩
   go_wp2_with fail
   refine (a0 _).mono ?_;rintro e w' ⟨rfl,rfl⟩
   go_wp2_with fail
   go_roundw
   case rel=>exact ⟨.inr (.inl ⟨rfl,rfl⟩),hB.alloc hB.size _⟩
   case measure=>decide
  ·go_wp2_with fail
   refine (m1 _).mono ?_;rintro e w' ⟨rfl,rfl⟩
   go_wp2_with fail
   refine (a1 _).mono ?_;rintro e w' ⟨rfl,rfl⟩
   go_wp2_with fail
   go_roundw
   case rel=>exact ⟨.inr (.inr (.inl ⟨rfl,rfl⟩)),hB.alloc hB.size _⟩
   case measure=>decide
  ·go_wp2_with fail
   refine (m2 _).mono ?_;rintro e w' ⟨rfl,rfl⟩
   go_wp2_with fail
   refine (a2 _).mono ?_;rintro e w' ⟨rfl,rfl⟩
   go_wp2_with fail
   go_roundw
   case rel=>exact ⟨.inr (.inr (.inr ⟨rfl,rfl⟩)),hB.alloc hB.size _⟩
   case measure=>decide
  ·go_wp2
   go_ret
   exact ⟨aR HE.out.symm,hB⟩
def dQ (a v b w num den : Int) : Int :=
 if num = 0 then a else if num = den then b else
  rH (xw a (qP (rJ num den)) (aK b a) (kI (rJ num den)) (aN v den) (ng (rJ num den)) (aN w den)) a b
end Go.Proofs.YtklkooeimkedgaaGreat
