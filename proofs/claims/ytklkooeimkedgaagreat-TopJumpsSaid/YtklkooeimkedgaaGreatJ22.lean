/- Parts of the walk of TopJumps: Vec5, Curve, Curve2. -/
import Derived.LoopTactic
import Derived.Test.YtklkooeimkedgaaGreatJ21
set_option linter.unusedVariables false
set_option linter.unusedSimpArgs false
namespace Go.Proofs.YtklkooeimkedgaaGreat
open Go.RowKit
theorem i64_of (a : Int) (h : -9223372036854775808 ≤ a ∧ a ≤ 9223372036854775807) : I64 a:=h
def sqF (u : Int) : Int:=u * u / 65536
def cuF (u : Int) : Int:=sqF u * u / 65536
def wayF (u : Int) : Int:=3 * sqF u - 2 * cuF u
def firstF (u : Int) : Int:=cuF u - 2 * sqF u + u
def lastF (u : Int) : Int:=cuF u - sqF u
theorem sq_k {u k : Int} (hk : k = 65536 - u) : sqF u = 65536 - 2 * k + k * k / 65536:=by
 unfold sqF
 have : u * u = k * k + 65536 * (65536 - 2 * k):=by
  have h : u = 65536 - k:=by omega
  rw [h,Int.sub_mul,Int.mul_sub,Int.mul_sub,Int.mul_sub];omega
 rw [this,Int.add_mul_ediv_left _ _ (by decide)];omega
theorem cu_k {u k : Int} (hk : k = 65536 - u) : cuF u = 65536 - 3 * k + k * k / 65536 + (2 * (k * k) - k * k / 65536 * k) / 65536:=by
 unfold cuF
 rw [sq_k hk]
 generalize k * k / 65536 = c
 have : (65536 - 2 * k + c) * u = (2 * (k * k) - c * k) + 65536 * (65536 - 3 * k + c):=by
  have h : u = 65536 - k:=by omega
  have e : 2 * k * k = 2 * (k * k):=Int.mul_assoc _ _ _
  rw [h,Int.mul_sub,Int.add_mul _ _ k,Int.sub_mul _ _ k,e];omega
 rw [this,Int.add_mul_ediv_left _ _ (by decide)];omega
theorem weights_bounds {u : Int} (h0 : 0 ≤ u) (h1 : u ≤ 65536) :
  0 ≤ sqF u ∧ sqF u ≤ 65536 ∧ 0 ≤ cuF u ∧ cuF u ≤ sqF u ∧ 0 ≤ wayF u ∧ wayF u ≤ 65536 ∧ 0 ≤ firstF u ∧ firstF u ≤ 65536 ∧ lastF u ≤ 0 ∧ -65536 ≤ lastF u:=by
 have s0 : 0 ≤ sqF u:=Int.ediv_nonneg (Int.mul_nonneg h0 h0) (by decide)
 have s1 : sqF u ≤ 65536:=by
  unfold sqF
  have : u * u ≤ 65536 * 65536:=Int.mul_le_mul h1 h1 h0 (by decide)
  omega
 have c0 : 0 ≤ cuF u:=Int.ediv_nonneg (Int.mul_nonneg s0 h0) (by decide)
 have c1 : cuF u ≤ sqF u:=by
  unfold cuF
  have : sqF u * u ≤ sqF u * 65536:=Int.mul_le_mul_of_nonneg_left h1 s0
  omega
 obtain ⟨k,hk⟩ : ∃ k,k = 65536 - u:=⟨_,rfl⟩
 have e2:=sq_k hk
 have e3:=cu_k hk
 have k0 : 0 ≤ k:=by omega
 have k1 : k ≤ 65536:=by omega
 have kk : k * k ≤ 65536 * k:=Int.mul_le_mul_of_nonneg_right k1 k0
 have kk0 : 0 ≤ k * k:=Int.mul_nonneg k0 k0
 have cc : k * k / 65536 ≤ k:=by omega
 have ck : k * k / 65536 * k ≤ k * k:=Int.mul_le_mul_of_nonneg_right cc k0
 have ff : k * k / 65536 ≤ (2 * (k * k) - k * k / 65536 * k) / 65536:=Int.ediv_le_ediv (by decide) (by omega)
 generalize (2 * (k * k) - k * k / 65536 * k) / 65536 = f at *
 have cz : 0 ≤ k * k / 65536:=by omega
 generalize k * k / 65536 = c at *
 unfold wayF firstF lastF
 omega
theorem mulF_sq {u : Int} (h0 : 0 ≤ u) (h1 : u ≤ 65536) : mulF u u = sqF u:=by
 obtain ⟨s0,s1,_⟩:=weights_bounds h0 h1
 exact sat_of (x:=sqF u) (by unfold I64;omega)
theorem mulF_cu {u : Int} (h0 : 0 ≤ u) (h1 : u ≤ 65536) : mulF (sqF u) u = cuF u:=by
 obtain ⟨s0,s1,s2,s3,_⟩:=weights_bounds h0 h1
 exact sat_of (x:=cuF u) (by unfold I64;omega)
theorem cat_f (u : Int) (h0 : 0 ≤ u) (h1 : u ≤ 65536) (w : World) :
  Calls Tryz.prog 252 #[.int .i64 u] w fun e w'=>e = .returned (v3 (wayF u) (firstF u) (lastF u)) ∧ w' = w.alloc (.cells #[.int .i64 (wayF u),.int .i64 (firstF u),.int .i64 (lastF u)] 344):=by
 obtain ⟨s0,s1,s2,s3,s4,s5,s6,s7,s8,s9⟩:=weights_bounds h0 h1
 have c1:=mul_f u u (i64_of _ (by omega)) (i64_of _ (by omega))
 rw [mulF_sq h0 h1] at c1
 have c2:=mul_f (sqF u) u (i64_of _ (by omega)) (i64_of _ (by omega))
 rw [mulF_cu h0 h1] at c2
 have E1 : wayF u = 3 * sqF u - 2 * cuF u:=rfl
 have E2 : firstF u = cuF u - 2 * sqF u + u:=rfl
 have E3 : lastF u = cuF u - sqF u:=rfl
 generalize wayF u = a at *
 generalize firstF u = b at *
 generalize lastF u = c at *
 generalize sqF u = s at *
 generalize cuF u = t at *
 subst E1;subst E2;subst E3
 go_enter Tryz.func252,Tryz.ntmps252
 go_wp2_with fail
 refine (c1 _).mono ?_;rintro e w' ⟨rfl,rfl⟩
 go_wp2_with fail
 refine (c2 _).mono ?_;rintro e w' ⟨rfl,rfl⟩
 go_wp2
 exact bodyPost_ret (v:=v3 (3 * s - 2 * t) (t - 2 * s + u) (t - s)) (by simp [results,Tryz.results252,go_sem]) rfl ⟨rfl,rfl⟩
def sum3F (n x p y q z r : Int) : Int:=addF (addF (addF n (mulF x p)) (mulF y q)) (mulF z r)
set_option maxHeartbeats 1000000 in
theorem csum_f (n x p y q z r : Int) (hn : I64 n) (hx : I64 x) (hp : I64 p) (hy : I64 y) (hq : I64 q) (hz : I64 z) (hr : I64 r) (b : Nat) (w : World)
  (hb : Blk w b #[.int .i64 x,.int .i64 p,.int .i64 y,.int .i64 q,.int .i64 z,.int .i64 r] 348) :
  Calls Tryz.prog 253 #[.int .i64 n,.slice (some ⟨b,0,none⟩) 3 3] w fun e w'=>e = .returned (.int .i64 (sum3F n x p y q z r)) ∧ Below w.heap.size w w':=by
 have m0:=mul_f x p hx hp
 have m1:=mul_f y q hy hq
 have m2:=mul_f z r hz hr
 have a0:=add_f n (mulF x p) hn (mulF_i64 _ _)
 have a1:=add_f (addF n (mulF x p)) (mulF y q) (addF_i64 _ _) (mulF_i64 _ _)
 have a2:=add_f (addF (addF n (mulF x p)) (mulF y q)) (mulF z r) (addF_i64 _ _) (mulF_i64 _ _)
 have HE : Hid (sum3F n x p y q z r = addF (addF (addF n (mulF x p)) (mulF y q)) (mulF z r)):=Lib.hid rfl
 generalize sum3F n x p y q z r = s at *
 generalize addF (addF (addF n (mulF x p)) (mulF y q)) (mulF z r) = s3 at *
 generalize addF (addF n (mulF x p)) (mulF y q) = s2 at *
 generalize addF n (mulF x p) = s1 at *
 generalize mulF x p = k0 at *
 generalize mulF y q = k1 at *
 generalize mulF z r = k2 at *
 have lt:=hb.lt
 have BL : ∀ wr,Below w.heap.size w wr → Blk wr b #[.int .i64 x,.int .i64 p,.int .i64 y,.int .i64 q,.int .i64 z,.int .i64 r] 348:=fun wr h=>hb.below h lt
 clear hn hx hp hy hq hz hr
 go_enter Tryz.func253,Tryz.ntmps253
 go_wp2_with fail
 go_loopw [0,9] (fun v i wr=>((i = .int .i64 0 ∧ v = .int .i64 n) ∨ (i = .int .i64 1 ∧ v = .int .i64 s1) ∨ (i = .int .i64 2 ∧ v = .int .i64 s2) ∨ (i = .int .i64 3 ∧ v = .int .i64 s3)) ∧ Below w.heap.size w wr) (fun _ i _=>3 - (intOf i).toNat)
 case atStart=>exact ⟨.inl ⟨rfl,rfl⟩,Below.refl _ _⟩
 case round =>
  rename_i wr
  obtain ⟨hi,hB⟩:=hrel
  have B:=BL _ hB
  have q0:=B.cell 0;have q1:=B.cell 1;have q2:=B.cell 2;have q3:=B.cell 3;have q4:=B.cell 4;have q5:=B.cell 5
  simp at q0 q1 q2 q3 q4 q5
  rcases hi with ⟨rfl,rfl⟩ | ⟨rfl,rfl⟩ | ⟨rfl,rfl⟩ | ⟨rfl,rfl⟩
  ·go_wp2_with fail
   refine (m0 _).mono ?_;rintro e w' ⟨rfl,rfl⟩
   go_wp2_with fail
   refine (a0 _).mono ?_;rintro e w' ⟨rfl,rfl⟩
   go_wp2_with fail
   go_roundw
   case rel=>exact ⟨.inr (.inl ⟨rfl,rfl⟩),hB.alloc hB.size _⟩
   case measure=>decide
  ·go_wp2_with fail
   refine (m1 _).mono ?_;rintro e w' ⟨rfl,rfl⟩
   go_wp2_with fail
   refine (a1 _).mono ?_;rintro e w' ⟨rfl,rfl⟩
   go_wp2_with fail
   go_roundw
   case rel=>exact ⟨.inr (.inr (.inl ⟨rfl,rfl⟩)),hB.alloc hB.size _⟩
   case measure=>decide
  ·go_wp2_with fail
   refine (m2 _).mono ?_;rintro e w' ⟨rfl,rfl⟩
   go_wp2_with fail
   refine (a2 _).mono ?_;rintro e w' ⟨rfl,rfl⟩
   go_wp2_with fail
   go_roundw
   case rel=>exact ⟨.inr (.inr (.inr ⟨rfl,rfl⟩)),hB.alloc hB.size _⟩
   case measure=>decide
  ·go_wp2
   go_ret
   exact ⟨ret_int HE.out.symm,hB⟩
def curveF (a v b w num den : Int) : Int :=
 if num = 0 then a else if num = den then b else
  clampF (sum3F a (wayF (partF num den)) (subF b a) (firstF (partF num den)) (mulF v den) (lastF (partF num den)) (mulF w den)) a b
end Go.Proofs.YtklkooeimkedgaaGreat
