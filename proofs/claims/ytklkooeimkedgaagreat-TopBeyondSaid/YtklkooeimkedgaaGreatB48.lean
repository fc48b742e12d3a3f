/- Walk of TopBeyond. -/
import Derived.BigQuiet
import Derived.Deep.QuietTactic
import Derived.Deep.RegionWith
import Derived.Test.YtklkooeimkedgaaGreatB46
import Derived.Test.YtklkooeimkedgaaGreatB47
set_option linter.unusedVariables false
set_option linter.unusedSimpArgs false
namespace Go.Proofs.YtklkooeimkedgaaGreat
open Go.RowKit
structure nE (w : World) (b : Nat) (most : Int) (L1 L2 L3 : List Int) (S : Nat -> Prop) (v1 v2 v3 : Value) (g1 g2 g3 : Option Nat) : Prop where
 blk : ak w b #[.int .i64 most,v1,v2,v3] 185
 last : eO w v1 L1 g1
 low : eO w v2 L2 g2
 high : eO w v3 L3 g3
 sb : S b
 s1 : ∀ k,g1 = some k -> S k /\ k ≠ b
 s2 : ∀ k,g2 = some k -> S k /\ k ≠ b
 s3 : ∀ k,g3 = some k -> S k /\ k ≠ b
 Ib : ∀ k,g1 = some k -> g2 = some k -> False
 Ic : ∀ k,g1 = some k -> g3 = some k -> False
 Ie : ∀ k,g2 = some k -> g3 = some k -> False
def mg (w : World) (b : Nat) (most : Int) (L : List Int) (S : Nat -> Prop) : Prop:=∃ v1 v2 v3 g1 g2 g3,nE w b most L (gJ xW L) (gJ Ce L) S v1 v2 v3 g1 g2 g3
theorem nE.only {w w' : World} {b : Nat} {most : Int} {L1 L2 L3 : List Int} {S T : Nat -> Prop} {v1 v2 v3 : Value} {g1 g2 g3 : Option Nat} (h : nE w b most L1 L2 L3 S v1 v2 v3 g1 g2 g3) (ho : Only T w w') (hd : ∀ k,S k -> ¬ T k) : nE w' b most L1 L2 L3 S v1 v2 v3 g1 g2 g3 :=
 ⟨ho.blk h.blk (hd _ h.sb),h.last.only ho (λk e=>hd k (h.s1 k e).1),h.low.only ho (λk e=>hd k (h.s2 k e).1),h.high.only ho (λk e=>hd k (h.s3 k e).1),h.sb,h.s1,h.s2,h.s3,h.Ib,h.Ic,h.Ie⟩
theorem nE.weaken {w : World} {b : Nat} {most : Int} {L1 L2 L3 : List Int} {S T : Nat -> Prop} {v1 v2 v3 : Value} {g1 g2 g3 : Option Nat} (h : nE w b most L1 L2 L3 S v1 v2 v3 g1 g2 g3) (hd : ∀ k,S k -> T k) : nE w b most L1 L2 L3 T v1 v2 v3 g1 g2 g3 :=
 ⟨h.blk,h.last,h.low,h.high,hd _ h.sb,λk e=>⟨hd k (h.s1 k e).1,(h.s1 k e).2⟩,λk e=>⟨hd k (h.s2 k e).1,(h.s2 k e).2⟩,λk e=>⟨hd k (h.s3 k e).1,(h.s3 k e).2⟩,h.Ib,h.Ic,h.Ie⟩
theorem mg.only {w w' : World} {b : Nat} {most : Int} {L : List Int} {S T : Nat -> Prop} (h : mg w b most L S) (ho : Only T w w') (hd : ∀ k,S k -> ¬ T k) : mg w' b most L S:=by
 obtain ⟨v1,v2,v3,g1,g2,g3,h⟩:=h
 exact ⟨v1,v2,v3,g1,g2,g3,h.only ho hd⟩
theorem eO.gt {w : World} {v : Value} {xs : List Int} {g : Option Nat} (h : eO w v xs g) : ∀ k,g = some k -> k < w.heap.size:=λk e=>by
 subst e;exact h.lt
theorem sj (w : World) (b : Nat) (v : Value) (i : Nat) : Only (λk=>k = b) w (w.setCell ⟨b,i,none⟩ v):=(Only.refl (λk=>k = b) w).setCell (.inl rfl) _
theorem nE.set1 {w w1 : World} {b : Nat} {most : Int} {L1 L2 L3 L' : List Int} {S : Nat -> Prop} {v1 v2 v3 v' : Value} {g1 g2 g3 g' : Option Nat} (h : nE w b most L1 L2 L3 S v1 v2 v3 g1 g2 g3)
 (hr : eO w1 v' L' g') (ho : Only (λk=>g1 = some k) w w1) (hn : ∀ k,g' = some k -> g1 = some k \/ w.heap.size <= k) (hS : ∀ k,w.heap.size <= k -> S k) :
 nE (w1.setCell ⟨b,1,none⟩ v') b most L' L2 L3 S v' v2 v3 g' g2 g3:=by
 have Sc : ∀ m,g' = some m -> S m:=λm e=>by
  rcases hn m e with h1 | h1
  ·exact (h.s1 m h1).1
  ·exact hS m h1
 have hgb : ∀ m,g' = some m -> m ≠ b:=λm e=>by
  rcases hn m e with h1 | h1
  ·exact (h.s1 m h1).2
  ·have:=h.blk.lt;omega
 have hx2 : ∀ m,g' = some m -> g2 = some m -> False:=λm e e2=>by
  rcases hn m e with h1 | h1
  ·exact h.Ib m h1 e2
  ·have:=h.low.gt m e2;omega
 have hx3 : ∀ m,g' = some m -> g3 = some m -> False:=λm e e2=>by
  rcases hn m e with h1 | h1
  ·exact h.Ic m h1 e2
  ·have:=h.high.gt m e2;omega
 refine ⟨?_,(hr.only (sj w1 b v' 1) (λj e=>hgb j e)),((h.low.only ho (λj e hj=>h.Ib j hj e)).only (sj w1 b v' 1) (λj e=>(h.s2 j e).2)),((h.high.only ho (λj e hj=>h.Ic j hj e)).only (sj w1 b v' 1) (λj e=>(h.s3 j e).2)),h.sb,(λj e=>⟨Sc j e,hgb j e⟩),h.s2,h.s3,(λm e e2=>hx2 m e e2),(λm e e2=>hx3 m e e2),h.Ie⟩
 have:=(ho.blk h.blk (λe=>(h.s1 b e).2 rfl)).set 1 v'
 simpa using this
theorem nE.set2 {w w1 : World} {b : Nat} {most : Int} {L1 L2 L3 L' : List Int} {S : Nat -> Prop} {v1 v2 v3 v' : Value} {g1 g2 g3 g' : Option Nat} (h : nE w b most L1 L2 L3 S v1 v2 v3 g1 g2 g3)
 (hr : eO w1 v' L' g') (ho : Only (λk=>g2 = some k) w w1) (hn : ∀ k,g' = some k -> g2 = some k \/ w.heap.size <= k) (hS : ∀ k,w.heap.size <= k -> S k) :
 nE (w1.setCell ⟨b,2,none⟩ v') b most L1 L' L3 S v1 v' v3 g1 g' g3:=by
 have Sc : ∀ m,g' = some m -> S m:=λm e=>by
  rcases hn m e with h1 | h1
  ·exact (h.s2 m h1).1
  ·exact hS m h1
 have hgb : ∀ m,g' = some m -> m ≠ b:=λm e=>by
  rcases hn m e with h1 | h1
  ·exact (h.s2 m h1).2
  ·have:=h.blk.lt;omega
 have hx1 : ∀ m,g' = some m -> g1 = some m -> False:=λm e e2=>by
  rcases hn m e with h1 | h1
  ·exact h.Ib m e2 h1
  ·have:=h.last.gt m e2;omega
 have hx3 : ∀ m,g' = some m -> g3 = some m -> False:=λm e e2=>by
  rcases hn m e with h1 | h1
  ·exact h.Ie m h1 e2
  ·have:=h.high.gt m e2;omega
 refine ⟨?_,((h.last.only ho (λj e hj=>h.Ib j e hj)).only (sj w1 b v' 2) (λj e=>(h.s1 j e).2)),(hr.only (sj w1 b v' 2) (λj e=>hgb j e)),((h.high.only ho (λj e hj=>h.Ie j hj e)).only (sj w1 b v' 2) (λj e=>(h.s3 j e).2)),h.sb,h.s1,(λj e=>⟨Sc j e,hgb j e⟩),h.s3,(λm e e2=>hx1 m e2 e),h.Ic,(λm e e2=>hx3 m e e2)⟩
 have:=(ho.blk h.blk (λe=>(h.s2 b e).2 rfl)).set 2 v'
 simpa using this
theorem nE.KA {w w1 : World} {b : Nat} {most : Int} {L1 L2 L3 L' : List Int} {S : Nat -> Prop} {v1 v2 v3 v' : Value} {g1 g2 g3 g' : Option Nat} (h : nE w b most L1 L2 L3 S v1 v2 v3 g1 g2 g3)
 (hr : eO w1 v' L' g') (ho : Only (λk=>g3 = some k) w w1) (hn : ∀ k,g' = some k -> g3 = some k \/ w.heap.size <= k) (hS : ∀ k,w.heap.size <= k -> S k) :
 nE (w1.setCell ⟨b,3,none⟩ v') b most L1 L2 L' S v1 v2 v' g1 g2 g':=by
 have Sc : ∀ m,g' = some m -> S m:=λm e=>by
  rcases hn m e with h1 | h1
  ·exact (h.s3 m h1).1
  ·exact hS m h1
 have hgb : ∀ m,g' = some m -> m ≠ b:=λm e=>by
  rcases hn m e with h1 | h1
  ·exact (h.s3 m h1).2
  ·have:=h.blk.lt;omega
 have hx1 : ∀ m,g' = some m -> g1 = some m -> False:=λm e e2=>by
  rcases hn m e with h1 | h1
  ·exact h.Ic m e2 h1
  ·have:=h.last.gt m e2;omega
 have hx2 : ∀ m,g' = some m -> g2 = some m -> False:=λm e e2=>by
  rcases hn m e with h1 | h1
  ·exact h.Ie m e2 h1
  ·have:=h.low.gt m e2;omega
 refine ⟨?_,((h.last.only ho (λj e hj=>h.Ic j e hj)).only (sj w1 b v' 3) (λj e=>(h.s1 j e).2)),((h.low.only ho (λj e hj=>h.Ie j e hj)).only (sj w1 b v' 3) (λj e=>(h.s2 j e).2)),(hr.only (sj w1 b v' 3) (λj e=>hgb j e)),h.sb,h.s1,h.s2,(λj e=>⟨Sc j e,hgb j e⟩),h.Ib,(λm e e2=>hx1 m e2 e),(λm e e2=>hx2 m e2 e)⟩
 have:=(ho.blk h.blk (λe=>(h.s3 b e).2 rfl)).set 3 v'
 simpa using this
abbrev uL : Nat -> Prop:=λ_=>False
theorem MW {w : World} {v : Value} {L : List Int} {g : Option Nat} (h : eO w v L g) : ∃ a cap,v = .slice a L.length cap:=by
 rcases h with ⟨_,rfl,ao,e⟩ | ⟨b',off,cap,cur,_,e,_⟩
 ·exact ⟨ao,0,e⟩
 ·exact ⟨_,_,e⟩
theorem Ef (W : World) (k : Nat) (hk : W.heap.size = k) (v : Value) : (W.alloc (.cells #[v] 2)).cell? ⟨k,0,none⟩ = some v:=by
 subst hk;simp
theorem jR {w : World} {v : Value} {L : List Int} {g : Option Nat} (h : eO w v L g) : ∃ a n cap,v = .slice a n cap:=by
 obtain ⟨a,cap,h⟩:=MW h
 exact ⟨a,_,cap,h⟩
set_option maxHeartbeats 1000000 in
theorem Sd (b : Nat) (most : Int) (L : List Int) (S : Nat -> Prop) (x : Int) (w : World) (h : mg w b most L S) (hl : (L.length : Int) < most) (hb : L.length <= 1000) :
 Calls Tryz.prog 81 #[.pointer (some ⟨b,0,none⟩),.int .i64 x] w λe w'=>e = .returned (.int .i64 0) /\ mg w' b most (L ++ [x]) (λk=>S k \/ w.heap.size <= k) /\ Only S w w':=by
 obtain ⟨v1,v2,v3,g1,g2,g3,h⟩:=h
 have q0:=h.blk.cell 0;have q1:=h.blk.cell 1;have q2:=h.blk.cell 2;have q3:=h.blk.cell 3
 have f1:=h.blk.free 1;have f2:=h.blk.free 2;have f3:=h.blk.free 3
 simp at q0 q1 q2 q3 f1 f2 f3
 obtain ⟨a,cap,rfl⟩:=MW h.last
 have H:=aiS (h.weaken (T:=λk=>S k \/ w.heap.size <= k) (λk e=>.inl e))
 have g : ((L.length : Int) == most) = false:=by simp;omega
 clear h
 go_enter Tryz.func81,Tryz.ntmps81
 go_wp2_with fail
 go_quiet (fail)
 go_wp2_with (at_builtin;refine jV rfl (.tmp 57) (.tmp 59) rfl _ L g1 rfl (H.out.last.only (((Only.refl uL _).draws nq).alloc _) (λ_ _ hf=>hf)) x ⟨w.heap.size,0,none⟩ rfl ?c1 ?c2 ?_)
 case c1=>exact Ef _ _ (by simp) _
 case c2=>omega
 intro v1' w1 g1' r1 o1 n1
 obtain ⟨a1,m1,Eh,rfl⟩:=jR r1
 have P1:=aiS ((H.out.only (((Only.refl uL w).draws nq).alloc (.cells #[.int .i64 x] 2)) (λ_ _ hf=>hf)).set1 r1 o1 (λk e=>(n1 k e).imp id (λh=>by simpa using h)) (λk hk=>.inr (by simp at hk;omega)))
 have B1:=o1.blk (H.out.only (((Only.refl uL w).draws nq).alloc (.cells #[.int .i64 x] 2)) (λ_ _ hf=>hf)).blk (λe=>(H.out.s1 b e).2 rfl)
 have O1 : Hid (Only (λk=>S k \/ w.heap.size <= k) w (w1.setCell ⟨b,1,none⟩ (.slice a1 m1 Eh))):=aiS (((((Only.refl (λk=>S k \/ w.heap.size <= k) w).draws nq).alloc (.cells #[.int .i64 x] 2)).aW o1 (λi _ e=>(H.out.s1 i e).1)).setCell (.inl H.out.sb) _)
 clear q0 q1 q2 q3 f1 f2 f3
 have q1:=B1.cell 1;have q2:=B1.cell 2;have q3:=B1.cell 3
 have f1:=B1.free 1;have f2:=B1.free 2;have f3:=B1.free 3
 simp at q1 q2 q3;clear B1 r1 o1 n1
 go_wp2_with fail
 refine (Ec _ (kD zS _) x _ _ _ P1.out.low (Nat.le_trans (nD _ _) (by omega))).mono ?_
 rintro e w2 ⟨JI,rfl,g2',r2,o2,n2⟩
 rw [← lW] at r2
 obtain ⟨a2,m2,cap2,rfl⟩:=jR r2
 have P2:=aiS (P1.out.set2 r2 o2 n2 (λk hk=>.inr (Nat.le_trans O1.out.size hk)))
 have B2:=o2.blk P1.out.blk (λe=>(P1.out.s2 b e).2 rfl)
 have O2 : Hid (Only (λk=>S k \/ w.heap.size <= k) w (w2.setCell ⟨b,2,none⟩ (.slice a2 m2 cap2))):=aiS ((O1.out.aW o2 (λi _ e=>(P1.out.s2 i e).1)).setCell (.inl P1.out.sb) _)
 clear q1 q2 q3 f1 f2 f3
 have q2:=B2.cell 2;have q3:=B2.cell 3
 have f2:=B2.free 2;have f3:=B2.free 3
 simp at q2 q3;clear B2 r2 o2 n2
 go_wp2_with fail
 refine (Ed _ (kD Fu _) x _ _ _ P2.out.high (Nat.le_trans (nD _ _) (by omega))).mono ?_
 rintro e w3 ⟨v3',rfl,g3',r3,o3,n3⟩
 rw [← lW] at r3
 obtain ⟨a3,m3,uS,rfl⟩:=jR r3
 have P3:=aiS (P2.out.KA r3 o3 n3 (λk hk=>.inr (Nat.le_trans O2.out.size hk)))
 have B3:=o3.blk P2.out.blk (λe=>(P2.out.s3 b e).2 rfl)
 have O3 : Hid (Only (λk=>S k \/ w.heap.size <= k) w (w3.setCell ⟨b,3,none⟩ (.slice a3 m3 uS))):=aiS ((O2.out.aW o3 (λi _ e=>(P2.out.s3 i e).1)).setCell (.inl P2.out.sb) _)
 clear q2 q3 f2 f3;have q3:=B3.cell 3;simp at q3;have f3:=B3.free 3;clear B3 r3 o3 n3
 go_wp2
 go_ret
 exact ⟨rfl,⟨_,_,_,_,_,_,P3.out⟩,O3.out.weaken (λk hk e=>e.resolve_right (by omega))⟩
set_option maxRecDepth 8000 in
set_option maxHeartbeats 2000000 in
theorem Sg (b : Nat) (y : Int) (L : List Int) (S : Nat -> Prop) (x : Int) (w : World) (h : mg w b (L.length + 1) (y :: L) S) (hb : L.length <= 1000) :
 Calls Tryz.prog 81 #[.pointer (some ⟨b,0,none⟩),.int .i64 x] w λe w'=>e = .returned (.int .i64 0) /\ mg w' b (L.length + 1) (L ++ [x]) (λk=>S k \/ w.heap.size <= k) /\ Only S w w':=by
 obtain ⟨v1,v2,v3,g1,g2,g3,h⟩:=h
 have q0:=h.blk.cell 0;have q1:=h.blk.cell 1;have q2:=h.blk.cell 2;have q3:=h.blk.cell 3
 have f1:=h.blk.free 1;have f2:=h.blk.free 2;have f3:=h.blk.free 3
 simp at q0 q1 q2 q3 f1 f2 f3
 have h:=h.weaken (T:=λk=>S k \/ w.heap.size <= k) (λk e=>.inl e)
 obtain ⟨ml,Ml,l1,l2⟩:=DI zS y L
 obtain ⟨mh,Mh,k1,k2⟩:=DI Fu y L
 rw [l1,k1] at h
 have hlast:=h.last
 rcases hlast with ⟨_,e,_⟩ | hlast
 ·cases e
 obtain ⟨c,off,cap,cur,rfl,rfl,t1,t2,t3,t4,t5,t6⟩:=hlast
 have c0 : w.cell? ⟨c,off,none⟩ = some (.int .i64 y):=by
  have:=t6 0 y rfl
  simp [World.cell?,t4] at this ⊢
  exact this
 have HT:=aiS (Ia h.last t1)
 have hz : 0 < L.length + 1:=by omega
 have H:=aiS h;clear h t4 t5 t6
 simp only [List.length_cons] at *
 have hlen : L.length + 1 <= cap:=t1
 go_enter Tryz.func81,Tryz.ntmps81
 go_wp2_with fail
 go_quiet (fail)
 go_wp2_with fail
 obtain ⟨JI,g2',c2,r2,n2⟩:=RY ml Ml y v2 g2 (w.drewN nq).drew H.out.low
 obtain ⟨v3',g3',c3,r3,n3⟩:=RY mh Mh y v3 g3 (w.drewN nq).drew H.out.high
 rw [← l2] at r2
 rw [← k2] at r3
 obtain ⟨a2,m2,cap2,rfl⟩:=jR r2
 obtain ⟨a3,m3,uS,rfl⟩:=jR r3
 have R2:=aiS r2;have R3:=aiS r3;clear r2 r3
 (refine Fv 24 1 [0,2,3,4,5,6,7,8,9,10,11,12,13,14,15,16,17,18,19,20,21,22,23] (by kernel_rfl) (by kernel_rfl) _ (.pointer (some ⟨b,0,none⟩)) rfl (λ_ _ _ h=>h) (Or.inl ⟨by rfl,λw=>by rfl⟩) (by kernel_rfl) ?_;simp only [List.take_succ_cons,List.take_zero,List.eraseIdx_cons_succ,List.eraseIdx_cons_zero,List.drop_succ_cons,List.drop_zero];(repeat still_step);(try refine wpStill_nil ?_))
 (still_call (qO (c2));(repeat still_step);(try refine wpStill_nil ?_))
 (still_call (qO (c3));(repeat still_step);(try refine wpStill_nil ?_))
 clear c2 c3
 by_cases hc : cap = 1
 ·have ht:=HT.out
  rw [if_pos hc,if_pos hc] at ht
  subst hc
  have hl0 : L.length = 0:=by omega
  rw [hl0] at ht
  have HT2 : Hid (eO w (.slice (some ⟨c,off,none⟩) 0 0) L none):=aiS ht
  clear hl0;clear ht HT
  have hn1 : ∀ k,(none : Option Nat) = some k -> some c = some k \/ w.heap.size <= k:=λk e=>by cases e
  have hS : ∀ k,w.heap.size <= k -> (S k \/ w.heap.size <= k):=λk hk=>.inr hk
  have D0:=H.out.only ((Only.refl uL w).draws (nq + 1)) (λ_ _ hf=>hf)
  have D1:=D0.set2 R2.out (Only.refl _ _) (λk e=>.inl (n2 k e)) hS
  have D2:=D1.KA (R3.out.only (sj _ b (.slice a2 m2 cap2) 2) (λk e=>(H.out.s3 k (n3 k e)).2)) (Only.refl _ _) (λk e=>.inl (n3 k e)) (λk hk=>hS k (by simpa using hk))
  have D3:=D2.set1 ((HT2.out.only ((Only.refl (λk=>k = b) w).draws (nq + 1)) (λk e=>by
   rcases hn1 k e with h1 | h1
   ·exact (H.out.s1 k h1).2
   ·have:=HT2.out.gt k e;omega)).only (((Only.refl (λk=>k = b) _).setCell (p:=⟨b,2,none⟩) (.inl rfl) (.slice a2 m2 cap2)).setCell (p:=⟨b,3,none⟩) (.inl rfl) (.slice a3 m3 uS)) (λk e=>by
   rcases hn1 k e with h1 | h1
   ·exact (H.out.s1 k h1).2
   ·have:=HT2.out.gt k e;omega)) (Only.refl _ _) (λk e=>(hn1 k e).imp id (λh=>by simpa using h)) (λk hk=>hS k (by simpa using hk))
  have P0:=aiS D3
  have OO:=aiS ((((((Only.refl (λk=>S k \/ w.heap.size <= k) w).draws (nq + 1)).setCell (p:=⟨b,2,none⟩) (.inl H.out.sb) (.slice a2 m2 cap2)).setCell (p:=⟨b,3,none⟩) (.inl H.out.sb) (.slice a3 m3 uS)).setCell (p:=⟨b,1,none⟩) (.inl H.out.sb) (.slice (some ⟨c,off,none⟩) 0 0)))
  have hz:=(Only.size OO.out);clear D0 D1 D2 D3 R2 R3 n2 n3 HT2 c0 hn1
  go_upto_region 6 with fail
  obtain ⟨w5,qC⟩ : ∃ w5,w5 = ((((w.drewN (nq + 1)).setCell ⟨b,2,none⟩ (.slice a2 m2 cap2)).setCell ⟨b,3,none⟩ (.slice a3 m3 uS)).setCell ⟨b,1,none⟩ (.slice (some ⟨c,off,none⟩) 0 0)):=⟨_,rfl⟩
  rw [← qC] at P0 OO hz ⊢
  clear qC
  obtain ⟨gl,hgl⟩ : ∃ gl,gl = (none : Option Nat):=⟨_,rfl⟩
  rw [← hgl] at P0
  clear hgl;have B0:=P0.out.blk;clear q0 q1 q2 q3 f1 f2 f3
  have q0:=B0.cell 0;have q1:=B0.cell 1;have q2:=B0.cell 2;have q3:=B0.cell 3
  have f1:=B0.free 1;have f2:=B0.free 2;have f3:=B0.free 3
  simp at q0 q1 q2 q3;clear B0
  go_wp2_with (at_builtin;refine jV rfl (.tmp 57) (.tmp 59) rfl _ L gl rfl (P0.out.last.only ((Only.refl uL _).alloc _) (λ_ _ hf=>hf)) x ⟨w5.heap.size,0,none⟩ rfl ?c1 ?c2 ?_)
  case c1=>exact Ef _ _ (by simp) _
  case c2=>omega
  intro v1' w1 g1' r1 o1 n1
  obtain ⟨a1,m1,Eh,rfl⟩:=jR r1
  have P1:=aiS ((P0.out.only ((Only.refl uL _).alloc (.cells #[.int .i64 x] 2)) (λ_ _ hf=>hf)).set1 r1 o1 (λk e=>(n1 k e).imp id (λh=>by simpa using h)) (λk hk=>.inr (by simp at hk;omega)))
  have B1:=o1.blk (P0.out.only ((Only.refl uL _).alloc (.cells #[.int .i64 x] 2)) (λ_ _ hf=>hf)).blk (λe=>(P0.out.s1 b e).2 rfl)
  have O1 : Hid (Only (λk=>S k \/ w.heap.size <= k) w (w1.setCell ⟨b,1,none⟩ (.slice a1 m1 Eh))):=aiS (((OO.out.alloc (.cells #[.int .i64 x] 2)).aW o1 (λi _ e=>(P0.out.s1 i e).1)).setCell (.inl P0.out.sb) _)
  clear q0 q1 q2 q3 f1 f2 f3
  have q1:=B1.cell 1;have q2:=B1.cell 2;have q3:=B1.cell 3
  have f1:=B1.free 1;have f2:=B1.free 2;have f3:=B1.free 3
  simp at q1 q2 q3;clear B1 r1 o1 n1
  go_wp2_with fail
  refine (Ec _ (kD zS _) x _ _ _ P1.out.low (Nat.le_trans (nD _ _) (by omega))).mono ?_
  rintro e w2 ⟨JI,rfl,g2',r2,o2,n2⟩
  rw [← lW] at r2
  obtain ⟨a2,m2,cap2,rfl⟩:=jR r2
  have P2:=aiS (P1.out.set2 r2 o2 n2 (λk hk=>.inr (Nat.le_trans O1.out.size hk)))
  have B2:=o2.blk P1.out.blk (λe=>(P1.out.s2 b e).2 rfl)
  have O2 : Hid (Only (λk=>S k \/ w.heap.size <= k) w (w2.setCell ⟨b,2,none⟩ (.slice a2 m2 cap2))):=aiS ((O1.out.aW o2 (λi _ e=>(P1.out.s2 i e).1)).setCell (.inl P1.out.sb) _)
  clear q1 q2 q3 f1 f2 f3
  have q2:=B2.cell 2;have q3:=B2.cell 3
  have f2:=B2.free 2;have f3:=B2.free 3
  simp at q2 q3;clear B2 r2 o2 n2
  go_wp2_with fail
  refine (Ed _ (kD Fu _) x _ _ _ P2.out.high (Nat.le_trans (nD _ _) (by omega))).mono ?_
  rintro e w3 ⟨v3',rfl,g3',r3,o3,n3⟩
  rw [← lW] at r3
  obtain ⟨a3,m3,uS,rfl⟩:=jR r3
  have P3:=aiS (P2.out.KA r3 o3 n3 (λk hk=>.inr (Nat.le_trans O2.out.size hk)))
  have B3:=o3.blk P2.out.blk (λe=>(P2.out.s3 b e).2 rfl)
  have O3 : Hid (Only (λk=>S k \/ w.heap.size <= k) w (w3.setCell ⟨b,3,none⟩ (.slice a3 m3 uS))):=aiS ((O2.out.aW o3 (λi _ e=>(P2.out.s3 i e).1)).setCell (.inl P2.out.sb) _)
  clear q2 q3 f2 f3;have q3:=B3.cell 3;simp at q3;have f3:=B3.free 3;clear B3 r3 o3 n3
  go_wp2
  go_ret
  exact ⟨rfl,⟨_,_,_,_,_,_,P3.out⟩,O3.out.weaken (λk hk e=>e.resolve_right (by omega))⟩
 ·have ht:=HT.out
  rw [if_neg hc,if_neg hc] at ht
  have HT2:=aiS ht;clear ht HT
  have hn1 : ∀ k,(some c : Option Nat) = some k -> some c = some k \/ w.heap.size <= k:=λk e=>.inl e
  have hS : ∀ k,w.heap.size <= k -> (S k \/ w.heap.size <= k):=λk hk=>.inr hk
  have D0:=H.out.only ((Only.refl uL w).draws (nq + 1)) (λ_ _ hf=>hf)
  have D1:=D0.set2 R2.out (Only.refl _ _) (λk e=>.inl (n2 k e)) hS
  have D2:=D1.KA (R3.out.only (sj _ b (.slice a2 m2 cap2) 2) (λk e=>(H.out.s3 k (n3 k e)).2)) (Only.refl _ _) (λk e=>.inl (n3 k e)) (λk hk=>hS k (by simpa using hk))
  have D3:=D2.set1 ((HT2.out.only ((Only.refl (λk=>k = b) w).draws (nq + 1)) (λk e=>by
   rcases hn1 k e with h1 | h1
   ·exact (H.out.s1 k h1).2
   ·have:=HT2.out.gt k e;omega)).only (((Only.refl (λk=>k = b) _).setCell (p:=⟨b,2,none⟩) (.inl rfl) (.slice a2 m2 cap2)).setCell (p:=⟨b,3,none⟩) (.inl rfl) (.slice a3 m3 uS)) (λk e=>by
   rcases hn1 k e with h1 | h1
   ·exact (H.out.s1 k h1).2
   ·have:=HT2.out.gt k e;omega)) (Only.refl _ _) (λk e=>(hn1 k e).imp id (λh=>by simpa using h)) (λk hk=>hS k (by simpa using hk))
  have P0:=aiS D3
  have OO:=aiS ((((((Only.refl (λk=>S k \/ w.heap.size <= k) w).draws (nq + 1)).setCell (p:=⟨b,2,none⟩) (.inl H.out.sb) (.slice a2 m2 cap2)).setCell (p:=⟨b,3,none⟩) (.inl H.out.sb) (.slice a3 m3 uS)).setCell (p:=⟨b,1,none⟩) (.inl H.out.sb) (.slice (some ⟨c,off + 1,none⟩) L.length (cap - 1))))
  have hz:=(Only.size OO.out);clear D0 D1 D2 D3 R2 R3 n2 n3 HT2 c0 hn1
  go_upto_region 6 with fail
  obtain ⟨w5,qC⟩ : ∃ w5,w5 = ((((w.drewN (nq + 1)).setCell ⟨b,2,none⟩ (.slice a2 m2 cap2)).setCell ⟨b,3,none⟩ (.slice a3 m3 uS)).setCell ⟨b,1,none⟩ (.slice (some ⟨c,off + 1,none⟩) L.length (cap - 1))):=⟨_,rfl⟩
  rw [← qC] at P0 OO hz ⊢
  clear qC
  obtain ⟨gl,hgl⟩ : ∃ gl,gl = ((some c) : Option Nat):=⟨_,rfl⟩
  rw [← hgl] at P0
  clear hgl;have B0:=P0.out.blk;clear q0 q1 q2 q3 f1 f2 f3
  have q0:=B0.cell 0;have q1:=B0.cell 1;have q2:=B0.cell 2;have q3:=B0.cell 3
  have f1:=B0.free 1;have f2:=B0.free 2;have f3:=B0.free 3
  simp at q0 q1 q2 q3;clear B0
  go_wp2_with (at_builtin;refine jV rfl (.tmp 57) (.tmp 59) rfl _ L gl rfl (P0.out.last.only ((Only.refl uL _).alloc _) (λ_ _ hf=>hf)) x ⟨w5.heap.size,0,none⟩ rfl ?c1 ?c2 ?_)
  case c1=>exact Ef _ _ (by simp) _
  case c2=>omega
  intro v1' w1 g1' r1 o1 n1
  obtain ⟨a1,m1,Eh,rfl⟩:=jR r1
  have P1:=aiS ((P0.out.only ((Only.refl uL _).alloc (.cells #[.int .i64 x] 2)) (λ_ _ hf=>hf)).set1 r1 o1 (λk e=>(n1 k e).imp id (λh=>by simpa using h)) (λk hk=>.inr (by simp at hk;omega)))
  have B1:=o1.blk (P0.out.only ((Only.refl uL _).alloc (.cells #[.int .i64 x] 2)) (λ_ _ hf=>hf)).blk (λe=>(P0.out.s1 b e).2 rfl)
  have O1 : Hid (Only (λk=>S k \/ w.heap.size <= k) w (w1.setCell ⟨b,1,none⟩ (.slice a1 m1 Eh))):=aiS (((OO.out.alloc (.cells #[.int .i64 x] 2)).aW o1 (λi _ e=>(P0.out.s1 i e).1)).setCell (.inl P0.out.sb) _)
  clear q0 q1 q2 q3 f1 f2 f3
  have q1:=B1.cell 1;have q2:=B1.cell 2;have q3:=B1.cell 3
  have f1:=B1.free 1;have f2:=B1.free 2;have f3:=B1.free 3
  simp at q1 q2 q3;clear B1 r1 o1 n1
  go_wp2_with fail
  refine (Ec _ (kD zS _) x _ _ _ P1.out.low (Nat.le_trans (nD _ _) (by omega))).mono ?_
  rintro e w2 ⟨JI,rfl,g2',r2,o2,n2⟩
  rw [← lW] at r2
  obtain ⟨a2,m2,cap2,rfl⟩:=jR r2
  have P2:=aiS (P1.out.set2 r2 o2 n2 (λk hk=>.inr (Nat.le_trans O1.out.size hk)))
  have B2:=o2.blk P1.out.blk (λe=>(P1.out.s2 b e).2 rfl)
  have O2 : Hid (Only (λk=>S k \/ w.heap.size <= k) w (w2.setCell ⟨b,2,none⟩ (.slice a2 m2 cap2))):=aiS ((O1.out.aW o2 (λi _ e=>(P1.out.s2 i e).1)).setCell (.inl P1.out.sb) _)
  clear q1 q2 q3 f1 f2 f3
  have q2:=B2.cell 2;have q3:=B2.cell 3
  have f2:=B2.free 2;have f3:=B2.free 3
  simp at q2 q3;clear B2 r2 o2 n2
  go_wp2_with fail
  refine (Ed _ (kD Fu _) x _ _ _ P2.out.high (Nat.le_trans (nD _ _) (by omega))).mono ?_
  rintro e w3 ⟨v3',rfl,g3',r3,o3,n3⟩
  rw [← lW] at r3
  obtain ⟨a3,m3,uS,rfl⟩:=jR r3
  have P3:=aiS (P2.out.KA r3 o3 n3 (λk hk=>.inr (Nat.le_trans O2.out.size hk)))
  have B3:=o3.blk P2.out.blk (λe=>(P2.out.s3 b e).2 rfl)
  have O3 : Hid (Only (λk=>S k \/ w.heap.size <= k) w (w3.setCell ⟨b,3,none⟩ (.slice a3 m3 uS))):=aiS ((O2.out.aW o3 (λi _ e=>(P2.out.s3 i e).1)).setCell (.inl P2.out.sb) _)
  clear q2 q3 f2 f3;have q3:=B3.cell 3;simp at q3;have f3:=B3.free 3;clear B3 r3 o3 n3
  go_wp2
  go_ret
  exact ⟨rfl,⟨_,_,_,_,_,_,P3.out⟩,O3.out.weaken (λk hk e=>e.resolve_right (by omega))⟩
end Go.Proofs.YtklkooeimkedgaaGreat
