/- Parts of the walk of TopOrders: Delay. -/
import Derived.Test.YtklkooeimkedgaaGreatO0
import Derived.Below
import Derived.BigQuiet
import Derived.Deep.QuietTactic
import Derived.Laws.ResultCell
import Derived.WalkSmall
import Derived.Test.YtklkooeimkedgaaGreatO3
import Derived.Test.YtklkooeimkedgaaGreatO6
set_option linter.unusedVariables false
set_option linter.unusedSimpArgs false
namespace Go.Proofs.YtklkooeimkedgaaGreat
open Go.RowKit
theorem Wd {W w1 : World} (hb : Below W.heap.size W w1) : (∀ b o,b < W.heap.size -> w1.cell? ⟨b,o,none⟩ = W.cell? ⟨b,o,none⟩) /\ (∀ b o,b < W.heap.size -> w1.frozen? ⟨b,o,none⟩ = W.frozen? ⟨b,o,none⟩) :=
 ⟨λb o h=>hb.cell (p:=⟨b,o,none⟩) h,λb o h=>hb.frozen (p:=⟨b,o,none⟩) h⟩
structure aS where
 ring : Int
 window : Int
 base : Int
 gain : Int
 least : Int
 most : Int
 aF : Int
 num : Int
 den : Int
 extra : Int
 aC : Bool
structure aS.Ok (c : aS) : Prop where
 ring : aA c.ring
 window : aA c.window
 base : aA c.base
 gain : aA c.gain
 least : aA c.least
 most : aA c.most
 aF : aA c.aF
 num : aA c.num
 den : aA c.den
 extra : aA c.extra
def bE (c : aS) : Value:=.agg #[.int .i64 c.ring,.int .i64 c.window,.int .i64 c.base,.int .i64 c.gain,.int .i64 c.least,.int .i64 c.most,.int .i64 c.aF,.int .i64 c.num,.int .i64 c.den,.int .i64 c.extra,.bool c.aC]
theorem Qz (c : aS) (w : World) :
  Calls Tryz.prog 138 #[bE c] w λe w'=>e = .returned (.agg #[.int .i64 c.base,.int .i64 2305843009213693952,.int .i64 c.least,.int .i64 2305843009213693952,.int .i64 c.most,.int .i64 2305843009213693952,.int .i64 c.aF,.int .i64 2305843009213693952,.int .i64 c.gain,.int .i64 68719476736]) /\ Below w.heap.size w w':=by
 unfold bE
 go_enter Tryz.func138,Tryz.ntmps138
 go_wp2
 exact bodyPost_ret (v:=.agg #[.int .i64 c.base,.int .i64 2305843009213693952,.int .i64 c.least,.int .i64 2305843009213693952,.int .i64 c.most,.int .i64 2305843009213693952,.int .i64 c.aF,.int .i64 2305843009213693952,.int .i64 c.gain,.int .i64 68719476736]) (by simp [results,Tryz.results138,go_sem]) rfl
  ⟨rfl,((Below.refl _ _).alloc (Nat.le_refl _) _).alloc (by simp) _⟩
def qB (n m : Int) : Bool:=decide (0 <= n /\ n <= m)
def fA (c : aS) : Int :=
 if qB c.base 2305843009213693952 && qB c.least 2305843009213693952 && qB c.most 2305843009213693952 && qB c.aF 2305843009213693952 && qB c.gain 68719476736 then (if c.most < c.least then 10 else 0) else 3
def Pass (c : aS) (k : Int) : Prop :=
 (0 < k -> qB c.base 2305843009213693952 = true) /\ (1 < k -> qB c.least 2305843009213693952 = true) /\ (2 < k -> qB c.most 2305843009213693952 = true) /\ (3 < k -> qB c.aF 2305843009213693952 = true) /\ (4 < k -> qB c.gain 68719476736 = true)
theorem vO {n m : Int} (h : ¬ n < 0) (h2 : ¬ m < n) : qB n m = true:=decide_eq_true (by omega)
theorem kr {n m : Int} (h : n < 0 \/ m < n) : qB n m = false:=decide_eq_false (by omega)
theorem Ut {c : aS} (h : Pass c 5) : fA c = if c.most < c.least then 10 else 0:=by
 obtain ⟨h0,h1,h2,h3,h4⟩:=h
 unfold fA
 rw [h0 (by omega),h1 (by omega),h2 (by omega),h3 (by omega),h4 (by omega)]
 rfl
theorem ku {c : aS} (h : qB c.base 2305843009213693952 = false \/ qB c.least 2305843009213693952 = false \/ qB c.most 2305843009213693952 = false \/ qB c.aF 2305843009213693952 = false \/ qB c.gain 68719476736 = false) : fA c = 3:=by
 unfold fA
 rcases h with h | h | h | h | h <;> rw [h] <;> simp
theorem ix0 (c : aS) (w : World) : (Instr.index 239 (.agg #[.int .i64 c.base,.int .i64 2305843009213693952,.int .i64 c.least,.int .i64 2305843009213693952,.int .i64 c.most,.int .i64 2305843009213693952,.int .i64 c.aF,.int .i64 2305843009213693952,.int .i64 c.gain,.int .i64 68719476736]) (.int .i64 0)).run Tryz.prog w = .ok (.agg #[.int .i64 c.base,.int .i64 2305843009213693952]) w:=by kernel_rfl
theorem ix1 (c : aS) (w : World) : (Instr.index 239 (.agg #[.int .i64 c.base,.int .i64 2305843009213693952,.int .i64 c.least,.int .i64 2305843009213693952,.int .i64 c.most,.int .i64 2305843009213693952,.int .i64 c.aF,.int .i64 2305843009213693952,.int .i64 c.gain,.int .i64 68719476736]) (.int .i64 1)).run Tryz.prog w = .ok (.agg #[.int .i64 c.least,.int .i64 2305843009213693952]) w:=by kernel_rfl
theorem ix2 (c : aS) (w : World) : (Instr.index 239 (.agg #[.int .i64 c.base,.int .i64 2305843009213693952,.int .i64 c.least,.int .i64 2305843009213693952,.int .i64 c.most,.int .i64 2305843009213693952,.int .i64 c.aF,.int .i64 2305843009213693952,.int .i64 c.gain,.int .i64 68719476736]) (.int .i64 2)).run Tryz.prog w = .ok (.agg #[.int .i64 c.most,.int .i64 2305843009213693952]) w:=by kernel_rfl
theorem ix3 (c : aS) (w : World) : (Instr.index 239 (.agg #[.int .i64 c.base,.int .i64 2305843009213693952,.int .i64 c.least,.int .i64 2305843009213693952,.int .i64 c.most,.int .i64 2305843009213693952,.int .i64 c.aF,.int .i64 2305843009213693952,.int .i64 c.gain,.int .i64 68719476736]) (.int .i64 3)).run Tryz.prog w = .ok (.agg #[.int .i64 c.aF,.int .i64 2305843009213693952]) w:=by kernel_rfl
theorem ix4 (c : aS) (w : World) : (Instr.index 239 (.agg #[.int .i64 c.base,.int .i64 2305843009213693952,.int .i64 c.least,.int .i64 2305843009213693952,.int .i64 c.most,.int .i64 2305843009213693952,.int .i64 c.aF,.int .i64 2305843009213693952,.int .i64 c.gain,.int .i64 68719476736]) (.int .i64 4)).run Tryz.prog w = .ok (.agg #[.int .i64 c.gain,.int .i64 68719476736]) w:=by kernel_rfl
set_option maxRecDepth 100000 in
theorem zJ (c : aS) (w : World) :
  Calls Tryz.prog 100 #[bE c] w λe w'=>e = .returned (.int .i64 (fA c)) /\ Below w.heap.size w w':=by
 have hn:=λw=>Qz c w
 have i0:=ix0 c
 have i1:=ix1 c
 have i2:=ix2 c
 have i3:=ix3 c
 have i4:=ix4 c
 unfold bE at hn ⊢
 go_enter Tryz.func100,Tryz.ntmps100
 go_wp2_with fail
 refine (hn _).mono ?_;rintro e w1 ⟨rfl,hb1⟩
 go_wp2_with fail
 obtain ⟨hc1,hf1⟩:=Wd hb1
 rw [World.size_alloc] at hb1 hc1 hf1
 go_loopw [7] (λi wr=>∃ k : Int,i = .int .i64 k /\ 0 <= k /\ k <= 5 /\ Pass c k /\ Below w.heap.size w wr /\ w.heap.size < wr.heap.size /\ wr.cell? ⟨w.heap.size,4,none⟩ = some (.int .i64 c.least) /\ wr.cell? ⟨w.heap.size,5,none⟩ = some (.int .i64 c.most)) (λi _=>5 - (intOf i).toNat)
 case atStart =>
  refine ⟨0,rfl,by omega,by omega,⟨λh=>absurd h (by omega),λh=>absurd h (by omega),λh=>absurd h (by omega),λh=>absurd h (by omega),λh=>absurd h (by omega)⟩,?_,?_,?_,?_⟩
  ·exact ((Below.refl _ _).alloc (Nat.le_refl _) _).trans (hb1.mono (by omega))
  ·have:=hb1.size;simp at this;omega
  ·rw [hc1 _ _ (by omega)];simp
  ·rw [hc1 _ _ (by omega)];simp
 case round =>
  rename_i wr
  obtain ⟨k,rfl,hk0,hk5,hp,hw1,hw2,hw3,hw4⟩:=hrel
  clear hb1 hc1 hf1
  rcases (by omega : k = 0 \/ k = 1 \/ k = 2 \/ k = 3 \/ k = 4 \/ k = 5) with rfl | rfl | rfl | rfl | rfl | rfl
  ·have HP:=ahZ hp
   clear hp
   by_cases h0 : c.base < 0
   ·have HE : Hid (fA c = 3):=ahZ (by have hf:=kr (m:=2305843009213693952) (.inl h0);exact ku (.inl hf))
    go_wp2
    go_ret
    exact ⟨aQ HE.out.symm,hw1.alloc (by omega) _⟩
   ·by_cases h1 : 2305843009213693952 < c.base
    ·have HE : Hid (fA c = 3):=ahZ (by have hf:=kr (n:=c.base) (.inr h1);exact ku (.inl hf))
     go_wp2
     go_ret
     exact ⟨aQ HE.out.symm,hw1.alloc (by omega) _⟩
    ·have vP : Hid (Pass c 1):=ahZ (by have hp:=HP.out;exact ⟨λ_=>vO h0 h1,λh=>absurd h (by omega),λh=>absurd h (by omega),λh=>absurd h (by omega),λh=>absurd h (by omega)⟩)
     clear HP
     go_wp2
     go_roundw
     case rel=>exact ⟨1,rfl,by omega,by omega,vP.out,hw1.alloc (by omega) _,by simp;omega,(((Below.refl wr.heap.size wr).alloc (Nat.le_refl _) _).cell (p:=⟨w.heap.size,4,none⟩) hw2).trans hw3,(((Below.refl wr.heap.size wr).alloc (Nat.le_refl _) _).cell (p:=⟨w.heap.size,5,none⟩) hw2).trans hw4⟩
     case measure=>simp [intOf]
  ·have HP:=ahZ hp
   clear hp
   by_cases h0 : c.least < 0
   ·have HE : Hid (fA c = 3):=ahZ (by have hf:=kr (m:=2305843009213693952) (.inl h0);exact ku (.inr (.inl hf)))
    go_wp2
    go_ret
    exact ⟨aQ HE.out.symm,hw1.alloc (by omega) _⟩
   ·by_cases h1 : 2305843009213693952 < c.least
    ·have HE : Hid (fA c = 3):=ahZ (by have hf:=kr (n:=c.least) (.inr h1);exact ku (.inr (.inl hf)))
     go_wp2
     go_ret
     exact ⟨aQ HE.out.symm,hw1.alloc (by omega) _⟩
    ·have vP : Hid (Pass c 2):=ahZ (by have hp:=HP.out;exact ⟨λ_=>hp.1 (by omega),λ_=>vO h0 h1,λh=>absurd h (by omega),λh=>absurd h (by omega),λh=>absurd h (by omega)⟩)
     clear HP
     go_wp2
     go_roundw
     case rel=>exact ⟨2,rfl,by omega,by omega,vP.out,hw1.alloc (by omega) _,by simp;omega,(((Below.refl wr.heap.size wr).alloc (Nat.le_refl _) _).cell (p:=⟨w.heap.size,4,none⟩) hw2).trans hw3,(((Below.refl wr.heap.size wr).alloc (Nat.le_refl _) _).cell (p:=⟨w.heap.size,5,none⟩) hw2).trans hw4⟩
     case measure=>simp [intOf]
  ·have HP:=ahZ hp
   clear hp
   by_cases h0 : c.most < 0
   ·have HE : Hid (fA c = 3):=ahZ (by have hf:=kr (m:=2305843009213693952) (.inl h0);exact ku (.inr (.inr (.inl hf))))
    go_wp2
    go_ret
    exact ⟨aQ HE.out.symm,hw1.alloc (by omega) _⟩
   ·by_cases h1 : 2305843009213693952 < c.most
    ·have HE : Hid (fA c = 3):=ahZ (by have hf:=kr (n:=c.most) (.inr h1);exact ku (.inr (.inr (.inl hf))))
     go_wp2
     go_ret
     exact ⟨aQ HE.out.symm,hw1.alloc (by omega) _⟩
    ·have vP : Hid (Pass c 3):=ahZ (by have hp:=HP.out;exact ⟨λ_=>hp.1 (by omega),λ_=>hp.2.1 (by omega),λ_=>vO h0 h1,λh=>absurd h (by omega),λh=>absurd h (by omega)⟩)
     clear HP
     go_wp2
     go_roundw
     case rel=>exact ⟨3,rfl,by omega,by omega,vP.out,hw1.alloc (by omega) _,by simp;omega,(((Below.refl wr.heap.size wr).alloc (Nat.le_refl _) _).cell (p:=⟨w.heap.size,4,none⟩) hw2).trans hw3,(((Below.refl wr.heap.size wr).alloc (Nat.le_refl _) _).cell (p:=⟨w.heap.size,5,none⟩) hw2).trans hw4⟩
     case measure=>simp [intOf]
  ·have HP:=ahZ hp
   clear hp
   by_cases h0 : c.aF < 0
   ·have HE : Hid (fA c = 3):=ahZ (by have hf:=kr (m:=2305843009213693952) (.inl h0);exact ku (.inr (.inr (.inr (.inl hf)))))
    go_wp2
    go_ret
    exact ⟨aQ HE.out.symm,hw1.alloc (by omega) _⟩
   ·by_cases h1 : 2305843009213693952 < c.aF
    ·have HE : Hid (fA c = 3):=ahZ (by have hf:=kr (n:=c.aF) (.inr h1);exact ku (.inr (.inr (.inr (.inl hf)))))
     go_wp2
     go_ret
     exact ⟨aQ HE.out.symm,hw1.alloc (by omega) _⟩
    ·have vP : Hid (Pass c 4):=ahZ (by have hp:=HP.out;exact ⟨λ_=>hp.1 (by omega),λ_=>hp.2.1 (by omega),λ_=>hp.2.2.1 (by omega),λ_=>vO h0 h1,λh=>absurd h (by omega)⟩)
     clear HP
     go_wp2
     go_roundw
     case rel=>exact ⟨4,rfl,by omega,by omega,vP.out,hw1.alloc (by omega) _,by simp;omega,(((Below.refl wr.heap.size wr).alloc (Nat.le_refl _) _).cell (p:=⟨w.heap.size,4,none⟩) hw2).trans hw3,(((Below.refl wr.heap.size wr).alloc (Nat.le_refl _) _).cell (p:=⟨w.heap.size,5,none⟩) hw2).trans hw4⟩
     case measure=>simp [intOf]
  ·have HP:=ahZ hp
   clear hp
   by_cases h0 : c.gain < 0
   ·have HE : Hid (fA c = 3):=ahZ (by have hf:=kr (m:=68719476736) (.inl h0);exact ku (.inr (.inr (.inr (.inr hf)))))
    go_wp2
    go_ret
    exact ⟨aQ HE.out.symm,hw1.alloc (by omega) _⟩
   ·by_cases h1 : 68719476736 < c.gain
    ·have HE : Hid (fA c = 3):=ahZ (by have hf:=kr (n:=c.gain) (.inr h1);exact ku (.inr (.inr (.inr (.inr hf)))))
     go_wp2
     go_ret
     exact ⟨aQ HE.out.symm,hw1.alloc (by omega) _⟩
    ·have vP : Hid (Pass c 5):=ahZ (by have hp:=HP.out;exact ⟨λ_=>hp.1 (by omega),λ_=>hp.2.1 (by omega),λ_=>hp.2.2.1 (by omega),λ_=>hp.2.2.2.1 (by omega),λ_=>vO h0 h1⟩)
     clear HP
     go_wp2
     go_roundw
     case rel=>exact ⟨5,rfl,by omega,by omega,vP.out,hw1.alloc (by omega) _,by simp;omega,(((Below.refl wr.heap.size wr).alloc (Nat.le_refl _) _).cell (p:=⟨w.heap.size,4,none⟩) hw2).trans hw3,(((Below.refl wr.heap.size wr).alloc (Nat.le_refl _) _).cell (p:=⟨w.heap.size,5,none⟩) hw2).trans hw4⟩
     case measure=>simp [intOf]
  ·have HE:=ahZ (Ut hp)
   clear hp
   by_cases hm : c.most < c.least
   ·go_wp2
    go_ret
    exact ⟨aQ (by rw [HE.out,if_pos hm]),hw1⟩
   ·go_wp2
    go_ret
    exact ⟨aQ (by rw [HE.out,if_neg (by omega)]),hw1⟩
theorem Oi {P : Program} {f : FuncId} {args : Array Value} {w : World} {n : Nat} {v : Value}
  (h : Calls P f args (w.drewN n) λe w'=>e = .returned v /\ w.drewN n = w') : Calls P f args (w.drewN n) λe w''=>e = .returned v /\ ∃ m,w'' = w.drewN m :=
 h.mono λ_ _ ⟨he,hm⟩=>⟨he,n,hm.symm⟩
def jN (c : aS) (j : Int) : Int:=rF (bM c.base (aT c.gain (max 0 j))) c.least c.most
def wY (c : aS) (j : Int) : Int:=if fA c = 0 then jN c j else 0
theorem XD {j : Int} (h : aA j) : aA (max 0 j):=by unfold aA at *;omega
theorem JJ (c : aS) (j : Int) (ok : c.Ok) (hj : aA j) (w : World) :
  Calls Tryz.prog 103 #[bE c,.int .i64 j] w λe w'=>e = .returned (.int .i64 (wY c j)) /\ Below w.heap.size w w':=by
 have hk:=zJ c
 have m:=rH c.gain (max 0 j) ok.gain (XD hj)
 have a:=vk c.base (aT c.gain (max 0 j)) ok.base (ng _ _)
 have cl:=Mq (bM c.base (aT c.gain (max 0 j))) c.least c.most
 have HT : Hid (jN c j = rF (bM c.base (aT c.gain (max 0 j))) c.least c.most):=ahZ rfl
 have HA : Hid (wY c j = if fA c = 0 then jN c j else 0):=ahZ rfl
 generalize rF (bM c.base (aT c.gain (max 0 j))) c.least c.most = t at *
 generalize bM c.base (aT c.gain (max 0 j)) = s at *
 generalize aT c.gain (max 0 j) = p at *
 unfold bE at hk ⊢
 by_cases h0 : fA c = 0
 ·have HA2 : Hid (wY c j = t):=ahZ (by rw [HA.out,if_pos h0,HT.out])
  rw [h0] at hk
  clear h0
  go_enter Tryz.func103,Tryz.ntmps103
  go_wp2_with fail
  refine (hk _).mono ?_;rintro e w1 ⟨rfl,hb1⟩
  obtain ⟨hc1,hf1⟩:=Wd hb1
  rw [World.size_alloc] at hb1 hc1 hf1
  go_wp2_with fail
  go_quiet (first | (go_at_call 29;exact Oi (m _)) | (go_at_call 28;exact Oi (a _)) | (go_at_call 140;exact Oi (cl _)))
  go_wp2
  go_ret
  exact ⟨aQ HA2.out.symm,below_drewN (((Below.refl _ _).alloc (Nat.le_refl _) _).trans (hb1.mono (by omega))) _⟩
 ·have HA2 : Hid (wY c j = 0):=ahZ (by rw [HA.out,if_neg h0])
  have h0' : (fA c != 0) = true:=by simpa using h0
  clear h0
  generalize fA c = k at *
  go_enter Tryz.func103,Tryz.ntmps103
  go_wp2_with fail
  refine (hk _).mono ?_;rintro e w1 ⟨rfl,hb1⟩
  rw [World.size_alloc] at hb1
  go_wp2
  go_ret
  exact ⟨aQ HA2.out.symm,((Below.refl _ _).alloc (Nat.le_refl _) _).trans (hb1.mono (by omega))⟩
end Go.Proofs.YtklkooeimkedgaaGreat
