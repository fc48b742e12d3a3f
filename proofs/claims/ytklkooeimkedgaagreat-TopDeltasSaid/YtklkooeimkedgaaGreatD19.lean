/- Walk of TopDeltas. -/
import Derived.Below
import Derived.BigQuiet
import Derived.Deep.QuietTactic
import Derived.Laws.ResultCell
import Derived.WalkSmall
import Derived.Test.YtklkooeimkedgaaGreatD6
set_option linter.unusedVariables false
set_option linter.unusedSimpArgs false
namespace Go.Proofs.YtklkooeimkedgaaGreat
open Go.RowKit
theorem Xk {W w1 : World} (hb : Below W.heap.size W w1) : (∀ b o,b < W.heap.size -> w1.cell? ⟨b,o,none⟩ = W.cell? ⟨b,o,none⟩) /\ (∀ b o,b < W.heap.size -> w1.frozen? ⟨b,o,none⟩ = W.frozen? ⟨b,o,none⟩) :=
 ⟨λb o h=>hb.cell (p:=⟨b,o,none⟩) h,λb o h=>hb.frozen (p:=⟨b,o,none⟩) h⟩
structure aP where
 ring : Int
 window : Int
 base : Int
 gain : Int
 least : Int
 most : Int
 aD : Int
 num : Int
 den : Int
 extra : Int
 aC : Bool
structure aP.Ok (c : aP) : Prop where
 ring : aA c.ring
 window : aA c.window
 base : aA c.base
 gain : aA c.gain
 least : aA c.least
 most : aA c.most
 aD : aA c.aD
 num : aA c.num
 den : aA c.den
 extra : aA c.extra
def aT (c : aP) : Value:=.agg #[.int .i64 c.ring,.int .i64 c.window,.int .i64 c.base,.int .i64 c.gain,.int .i64 c.least,.int .i64 c.most,.int .i64 c.aD,.int .i64 c.num,.int .i64 c.den,.int .i64 c.extra,.bool c.aC]
theorem Rj (c : aP) (w : World) :
 Calls Tryz.prog 138 #[aT c] w λe w'=>e = .returned (.agg #[.int .i64 c.base,.int .i64 2305843009213693952,.int .i64 c.least,.int .i64 2305843009213693952,.int .i64 c.most,.int .i64 2305843009213693952,.int .i64 c.aD,.int .i64 2305843009213693952,.int .i64 c.gain,.int .i64 68719476736]) /\ Below w.heap.size w w':=by
 unfold aT
 go_enter Tryz.func138,Tryz.ntmps138
 go_wp2
 exact bodyPost_ret (v:=.agg #[.int .i64 c.base,.int .i64 2305843009213693952,.int .i64 c.least,.int .i64 2305843009213693952,.int .i64 c.most,.int .i64 2305843009213693952,.int .i64 c.aD,.int .i64 2305843009213693952,.int .i64 c.gain,.int .i64 68719476736]) (by simp [results,Tryz.results138,go_sem]) rfl
  ⟨rfl,(ajL).alloc (by simp) _⟩
def jF (n m : Int) : Bool:=decide (0 <= n /\ n <= m)
def cK (c : aP) : Int :=
 if jF c.base 2305843009213693952 && jF c.least 2305843009213693952 && jF c.most 2305843009213693952 && jF c.aD 2305843009213693952 && jF c.gain 68719476736 then (if c.most < c.least then 10 else 0) else 3
def Pass (c : aP) (k : Int) : Prop :=
 (0 < k -> jF c.base 2305843009213693952 = true) /\ (1 < k -> jF c.least 2305843009213693952 = true) /\ (2 < k -> jF c.most 2305843009213693952 = true) /\ (3 < k -> jF c.aD 2305843009213693952 = true) /\ (4 < k -> jF c.gain 68719476736 = true)
theorem tZ {n m : Int} (h : ¬ n < 0) (h2 : ¬ m < n) : jF n m = true:=decide_eq_true (by omega)
theorem jC {n m : Int} (h : n < 0 \/ m < n) : jF n m = false:=decide_eq_false (by omega)
theorem Vk {c : aP} (h : Pass c 5) : cK c = if c.most < c.least then 10 else 0:=by
 obtain ⟨h0,h1,h2,h3,h4⟩:=h
 unfold cK
 rw [h0 (by omega),h1 (by omega),h2 (by omega),h3 (by omega),h4 (by omega)]
 rfl
theorem kS {c : aP} (h : jF c.base 2305843009213693952 = false \/ jF c.least 2305843009213693952 = false \/ jF c.most 2305843009213693952 = false \/ jF c.aD 2305843009213693952 = false \/ jF c.gain 68719476736 = false) : cK c = 3:=by
 unfold cK
 rcases h with h | h | h | h | h <;> rw [h] <;> simp
theorem ix0 (c : aP) (w : World) : (Instr.index 239 (.agg #[.int .i64 c.base,.int .i64 2305843009213693952,.int .i64 c.least,.int .i64 2305843009213693952,.int .i64 c.most,.int .i64 2305843009213693952,.int .i64 c.aD,.int .i64 2305843009213693952,.int .i64 c.gain,.int .i64 68719476736]) (.int .i64 0)).run Tryz.prog w = .ok (.agg #[.int .i64 c.base,.int .i64 2305843009213693952]) w:=by kernel_rfl
theorem ix1 (c : aP) (w : World) : (Instr.index 239 (.agg #[.int .i64 c.base,.int .i64 2305843009213693952,.int .i64 c.least,.int .i64 2305843009213693952,.int .i64 c.most,.int .i64 2305843009213693952,.int .i64 c.aD,.int .i64 2305843009213693952,.int .i64 c.gain,.int .i64 68719476736]) (.int .i64 1)).run Tryz.prog w = .ok (.agg #[.int .i64 c.least,.int .i64 2305843009213693952]) w:=by kernel_rfl
theorem ix2 (c : aP) (w : World) : (Instr.index 239 (.agg #[.int .i64 c.base,.int .i64 2305843009213693952,.int .i64 c.least,.int .i64 2305843009213693952,.int .i64 c.most,.int .i64 2305843009213693952,.int .i64 c.aD,.int .i64 2305843009213693952,.int .i64 c.gain,.int .i64 68719476736]) (.int .i64 2)).run Tryz.prog w = .ok (.agg #[.int .i64 c.most,.int .i64 2305843009213693952]) w:=by kernel_rfl
theorem ix3 (c : aP) (w : World) : (Instr.index 239 (.agg #[.int .i64 c.base,.int .i64 2305843009213693952,.int .i64 c.least,.int .i64 2305843009213693952,.int .i64 c.most,.int .i64 2305843009213693952,.int .i64 c.aD,.int .i64 2305843009213693952,.int .i64 c.gain,.int .i64 68719476736]) (.int .i64 3)).run Tryz.prog w = .ok (.agg #[.int .i64 c.aD,.int .i64 2305843009213693952]) w:=by kernel_rfl
theorem ix4 (c : aP) (w : World) : (Instr.index 239 (.agg #[.int .i64 c.base,.int .i64 2305843009213693952,.int .i64 c.least,.int .i64 2305843009213693952,.int .i64 c.most,.int .i64 2305843009213693952,.int .i64 c.aD,.int .i64 2305843009213693952,.int .i64 c.gain,.int .i64 68719476736]) (.int .i64 4)).run Tryz.prog w = .ok (.agg #[.int .i64 c.gain,.int .i64 68719476736]) w:=by kernel_rfl
set_option maxRecDepth 100000 in
theorem zY (c : aP) (w : World) :
 Calls Tryz.prog 100 #[aT c] w λe w'=>e = .returned (.int .i64 (cK c)) /\ Below w.heap.size w w':=by
 have hn:=λw=>Rj c w
 have i0:=ix0 c;have i1:=ix1 c;have i2:=ix2 c;have i3:=ix3 c;have i4:=ix4 c
 unfold aT at hn ⊢
 go_enter Tryz.func100,Tryz.ntmps100
 go_wp2_with fail
 refine (hn _).mono ?_;rintro e w1 ⟨rfl,hb1⟩
 go_wp2_with fail
 obtain ⟨hc1,hf1⟩:=Xk hb1
 rw [World.size_alloc] at hb1 hc1 hf1
 go_loopw [7] (λi wr=>∃ k : Int,i = .int .i64 k /\ 0 <= k /\ k <= 5 /\ Pass c k /\ Below w.heap.size w wr /\ w.heap.size < wr.heap.size /\ wr.cell? ⟨w.heap.size,4,none⟩ = some (.int .i64 c.least) /\ wr.cell? ⟨w.heap.size,5,none⟩ = some (.int .i64 c.most)) (λi _=>5 - (intOf i).toNat)
 case atStart =>
  refine ⟨0,rfl,by omega,by omega,⟨λh=>absurd h (by omega),λh=>absurd h (by omega),λh=>absurd h (by omega),λh=>absurd h (by omega),λh=>absurd h (by omega)⟩,?_,?_,?_,?_⟩
  ·exact (ajL).trans (hb1.mono (by omega))
  ·have:=hb1.size;simp at this;omega
  ·rw [hc1 _ _ (by omega)];simp
  ·rw [hc1 _ _ (by omega)];simp
 case round =>
  rename_i wr
  obtain ⟨k,rfl,hk0,hk5,hp,hw1,hw2,hw3,hw4⟩:=hrel
  clear hb1 hc1 hf1
  rcases (by omega : k = 0 \/ k = 1 \/ k = 2 \/ k = 3 \/ k = 4 \/ k = 5) with rfl | rfl | rfl | rfl | rfl | rfl
  ·have HP:=ajK hp
   clear hp
   by_cases h0 : c.base < 0
   ·have HE : Hid (cK c = 3):=ajK (by have hf:=jC (m:=2305843009213693952) (.inl h0);exact kS (.inl hf))
    go_wp2
    go_ret
    exact ⟨aL HE.out.symm,hw1.alloc (by omega) _⟩
   ·by_cases h1 : 2305843009213693952 < c.base
    ·have HE : Hid (cK c = 3):=ajK (by have hf:=jC (n:=c.base) (.inr h1);exact kS (.inl hf))
     go_wp2
     go_ret
     exact ⟨aL HE.out.symm,hw1.alloc (by omega) _⟩
    ·have zu : Hid (Pass c 1):=ajK (by have hp:=HP.out;exact ⟨λ_=>tZ h0 h1,λh=>absurd h (by omega),λh=>absurd h (by omega),λh=>absurd h (by omega),λh=>absurd h (by omega)⟩)
     clear HP
     go_wp2
     go_roundw
     case rel=>exact ⟨1,rfl,by omega,by omega,zu.out,hw1.alloc (by omega) _,by simp;omega,(((Below.refl wr.heap.size wr).alloc (Nat.le_refl _) _).cell (p:=⟨w.heap.size,4,none⟩) hw2).trans hw3,(((Below.refl wr.heap.size wr).alloc (Nat.le_refl _) _).cell (p:=⟨w.heap.size,5,none⟩) hw2).trans hw4⟩
     case measure=>simp [intOf]
  ·have HP:=ajK hp
   clear hp
   by_cases h0 : c.least < 0
   ·have HE : Hid (cK c = 3):=ajK (by have hf:=jC (m:=2305843009213693952) (.inl h0);exact kS (.inr (.inl hf)))
    go_wp2
    go_ret
    exact ⟨aL HE.out.symm,hw1.alloc (by omega) _⟩
   ·by_cases h1 : 2305843009213693952 < c.least
    ·have HE : Hid (cK c = 3):=ajK (by have hf:=jC (n:=c.least) (.inr h1);exact kS (.inr (.inl hf)))
     go_wp2
     go_ret
     exact ⟨aL HE.out.symm,hw1.alloc (by omega) _⟩
    ·have zu : Hid (Pass c 2):=ajK (by have hp:=HP.out;exact ⟨λ_=>hp.1 (by omega),λ_=>tZ h0 h1,λh=>absurd h (by omega),λh=>absurd h (by omega),λh=>absurd h (by omega)⟩)
     clear HP
     go_wp2
     go_roundw
     case rel=>exact ⟨2,rfl,by omega,by omega,zu.out,hw1.alloc (by omega) _,by simp;omega,(((Below.refl wr.heap.size wr).alloc (Nat.le_refl _) _).cell (p:=⟨w.heap.size,4,none⟩) hw2).trans hw3,(((Below.refl wr.heap.size wr).alloc (Nat.le_refl _) _).cell (p:=⟨w.heap.size,5,none⟩) hw2).trans hw4⟩
     case measure=>simp [intOf]
  ·have HP:=ajK hp
   clear hp
   by_cases h0 : c.most < 0
   ·have HE : Hid (cK c = 3):=ajK (by have hf:=jC (m:=2305843009213693952) (.inl h0);exact kS (.inr (.inr (.inl hf))))
    go_wp2
    go_ret
    exact ⟨aL HE.out.symm,hw1.alloc (by omega) _⟩
   ·by_cases h1 : 2305843009213693952 < c.most
    ·have HE : Hid (cK c = 3):=ajK (by have hf:=jC (n:=c.most) (.inr h1);exact kS (.inr (.inr (.inl hf))))
     go_wp2
     go_ret
     exact ⟨aL HE.out.symm,hw1.alloc (by omega) _⟩
    ·have zu : Hid (Pass c 3):=ajK (by have hp:=HP.out;exact ⟨λ_=>hp.1 (by omega),λ_=>hp.2.1 (by omega),λ_=>tZ h0 h1,λh=>absurd h (by omega),λh=>absurd h (by omega)⟩)
     clear HP
     go_wp2
     go_roundw
     case rel=>exact ⟨3,rfl,by omega,by omega,zu.out,hw1.alloc (by omega) _,by simp;omega,(((Below.refl wr.heap.size wr).alloc (Nat.le_refl _) _).cell (p:=⟨w.heap.size,4,none⟩) hw2).trans hw3,(((Below.refl wr.heap.size wr).alloc (Nat.le_refl _) _).cell (p:=⟨w.heap.size,5,none⟩) hw2).trans hw4⟩
     case measure=>simp [intOf]
  ·have HP:=ajK hp
   clear hp
   by_cases h0 : c.aD < 0
   ·have HE : Hid (cK c = 3):=ajK (by have hf:=jC (m:=2305843009213693952) (.inl h0);exact kS (.inr (.inr (.inr (.inl hf)))))
    go_wp2
    go_ret
    exact ⟨aL HE.out.symm,hw1.alloc (by omega) _⟩
   ·by_cases h1 : 2305843009213693952 < c.aD
    ·have HE : Hid (cK c = 3):=ajK (by have hf:=jC (n:=c.aD) (.inr h1);exact kS (.inr (.inr (.inr (.inl hf)))))
     go_wp2
     go_ret
     exact ⟨aL HE.out.symm,hw1.alloc (by omega) _⟩
    ·have zu : Hid (Pass c 4):=ajK (by have hp:=HP.out;exact ⟨λ_=>hp.1 (by omega),λ_=>hp.2.1 (by omega),λ_=>hp.2.2.1 (by omega),λ_=>tZ h0 h1,λh=>absurd h (by omega)⟩)
     clear HP
     go_wp2
     go_roundw
     case rel=>exact ⟨4,rfl,by omega,by omega,zu.out,hw1.alloc (by omega) _,by simp;omega,(((Below.refl wr.heap.size wr).alloc (Nat.le_refl _) _).cell (p:=⟨w.heap.size,4,none⟩) hw2).trans hw3,(((Below.refl wr.heap.size wr).alloc (Nat.le_refl _) _).cell (p:=⟨w.heap.size,5,none⟩) hw2).trans hw4⟩
     case measure=>simp [intOf]
  ·have HP:=ajK hp
   clear hp
   by_cases h0 : c.gain < 0
   ·have HE : Hid (cK c = 3):=ajK (by have hf:=jC (m:=68719476736) (.inl h0);exact kS (.inr (.inr (.inr (.inr hf)))))
    go_wp2
    go_ret
    exact ⟨aL HE.out.symm,hw1.alloc (by omega) _⟩
   ·by_cases h1 : 68719476736 < c.gain
    ·have HE : Hid (cK c = 3):=ajK (by have hf:=jC (n:=c.gain) (.inr h1);exact kS (.inr (.inr (.inr (.inr hf)))))
     go_wp2
     go_ret
     exact ⟨aL HE.out.symm,hw1.alloc (by omega) _⟩
    ·have zu : Hid (Pass c 5):=ajK (by have hp:=HP.out;exact ⟨λ_=>hp.1 (by omega),λ_=>hp.2.1 (by omega),λ_=>hp.2.2.1 (by omega),λ_=>hp.2.2.2.1 (by omega),λ_=>tZ h0 h1⟩)
     clear HP
     go_wp2
     go_roundw
     case rel=>exact ⟨5,rfl,by omega,by omega,zu.out,hw1.alloc (by omega) _,by simp;omega,(((Below.refl wr.heap.size wr).alloc (Nat.le_refl _) _).cell (p:=⟨w.heap.size,4,none⟩) hw2).trans hw3,(((Below.refl wr.heap.size wr).alloc (Nat.le_refl _) _).cell (p:=⟨w.heap.size,5,none⟩) hw2).trans hw4⟩
     case measure=>simp [intOf]
  ·have HE:=ajK (Vk hp)
   clear hp
   by_cases hm : c.most < c.least
   ·go_wp2
    go_ret
    exact ⟨aL (by rw [HE.out,if_pos hm]),hw1⟩
   ·go_wp2
    go_ret
    exact ⟨aL (by rw [HE.out,if_neg (by omega)]),hw1⟩
theorem O6 {P : Program} {f : FuncId} {args : Array Value} {w : World} {n : Nat} {v : Value}
 (h : Calls P f args (w.drewN n) λe w'=>e = .returned v /\ w.drewN n = w') : Calls P f args (w.drewN n) λe w''=>e = .returned v /\ ∃ m,w'' = w.drewN m :=
 h.mono λ_ _ ⟨he,hm⟩=>⟨he,n,hm.symm⟩
def j4 (c : aP) (j : Int) : Int:=sw (bJ c.base (aR c.gain (max 0 j))) c.least c.most
def xU (c : aP) (j : Int) : Int:=if cK c = 0 then j4 c j else 0
theorem Yz {j : Int} (h : aA j) : aA (max 0 j):=by unfold aA at *;omega
theorem Ki (c : aP) (j : Int) (ok : c.Ok) (hj : aA j) (w : World) :
 Calls Tryz.prog 103 #[aT c,.int .i64 j] w λe w'=>e = .returned (.int .i64 (xU c j)) /\ Below w.heap.size w w':=by
 have hk:=zY c;have m:=sF c.gain (max 0 j) ok.gain (Yz hj);have a:=vX c.base (aR c.gain (max 0 j)) ok.base (nG _ _);have cl:=Nj (bJ c.base (aR c.gain (max 0 j))) c.least c.most
 have HT : Hid (j4 c j = sw (bJ c.base (aR c.gain (max 0 j))) c.least c.most):=ajK rfl
 have HA : Hid (xU c j = if cK c = 0 then j4 c j else 0):=ajK rfl
 generalize sw (bJ c.base (aR c.gain (max 0 j))) c.least c.most = t at *
 generalize bJ c.base (aR c.gain (max 0 j)) = s at *
 generalize aR c.gain (max 0 j) = p at *
 unfold aT at hk ⊢
 by_cases h0 : cK c = 0
 ·have HA2 : Hid (xU c j = t):=ajK (by rw [HA.out,if_pos h0,HT.out])
  rw [h0] at hk
  clear h0
  go_enter Tryz.func103,Tryz.ntmps103
  go_wp2_with fail
  refine (hk _).mono ?_;rintro e w1 ⟨rfl,hb1⟩
  obtain ⟨hc1,hf1⟩:=Xk hb1
  rw [World.size_alloc] at hb1 hc1 hf1
  go_wp2_with fail
  go_quiet (first | (go_at_call 29;exact O6 (m _)) | (go_at_call 28;exact O6 (a _)) | (go_at_call 140;exact O6 (cl _)))
  go_wp2
  go_ret
  exact ⟨aL HA2.out.symm,below_drewN ((ajL).trans (hb1.mono (by omega))) _⟩
 ·have HA2 : Hid (xU c j = 0):=ajK (by rw [HA.out,if_neg h0])
  have h0' : (cK c != 0) = true:=by simpa using h0
  clear h0
  generalize cK c = k at *
  go_enter Tryz.func103,Tryz.ntmps103
  go_wp2_with fail
  refine (hk _).mono ?_;rintro e w1 ⟨rfl,hb1⟩
  rw [World.size_alloc] at hb1
  go_wp2
  go_ret
  exact ⟨aL HA2.out.symm,(ajL).trans (hb1.mono (by omega))⟩
end Go.Proofs.YtklkooeimkedgaaGreat
