/- Walk of TopBeyond. -/
import Derived.Below
import Derived.BigQuiet
import Derived.Deep.QuietTactic
import Derived.Laws.ResultCell
import Derived.WalkSmall
import Derived.Test.YtklkooeimkedgaaGreatB6
set_option linter.unusedVariables false
set_option linter.unusedSimpArgs false
namespace Go.Proofs.YtklkooeimkedgaaGreat
open Go.RowKit
theorem V3 {W w1 : World} (hb : Below W.heap.size W w1) : (∀ b o,b < W.heap.size -> w1.cell? ⟨b,o,none⟩ = W.cell? ⟨b,o,none⟩) /\ (∀ b o,b < W.heap.size -> w1.frozen? ⟨b,o,none⟩ = W.frozen? ⟨b,o,none⟩) :=
 ⟨λb o h=>hb.cell (p:=⟨b,o,none⟩) h,λb o h=>hb.frozen (p:=⟨b,o,none⟩) h⟩
structure aO where
 ring : Int
 window : Int
 base : Int
 gain : Int
 least : Int
 most : Int
 aD : Int
 num : Int
 den : Int
 extra : Int
 aC : Bool
structure aO.Ok (c : aO) : Prop where
 ring : ay c.ring
 window : ay c.window
 base : ay c.base
 gain : ay c.gain
 least : ay c.least
 most : ay c.most
 aD : ay c.aD
 num : ay c.num
 den : ay c.den
 extra : ay c.extra
def aZ (c : aO) : Value:=.agg #[.int .i64 c.ring,.int .i64 c.window,.int .i64 c.base,.int .i64 c.gain,.int .i64 c.least,.int .i64 c.most,.int .i64 c.aD,.int .i64 c.num,.int .i64 c.den,.int .i64 c.extra,.bool c.aC]
theorem Qa (c : aO) (w : World) :
 Calls Tryz.prog 138 #[aZ c] w λe w'=>e = .returned (.agg #[.int .i64 c.base,.int .i64 2305843009213693952,.int .i64 c.least,.int .i64 2305843009213693952,.int .i64 c.most,.int .i64 2305843009213693952,.int .i64 c.aD,.int .i64 2305843009213693952,.int .i64 c.gain,.int .i64 68719476736]) /\ Below w.heap.size w w':=by
 unfold aZ
 go_enter Tryz.func138,Tryz.ntmps138
 go_wp2
 exact bodyPost_ret (v:=.agg #[.int .i64 c.base,.int .i64 2305843009213693952,.int .i64 c.least,.int .i64 2305843009213693952,.int .i64 c.most,.int .i64 2305843009213693952,.int .i64 c.aD,.int .i64 2305843009213693952,.int .i64 c.gain,.int .i64 68719476736]) (by simp [results,Tryz.results138,go_sem]) rfl
  ⟨rfl,(aiT).alloc (by simp) _⟩
def pY (n m : Int) : Bool:=decide (0 <= n /\ n <= m)
def fq (c : aO) : Int :=
 if pY c.base 2305843009213693952 && pY c.least 2305843009213693952 && pY c.most 2305843009213693952 && pY c.aD 2305843009213693952 && pY c.gain 68719476736 then (if c.most < c.least then 10 else 0) else 3
def Pass (c : aO) (k : Int) : Prop :=
 (0 < k -> pY c.base 2305843009213693952 = true) /\ (1 < k -> pY c.least 2305843009213693952 = true) /\ (2 < k -> pY c.most 2305843009213693952 = true) /\ (3 < k -> pY c.aD 2305843009213693952 = true) /\ (4 < k -> pY c.gain 68719476736 = true)
theorem vP {n m : Int} (h : ¬ n < 0) (h2 : ¬ m < n) : pY n m = true:=decide_eq_true (by omega)
theorem kg {n m : Int} (h : n < 0 \/ m < n) : pY n m = false:=decide_eq_false (by omega)
theorem TV {c : aO} (h : Pass c 5) : fq c = if c.most < c.least then 10 else 0:=by
 obtain ⟨h0,h1,h2,h3,h4⟩:=h
 unfold fq
 rw [h0 (by omega),h1 (by omega),h2 (by omega),h3 (by omega),h4 (by omega)]
 rfl
theorem ko {c : aO} (h : pY c.base 2305843009213693952 = false \/ pY c.least 2305843009213693952 = false \/ pY c.most 2305843009213693952 = false \/ pY c.aD 2305843009213693952 = false \/ pY c.gain 68719476736 = false) : fq c = 3:=by
 unfold fq
 rcases h with h | h | h | h | h <;> rw [h] <;> simp
theorem ix0 (c : aO) (w : World) : (Instr.index 239 (.agg #[.int .i64 c.base,.int .i64 2305843009213693952,.int .i64 c.least,.int .i64 2305843009213693952,.int .i64 c.most,.int .i64 2305843009213693952,.int .i64 c.aD,.int .i64 2305843009213693952,.int .i64 c.gain,.int .i64 68719476736]) (.int .i64 0)).run Tryz.prog w = .ok (.agg #[.int .i64 c.base,.int .i64 2305843009213693952]) w:=by kernel_rfl
theorem ix1 (c : aO) (w : World) : (Instr.index 239 (.agg #[.int .i64 c.base,.int .i64 2305843009213693952,.int .i64 c.least,.int .i64 2305843009213693952,.int .i64 c.most,.int .i64 2305843009213693952,.int .i64 c.aD,.int .i64 2305843009213693952,.int .i64 c.gain,.int .i64 68719476736]) (.int .i64 1)).run Tryz.prog w = .ok (.agg #[.int .i64 c.least,.int .i64 2305843009213693952]) w:=by kernel_rfl
theorem ix2 (c : aO) (w : World) : (Instr.index 239 (.agg #[.int .i64 c.base,.int .i64 2305843009213693952,.int .i64 c.least,.int .i64 2305843009213693952,.int .i64 c.most,.int .i64 2305843009213693952,.int .i64 c.aD,.int .i64 2305843009213693952,.int .i64 c.gain,.int .i64 68719476736]) (.int .i64 2)).run Tryz.prog w = .ok (.agg #[.int .i64 c.most,.int .i64 2305843009213693952]) w:=by kernel_rfl
theorem ix3 (c : aO) (w : World) : (Instr.index 239 (.agg #[.int .i64 c.base,.int .i64 2305843009213693952,.int .i64 c.least,.int .i64 2305843009213693952,.int .i64 c.most,.int .i64 2305843009213693952,.int .i64 c.aD,.int .i64 2305843009213693952,.int .i64 c.gain,.int .i64 68719476736]) (.int .i64 3)).run Tryz.prog w = .ok (.agg #[.int .i64 c.aD,.int .i64 2305843009213693952]) w:=by kernel_rfl
theorem ix4 (c : aO) (w : World) : (Instr.index 239 (.agg #[.int .i64 c.base,.int .i64 2305843009213693952,.int .i64 c.least,.int .i64 2305843009213693952,.int .i64 c.most,.int .i64 2305843009213693952,.int .i64 c.aD,.int .i64 2305843009213693952,.int .i64 c.gain,.int .i64 68719476736]) (.int .i64 4)).run Tryz.prog w = .ok (.agg #[.int .i64 c.gain,.int .i64 68719476736]) w:=by kernel_rfl
set_option maxRecDepth 100000 in
theorem zD (c : aO) (w : World) :
 Calls Tryz.prog 100 #[aZ c] w λe w'=>e = .returned (.int .i64 (fq c)) /\ Below w.heap.size w w':=by
 have hn:=λw=>Qa c w
 have i0:=ix0 c;have i1:=ix1 c;have i2:=ix2 c;have i3:=ix3 c;have i4:=ix4 c
 unfold aZ at hn ⊢
 go_enter Tryz.func100,Tryz.ntmps100
 go_wp2_with fail
 refine (hn _).mono ?_;rintro e w1 ⟨rfl,hb1⟩
 go_wp2_with fail
 obtain ⟨hc1,hf1⟩:=V3 hb1
 rw [World.size_alloc] at hb1 hc1 hf1
 go_loopw [7] (λi wr=>∃ k : Int,i = .int .i64 k /\ 0 <= k /\ k <= 5 /\ Pass c k /\ Below w.heap.size w wr /\ w.heap.size < wr.heap.size /\ wr.cell? ⟨w.heap.size,4,none⟩ = some (.int .i64 c.least) /\ wr.cell? ⟨w.heap.size,5,none⟩ = some (.int .i64 c.most)) (λi _=>5 - (intOf i).toNat)
 case atStart =>
  refine ⟨0,rfl,by omega,by omega,⟨λh=>absurd h (by omega),λh=>absurd h (by omega),λh=>absurd h (by omega),λh=>absurd h (by omega),λh=>absurd h (by omega)⟩,?_,?_,?_,?_⟩
  ·exact (aiT).trans (hb1.mono (by omega))
  ·have:=hb1.size;simp at this;omega
  ·rw [hc1 _ _ (by omega)];simp
  ·rw [hc1 _ _ (by omega)];simp
 case round =>
  rename_i wr
  obtain ⟨k,rfl,hk0,hk5,hp,hw1,hw2,hw3,hw4⟩:=hrel
  clear hb1 hc1 hf1
  rcases (by omega : k = 0 \/ k = 1 \/ k = 2 \/ k = 3 \/ k = 4 \/ k = 5) with rfl | rfl | rfl | rfl | rfl | rfl
  ·have HP:=aiS hp
   clear hp
   by_cases h0 : c.base < 0
   ·have HE : Hid (fq c = 3):=aiS (by have hf:=kg (m:=2305843009213693952) (.inl h0);exact ko (.inl hf))
    go_wp2
    go_ret
    exact ⟨aR HE.out.symm,hw1.alloc (by omega) _⟩
   ·by_cases h1 : 2305843009213693952 < c.base
    ·have HE : Hid (fq c = 3):=aiS (by have hf:=kg (n:=c.base) (.inr h1);exact ko (.inl hf))
     go_wp2
     go_ret
     exact ⟨aR HE.out.symm,hw1.alloc (by omega) _⟩
    ·have yO : Hid (Pass c 1):=aiS (by have hp:=HP.out;exact ⟨λ_=>vP h0 h1,λh=>absurd h (by omega),λh=>absurd h (by omega),λh=>absurd h (by omega),λh=>absurd h (by omega)⟩)
     clear HP
     go_wp2
     go_roundw
     case rel=>exact ⟨1,rfl,by omega,by omega,yO.out,hw1.alloc (by omega) _,by simp;omega,(((Below.refl wr.heap.size wr).alloc (Nat.le_refl _) _).cell (p:=⟨w.heap.size,4,none⟩) hw2).trans hw3,(((Below.refl wr.heap.size wr).alloc (Nat.le_refl _) _).cell (p:=⟨w.heap.size,5,none⟩) hw2).trans hw4⟩
     case measure=>simp [intOf]
  ·have HP:=aiS hp
   clear hp
   by_cases h0 : c.least < 0
   ·have HE : Hid (fq c = 3):=aiS (by have hf:=kg (m:=2305843009213693952) (.inl h0);exact ko (.inr (.inl hf)))
    go_wp2
    go_ret
    exact ⟨aR HE.out.symm,hw1.alloc (by omega) _⟩
   ·by_cases h1 : 2305843009213693952 < c.least
    ·have HE : Hid (fq c = 3):=aiS (by have hf:=kg (n:=c.least) (.inr h1);exact ko (.inr (.inl hf)))
     go_wp2
     go_ret
     exact ⟨aR HE.out.symm,hw1.alloc (by omega) _⟩
    ·have yO : Hid (Pass c 2):=aiS (by have hp:=HP.out;exact ⟨λ_=>hp.1 (by omega),λ_=>vP h0 h1,λh=>absurd h (by omega),λh=>absurd h (by omega),λh=>absurd h (by omega)⟩)
     clear HP
     go_wp2
     go_roundw
     case rel=>exact ⟨2,rfl,by omega,by omega,yO.out,hw1.alloc (by omega) _,by simp;omega,(((Below.refl wr.heap.size wr).alloc (Nat.le_refl _) _).cell (p:=⟨w.heap.size,4,none⟩) hw2).trans hw3,(((Below.refl wr.heap.size wr).alloc (Nat.le_refl _) _).cell (p:=⟨w.heap.size,5,none⟩) hw2).trans hw4⟩
     case measure=>simp [intOf]
  ·have HP:=aiS hp
   clear hp
   by_cases h0 : c.most < 0
   ·have HE : Hid (fq c = 3):=aiS (by have hf:=kg (m:=2305843009213693952) (.inl h0);exact ko (.inr (.inr (.inl hf))))
    go_wp2
    go_ret
    exact ⟨aR HE.out.symm,hw1.alloc (by omega) _⟩
   ·by_cases h1 : 2305843009213693952 < c.most
    ·have HE : Hid (fq c = 3):=aiS (by have hf:=kg (n:=c.most) (.inr h1);exact ko (.inr (.inr (.inl hf))))
     go_wp2
     go_ret
     exact ⟨aR HE.out.symm,hw1.alloc (by omega) _⟩
    ·have yO : Hid (Pass c 3):=aiS (by have hp:=HP.out;exact ⟨λ_=>hp.1 (by omega),λ_=>hp.2.1 (by omega),λ_=>vP h0 h1,λh=>absurd h (by omega),λh=>absurd h (by omega)⟩)
     clear HP
     go_wp2
     go_roundw
     case rel=>exact ⟨3,rfl,by omega,by omega,yO.out,hw1.alloc (by omega) _,by simp;omega,(((Below.refl wr.heap.size wr).alloc (Nat.le_refl _) _).cell (p:=⟨w.heap.size,4,none⟩) hw2).trans hw3,(((Below.refl wr.heap.size wr).alloc (Nat.le_refl _) _).cell (p:=⟨w.heap.size,5,none⟩) hw2).trans hw4⟩
     case measure=>simp [intOf]
  ·have HP:=aiS hp
   clear hp
   by_cases h0 : c.aD < 0
   ·have HE : Hid (fq c = 3):=aiS (by have hf:=kg (m:=2305843009213693952) (.inl h0);exact ko (.inr (.inr (.inr (.inl hf)))))
    go_wp2
    go_ret
    exact ⟨aR HE.out.symm,hw1.alloc (by omega) _⟩
   ·by_cases h1 : 2305843009213693952 < c.aD
    ·have HE : Hid (fq c = 3):=aiS (by have hf:=kg (n:=c.aD) (.inr h1);exact ko (.inr (.inr (.inr (.inl hf)))))
     go_wp2
     go_ret
     exact ⟨aR HE.out.symm,hw1.alloc (by omega) _⟩
    ·have yO : Hid (Pass c 4):=aiS (by have hp:=HP.out;exact ⟨λ_=>hp.1 (by omega),λ_=>hp.2.1 (by omega),λ_=>hp.2.2.1 (by omega),λ_=>vP h0 h1,λh=>absurd h (by omega)⟩)
     clear HP
     go_wp2
     go_roundw
     case rel=>exact ⟨4,rfl,by omega,by omega,yO.out,hw1.alloc (by omega) _,by simp;omega,(((Below.refl wr.heap.size wr).alloc (Nat.le_refl _) _).cell (p:=⟨w.heap.size,4,none⟩) hw2).trans hw3,(((Below.refl wr.heap.size wr).alloc (Nat.le_refl _) _).cell (p:=⟨w.heap.size,5,none⟩) hw2).trans hw4⟩
     case measure=>simp [intOf]
  ·have HP:=aiS hp
   clear hp
   by_cases h0 : c.gain < 0
   ·have HE : Hid (fq c = 3):=aiS (by have hf:=kg (m:=68719476736) (.inl h0);exact ko (.inr (.inr (.inr (.inr hf)))))
    go_wp2
    go_ret
    exact ⟨aR HE.out.symm,hw1.alloc (by omega) _⟩
   ·by_cases h1 : 68719476736 < c.gain
    ·have HE : Hid (fq c = 3):=aiS (by have hf:=kg (n:=c.gain) (.inr h1);exact ko (.inr (.inr (.inr (.inr hf)))))
     go_wp2
     go_ret
     exact ⟨aR HE.out.symm,hw1.alloc (by omega) _⟩
    ·have yO : Hid (Pass c 5):=aiS (by have hp:=HP.out;exact ⟨λ_=>hp.1 (by omega),λ_=>hp.2.1 (by omega),λ_=>hp.2.2.1 (by omega),λ_=>hp.2.2.2.1 (by omega),λ_=>vP h0 h1⟩)
     clear HP
     go_wp2
     go_roundw
     case rel=>exact ⟨5,rfl,by omega,by omega,yO.out,hw1.alloc (by omega) _,by simp;omega,(((Below.refl wr.heap.size wr).alloc (Nat.le_refl _) _).cell (p:=⟨w.heap.size,4,none⟩) hw2).trans hw3,(((Below.refl wr.heap.size wr).alloc (Nat.le_refl _) _).cell (p:=⟨w.heap.size,5,none⟩) hw2).trans hw4⟩
     case measure=>simp [intOf]
  ·have HE:=aiS (TV hp)
   clear hp
   by_cases hm : c.most < c.least
   ·go_wp2
    go_ret
    exact ⟨aR (by rw [HE.out,if_pos hm]),hw1⟩
   ·go_wp2
    go_ret
    exact ⟨aR (by rw [HE.out,if_neg (by omega)]),hw1⟩
theorem Ny {P : Program} {f : FuncId} {args : Array Value} {w : World} {n : Nat} {v : Value}
 (h : Calls P f args (w.drewN n) λe w'=>e = .returned v /\ w.drewN n = w') : Calls P f args (w.drewN n) λe w''=>e = .returned v /\ ∃ m,w'' = w.drewN m :=
 h.mono λ_ _ ⟨he,hm⟩=>⟨he,n,hm.symm⟩
def jK (c : aO) (j : Int) : Int:=rH (aU c.base (aN c.gain (max 0 j))) c.least c.most
def wZ (c : aO) (j : Int) : Int:=if fq c = 0 then jK c j else 0
theorem Xr {j : Int} (h : ay j) : ay (max 0 j):=by unfold ay at *;omega
theorem Jm (c : aO) (j : Int) (ok : c.Ok) (hj : ay j) (w : World) :
 Calls Tryz.prog 103 #[aZ c,.int .i64 j] w λe w'=>e = .returned (.int .i64 (wZ c j)) /\ Below w.heap.size w w':=by
 have hk:=zD c;have m:=qH c.gain (max 0 j) ok.gain (Xr hj);have a:=tO c.base (aN c.gain (max 0 j)) ok.base (lQ _ _);have cl:=LQ (aU c.base (aN c.gain (max 0 j))) c.least c.most
 have HT : Hid (jK c j = rH (aU c.base (aN c.gain (max 0 j))) c.least c.most):=aiS rfl
 have HA : Hid (wZ c j = if fq c = 0 then jK c j else 0):=aiS rfl
 generalize rH (aU c.base (aN c.gain (max 0 j))) c.least c.most = t at *
 generalize aU c.base (aN c.gain (max 0 j)) = s at *
 generalize aN c.gain (max 0 j) = p at *
 unfold aZ at hk ⊢
 by_cases h0 : fq c = 0
 ·have HA2 : Hid (wZ c j = t):=aiS (by rw [HA.out,if_pos h0,HT.out])
  rw [h0] at hk
  clear h0
  go_enter Tryz.func103,Tryz.ntmps103
  go_wp2_with fail
  refine (hk _).mono ?_;rintro e w1 ⟨rfl,hb1⟩
  obtain ⟨hc1,hf1⟩:=V3 hb1
  rw [World.size_alloc] at hb1 hc1 hf1
  go_wp2_with fail
  go_quiet (first | (go_at_call 29;exact Ny (m _)) | (go_at_call 28;exact Ny (a _)) | (go_at_call 140;exact Ny (cl _)))
  go_wp2
  go_ret
  exact ⟨aR HA2.out.symm,below_drewN ((aiT).trans (hb1.mono (by omega))) _⟩
 ·have HA2 : Hid (wZ c j = 0):=aiS (by rw [HA.out,if_neg h0])
  have h0' : (fq c != 0) = true:=by simpa using h0
  clear h0
  generalize fq c = k at *
  go_enter Tryz.func103,Tryz.ntmps103
  go_wp2_with fail
  refine (hk _).mono ?_;rintro e w1 ⟨rfl,hb1⟩
  rw [World.size_alloc] at hb1
  go_wp2
  go_ret
  exact ⟨aR HA2.out.symm,(aiT).trans (hb1.mono (by omega))⟩
end Go.Proofs.YtklkooeimkedgaaGreat
