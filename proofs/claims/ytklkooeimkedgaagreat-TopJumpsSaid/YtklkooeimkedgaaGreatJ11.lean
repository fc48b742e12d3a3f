/- Parts of the walk of TopJumps: Delay. -/
import Derived.Below
import Derived.BigQuiet
import Derived.Deep.QuietTactic
import Derived.Laws.ResultCell
import Derived.WalkSmall
import Derived.Test.YtklkooeimkedgaaGreatJ2
import Derived.Test.YtklkooeimkedgaaGreatJ5
set_option linter.unusedVariables false
set_option linter.unusedSimpArgs false
namespace Go.Proofs.YtklkooeimkedgaaGreat
open Go.RowKit
theorem bcell {W w1 : World} (hb : Below W.heap.size W w1) : (∀ b o,b < W.heap.size → w1.cell? ⟨b,o,none⟩ = W.cell? ⟨b,o,none⟩) ∧ (∀ b o,b < W.heap.size → w1.frozen? ⟨b,o,none⟩ = W.frozen? ⟨b,o,none⟩) :=
 ⟨fun b o h=>hb.cell (p:=⟨b,o,none⟩) h,fun b o h=>hb.frozen (p:=⟨b,o,none⟩) h⟩
structure Cfg where
 ring : Int
 window : Int
 base : Int
 gain : Int
 least : Int
 most : Int
 slack : Int
 num : Int
 den : Int
 extra : Int
 curved : Bool
structure Cfg.Ok (c : Cfg) : Prop where
 ring : I64 c.ring
 window : I64 c.window
 base : I64 c.base
 gain : I64 c.gain
 least : I64 c.least
 most : I64 c.most
 slack : I64 c.slack
 num : I64 c.num
 den : I64 c.den
 extra : I64 c.extra
def cfgV (c : Cfg) : Value:=.agg #[.int .i64 c.ring,.int .i64 c.window,.int .i64 c.base,.int .i64 c.gain,.int .i64 c.least,.int .i64 c.most,.int .i64 c.slack,.int .i64 c.num,.int .i64 c.den,.int .i64 c.extra,.bool c.curved]
theorem numbers_f (c : Cfg) (w : World) :
  Calls Tryz.prog 138 #[cfgV c] w fun e w'=>e = .returned (.agg #[.int .i64 c.base,.int .i64 2305843009213693952,.int .i64 c.least,.int .i64 2305843009213693952,.int .i64 c.most,.int .i64 2305843009213693952,.int .i64 c.slack,.int .i64 2305843009213693952,.int .i64 c.gain,.int .i64 68719476736]) ∧ Below w.heap.size w w':=by
 unfold cfgV
 go_enter Tryz.func138,Tryz.ntmps138
 go_wp2
 exact bodyPost_ret (v:=.agg #[.int .i64 c.base,.int .i64 2305843009213693952,.int .i64 c.least,.int .i64 2305843009213693952,.int .i64 c.most,.int .i64 2305843009213693952,.int .i64 c.slack,.int .i64 2305843009213693952,.int .i64 c.gain,.int .i64 68719476736]) (by simp [results,Tryz.results138,go_sem]) rfl
  ⟨rfl,((Below.refl _ _).alloc (Nat.le_refl _) _).alloc (by simp) _⟩
def inB (n m : Int) : Bool:=decide (0 ≤ n ∧ n ≤ m)
def dchk (c : Cfg) : Int :=
 if inB c.base 2305843009213693952 && inB c.least 2305843009213693952 && inB c.most 2305843009213693952 && inB c.slack 2305843009213693952 && inB c.gain 68719476736 then (if c.most < c.least then 10 else 0) else 3
def Pass (c : Cfg) (k : Int) : Prop :=
 (0 < k → inB c.base 2305843009213693952 = true) ∧ (1 < k → inB c.least 2305843009213693952 = true) ∧ (2 < k → inB c.most 2305843009213693952 = true) ∧ (3 < k → inB c.slack 2305843009213693952 = true) ∧ (4 < k → inB c.gain 68719476736 = true)
theorem inB_true {n m : Int} (h : ¬ n < 0) (h2 : ¬ m < n) : inB n m = true:=decide_eq_true (by omega)
theorem inB_false {n m : Int} (h : n < 0 ∨ m < n) : inB n m = false:=decide_eq_false (by omega)
theorem dchk_all {c : Cfg} (h : Pass c 5) : dchk c = if c.most < c.least then 10 else 0:=by
 obtain ⟨h0,h1,h2,h3,h4⟩:=h
 unfold dchk
 rw [h0 (by omega),h1 (by omega),h2 (by omega),h3 (by omega),h4 (by omega)]
 rfl
theorem dchk_fail {c : Cfg} (h : inB c.base 2305843009213693952 = false ∨ inB c.least 2305843009213693952 = false ∨ inB c.most 2305843009213693952 = false ∨ inB c.slack 2305843009213693952 = false ∨ inB c.gain 68719476736 = false) : dchk c = 3:=by
 unfold dchk
 rcases h with h | h | h | h | h <;> rw [h] <;> simp
theorem ix0 (c : Cfg) (w : World) : (Instr.index 239 (.agg #[.int .i64 c.base,.int .i64 2305843009213693952,.int .i64 c.least,.int .i64 2305843009213693952,.int .i64 c.most,.int .i64 2305843009213693952,.int .i64 c.slack,.int .i64 2305843009213693952,.int .i64 c.gain,.int .i64 68719476736]) (.int .i64 0)).run Tryz.prog w = .ok (.agg #[.int .i64 c.base,.int .i64 2305843009213693952]) w:=by kernel_rfl
theorem ix1 (c : Cfg) (w : World) : (Instr.index 239 (.agg #[.int .i64 c.base,.int .i64 2305843009213693952,.int .i64 c.least,.int .i64 2305843009213693952,.int .i64 c.most,.int .i64 2305843009213693952,.int .i64 c.slack,.int .i64 2305843009213693952,.int .i64 c.gain,.int .i64 68719476736]) (.int .i64 1)).run Tryz.prog w = .ok (.agg #[.int .i64 c.least,.int .i64 2305843009213693952]) w:=by kernel_rfl
theorem ix2 (c : Cfg) (w : World) : (Instr.index 239 (.agg #[.int .i64 c.base,.int .i64 2305843009213693952,.int .i64 c.least,.int .i64 2305843009213693952,.int .i64 c.most,.int .i64 2305843009213693952,.int .i64 c.slack,.int .i64 2305843009213693952,.int .i64 c.gain,.int .i64 68719476736]) (.int .i64 2)).run Tryz.prog w = .ok (.agg #[.int .i64 c.most,.int .i64 2305843009213693952]) w:=by kernel_rfl
theorem ix3 (c : Cfg) (w : World) : (Instr.index 239 (.agg #[.int .i64 c.base,.int .i64 2305843009213693952,.int .i64 c.least,.int .i64 2305843009213693952,.int .i64 c.most,.int .i64 2305843009213693952,.int .i64 c.slack,.int .i64 2305843009213693952,.int .i64 c.gain,.int .i64 68719476736]) (.int .i64 3)).run Tryz.prog w = .ok (.agg #[.int .i64 c.slack,.int .i64 2305843009213693952]) w:=by kernel_rfl
theorem ix4 (c : Cfg) (w : World) : (Instr.index 239 (.agg #[.int .i64 c.base,.int .i64 2305843009213693952,.int .i64 c.least,.int .i64 2305843009213693952,.int .i64 c.most,.int .i64 2305843009213693952,.int .i64 c.slack,.int .i64 2305843009213693952,.int .i64 c.gain,.int .i64 68719476736]) (.int .i64 4)).run Tryz.prog w = .ok (.agg #[.int .i64 c.gain,.int .i64 68719476736]) w:=by kernel_rfl
set_option maxRecDepth 100000 in
theorem dcheck_f (c : Cfg) (w : World) :
  Calls Tryz.prog 100 #[cfgV c] w fun e w'=>e = .returned (.int .i64 (dchk c)) ∧ Below w.heap.size w w':=by
 have hn:=fun w=>numbers_f c w
 have i0:=ix0 c
 have i1:=ix1 c
 have i2:=ix2 c
 have i3:=ix3 c
 have i4:=ix4 c
 unfold cfgV at hn ⊢
 go_enter Tryz.func100,Tryz.ntmps100
 go_wp2_with fail
 refine (hn _).mono ?_;rintro e w1 ⟨rfl,hb1⟩
 go_wp2_with fail
 obtain ⟨hc1,hf1⟩:=bcell hb1
 rw [World.size_alloc] at hb1 hc1 hf1
 go_loopw [7] (fun i wr=>∃ k : Int,i = .int .i64 k ∧ 0 ≤ k ∧ k ≤ 5 ∧ Pass c k ∧ Below w.heap.size w wr ∧ w.heap.size < wr.heap.size ∧ wr.cell? ⟨w.heap.size,4,none⟩ = some (.int .i64 c.least) ∧ wr.cell? ⟨w.heap.size,5,none⟩ = some (.int .i64 c.most)) (fun i _=>5 - (intOf i).toNat)
 case atStart =>
  refine ⟨0,rfl,by omega,by omega,⟨fun h=>absurd h (by omega),fun h=>absurd h (by omega),fun h=>absurd h (by omega),fun h=>absurd h (by omega),fun h=>absurd h (by omega)⟩,?_,?_,?_,?_⟩
  ·exact ((Below.refl _ _).alloc (Nat.le_refl _) _).trans (hb1.mono (by omega))
  ·have:=hb1.size;simp at this;omega
  ·rw [hc1 _ _ (by omega)];simp
  ·rw [hc1 _ _ (by omega)];simp
 case round =>
  rename_i wr
  obtain ⟨k,rfl,hk0,hk5,hp,hw1,hw2,hw3,hw4⟩:=hrel
  clear hb1 hc1 hf1
  rcases (by omega : k = 0 ∨ k = 1 ∨ k = 2 ∨ k = 3 ∨ k = 4 ∨ k = 5) with rfl | rfl | rfl | rfl | rfl | rfl
  ·have HP:=Lib.hid hp
   clear hp
   by_cases h0 : c.base < 0
   ·have HE : Hid (dchk c = 3):=Lib.hid (by have hf:=inB_false (m:=2305843009213693952) (.inl h0);exact dchk_fail (.inl hf))
    go_wp2
    go_ret
    exact ⟨ret_int HE.out.symm,hw1.alloc (by omega) _⟩
   ·by_cases h1 : 2305843009213693952 < c.base
    ·have HE : Hid (dchk c = 3):=Lib.hid (by have hf:=inB_false (n:=c.base) (.inr h1);exact dchk_fail (.inl hf))
     go_wp2
     go_ret
     exact ⟨ret_int HE.out.symm,hw1.alloc (by omega) _⟩
    ·have HP2 : Hid (Pass c 1):=Lib.hid (by have hp:=HP.out;exact ⟨fun _=>inB_true h0 h1,fun h=>absurd h (by omega),fun h=>absurd h (by omega),fun h=>absurd h (by omega),fun h=>absurd h (by omega)⟩)
     clear HP
     go_wp2
     go_roundw
     case rel=>exact ⟨1,rfl,by omega,by omega,HP2.out,hw1.alloc (by omega) _,by simp;omega,(((Below.refl wr.heap.size wr).alloc (Nat.le_refl _) _).cell (p:=⟨w.heap.size,4,none⟩) hw2).trans hw3,(((Below.refl wr.heap.size wr).alloc (Nat.le_refl _) _).cell (p:=⟨w.heap.size,5,none⟩) hw2).trans hw4⟩
     case measure=>simp [intOf]
  ·have HP:=Lib.hid hp
   clear hp
   by_cases h0 : c.least < 0
   ·have HE : Hid (dchk c = 3):=Lib.hid (by have hf:=inB_false (m:=2305843009213693952) (.inl h0);exact dchk_fail (.inr (.inl hf)))
    go_wp2
    go_ret
    exact ⟨ret_int HE.out.symm,hw1.alloc (by omega) _⟩
   ·by_cases h1 : 2305843009213693952 < c.least
    ·have HE : Hid (dchk c = 3):=Lib.hid (by have hf:=inB_false (n:=c.least) (.inr h1);exact dchk_fail (.inr (.inl hf)))
     go_wp2
     go_ret
     exact ⟨ret_int HE.out.symm,hw1.alloc (by omega) _⟩
    ·have HP2 : Hid (Pass c 2):=Lib.hid (by have hp:=HP.out;exact ⟨fun _=>hp.1 (by omega),fun _=>inB_true h0 h1,fun h=>absurd h (by omega),fun h=>absurd h (by omega),fun h=>absurd h (by omega)⟩)
     clear HP
     go_wp2
     go_roundw
     case rel=>exact ⟨2,rfl,by omega,by omega,HP2.out,hw1.alloc (by omega) _,by simp;omega,(((Below.refl wr.heap.size wr).alloc (Nat.le_refl _) _).cell (p:=⟨w.heap.size,4,none⟩) hw2).trans hw3,(((Below.refl wr.heap.size wr).alloc (Nat.le_refl _) _).cell (p:=⟨w.heap.size,5,none⟩) hw2).trans hw4⟩
     case measure=>simp [intOf]
  ·have HP:=Lib.hid hp
   clear hp
   by_cases h0 : c.most < 0
   ·have HE : Hid (dchk c = 3):=Lib.hid (by have hf:=inB_false (m:=2305843009213693952) (.inl h0);exact dchk_fail (.inr (.inr (.inl hf))))
    go_wp2
    go_ret
    exact ⟨ret_int HE.out.symm,hw1.alloc (by omega) _⟩
   ·by_cases h1 : 2305843009213693952 < c.most
    ·have HE : Hid (dchk c = 3):=Lib.hid (by have hf:=inB_false (n:=c.most) (.inr h1);exact dchk_fail (.inr (.inr (.inl hf))))
     go_wp2
     go_ret
     exact ⟨ret_int HE.out.symm,hw1.alloc (by omega) _⟩
    ·have HP2 : Hid (Pass c 3):=Lib.hid (by have hp:=HP.out;exact ⟨fun _=>hp.1 (by omega),fun _=>hp.2.1 (by omega),fun _=>inB_true h0 h1,fun h=>absurd h (by omega),fun h=>absurd h (by omega)⟩)
     clear HP
     go_wp2
     go_roundw
     case rel=>exact ⟨3,rfl,by omega,by omega,HP2.out,hw1.alloc (by omega) _,by simp;omega,(((Below.refl wr.heap.size wr).alloc (Nat.le_refl _) _).cell (p:=⟨w.heap.size,4,none⟩) hw2).trans hw3,(((Below.refl wr.heap.size wr).alloc (Nat.le_refl _) _).cell (p:=⟨w.heap.size,5,none⟩) hw2).trans hw4⟩
     case measure=>simp [intOf]
  ·have HP:=Lib.hid hp
   clear hp
   by_cases h0 : c.slack < 0
   ·have HE : Hid (dchk c = 3):=Lib.hid (by have hf:=inB_false (m:=2305843009213693952) (.inl h0);exact dchk_fail (.inr (.inr (.inr (.inl hf)))))
    go_wp2
    go_ret
    exact ⟨ret_int HE.out.symm,hw1.alloc (by omega) _⟩
   ·by_cases h1 : 2305843009213693952 < c.slack
    ·have HE : Hid (dchk c = 3):=Lib.hid (by have hf:=inB_false (n:=c.slack) (.inr h1);exact dchk_fail (.inr (.inr (.inr (.inl hf)))))
     go_wp2
     go_ret
     exact ⟨ret_int HE.out.symm,hw1.alloc (by omega) _⟩
    ·have HP2 : Hid (Pass c 4):=Lib.hid (by have hp:=HP.out;exact ⟨fun _=>hp.1 (by omega),fun _=>hp.2.1 (by omega),fun _=>hp.2.2.1 (by omega),fun _=>inB_true h0 h1,fun h=>absurd h (by omega)⟩)
     clear HP
     go_wp2
     go_roundw
     case rel=>exact ⟨4,rfl,by omega,by omega,HP2.out,hw1.alloc (by omega) _,by simp;omega,(((Below.refl wr.heap.size wr).alloc (Nat.le_refl _) _).cell (p:=⟨w.heap.size,4,none⟩) hw2).trans hw3,(((Below.refl wr.heap.size wr).alloc (Nat.le_refl _) _).cell (p:=⟨w.heap.size,5,none⟩) hw2).trans hw4⟩
     case measure=>simp [intOf]
  ·have HP:=Lib.hid hp
   clear hp
   by_cases h0 : c.gain < 0
   ·have HE : Hid (dchk c = 3):=Lib.hid (by have hf:=inB_false (m:=68719476736) (.inl h0);exact dchk_fail (.inr (.inr (.inr (.inr hf)))))
    go_wp2
    go_ret
    exact ⟨ret_int HE.out.symm,hw1.alloc (by omega) _⟩
   ·by_cases h1 : 68719476736 < c.gain
    ·have HE : Hid (dchk c = 3):=Lib.hid (by have hf:=inB_false (n:=c.gain) (.inr h1);exact dchk_fail (.inr (.inr (.inr (.inr hf)))))
     go_wp2
     go_ret
     exact ⟨ret_int HE.out.symm,hw1.alloc (by omega) _⟩
    ·have HP2 : Hid (Pass c 5):=Lib.hid (by have hp:=HP.out;exact ⟨fun _=>hp.1 (by omega),fun _=>hp.2.1 (by omega),fun _=>hp.2.2.1 (by omega),fun _=>hp.2.2.2.1 (by omega),fun _=>inB_true h0 h1⟩)
     clear HP
     go_wp2
     go_roundw
     case rel=>exact ⟨5,rfl,by omega,by omega,HP2.out,hw1.alloc (by omega) _,by simp;omega,(((Below.refl wr.heap.size wr).alloc (Nat.le_refl _) _).cell (p:=⟨w.heap.size,4,none⟩) hw2).trans hw3,(((Below.refl wr.heap.size wr).alloc (Nat.le_refl _) _).cell (p:=⟨w.heap.size,5,none⟩) hw2).trans hw4⟩
     case measure=>simp [intOf]
  ·have HE:=Lib.hid (dchk_all hp)
   clear hp
   by_cases hm : c.most < c.least
   ·go_wp2
    go_ret
    exact ⟨ret_int (by rw [HE.out,if_pos hm]),hw1⟩
   ·go_wp2
    go_ret
    exact ⟨ret_int (by rw [HE.out,if_neg (by omega)]),hw1⟩
theorem qsame {P : Program} {f : FuncId} {args : Array Value} {w : World} {n : Nat} {v : Value}
  (h : Calls P f args (w.drewN n) fun e w'=>e = .returned v ∧ w.drewN n = w') : Calls P f args (w.drewN n) fun e w''=>e = .returned v ∧ ∃ m,w'' = w.drewN m :=
 h.mono fun _ _ ⟨he,hm⟩=>⟨he,n,hm.symm⟩
def targF (c : Cfg) (j : Int) : Int:=clampF (addF c.base (mulF c.gain (max 0 j))) c.least c.most
def targA (c : Cfg) (j : Int) : Int:=if dchk c = 0 then targF c j else 0
theorem i64_max {j : Int} (h : I64 j) : I64 (max 0 j):=by unfold I64 at *;omega
theorem target_f (c : Cfg) (j : Int) (ok : c.Ok) (hj : I64 j) (w : World) :
  Calls Tryz.prog 103 #[cfgV c,.int .i64 j] w fun e w'=>e = .returned (.int .i64 (targA c j)) ∧ Below w.heap.size w w':=by
 have hk:=dcheck_f c
 have m:=mul_f c.gain (max 0 j) ok.gain (i64_max hj)
 have a:=add_f c.base (mulF c.gain (max 0 j)) ok.base (mulF_i64 _ _)
 have cl:=clamp_f (addF c.base (mulF c.gain (max 0 j))) c.least c.most
 have HT : Hid (targF c j = clampF (addF c.base (mulF c.gain (max 0 j))) c.least c.most):=Lib.hid rfl
 have HA : Hid (targA c j = if dchk c = 0 then targF c j else 0):=Lib.hid rfl
 generalize clampF (addF c.base (mulF c.gain (max 0 j))) c.least c.most = t at *
 generalize addF c.base (mulF c.gain (max 0 j)) = s at *
 generalize mulF c.gain (max 0 j) = p at *
 unfold cfgV at hk ⊢
 by_cases h0 : dchk c = 0
 ·have HA2 : Hid (targA c j = t):=Lib.hid (by rw [HA.out,if_pos h0,HT.out])
  rw [h0] at hk
  clear h0
  go_enter Tryz.func103,Tryz.ntmps103
  go_wp2_with fail
  refine (hk _).mono ?_;rintro e w1 ⟨rfl,hb1⟩
  obtain ⟨hc1,hf1⟩:=bcell hb1
  rw [World.size_alloc] at hb1 hc1 hf1
  go_wp2_with fail
  go_quiet (first | (go_at_call 29;exact qsame (m _)) | (go_at_call 28;exact qsame (a _)) | (go_at_call 140;exact qsame (cl _)))
  go_wp2
  go_ret
  exact ⟨ret_int HA2.out.symm,below_drewN (((Below.refl _ _).alloc (Nat.le_refl _) _).trans (hb1.mono (by omega))) _⟩
 ·have HA2 : Hid (targA c j = 0):=Lib.hid (by rw [HA.out,if_neg h0])
  have h0' : (dchk c != 0) = true:=by simpa using h0
  clear h0
  generalize dchk c = k at *
  go_enter Tryz.func103,Tryz.ntmps103
  go_wp2_with fail
  refine (hk _).mono ?_;rintro e w1 ⟨rfl,hb1⟩
  rw [World.size_alloc] at hb1
  go_wp2
  go_ret
  exact ⟨ret_int HA2.out.symm,((Below.refl _ _).alloc (Nat.le_refl _) _).trans (hb1.mono (by omega))⟩
end Go.Proofs.YtklkooeimkedgaaGreat
