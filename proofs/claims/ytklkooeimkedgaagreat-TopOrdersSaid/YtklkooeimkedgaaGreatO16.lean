/- Parts of the walk of TopOrders: Clock2. -/
import Derived.Test.YtklkooeimkedgaaGreatO0
import Derived.Test.YtklkooeimkedgaaGreatO6
import Derived.Test.YtklkooeimkedgaaGreatO13
import Derived.Test.YtklkooeimkedgaaGreatO15
set_option linter.unusedVariables false
set_option linter.unusedSimpArgs false
namespace Go.Proofs.YtklkooeimkedgaaGreat
open Go.RowKit
def EL (c : aS) : Bool:=decide (1 <= c.ring /\ c.ring <= 64 /\ 1 <= c.window /\ c.window <= 64)
theorem qY {c : aS} : EL c = true ↔ (1 <= c.ring /\ c.ring <= 64 /\ 1 <= c.window /\ c.window <= 64):=by unfold EL;exact decide_eq_true_iff
def iU (c : aS) : Int:=if EL c = true then (if fA c ≠ 0 then fA c else if kX c.num c.den && qB c.extra 2305843009213693952 then 0 else 3) else 3
theorem vG {c : aS} (h : iU c = 0) : EL c = true /\ fA c = 0 /\ kX c.num c.den = true:=by
 unfold iU at h
 split at h
 ·rename_i hw
  split at h
  ·exact absurd h ‹_›
  ·rename_i hd
   split at h
   ·rename_i hr
    simp only [Bool.and_eq_true] at hr
    exact ⟨hw,by omega,hr.1⟩
   ·omega
 ·omega
theorem abC (c : aS) (hr : c.ring < 1) (w : World) :
  Calls Tryz.prog 64 #[bE c] w λe w'=>e = .returned (.int .i64 3) /\ Below w.heap.size w w':=by
 unfold bE
 go_enter Tryz.func64,Tryz.ntmps64
 go_wp2
 go_ret
 exact ⟨rfl,(Below.refl _ _).alloc (Nat.le_refl _) _⟩
theorem abD (c : aS) (hr : 1 <= c.ring /\ 64 < c.ring) (w : World) :
  Calls Tryz.prog 64 #[bE c] w λe w'=>e = .returned (.int .i64 3) /\ Below w.heap.size w w':=by
 obtain ⟨r1,r2⟩:=hr
 unfold bE
 go_enter Tryz.func64,Tryz.ntmps64
 go_wp2
 go_ret
 exact ⟨rfl,(Below.refl _ _).alloc (Nat.le_refl _) _⟩
theorem abE (c : aS) (hr : (1 <= c.ring /\ c.ring <= 64) /\ c.window < 1) (w : World) :
  Calls Tryz.prog 64 #[bE c] w λe w'=>e = .returned (.int .i64 3) /\ Below w.heap.size w w':=by
 obtain ⟨⟨r1,r2⟩,r3⟩:=hr
 unfold bE
 go_enter Tryz.func64,Tryz.ntmps64
 go_wp2
 go_ret
 exact ⟨rfl,(Below.refl _ _).alloc (Nat.le_refl _) _⟩
theorem abF (c : aS) (hr : (1 <= c.ring /\ c.ring <= 64) /\ 1 <= c.window /\ 64 < c.window) (w : World) :
  Calls Tryz.prog 64 #[bE c] w λe w'=>e = .returned (.int .i64 3) /\ Below w.heap.size w w':=by
 obtain ⟨⟨r1,r2⟩,r3,r4⟩:=hr
 unfold bE
 go_enter Tryz.func64,Tryz.ntmps64
 go_wp2
 go_ret
 exact ⟨rfl,(Below.refl _ _).alloc (Nat.le_refl _) _⟩
set_option maxRecDepth 100000 in
theorem JK (c : aS) (w : World) :
  Calls Tryz.prog 64 #[bE c] w λe w'=>e = .returned (.int .i64 (iU c)) /\ Below w.heap.size w w':=by
 by_cases hw : EL c = true
 ·have hk:=zJ c
  have HE : Hid (iU c = if fA c ≠ 0 then fA c else if kX c.num c.den && qB c.extra 2305843009213693952 then 0 else 3):=ahZ (by unfold iU;rw [if_pos hw])
  obtain ⟨r1,r2,r3,r4⟩:=qY.1 hw
  clear hw
  generalize iU c = res at *
  by_cases h0 : fA c = 0
  ·rw [h0] at hk HE
   clear h0
   by_cases hra : kX c.num c.den = true
   ·have rm:=JI 0 c.num c.den ⟨by omega,by omega⟩ hra
    by_cases hx : qB c.extra 2305843009213693952 = true
    ·have HE2 : Hid (res = 0):=ahZ (by rw [HE.out,hra,hx];rfl)
     obtain ⟨x1,x2⟩:=of_decide_eq_true hx
     clear hra hx
     unfold bE at hk ⊢
     go_enter Tryz.func64,Tryz.ntmps64
     go_wp2_with fail
     refine (hk _).mono ?_;rintro e w1 ⟨rfl,hb1⟩
     have CB:=ahZ ((ak.new w #[.int .i64 c.ring,.int .i64 c.window,.int .i64 c.base,.int .i64 c.gain,.int .i64 c.least,.int .i64 c.most,.int .i64 c.aF,.int .i64 c.num,.int .i64 c.den,.int .i64 c.extra,.bool c.aC] 29).below hb1 (by simp))
     obtain ⟨q0,q1,q2,q3,q4,q5,q6,q7,q8,q9,mP⟩:=gD CB.out
     have HB : Hid (Below w.heap.size w w1):=ahZ (((Below.refl _ _).alloc (Nat.le_refl _) _).trans (hb1.mono (by simp)))
     clear hb1
     go_wp2_with fail
     refine (rm _).mono ?_;rintro e w2 ⟨rfl,kd,rfl⟩
     go_wp2
     go_ret
     exact ⟨aQ HE2.out.symm,below_drewN HB.out _⟩
    ·have HE2 : Hid (res = 3):=ahZ (by rw [HE.out,hra];simp [hx])
     have hx2 : ¬ (0 <= c.extra /\ c.extra <= 2305843009213693952):=λh=>hx (decide_eq_true h)
     clear hra hx
     unfold bE at hk ⊢
     by_cases hn : c.extra < 0
     all_goals
      have hn2 : 0 <= c.extra -> 2305843009213693952 < c.extra:=λh=>by omega
      try have QC:=hn2 (by omega)
      clear hn2 hx2
      go_enter Tryz.func64,Tryz.ntmps64
      go_wp2_with fail
      refine (hk _).mono ?_;rintro e w1 ⟨rfl,hb1⟩
      have CB:=ahZ ((ak.new w #[.int .i64 c.ring,.int .i64 c.window,.int .i64 c.base,.int .i64 c.gain,.int .i64 c.least,.int .i64 c.most,.int .i64 c.aF,.int .i64 c.num,.int .i64 c.den,.int .i64 c.extra,.bool c.aC] 29).below hb1 (by simp))
      obtain ⟨q0,q1,q2,q3,q4,q5,q6,q7,q8,q9,mP⟩:=gD CB.out
      have HB : Hid (Below w.heap.size w w1):=ahZ (((Below.refl _ _).alloc (Nat.le_refl _) _).trans (hb1.mono (by simp)))
      clear hb1
      go_wp2_with fail
      refine (rm _).mono ?_;rintro e w2 ⟨rfl,kd,rfl⟩
      go_wp2
      go_ret
      exact ⟨aQ HE2.out.symm,below_drewN HB.out _⟩
   ·have hra : kX c.num c.den = false:=by simpa using hra
    have HE2 : Hid (res = 3):=ahZ (by rw [HE.out,hra];rfl)
    have rm:=Ur 0 c.num c.den hra
    clear hra
    unfold bE at hk ⊢
    go_enter Tryz.func64,Tryz.ntmps64
    go_wp2_with fail
    refine (hk _).mono ?_;rintro e w1 ⟨rfl,hb1⟩
    have CB:=ahZ ((ak.new w #[.int .i64 c.ring,.int .i64 c.window,.int .i64 c.base,.int .i64 c.gain,.int .i64 c.least,.int .i64 c.most,.int .i64 c.aF,.int .i64 c.num,.int .i64 c.den,.int .i64 c.extra,.bool c.aC] 29).below hb1 (by simp))
    obtain ⟨q0,q1,q2,q3,q4,q5,q6,q7,q8,q9,mP⟩:=gD CB.out
    have HB : Hid (Below w.heap.size w w1):=ahZ (((Below.refl _ _).alloc (Nat.le_refl _) _).trans (hb1.mono (by simp)))
    clear hb1
    go_wp2_with fail
    refine (rm _).mono ?_;rintro e w2 ⟨rfl,rfl⟩
    go_wp2
    go_ret
    exact ⟨aQ HE2.out.symm,HB.out⟩
  ·have HE2 : Hid (res = fA c):=ahZ (by rw [HE.out,if_pos h0])
   have h0' : (fA c != 0) = true:=by simpa using h0
   clear h0
   generalize fA c = k at *
   unfold bE at hk ⊢
   go_enter Tryz.func64,Tryz.ntmps64
   go_wp2_with fail
   refine (hk _).mono ?_;rintro e w1 ⟨rfl,hb1⟩
   have HB : Hid (Below w.heap.size w w1):=ahZ (((Below.refl _ _).alloc (Nat.le_refl _) _).trans (hb1.mono (by simp)))
   clear hb1
   go_wp2
   go_ret
   exact ⟨aQ HE2.out.symm,HB.out⟩
 ·have e : iU c = 3:=by unfold iU;rw [if_neg hw]
  rw [e]
  have hw2 : ¬ (1 <= c.ring /\ c.ring <= 64 /\ 1 <= c.window /\ c.window <= 64):=λh=>hw (qY.2 h)
  by_cases h1 : c.ring < 1
  ·exact abC c h1 w
  by_cases h2 : 64 < c.ring
  ·exact abD c (by omega) w
  by_cases h3 : c.window < 1
  ·exact abE c (by omega) w
  ·exact abF c (by omega) w
end Go.Proofs.YtklkooeimkedgaaGreat
