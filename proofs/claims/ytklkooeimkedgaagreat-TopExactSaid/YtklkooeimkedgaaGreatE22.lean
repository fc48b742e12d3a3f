/- Walk of TopExact. -/
import Derived.Test.YtklkooeimkedgaaGreatE19
import Derived.Test.YtklkooeimkedgaaGreatE21
set_option linter.unusedVariables false
set_option linter.unusedSimpArgs false
namespace Go.Proofs.YtklkooeimkedgaaGreat
open Go.RowKit
def Eu (c : aN) : Bool:=decide (1 <= c.ring /\ c.ring <= 64 /\ 1 <= c.window /\ c.window <= 64)
theorem qX {c : aN} : Eu c = true ↔ (1 <= c.ring /\ c.ring <= 64 /\ 1 <= c.window /\ c.window <= 64):=by unfold Eu;exact decide_eq_true_iff
def dF (c : aN) : Int:=if Eu c = true then (if eZ c ≠ 0 then eZ c else if lu c.num c.den && pW c.extra 2305843009213693952 then 0 else 3) else 3
theorem vE {c : aN} (h : dF c = 0) : Eu c = true /\ eZ c = 0 /\ lu c.num c.den = true:=by
 unfold dF at h
 split at h
 ·rename_i hw
  split at h
  ·exact absurd h ‹_›
  ·rename_i hd
   split at h
   ·rename_i hr
    simp only [Bool.and_eq_true] at hr
    exact ⟨hw,by omega,hr.1⟩
   ·omega
 ·omega
theorem aaW (c : aN) (hr : c.ring < 1) (w : World) :
 Calls Tryz.prog 64 #[aY c] w λe w'=>e = .returned (.int .i64 3) /\ Below w.heap.size w w':=by
 unfold aY
 go_enter Tryz.func64,Tryz.ntmps64
 go_wp2
 go_ret
 exact ⟨rfl,ah7⟩
theorem aaX (c : aN) (hr : 1 <= c.ring /\ 64 < c.ring) (w : World) :
 Calls Tryz.prog 64 #[aY c] w λe w'=>e = .returned (.int .i64 3) /\ Below w.heap.size w w':=by
 obtain ⟨r1,r2⟩:=hr
 unfold aY
 go_enter Tryz.func64,Tryz.ntmps64
 go_wp2
 go_ret
 exact ⟨rfl,ah7⟩
theorem aaY (c : aN) (hr : (1 <= c.ring /\ c.ring <= 64) /\ c.window < 1) (w : World) :
 Calls Tryz.prog 64 #[aY c] w λe w'=>e = .returned (.int .i64 3) /\ Below w.heap.size w w':=by
 obtain ⟨⟨r1,r2⟩,r3⟩:=hr
 unfold aY
 go_enter Tryz.func64,Tryz.ntmps64
 go_wp2
 go_ret
 exact ⟨rfl,ah7⟩
theorem aaZ (c : aN) (hr : (1 <= c.ring /\ c.ring <= 64) /\ 1 <= c.window /\ 64 < c.window) (w : World) :
 Calls Tryz.prog 64 #[aY c] w λe w'=>e = .returned (.int .i64 3) /\ Below w.heap.size w w':=by
 obtain ⟨⟨r1,r2⟩,r3,r4⟩:=hr
 unfold aY
 go_enter Tryz.func64,Tryz.ntmps64
 go_wp2
 go_ret
 exact ⟨rfl,ah7⟩
set_option maxRecDepth 100000 in
theorem DK (c : aN) (w : World) :
 Calls Tryz.prog 64 #[aY c] w λe w'=>e = .returned (.int .i64 (dF c)) /\ Below w.heap.size w w':=by
 by_cases hw : Eu c = true
 ·have hk:=zC c
  have HE : Hid (dF c = if eZ c ≠ 0 then eZ c else if lu c.num c.den && pW c.extra 2305843009213693952 then 0 else 3):=ah6 (by unfold dF;rw [if_pos hw])
  obtain ⟨r1,r2,r3,r4⟩:=qX.1 hw
  clear hw
  generalize dF c = res at *
  by_cases h0 : eZ c = 0
  ·rw [h0] at hk HE
   clear h0
   by_cases hra : lu c.num c.den = true
   ·have rm:=Jh 0 c.num c.den ⟨by omega,by omega⟩ hra
    by_cases hx : pW c.extra 2305843009213693952 = true
    ·have HE2 : Hid (res = 0):=ah6 (by rw [HE.out,hra,hx];rfl)
     obtain ⟨x1,x2⟩:=of_decide_eq_true hx
     clear hra hx
     unfold aY at hk ⊢
     go_enter Tryz.func64,Tryz.ntmps64
     go_wp2_with fail
     refine (hk _).mono ?_;rintro e w1 ⟨rfl,hb1⟩
     have CB:=ah6 ((ak.new w #[.int .i64 c.ring,.int .i64 c.window,.int .i64 c.base,.int .i64 c.gain,.int .i64 c.least,.int .i64 c.most,.int .i64 c.aC,.int .i64 c.num,.int .i64 c.den,.int .i64 c.extra,.bool c.aB] 29).below hb1 (by simp))
     obtain ⟨q0,q1,q2,q3,q4,q5,q6,q7,q8,q9,ku⟩:=eH CB.out
     have HB : Hid (Below w.heap.size w w1):=ah6 ((ah7).trans (hb1.mono (by simp)))
     clear hb1
     go_wp2_with fail
     refine (rm _).mono ?_;rintro e w2 ⟨rfl,kd,rfl⟩
     go_wp2
     go_ret
     exact ⟨aP HE2.out.symm,below_drewN HB.out _⟩
    ·have HE2 : Hid (res = 3):=ah6 (by rw [HE.out,hra];simp [hx])
     have hx2 : ¬ (0 <= c.extra /\ c.extra <= 2305843009213693952):=λh=>hx (decide_eq_true h)
     clear hra hx
     unfold aY at hk ⊢
     by_cases hn : c.extra < 0
     all_goals
      have hn2 : 0 <= c.extra -> 2305843009213693952 < c.extra:=λh=>by omega
      try have Py:=hn2 (by omega)
      clear hn2 hx2
      go_enter Tryz.func64,Tryz.ntmps64
      go_wp2_with fail
      refine (hk _).mono ?_;rintro e w1 ⟨rfl,hb1⟩
      have CB:=ah6 ((ak.new w #[.int .i64 c.ring,.int .i64 c.window,.int .i64 c.base,.int .i64 c.gain,.int .i64 c.least,.int .i64 c.most,.int .i64 c.aC,.int .i64 c.num,.int .i64 c.den,.int .i64 c.extra,.bool c.aB] 29).below hb1 (by simp))
      obtain ⟨q0,q1,q2,q3,q4,q5,q6,q7,q8,q9,ku⟩:=eH CB.out
      have HB : Hid (Below w.heap.size w w1):=ah6 ((ah7).trans (hb1.mono (by simp)))
      clear hb1
      go_wp2_with fail
      refine (rm _).mono ?_;rintro e w2 ⟨rfl,kd,rfl⟩
      go_wp2
      go_ret
      exact ⟨aP HE2.out.symm,below_drewN HB.out _⟩
   ·have hra : lu c.num c.den = false:=by simpa using hra
    have HE2 : Hid (res = 3):=ah6 (by rw [HE.out,hra];rfl)
    have rm:=Tt 0 c.num c.den hra;clear hra
    unfold aY at hk ⊢
    go_enter Tryz.func64,Tryz.ntmps64
    go_wp2_with fail
    refine (hk _).mono ?_;rintro e w1 ⟨rfl,hb1⟩
    have CB:=ah6 ((ak.new w #[.int .i64 c.ring,.int .i64 c.window,.int .i64 c.base,.int .i64 c.gain,.int .i64 c.least,.int .i64 c.most,.int .i64 c.aC,.int .i64 c.num,.int .i64 c.den,.int .i64 c.extra,.bool c.aB] 29).below hb1 (by simp))
    obtain ⟨q0,q1,q2,q3,q4,q5,q6,q7,q8,q9,ku⟩:=eH CB.out
    have HB : Hid (Below w.heap.size w w1):=ah6 ((ah7).trans (hb1.mono (by simp)))
    clear hb1
    go_wp2_with fail
    refine (rm _).mono ?_;rintro e w2 ⟨rfl,rfl⟩
    go_wp2
    go_ret
    exact ⟨aP HE2.out.symm,HB.out⟩
  ·have HE2 : Hid (res = eZ c):=ah6 (by rw [HE.out,if_pos h0])
   have h0' : (eZ c != 0) = true:=by simpa using h0
   clear h0
   generalize eZ c = k at *
   unfold aY at hk ⊢
   go_enter Tryz.func64,Tryz.ntmps64
   go_wp2_with fail
   refine (hk _).mono ?_;rintro e w1 ⟨rfl,hb1⟩
   have HB : Hid (Below w.heap.size w w1):=ah6 ((ah7).trans (hb1.mono (by simp)))
   clear hb1
   go_wp2
   go_ret
   exact ⟨aP HE2.out.symm,HB.out⟩
 ·have e : dF c = 3:=by unfold dF;rw [if_neg hw]
  rw [e]
  have hw2 : ¬ (1 <= c.ring /\ c.ring <= 64 /\ 1 <= c.window /\ c.window <= 64):=λh=>hw (qX.2 h)
  by_cases h1 : c.ring < 1
  ·exact aaW c h1 w
  by_cases h2 : 64 < c.ring
  ·exact aaX c (by omega) w
  by_cases h3 : c.window < 1
  ·exact aaY c (by omega) w
  ·exact aaZ c (by omega) w
end Go.Proofs.YtklkooeimkedgaaGreat
