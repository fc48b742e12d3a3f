/- Walk of TopBeyond. -/
import Derived.Test.YtklkooeimkedgaaGreatB22
import Derived.Test.YtklkooeimkedgaaGreatB24
set_option linter.unusedVariables false
set_option linter.unusedSimpArgs false
namespace Go.Proofs.YtklkooeimkedgaaGreat
open Go.RowKit
def EB (c : aO) : Bool:=decide (1 <= c.ring /\ c.ring <= 64 /\ 1 <= c.window /\ c.window <= 64)
theorem rz {c : aO} : EB c = true ↔ (1 <= c.ring /\ c.ring <= 64 /\ 1 <= c.window /\ c.window <= 64):=by unfold EB;exact decide_eq_true_iff
def dB (c : aO) : Int:=if EB c = true then (if fq c ≠ 0 then fq c else if lg c.num c.den && pY c.extra 2305843009213693952 then 0 else 3) else 3
theorem vH {c : aO} (h : dB c = 0) : EB c = true /\ fq c = 0 /\ lg c.num c.den = true:=by
 unfold dB at h
 split at h
 ·rename_i hw
  split at h
  ·exact absurd h ‹_›
  ·rename_i hd
   split at h
   ·rename_i hr
    simp only [Bool.and_eq_true] at hr
    exact ⟨hw,by omega,hr.1⟩
   ·omega
 ·omega
theorem abG (c : aO) (hr : c.ring < 1) (w : World) :
 Calls Tryz.prog 64 #[aZ c] w λe w'=>e = .returned (.int .i64 3) /\ Below w.heap.size w w':=by
 unfold aZ
 go_enter Tryz.func64,Tryz.ntmps64
 go_wp2
 go_ret
 exact ⟨rfl,aiT⟩
theorem abH (c : aO) (hr : 1 <= c.ring /\ 64 < c.ring) (w : World) :
 Calls Tryz.prog 64 #[aZ c] w λe w'=>e = .returned (.int .i64 3) /\ Below w.heap.size w w':=by
 obtain ⟨r1,r2⟩:=hr
 unfold aZ
 go_enter Tryz.func64,Tryz.ntmps64
 go_wp2
 go_ret
 exact ⟨rfl,aiT⟩
theorem abI (c : aO) (hr : (1 <= c.ring /\ c.ring <= 64) /\ c.window < 1) (w : World) :
 Calls Tryz.prog 64 #[aZ c] w λe w'=>e = .returned (.int .i64 3) /\ Below w.heap.size w w':=by
 obtain ⟨⟨r1,r2⟩,r3⟩:=hr
 unfold aZ
 go_enter Tryz.func64,Tryz.ntmps64
 go_wp2
 go_ret
 exact ⟨rfl,aiT⟩
theorem abJ (c : aO) (hr : (1 <= c.ring /\ c.ring <= 64) /\ 1 <= c.window /\ 64 < c.window) (w : World) :
 Calls Tryz.prog 64 #[aZ c] w λe w'=>e = .returned (.int .i64 3) /\ Below w.heap.size w w':=by
 obtain ⟨⟨r1,r2⟩,r3,r4⟩:=hr
 unfold aZ
 go_enter Tryz.func64,Tryz.ntmps64
 go_wp2
 go_ret
 exact ⟨rfl,aiT⟩
set_option maxRecDepth 100000 in
theorem DV (c : aO) (w : World) :
 Calls Tryz.prog 64 #[aZ c] w λe w'=>e = .returned (.int .i64 (dB c)) /\ Below w.heap.size w w':=by
 by_cases hw : EB c = true
 ·have hk:=zD c
  have HE : Hid (dB c = if fq c ≠ 0 then fq c else if lg c.num c.den && pY c.extra 2305843009213693952 then 0 else 3):=aiS (by unfold dB;rw [if_pos hw])
  obtain ⟨r1,r2,r3,r4⟩:=rz.1 hw
  clear hw
  generalize dB c = res at *
  by_cases h0 : fq c = 0
  ·rw [h0] at hk HE
   clear h0
   by_cases hra : lg c.num c.den = true
   ·have rm:=Jl 0 c.num c.den ⟨by omega,by omega⟩ hra
    by_cases hx : pY c.extra 2305843009213693952 = true
    ·have HE2 : Hid (res = 0):=aiS (by rw [HE.out,hra,hx];rfl)
     obtain ⟨x1,x2⟩:=of_decide_eq_true hx
     clear hra hx
     unfold aZ at hk ⊢
     go_enter Tryz.func64,Tryz.ntmps64
     go_wp2_with fail
     refine (hk _).mono ?_;rintro e w1 ⟨rfl,hb1⟩
     have CB:=aiS ((ak.new w #[.int .i64 c.ring,.int .i64 c.window,.int .i64 c.base,.int .i64 c.gain,.int .i64 c.least,.int .i64 c.most,.int .i64 c.aD,.int .i64 c.num,.int .i64 c.den,.int .i64 c.extra,.bool c.aC] 29).below hb1 (by simp))
     obtain ⟨q0,q1,q2,q3,q4,q5,q6,q7,q8,q9,kr⟩:=eu CB.out
     have HB : Hid (Below w.heap.size w w1):=aiS ((aiT).trans (hb1.mono (by simp)))
     clear hb1
     go_wp2_with fail
     refine (rm _).mono ?_;rintro e w2 ⟨rfl,kd,rfl⟩
     go_wp2
     go_ret
     exact ⟨aR HE2.out.symm,below_drewN HB.out _⟩
    ·have HE2 : Hid (res = 3):=aiS (by rw [HE.out,hra];simp [hx])
     have hx2 : ¬ (0 <= c.extra /\ c.extra <= 2305843009213693952):=λh=>hx (decide_eq_true h)
     clear hra hx
     unfold aZ at hk ⊢
     by_cases hn : c.extra < 0
     all_goals
      have hn2 : 0 <= c.extra -> 2305843009213693952 < c.extra:=λh=>by omega
      try have zY:=hn2 (by omega)
      clear hn2 hx2
      go_enter Tryz.func64,Tryz.ntmps64
      go_wp2_with fail
      refine (hk _).mono ?_;rintro e w1 ⟨rfl,hb1⟩
      have CB:=aiS ((ak.new w #[.int .i64 c.ring,.int .i64 c.window,.int .i64 c.base,.int .i64 c.gain,.int .i64 c.least,.int .i64 c.most,.int .i64 c.aD,.int .i64 c.num,.int .i64 c.den,.int .i64 c.extra,.bool c.aC] 29).below hb1 (by simp))
      obtain ⟨q0,q1,q2,q3,q4,q5,q6,q7,q8,q9,kr⟩:=eu CB.out
      have HB : Hid (Below w.heap.size w w1):=aiS ((aiT).trans (hb1.mono (by simp)))
      clear hb1
      go_wp2_with fail
      refine (rm _).mono ?_;rintro e w2 ⟨rfl,kd,rfl⟩
      go_wp2
      go_ret
      exact ⟨aR HE2.out.symm,below_drewN HB.out _⟩
   ·have hra : lg c.num c.den = false:=by simpa using hra
    have HE2 : Hid (res = 3):=aiS (by rw [HE.out,hra];rfl)
    have rm:=TT 0 c.num c.den hra;clear hra
    unfold aZ at hk ⊢
    go_enter Tryz.func64,Tryz.ntmps64
    go_wp2_with fail
    refine (hk _).mono ?_;rintro e w1 ⟨rfl,hb1⟩
    have CB:=aiS ((ak.new w #[.int .i64 c.ring,.int .i64 c.window,.int .i64 c.base,.int .i64 c.gain,.int .i64 c.least,.int .i64 c.most,.int .i64 c.aD,.int .i64 c.num,.int .i64 c.den,.int .i64 c.extra,.bool c.aC] 29).below hb1 (by simp))
    obtain ⟨q0,q1,q2,q3,q4,q5,q6,q7,q8,q9,kr⟩:=eu CB.out
    have HB : Hid (Below w.heap.size w w1):=aiS ((aiT).trans (hb1.mono (by simp)))
    clear hb1
    go_wp2_with fail
    refine (rm _).mono ?_;rintro e w2 ⟨rfl,rfl⟩
    go_wp2
    go_ret
    exact ⟨aR HE2.out.symm,HB.out⟩
  ·have HE2 : Hid (res = fq c):=aiS (by rw [HE.out,if_pos h0])
   have h0' : (fq c != 0) = true:=by simpa using h0
   clear h0
   generalize fq c = k at *
   unfold aZ at hk ⊢
   go_enter Tryz.func64,Tryz.ntmps64
   go_wp2_with fail
   refine (hk _).mono ?_;rintro e w1 ⟨rfl,hb1⟩
   have HB : Hid (Below w.heap.size w w1):=aiS ((aiT).trans (hb1.mono (by simp)))
   clear hb1
   go_wp2
   go_ret
   exact ⟨aR HE2.out.symm,HB.out⟩
 ·have e : dB c = 3:=by unfold dB;rw [if_neg hw]
  rw [e]
  have hw2 : ¬ (1 <= c.ring /\ c.ring <= 64 /\ 1 <= c.window /\ c.window <= 64):=λh=>hw (rz.2 h)
  by_cases h1 : c.ring < 1
  ·exact abG c h1 w
  by_cases h2 : 64 < c.ring
  ·exact abH c (by omega) w
  by_cases h3 : c.window < 1
  ·exact abI c (by omega) w
  ·exact abJ c (by omega) w
end Go.Proofs.YtklkooeimkedgaaGreat
