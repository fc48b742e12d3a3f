/- Walk of TopDeltas. -/
import Derived.Test.YtklkooeimkedgaaGreatD18
import Derived.Test.YtklkooeimkedgaaGreatD20
set_option linter.unusedVariables false
set_option linter.unusedSimpArgs false
namespace Go.Proofs.YtklkooeimkedgaaGreat
open Go.RowKit
def Di (c : aP) : Bool:=decide (1 <= c.ring /\ c.ring <= 64 /\ 1 <= c.window /\ c.window <= 64)
theorem ng {c : aP} : Di c = true ↔ (1 <= c.ring /\ c.ring <= 64 /\ 1 <= c.window /\ c.window <= 64):=by unfold Di;exact decide_eq_true_iff
def fE (c : aP) : Int:=if Di c = true then (if cK c ≠ 0 then cK c else if iJ c.num c.den && jF c.extra 2305843009213693952 then 0 else 3) else 3
theorem wC {c : aP} (h : fE c = 0) : Di c = true /\ cK c = 0 /\ iJ c.num c.den = true:=by
 unfold fE at h
 split at h
 ·rename_i hw
  split at h
  ·exact absurd h ‹_›
  ·rename_i hd
   split at h
   ·rename_i hr
    simp only [Bool.and_eq_true] at hr
    exact ⟨hw,by omega,hr.1⟩
   ·omega
 ·omega
theorem acB (c : aP) (hr : c.ring < 1) (w : World) :
 Calls Tryz.prog 64 #[aT c] w λe w'=>e = .returned (.int .i64 3) /\ Below w.heap.size w w':=by
 unfold aT
 go_enter Tryz.func64,Tryz.ntmps64
 go_wp2
 go_ret
 exact ⟨rfl,ajL⟩
theorem acC (c : aP) (hr : 1 <= c.ring /\ 64 < c.ring) (w : World) :
 Calls Tryz.prog 64 #[aT c] w λe w'=>e = .returned (.int .i64 3) /\ Below w.heap.size w w':=by
 obtain ⟨r1,r2⟩:=hr
 unfold aT
 go_enter Tryz.func64,Tryz.ntmps64
 go_wp2
 go_ret
 exact ⟨rfl,ajL⟩
theorem acD (c : aP) (hr : (1 <= c.ring /\ c.ring <= 64) /\ c.window < 1) (w : World) :
 Calls Tryz.prog 64 #[aT c] w λe w'=>e = .returned (.int .i64 3) /\ Below w.heap.size w w':=by
 obtain ⟨⟨r1,r2⟩,r3⟩:=hr
 unfold aT
 go_enter Tryz.func64,Tryz.ntmps64
 go_wp2
 go_ret
 exact ⟨rfl,ajL⟩
theorem acE (c : aP) (hr : (1 <= c.ring /\ c.ring <= 64) /\ 1 <= c.window /\ 64 < c.window) (w : World) :
 Calls Tryz.prog 64 #[aT c] w λe w'=>e = .returned (.int .i64 3) /\ Below w.heap.size w w':=by
 obtain ⟨⟨r1,r2⟩,r3,r4⟩:=hr
 unfold aT
 go_enter Tryz.func64,Tryz.ntmps64
 go_wp2
 go_ret
 exact ⟨rfl,ajL⟩
set_option maxRecDepth 100000 in
theorem Kj (c : aP) (w : World) :
 Calls Tryz.prog 64 #[aT c] w λe w'=>e = .returned (.int .i64 (fE c)) /\ Below w.heap.size w w':=by
 by_cases hw : Di c = true
 ·have hk:=zY c
  have HE : Hid (fE c = if cK c ≠ 0 then cK c else if iJ c.num c.den && jF c.extra 2305843009213693952 then 0 else 3):=ajK (by unfold fE;rw [if_pos hw])
  obtain ⟨r1,r2,r3,r4⟩:=ng.1 hw
  clear hw
  generalize fE c = res at *
  by_cases h0 : cK c = 0
  ·rw [h0] at hk HE
   clear h0
   by_cases hra : iJ c.num c.den = true
   ·have rm:=Kh 0 c.num c.den ⟨by omega,by omega⟩ hra
    by_cases hx : jF c.extra 2305843009213693952 = true
    ·have HE2 : Hid (res = 0):=ajK (by rw [HE.out,hra,hx];rfl)
     obtain ⟨x1,x2⟩:=of_decide_eq_true hx
     clear hra hx
     unfold aT at hk ⊢
     go_enter Tryz.func64,Tryz.ntmps64
     go_wp2_with fail
     refine (hk _).mono ?_;rintro e w1 ⟨rfl,hb1⟩
     have CB:=ajK ((ak.new w #[.int .i64 c.ring,.int .i64 c.window,.int .i64 c.base,.int .i64 c.gain,.int .i64 c.least,.int .i64 c.most,.int .i64 c.aD,.int .i64 c.num,.int .i64 c.den,.int .i64 c.extra,.bool c.aC] 29).below hb1 (by simp))
     obtain ⟨q0,q1,q2,q3,q4,q5,q6,q7,q8,q9,jG⟩:=dJ CB.out
     have HB : Hid (Below w.heap.size w w1):=ajK ((ajL).trans (hb1.mono (by simp)))
     clear hb1
     go_wp2_with fail
     refine (rm _).mono ?_;rintro e w2 ⟨rfl,kd,rfl⟩
     go_wp2
     go_ret
     exact ⟨aL HE2.out.symm,below_drewN HB.out _⟩
    ·have HE2 : Hid (res = 3):=ajK (by rw [HE.out,hra];simp [hx])
     have hx2 : ¬ (0 <= c.extra /\ c.extra <= 2305843009213693952):=λh=>hx (decide_eq_true h)
     clear hra hx
     unfold aT at hk ⊢
     by_cases hn : c.extra < 0
     all_goals
      have hn2 : 0 <= c.extra -> 2305843009213693952 < c.extra:=λh=>by omega
      try have Nr:=hn2 (by omega)
      clear hn2 hx2
      go_enter Tryz.func64,Tryz.ntmps64
      go_wp2_with fail
      refine (hk _).mono ?_;rintro e w1 ⟨rfl,hb1⟩
      have CB:=ajK ((ak.new w #[.int .i64 c.ring,.int .i64 c.window,.int .i64 c.base,.int .i64 c.gain,.int .i64 c.least,.int .i64 c.most,.int .i64 c.aD,.int .i64 c.num,.int .i64 c.den,.int .i64 c.extra,.bool c.aC] 29).below hb1 (by simp))
      obtain ⟨q0,q1,q2,q3,q4,q5,q6,q7,q8,q9,jG⟩:=dJ CB.out
      have HB : Hid (Below w.heap.size w w1):=ajK ((ajL).trans (hb1.mono (by simp)))
      clear hb1
      go_wp2_with fail
      refine (rm _).mono ?_;rintro e w2 ⟨rfl,kd,rfl⟩
      go_wp2
      go_ret
      exact ⟨aL HE2.out.symm,below_drewN HB.out _⟩
   ·have hra : iJ c.num c.den = false:=by simpa using hra
    have HE2 : Hid (res = 3):=ajK (by rw [HE.out,hra];rfl)
    have rm:=Vi 0 c.num c.den hra;clear hra
    unfold aT at hk ⊢
    go_enter Tryz.func64,Tryz.ntmps64
    go_wp2_with fail
    refine (hk _).mono ?_;rintro e w1 ⟨rfl,hb1⟩
    have CB:=ajK ((ak.new w #[.int .i64 c.ring,.int .i64 c.window,.int .i64 c.base,.int .i64 c.gain,.int .i64 c.least,.int .i64 c.most,.int .i64 c.aD,.int .i64 c.num,.int .i64 c.den,.int .i64 c.extra,.bool c.aC] 29).below hb1 (by simp))
    obtain ⟨q0,q1,q2,q3,q4,q5,q6,q7,q8,q9,jG⟩:=dJ CB.out
    have HB : Hid (Below w.heap.size w w1):=ajK ((ajL).trans (hb1.mono (by simp)))
    clear hb1
    go_wp2_with fail
    refine (rm _).mono ?_;rintro e w2 ⟨rfl,rfl⟩
    go_wp2
    go_ret
    exact ⟨aL HE2.out.symm,HB.out⟩
  ·have HE2 : Hid (res = cK c):=ajK (by rw [HE.out,if_pos h0])
   have h0' : (cK c != 0) = true:=by simpa using h0
   clear h0
   generalize cK c = k at *
   unfold aT at hk ⊢
   go_enter Tryz.func64,Tryz.ntmps64
   go_wp2_with fail
   refine (hk _).mono ?_;rintro e w1 ⟨rfl,hb1⟩
   have HB : Hid (Below w.heap.size w w1):=ajK ((ajL).trans (hb1.mono (by simp)))
   clear hb1
   go_wp2
   go_ret
   exact ⟨aL HE2.out.symm,HB.out⟩
 ·have e : fE c = 3:=by unfold fE;rw [if_neg hw]
  rw [e]
  have hw2 : ¬ (1 <= c.ring /\ c.ring <= 64 /\ 1 <= c.window /\ c.window <= 64):=λh=>hw (ng.2 h)
  by_cases h1 : c.ring < 1
  ·exact acB c h1 w
  by_cases h2 : 64 < c.ring
  ·exact acC c (by omega) w
  by_cases h3 : c.window < 1
  ·exact acD c (by omega) w
  ·exact acE c (by omega) w
theorem acF (c : aP) (hr : c.ring < 1) (w : World) :
 Calls Tryz.prog 20 #[aT c] w λe w'=>e = .returned (.int .i64 3) /\ Below w.heap.size w w':=by
 unfold aT
 go_enter Tryz.func20,Tryz.ntmps20
 go_wp2
 go_ret
 exact ⟨rfl,ajL⟩
theorem acG (c : aP) (hr : 1 <= c.ring /\ 64 < c.ring) (w : World) :
 Calls Tryz.prog 20 #[aT c] w λe w'=>e = .returned (.int .i64 3) /\ Below w.heap.size w w':=by
 obtain ⟨r1,r2⟩:=hr
 unfold aT
 go_enter Tryz.func20,Tryz.ntmps20
 go_wp2
 go_ret
 exact ⟨rfl,ajL⟩
theorem acH (c : aP) (hr : (1 <= c.ring /\ c.ring <= 64) /\ c.window < 1) (w : World) :
 Calls Tryz.prog 20 #[aT c] w λe w'=>e = .returned (.int .i64 3) /\ Below w.heap.size w w':=by
 obtain ⟨⟨r1,r2⟩,r3⟩:=hr
 unfold aT
 go_enter Tryz.func20,Tryz.ntmps20
 go_wp2
 go_ret
 exact ⟨rfl,ajL⟩
theorem acI (c : aP) (hr : (1 <= c.ring /\ c.ring <= 64) /\ 1 <= c.window /\ 64 < c.window) (w : World) :
 Calls Tryz.prog 20 #[aT c] w λe w'=>e = .returned (.int .i64 3) /\ Below w.heap.size w w':=by
 obtain ⟨⟨r1,r2⟩,r3,r4⟩:=hr
 unfold aT
 go_enter Tryz.func20,Tryz.ntmps20
 go_wp2
 go_ret
 exact ⟨rfl,ajL⟩
set_option maxRecDepth 100000 in
theorem Vm (c : aP) (w : World) :
 Calls Tryz.prog 20 #[aT c] w λe w'=>e = .returned (.int .i64 (fE c)) /\ Below w.heap.size w w':=by
 by_cases hw : Di c = true
 ·have hk:=O7 c
  have HE : Hid (fE c = if cK c ≠ 0 then cK c else if iJ c.num c.den && jF c.extra 2305843009213693952 then 0 else 3):=ajK (by unfold fE;rw [if_pos hw])
  obtain ⟨r1,r2,r3,r4⟩:=ng.1 hw
  clear hw
  generalize fE c = res at *
  by_cases h0 : cK c = 0
  ·rw [h0] at hk HE
   clear h0
   by_cases hra : iJ c.num c.den = true
   ·have rm:=Ir c.num c.den
    rw [hra] at rm
    by_cases hx : jF c.extra 2305843009213693952 = true
    ·have HE2 : Hid (res = 0):=ajK (by rw [HE.out,hra,hx];rfl)
     obtain ⟨x1,x2⟩:=of_decide_eq_true hx
     clear hra hx
     unfold aT at hk ⊢
     go_enter Tryz.func20,Tryz.ntmps20
     go_wp2_with fail
     refine (hk _).mono ?_;rintro e w1 ⟨rfl,hb1⟩
     have CB:=ajK ((ak.new w #[.int .i64 c.ring,.int .i64 c.window,.int .i64 c.base,.int .i64 c.gain,.int .i64 c.least,.int .i64 c.most,.int .i64 c.aD,.int .i64 c.num,.int .i64 c.den,.int .i64 c.extra,.bool c.aC] 29).below hb1 (by simp))
     obtain ⟨q0,q1,q2,q3,q4,q5,q6,q7,q8,q9,jG⟩:=dJ CB.out
     have HB : Hid (Below w.heap.size w w1):=ajK ((ajL).trans (hb1.mono (by simp)))
     clear hb1
     go_wp2_with fail
     refine (rm _).mono ?_;rintro e w2 ⟨rfl,rfl⟩
     go_wp2
     go_ret
     exact ⟨aL HE2.out.symm,HB.out⟩
    ·have HE2 : Hid (res = 3):=ajK (by rw [HE.out,hra];simp [hx])
     have hx2 : ¬ (0 <= c.extra /\ c.extra <= 2305843009213693952):=λh=>hx (decide_eq_true h)
     clear hra hx
     unfold aT at hk ⊢
     by_cases hn : c.extra < 0
     all_goals
      have hn2 : 0 <= c.extra -> 2305843009213693952 < c.extra:=λh=>by omega
      try have Nr:=hn2 (by omega)
      clear hn2 hx2
      go_enter Tryz.func20,Tryz.ntmps20
      go_wp2_with fail
      refine (hk _).mono ?_;rintro e w1 ⟨rfl,hb1⟩
      have CB:=ajK ((ak.new w #[.int .i64 c.ring,.int .i64 c.window,.int .i64 c.base,.int .i64 c.gain,.int .i64 c.least,.int .i64 c.most,.int .i64 c.aD,.int .i64 c.num,.int .i64 c.den,.int .i64 c.extra,.bool c.aC] 29).below hb1 (by simp))
      obtain ⟨q0,q1,q2,q3,q4,q5,q6,q7,q8,q9,jG⟩:=dJ CB.out
      have HB : Hid (Below w.heap.size w w1):=ajK ((ajL).trans (hb1.mono (by simp)))
      clear hb1
      go_wp2_with fail
      refine (rm _).mono ?_;rintro e w2 ⟨rfl,rfl⟩
      go_wp2
      go_ret
      exact ⟨aL HE2.out.symm,HB.out⟩
   ·have hra : iJ c.num c.den = false:=by simpa using hra
    have HE2 : Hid (res = 3):=ajK (by rw [HE.out,hra];rfl)
    have rm:=Ir c.num c.den
    rw [hra] at rm
    clear hra
    unfold aT at hk ⊢
    go_enter Tryz.func20,Tryz.ntmps20
    go_wp2_with fail
    refine (hk _).mono ?_;rintro e w1 ⟨rfl,hb1⟩
    have CB:=ajK ((ak.new w #[.int .i64 c.ring,.int .i64 c.window,.int .i64 c.base,.int .i64 c.gain,.int .i64 c.least,.int .i64 c.most,.int .i64 c.aD,.int .i64 c.num,.int .i64 c.den,.int .i64 c.extra,.bool c.aC] 29).below hb1 (by simp))
    obtain ⟨q0,q1,q2,q3,q4,q5,q6,q7,q8,q9,jG⟩:=dJ CB.out
    have HB : Hid (Below w.heap.size w w1):=ajK ((ajL).trans (hb1.mono (by simp)))
    clear hb1
    go_wp2_with fail
    refine (rm _).mono ?_;rintro e w2 ⟨rfl,rfl⟩
    go_wp2
    go_ret
    exact ⟨aL HE2.out.symm,HB.out⟩
  ·have HE2 : Hid (res = cK c):=ajK (by rw [HE.out,if_pos h0])
   have h0' : (cK c != 0) = true:=by simpa using h0
   clear h0
   generalize cK c = k at *
   unfold aT at hk ⊢
   go_enter Tryz.func20,Tryz.ntmps20
   go_wp2_with fail
   refine (hk _).mono ?_;rintro e w1 ⟨rfl,hb1⟩
   have HB : Hid (Below w.heap.size w w1):=ajK ((ajL).trans (hb1.mono (by simp)))
   clear hb1
   go_wp2
   go_ret
   exact ⟨aL HE2.out.symm,HB.out⟩
 ·have e : fE c = 3:=by unfold fE;rw [if_neg hw]
  rw [e]
  have hw2 : ¬ (1 <= c.ring /\ c.ring <= 64 /\ 1 <= c.window /\ c.window <= 64):=λh=>hw (ng.2 h)
  by_cases h1 : c.ring < 1
  ·exact acF c h1 w
  by_cases h2 : 64 < c.ring
  ·exact acG c (by omega) w
  by_cases h3 : c.window < 1
  ·exact acH c (by omega) w
  ·exact acI c (by omega) w
end Go.Proofs.YtklkooeimkedgaaGreat
