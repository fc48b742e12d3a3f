/- Parts of the walk of TopJumps: Clock2. -/
import Derived.Test.YtklkooeimkedgaaGreatJ5
import Derived.Test.YtklkooeimkedgaaGreatJ10
import Derived.Test.YtklkooeimkedgaaGreatJ12
set_option linter.unusedVariables false
set_option linter.unusedSimpArgs false
namespace Go.Proofs.YtklkooeimkedgaaGreat
open Go.RowKit
def winOk (c : Cfg) : Bool:=decide (1 ≤ c.ring ∧ c.ring ≤ 64 ∧ 1 ≤ c.window ∧ c.window ≤ 64)
theorem winOk_iff {c : Cfg} : winOk c = true ↔ (1 ≤ c.ring ∧ c.ring ≤ 64 ∧ 1 ≤ c.window ∧ c.window ≤ 64):=by unfold winOk;exact decide_eq_true_iff
def cchk (c : Cfg) : Int:=if winOk c = true then (if dchk c ≠ 0 then dchk c else if ratioB c.num c.den && inB c.extra 2305843009213693952 then 0 else 3) else 3
theorem cchk_ok {c : Cfg} (h : cchk c = 0) : winOk c = true ∧ dchk c = 0 ∧ ratioB c.num c.den = true:=by
 unfold cchk at h
 split at h
 ·rename_i hw
  split at h
  ·exact absurd h ‹_›
  ·rename_i hd
   split at h
   ·rename_i hr
    simp only [Bool.and_eq_true] at hr
    exact ⟨hw,by omega,hr.1⟩
   ·omega
 ·omega
theorem cbad0 (c : Cfg) (hr : c.ring < 1) (w : World) :
  Calls Tryz.prog 64 #[cfgV c] w fun e w'=>e = .returned (.int .i64 3) ∧ Below w.heap.size w w':=by
 unfold cfgV
 go_enter Tryz.func64,Tryz.ntmps64
 go_wp2
 go_ret
 exact ⟨rfl,(Below.refl _ _).alloc (Nat.le_refl _) _⟩
theorem cbad1 (c : Cfg) (hr : 1 ≤ c.ring ∧ 64 < c.ring) (w : World) :
  Calls Tryz.prog 64 #[cfgV c] w fun e w'=>e = .returned (.int .i64 3) ∧ Below w.heap.size w w':=by
 obtain ⟨r1,r2⟩:=hr
 unfold cfgV
 go_enter Tryz.func64,Tryz.ntmps64
 go_wp2
 go_ret
 exact ⟨rfl,(Below.refl _ _).alloc (Nat.le_refl _) _⟩
theorem cbad2 (c : Cfg) (hr : (1 ≤ c.ring ∧ c.ring ≤ 64) ∧ c.window < 1) (w : World) :
  Calls Tryz.prog 64 #[cfgV c] w fun e w'=>e = .returned (.int .i64 3) ∧ Below w.heap.size w w':=by
 obtain ⟨⟨r1,r2⟩,r3⟩:=hr
 unfold cfgV
 go_enter Tryz.func64,Tryz.ntmps64
 go_wp2
 go_ret
 exact ⟨rfl,(Below.refl _ _).alloc (Nat.le_refl _) _⟩
theorem cbad3 (c : Cfg) (hr : (1 ≤ c.ring ∧ c.ring ≤ 64) ∧ 1 ≤ c.window ∧ 64 < c.window) (w : World) :
  Calls Tryz.prog 64 #[cfgV c] w fun e w'=>e = .returned (.int .i64 3) ∧ Below w.heap.size w w':=by
 obtain ⟨⟨r1,r2⟩,r3,r4⟩:=hr
 unfold cfgV
 go_enter Tryz.func64,Tryz.ntmps64
 go_wp2
 go_ret
 exact ⟨rfl,(Below.refl _ _).alloc (Nat.le_refl _) _⟩
set_option maxRecDepth 100000 in
theorem ccheck_f (c : Cfg) (w : World) :
  Calls Tryz.prog 64 #[cfgV c] w fun e w'=>e = .returned (.int .i64 (cchk c)) ∧ Below w.heap.size w w':=by
 by_cases hw : winOk c = true
 ·have hk:=dcheck_f c
  have HE : Hid (cchk c = if dchk c ≠ 0 then dchk c else if ratioB c.num c.den && inB c.extra 2305843009213693952 then 0 else 3):=Lib.hid (by unfold cchk;rw [if_pos hw])
  obtain ⟨r1,r2,r3,r4⟩:=winOk_iff.1 hw
  clear hw
  generalize cchk c = res at *
  by_cases h0 : dchk c = 0
  ·rw [h0] at hk HE
   clear h0
   by_cases hra : ratioB c.num c.den = true
   ·have rm:=room_f 0 c.num c.den ⟨by omega,by omega⟩ hra
    by_cases hx : inB c.extra 2305843009213693952 = true
    ·have HE2 : Hid (res = 0):=Lib.hid (by rw [HE.out,hra,hx];rfl)
     obtain ⟨x1,x2⟩:=of_decide_eq_true hx
     clear hra hx
     unfold cfgV at hk ⊢
     go_enter Tryz.func64,Tryz.ntmps64
     go_wp2_with fail
     refine (hk _).mono ?_;rintro e w1 ⟨rfl,hb1⟩
     have CB:=Lib.hid ((Blk.new w #[.int .i64 c.ring,.int .i64 c.window,.int .i64 c.base,.int .i64 c.gain,.int .i64 c.least,.int .i64 c.most,.int .i64 c.slack,.int .i64 c.num,.int .i64 c.den,.int .i64 c.extra,.bool c.curved] 29).below hb1 (by simp))
     obtain ⟨q0,q1,q2,q3,q4,q5,q6,q7,q8,q9,q10⟩:=cfg_cells CB.out
     have HB : Hid (Below w.heap.size w w1):=Lib.hid (((Below.refl _ _).alloc (Nat.le_refl _) _).trans (hb1.mono (by simp)))
     clear hb1
     go_wp2_with fail
     refine (rm _).mono ?_;rintro e w2 ⟨rfl,kd,rfl⟩
     go_wp2
     go_ret
     exact ⟨ret_int HE2.out.symm,below_drewN HB.out _⟩
    ·have HE2 : Hid (res = 3):=Lib.hid (by rw [HE.out,hra];simp [hx])
     have hx2 : ¬ (0 ≤ c.extra ∧ c.extra ≤ 2305843009213693952):=fun h=>hx (decide_eq_true h)
     clear hra hx
     unfold cfgV at hk ⊢
     by_cases hn : c.extra < 0
     all_goals
      have hn2 : 0 ≤ c.extra → 2305843009213693952 < c.extra:=fun h=>by omega
      try have hn3:=hn2 (by omega)
      clear hn2 hx2
      go_enter Tryz.func64,Tryz.ntmps64
      go_wp2_with fail
      refine (hk _).mono ?_;rintro e w1 ⟨rfl,hb1⟩
      have CB:=Lib.hid ((Blk.new w #[.int .i64 c.ring,.int .i64 c.window,.int .i64 c.base,.int .i64 c.gain,.int .i64 c.least,.int .i64 c.most,.int .i64 c.slack,.int .i64 c.num,.int .i64 c.den,.int .i64 c.extra,.bool c.curved] 29).below hb1 (by simp))
      obtain ⟨q0,q1,q2,q3,q4,q5,q6,q7,q8,q9,q10⟩:=cfg_cells CB.out
      have HB : Hid (Below w.heap.size w w1):=Lib.hid (((Below.refl _ _).alloc (Nat.le_refl _) _).trans (hb1.mono (by simp)))
      clear hb1
      go_wp2_with fail
      refine (rm _).mono ?_;rintro e w2 ⟨rfl,kd,rfl⟩
      go_wp2
      go_ret
      exact ⟨ret_int HE2.out.symm,below_drewN HB.out _⟩
   ·have hra : ratioB c.num c.den = false:=by simpa using hra
    have HE2 : Hid (res = 3):=Lib.hid (by rw [HE.out,hra];rfl)
    have rm:=room_bad 0 c.num c.den hra
    clear hra
    unfold cfgV at hk ⊢
    go_enter Tryz.func64,Tryz.ntmps64
    go_wp2_with fail
    refine (hk _).mono ?_;rintro e w1 ⟨rfl,hb1⟩
    have CB:=Lib.hid ((Blk.new w #[.int .i64 c.ring,.int .i64 c.window,.int .i64 c.base,.int .i64 c.gain,.int .i64 c.least,.int .i64 c.most,.int .i64 c.slack,.int .i64 c.num,.int .i64 c.den,.int .i64 c.extra,.bool c.curved] 29).below hb1 (by simp))
    obtain ⟨q0,q1,q2,q3,q4,q5,q6,q7,q8,q9,q10⟩:=cfg_cells CB.out
    have HB : Hid (Below w.heap.size w w1):=Lib.hid (((Below.refl _ _).alloc (Nat.le_refl _) _).trans (hb1.mono (by simp)))
    clear hb1
    go_wp2_with fail
    refine (rm _).mono ?_;rintro e w2 ⟨rfl,rfl⟩
    go_wp2
    go_ret
    exact ⟨ret_int HE2.out.symm,HB.out⟩
  ·have HE2 : Hid (res = dchk c):=Lib.hid (by rw [HE.out,if_pos h0])
   have h0' : (dchk c != 0) = true:=by simpa using h0
   clear h0
   generalize dchk c = k at *
   unfold cfgV at hk ⊢
   go_enter Tryz.func64,Tryz.ntmps64
   go_wp2_with fail
   refine (hk _).mono ?_;rintro e w1 ⟨rfl,hb1⟩
   have HB : Hid (Below w.heap.size w w1):=Lib.hid (((Below.refl _ _).alloc (Nat.le_refl _) _).trans (hb1.mono (by simp)))
   clear hb1
   go_wp2
   go_ret
   exact ⟨ret_int HE2.out.symm,HB.out⟩
 ·have e : cchk c = 3:=by unfold cchk;rw [if_neg hw]
  rw [e]
  have hw2 : ¬ (1 ≤ c.ring ∧ c.ring ≤ 64 ∧ 1 ≤ c.window ∧ c.window ≤ 64):=fun h=>hw (winOk_iff.2 h)
  by_cases h1 : c.ring < 1
  ·exact cbad0 c h1 w
  by_cases h2 : 64 < c.ring
  ·exact cbad1 c (by omega) w
  by_cases h3 : c.window < 1
  ·exact cbad2 c (by omega) w
  ·exact cbad3 c (by omega) w
end Go.Proofs.YtklkooeimkedgaaGreat
