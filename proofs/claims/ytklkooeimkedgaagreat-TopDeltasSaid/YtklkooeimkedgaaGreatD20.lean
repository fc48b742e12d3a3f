/- Walk of TopDeltas. -/
import Derived.Deep.RegionHeld3
import Derived.Lib.SmallJoins
import Derived.Test.YtklkooeimkedgaaGreatD2
import Derived.Test.YtklkooeimkedgaaGreatD19
set_option linter.unusedVariables false
set_option linter.unusedSimpArgs false
namespace Go.Proofs.YtklkooeimkedgaaGreat
open Go.RowKit
def Vl (c : aP) (now ch : Int) : Array Value:=#[.int .i64 c.ring,.int .i64 c.window,.int .i64 c.base,.int .i64 c.gain,.int .i64 c.least,.int .i64 c.most,.int .i64 c.aD,.int .i64 c.num,.int .i64 c.den,.int .i64 c.extra,.bool c.aC,.int .i64 now,.int .i64 ch]
def xV (w : World) (b : Nat) (c : aP) (now ch : Int) : Prop:=ak w b (Vl c now ch) 190
def ZH (c : aP) (w : World) (e : Ending) (w' : World) : Prop :=
 ∃ b,e = .returned (.tuple #[.pointer (some ⟨b,0,none⟩),.int .i64 0]) /\ w.heap.size <= b /\ xV w' b c (j4 c 0) 0 /\ Below w.heap.size w w'
theorem dJ {w : World} {b : Nat} {c : aP} {t : TypeId} (h : ak w b #[.int .i64 c.ring,.int .i64 c.window,.int .i64 c.base,.int .i64 c.gain,.int .i64 c.least,.int .i64 c.most,.int .i64 c.aD,.int .i64 c.num,.int .i64 c.den,.int .i64 c.extra,.bool c.aC] t) : w.cell? ⟨b,0,none⟩ = some (.int .i64 c.ring) /\ w.cell? ⟨b,1,none⟩ = some (.int .i64 c.window) /\ w.cell? ⟨b,2,none⟩ = some (.int .i64 c.base) /\ w.cell? ⟨b,3,none⟩ = some (.int .i64 c.gain) /\ w.cell? ⟨b,4,none⟩ = some (.int .i64 c.least) /\ w.cell? ⟨b,5,none⟩ = some (.int .i64 c.most) /\ w.cell? ⟨b,6,none⟩ = some (.int .i64 c.aD) /\ w.cell? ⟨b,7,none⟩ = some (.int .i64 c.num) /\ w.cell? ⟨b,8,none⟩ = some (.int .i64 c.den) /\ w.cell? ⟨b,9,none⟩ = some (.int .i64 c.extra) /\ w.cell? ⟨b,10,none⟩ = some (.bool c.aC) :=
 ⟨h.cell 0,h.cell 1,h.cell 2,h.cell 3,h.cell 4,h.cell 5,h.cell 6,h.cell 7,h.cell 8,h.cell 9,h.cell 10⟩
theorem afm (c : aP) (h0 : cK c ≠ 0) (w : World) :
 Calls Tryz.prog 67 #[aT c] w λe w'=>e = .returned (.tuple #[.pointer none,.int .i64 (cK c)]) /\ Below w.heap.size w w':=by
 have hk:=zY c
 have h0' : (cK c != 0) = true:=by simpa using h0
 clear h0
 generalize cK c = k at *
 unfold aT at hk ⊢
 go_enter Tryz.func67,Tryz.ntmps67
 go_wp2_with fail
 refine (hk _).mono ?_;rintro e w1 ⟨rfl,hb1⟩
 rw [World.size_alloc] at hb1
 go_wp2
 go_ret2
 exact ⟨rfl,(ajL).trans (hb1.mono (by omega))⟩
set_option maxRecDepth 100000 in
theorem YA (c : aP) (ok : c.Ok) (h0 : cK c = 0) (w : World) :
 Calls Tryz.prog 67 #[aT c] w (ZH c w):=by
 have hk:=zY c
 have tg:=Ki c 0 ok (by unfold aA;omega)
 rw [show xU c 0 = j4 c 0 by unfold xU;rw [if_pos h0]] at tg
 rw [h0] at hk
 clear h0
 unfold aT at hk tg ⊢
 go_enter Tryz.func67,Tryz.ntmps67
 go_wp2_with fail
 refine (hk _).mono ?_;rintro e w1 ⟨rfl,hb1⟩
 have B1:=(ak.new w #[.int .i64 c.ring,.int .i64 c.window,.int .i64 c.base,.int .i64 c.gain,.int .i64 c.least,.int .i64 c.most,.int .i64 c.aD,.int .i64 c.num,.int .i64 c.den,.int .i64 c.extra,.bool c.aC] 29).below hb1 (by simp)
 obtain ⟨q0,q1,q2,q3,q4,q5,q6,q7,q8,q9,jG⟩:=dJ B1
 have hs1 : w.heap.size < w1.heap.size:=by have:=hb1.size;simp at this;omega
 rw [World.size_alloc] at hb1
 have HB1 : Hid (Below w.heap.size w w1):=ajK ((ajL).trans (hb1.mono (by omega)))
 clear B1 hb1
 go_wp2_with fail
 go_region_held3 (λw'=>w'.cell? ⟨w.heap.size,0,none⟩ = some (.int .i64 c.ring) /\ w'.cell? ⟨w.heap.size,1,none⟩ = some (.int .i64 c.window) /\ w'.cell? ⟨w.heap.size,2,none⟩ = some (.int .i64 c.base) /\ w'.cell? ⟨w.heap.size,3,none⟩ = some (.int .i64 c.gain) /\ w'.cell? ⟨w.heap.size,4,none⟩ = some (.int .i64 c.least) /\ w'.cell? ⟨w.heap.size,5,none⟩ = some (.int .i64 c.most) /\ w'.cell? ⟨w.heap.size,6,none⟩ = some (.int .i64 c.aD) /\ w'.cell? ⟨w.heap.size,7,none⟩ = some (.int .i64 c.num) /\ w'.cell? ⟨w.heap.size,8,none⟩ = some (.int .i64 c.den) /\ w'.cell? ⟨w.heap.size,9,none⟩ = some (.int .i64 c.extra) /\ w'.cell? ⟨w.heap.size,10,none⟩ = some (.bool c.aC)) (first | go_keep | (refine ⟨?_,?_,?_,?_,?_,?_,?_,?_,?_,?_,?_⟩ <;> (rw [hb2.cell (by simpa using hs1)];assumption))) ((go_at_call 103;refine (tg _).mono ?_;rintro e w2 ⟨rfl,hb2⟩))
 go_wp2
 go_ret2
 have h2 : w1.heap.size <= w2.heap.size:=hb2.size
 exact ⟨w2.heap.size,rfl,by omega,ak.new _ _ _,((HB1.out.drew).trans (hb2.mono (Nat.le_of_lt hs1))).alloc (by omega) _⟩
def Bn (c : aP) (now j : Int) : Int:=if c.aD < max (j4 c j - now) (now - j4 c j) then j4 c j else now
def GI (c : aP) (now ch j : Int) : Int:=if c.aD < max (j4 c j - now) (now - j4 c j) then ch + 1 else ch
theorem Bo {w : World} {b : Nat} {c : aP} {now ch : Int} (h : xV w b c now ch) : (w.cell? ⟨b,0,none⟩ = some (.int .i64 c.ring) /\ w.cell? ⟨b,1,none⟩ = some (.int .i64 c.window) /\ w.cell? ⟨b,2,none⟩ = some (.int .i64 c.base) /\ w.cell? ⟨b,3,none⟩ = some (.int .i64 c.gain) /\ w.cell? ⟨b,4,none⟩ = some (.int .i64 c.least) /\ w.cell? ⟨b,5,none⟩ = some (.int .i64 c.most) /\ w.cell? ⟨b,6,none⟩ = some (.int .i64 c.aD) /\ w.cell? ⟨b,7,none⟩ = some (.int .i64 c.num) /\ w.cell? ⟨b,8,none⟩ = some (.int .i64 c.den) /\ w.cell? ⟨b,9,none⟩ = some (.int .i64 c.extra) /\ w.cell? ⟨b,10,none⟩ = some (.bool c.aC)) /\ w.cell? ⟨b,11,none⟩ = some (.int .i64 now) /\ w.cell? ⟨b,12,none⟩ = some (.int .i64 ch) /\ w.frozen? ⟨b,11,none⟩ = false /\ w.frozen? ⟨b,12,none⟩ = false :=
 ⟨⟨h.cell 0,h.cell 1,h.cell 2,h.cell 3,h.cell 4,h.cell 5,h.cell 6,h.cell 7,h.cell 8,h.cell 9,h.cell 10⟩,h.cell 11,h.cell 12,h.free 11,h.free 12⟩
theorem ZI (b : Nat) (c : aP) (now ch : Int) (w : World) (h : xV w b c now ch) :
 Calls Tryz.prog 129 #[.pointer (some ⟨b,0,none⟩)] w λe w'=>e = .returned (.int .i64 now) /\ w = w':=by
 obtain ⟨⟨q0,q1,q2,q3,q4,q5,q6,q7,q8,q9,jG⟩,ZJ,ZK,f11,f12⟩:=Bo h
 go_enter Tryz.func129,Tryz.ntmps129
 go_wp2
 go_ret
 exact ⟨rfl,rfl⟩
def xW (c : aP) (now : Int) : Prop:=c.least <= now /\ now <= c.most
theorem GJ {c : aP} (h : cK c = 0) : (0 <= c.base /\ c.base <= 2305843009213693952) /\ (0 <= c.least /\ c.least <= 2305843009213693952) /\ (0 <= c.most /\ c.most <= 2305843009213693952) /\ (0 <= c.aD /\ c.aD <= 2305843009213693952) /\ (0 <= c.gain /\ c.gain <= 68719476736) /\ c.least <= c.most:=by
 unfold cK at h
 split at h
 ·rename_i hh
  simp only [Bool.and_eq_true] at hh
  obtain ⟨⟨⟨⟨a,b⟩,d⟩,e⟩,f⟩:=hh
  have : ¬ c.most < c.least:=λhm=>by rw [if_pos hm] at h;exact absurd h (by decide)
  exact ⟨of_decide_eq_true a,of_decide_eq_true b,of_decide_eq_true d,of_decide_eq_true e,of_decide_eq_true f,by omega⟩
 ·exact absurd h (by decide)
theorem Bp {c : aP} (h : cK c = 0) (j : Int) : xW c (j4 c j):=by
 obtain ⟨_,_,_,_,_,hl⟩:=GJ h
 unfold xW j4 sw;omega
set_option maxRecDepth 100000 in
theorem Rk (b : Nat) (c : aP) (now ch j : Int) (w : World) (ok : c.Ok) (h0 : cK c = 0) (hn : xW c now) (hj : aA j) (hc0 : 0 <= ch) (hc1 : ch <= 4611686018427387904) (h : xV w b c now ch) :
 Calls Tryz.prog 84 #[.pointer (some ⟨b,0,none⟩),.int .i64 j] w λe w'=>e = .returned (.int .i64 (Bn c now j)) /\ xV w' b c (Bn c now j) (GI c now ch j) /\ Only (· = b) w w':=by
 have tg:=Ki c j ok hj
 rw [show xU c j = j4 c j by unfold xU;rw [if_pos h0]] at tg
 obtain ⟨_,⟨l1,l2⟩,⟨l3,l4⟩,⟨l5,l6⟩,_,_⟩:=GJ h0
 obtain ⟨t1,t2⟩:=Bp h0 j
 obtain ⟨n1,n2⟩:=hn
 have HU : Hid (Bn c now j = if c.aD < max (j4 c j - now) (now - j4 c j) then j4 c j else now):=ajK rfl
 have HN : Hid (GI c now ch j = if c.aD < max (j4 c j - now) (now - j4 c j) then ch + 1 else ch):=ajK rfl
 generalize j4 c j = t at *
 obtain ⟨m,hm⟩ : ∃ m,max (t - now) (now - t) = m:=⟨_,rfl⟩
 rw [hm] at HU HN
 have lb:=h.lt
 obtain ⟨⟨q0,q1,q2,q3,q4,q5,q6,q7,q8,q9,jG⟩,ZJ,ZK,f11,f12⟩:=Bo h
 have H:=ajK h;clear h h0
 unfold aT at tg
 go_enter Tryz.func84,Tryz.ntmps84
 go_wp2_with fail
 refine (tg _).mono ?_;rintro e w1 ⟨rfl,hb1⟩
 have H1 : xV w1 b c now ch:=H.out.below hb1 lb
 clear q0 q1 q2 q3 q4 q5 q6 q7 q8 q9 jG ZJ ZK f11 f12
 obtain ⟨⟨q0,q1,q2,q3,q4,q5,q6,q7,q8,q9,jG⟩,ZJ,ZK,f11,f12⟩:=Bo H1
 have HH:=ajK H1;clear H1;have HB:=ajK hb1;clear hb1
 go_wp2_with fail
 go_quiet (fail)
 by_cases hs : c.aD < m
 ·go_wp2
  go_ret
  refine ⟨aL (by rw [HU.out,if_pos hs]),?_,?_⟩
  ·rw [HU.out,HN.out,if_pos hs,if_pos hs]
   exact ((HH.out.draws _).set 11 _).set 12 _
  ·exact Only.setCell (S:=(· = b)) (p:=⟨b,12,none⟩) (Only.setCell (S:=(· = b)) (p:=⟨b,11,none⟩) ((Only.of_below HB.out).draws _) (.inl rfl) _) (.inl rfl) _
 ·go_wp2
  go_ret
  have hs : ¬ c.aD < m:=by omega
  refine ⟨aL (by rw [HU.out,if_neg hs]),?_,?_⟩
  ·rw [HU.out,HN.out,if_neg hs,if_neg hs]
   exact HH.out.draws _
  ·exact (Only.of_below HB.out).draws _
theorem Nq {c : aP} (h0 : cK c = 0) {now j : Int} (h : xW c now) : xW c (Bn c now j):=by
 unfold Bn;split
 ·exact Bp h0 j
 ·exact h
theorem Rl {c : aP} (h0 : cK c = 0) {now : Int} (h : xW c now) : aA now:=by
 obtain ⟨_,⟨l1,l2⟩,⟨l3,l4⟩,_,_,_⟩:=GJ h0
 unfold xW at h;unfold aA;omega
theorem xX (n : Int) (w : World) :
 Calls Tryz.prog 99 #[.int .i64 n] w λe w'=>e = .returned (.bool (jF n 2305843009213693952)) /\ w = w':=by
 by_cases h1 : 0 <= n <;> by_cases h2 : n <= 2305843009213693952
 ·have HE : Hid (jF n 2305843009213693952 = true):=ajK (decide_eq_true ⟨h1,h2⟩)
  go_enter Tryz.func99,Tryz.ntmps99
  go_wp2
  go_ret
  exact ⟨by rw [HE.out];rfl,rfl⟩
 ·have HE : Hid (jF n 2305843009213693952 = false):=ajK (decide_eq_false (by omega))
  have hd : decide (n <= 2305843009213693952) = false:=decide_eq_false h2
  go_enter Tryz.func99,Tryz.ntmps99
  go_wp2
  go_ret
  exact ⟨by rw [HE.out];rfl,rfl⟩
 ·have HE : Hid (jF n 2305843009213693952 = false):=ajK (decide_eq_false (by omega))
  go_enter Tryz.func99,Tryz.ntmps99
  go_wp2
  go_ret
  exact ⟨by rw [HE.out];rfl,rfl⟩
 ·have HE : Hid (jF n 2305843009213693952 = false):=ajK (decide_eq_false (by omega))
  go_enter Tryz.func99,Tryz.ntmps99
  go_wp2
  go_ret
  exact ⟨by rw [HE.out];rfl,rfl⟩
set_option maxHeartbeats 1000000 in
theorem O7 (c : aP) (w : World) :
 Calls Tryz.prog 49 #[aT c] w λe w'=>e = .returned (.int .i64 (cK c)) /\ Below w.heap.size w w':=by
 have HD : Hid (cK c = if jF c.base 2305843009213693952 && jF c.least 2305843009213693952 && jF c.most 2305843009213693952 && jF c.aD 2305843009213693952 && jF c.gain 68719476736 then (if c.most < c.least then 10 else 0) else 3):=ajK rfl
 have f1:=xX c.base;have f2:=xX c.least;have f3:=xX c.most;have f4:=xX c.aD
 unfold aT
 cases b1 : jF c.base 2305843009213693952
 ·rw [b1] at f1
  have HE : Hid (cK c = 3):=ajK (by rw [HD.out,b1];rfl)
  clear b1
  go_enter Tryz.func49,Tryz.ntmps49
  go_wp2_with fail
  refine (f1 _).mono ?_;rintro e w' ⟨rfl,rfl⟩
  go_wp2
  go_ret
  exact ⟨aL HE.out.symm,ajL⟩
 rw [b1] at f1
 cases b2 : jF c.least 2305843009213693952
 ·rw [b2] at f2
  have HE : Hid (cK c = 3):=ajK (by rw [HD.out,b1,b2];rfl)
  clear b1 b2
  go_enter Tryz.func49,Tryz.ntmps49
  go_wp2_with fail
  refine (f1 _).mono ?_;rintro e w' ⟨rfl,rfl⟩
  go_wp2_with fail
  refine (f2 _).mono ?_;rintro e w' ⟨rfl,rfl⟩
  go_wp2
  go_ret
  exact ⟨aL HE.out.symm,ajL⟩
 rw [b2] at f2
 cases b3 : jF c.most 2305843009213693952
 ·rw [b3] at f3
  have HE : Hid (cK c = 3):=ajK (by rw [HD.out,b1,b2,b3];rfl)
  clear b1 b2 b3
  go_enter Tryz.func49,Tryz.ntmps49
  go_wp2_with fail
  refine (f1 _).mono ?_;rintro e w' ⟨rfl,rfl⟩
  go_wp2_with fail
  refine (f2 _).mono ?_;rintro e w' ⟨rfl,rfl⟩
  go_wp2_with fail
  refine (f3 _).mono ?_;rintro e w' ⟨rfl,rfl⟩
  go_wp2
  go_ret
  exact ⟨aL HE.out.symm,ajL⟩
 rw [b3] at f3
 cases b4 : jF c.aD 2305843009213693952
 ·rw [b4] at f4
  have HE : Hid (cK c = 3):=ajK (by rw [HD.out,b1,b2,b3,b4];rfl)
  clear b1 b2 b3 b4
  go_enter Tryz.func49,Tryz.ntmps49
  go_wp2_with fail
  refine (f1 _).mono ?_;rintro e w' ⟨rfl,rfl⟩
  go_wp2_with fail
  refine (f2 _).mono ?_;rintro e w' ⟨rfl,rfl⟩
  go_wp2_with fail
  refine (f3 _).mono ?_;rintro e w' ⟨rfl,rfl⟩
  go_wp2_with fail
  refine (f4 _).mono ?_;rintro e w' ⟨rfl,rfl⟩
  go_wp2
  go_ret
  exact ⟨aL HE.out.symm,ajL⟩
 rw [b4] at f4
 by_cases h5 : c.gain < 0
 ·have HE : Hid (cK c = 3):=ajK (by rw [HD.out,b1,b2,b3,b4,jC (n:=c.gain) (.inl h5)];rfl)
  clear b1 b2 b3 b4
  go_enter Tryz.func49,Tryz.ntmps49
  go_wp2_with fail
  refine (f1 _).mono ?_;rintro e w' ⟨rfl,rfl⟩
  go_wp2_with fail
  refine (f2 _).mono ?_;rintro e w' ⟨rfl,rfl⟩
  go_wp2_with fail
  refine (f3 _).mono ?_;rintro e w' ⟨rfl,rfl⟩
  go_wp2_with fail
  refine (f4 _).mono ?_;rintro e w' ⟨rfl,rfl⟩
  go_wp2
  go_ret
  exact ⟨aL HE.out.symm,ajL⟩
 by_cases h6 : 68719476736 < c.gain
 ·have HE : Hid (cK c = 3):=ajK (by rw [HD.out,b1,b2,b3,b4,jC (n:=c.gain) (.inr h6)];rfl)
  clear b1 b2 b3 b4
  go_enter Tryz.func49,Tryz.ntmps49
  go_wp2_with fail
  refine (f1 _).mono ?_;rintro e w' ⟨rfl,rfl⟩
  go_wp2_with fail
  refine (f2 _).mono ?_;rintro e w' ⟨rfl,rfl⟩
  go_wp2_with fail
  refine (f3 _).mono ?_;rintro e w' ⟨rfl,rfl⟩
  go_wp2_with fail
  refine (f4 _).mono ?_;rintro e w' ⟨rfl,rfl⟩
  go_wp2
  go_ret
  exact ⟨aL HE.out.symm,ajL⟩
 have HE : Hid (cK c = if c.most < c.least then 10 else 0):=ajK (by rw [HD.out,b1,b2,b3,b4,tZ h5 h6];rfl)
 clear b1 b2 b3 b4
 by_cases hm : c.most < c.least
 ·have HE2 : Hid (cK c = 10):=ajK (by rw [HE.out,if_pos hm])
  go_enter Tryz.func49,Tryz.ntmps49
  go_wp2_with fail
  refine (f1 _).mono ?_;rintro e w' ⟨rfl,rfl⟩
  go_wp2_with fail
  refine (f2 _).mono ?_;rintro e w' ⟨rfl,rfl⟩
  go_wp2_with fail
  refine (f3 _).mono ?_;rintro e w' ⟨rfl,rfl⟩
  go_wp2_with fail
  refine (f4 _).mono ?_;rintro e w' ⟨rfl,rfl⟩
  go_wp2
  go_ret
  exact ⟨aL HE2.out.symm,ajL⟩
 ·have HE2 : Hid (cK c = 0):=ajK (by rw [HE.out,if_neg hm])
  go_enter Tryz.func49,Tryz.ntmps49
  go_wp2_with fail
  refine (f1 _).mono ?_;rintro e w' ⟨rfl,rfl⟩
  go_wp2_with fail
  refine (f2 _).mono ?_;rintro e w' ⟨rfl,rfl⟩
  go_wp2_with fail
  refine (f3 _).mono ?_;rintro e w' ⟨rfl,rfl⟩
  go_wp2_with fail
  refine (f4 _).mono ?_;rintro e w' ⟨rfl,rfl⟩
  go_wp2
  go_ret
  exact ⟨aL HE2.out.symm,ajL⟩
end Go.Proofs.YtklkooeimkedgaaGreat
