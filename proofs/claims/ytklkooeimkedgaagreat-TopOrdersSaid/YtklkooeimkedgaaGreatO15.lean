/- Parts of the walk of TopOrders: Delay2. -/
import Derived.Test.YtklkooeimkedgaaGreatO0
import Derived.Deep.RegionHeld3
import Derived.Lib.SmallJoins
import Derived.Test.YtklkooeimkedgaaGreatO2
import Derived.Test.YtklkooeimkedgaaGreatO14
set_option linter.unusedVariables false
set_option linter.unusedSimpArgs false
namespace Go.Proofs.YtklkooeimkedgaaGreat
open Go.RowKit
def Uu (c : aS) (now ch : Int) : Array Value:=#[.int .i64 c.ring,.int .i64 c.window,.int .i64 c.base,.int .i64 c.gain,.int .i64 c.least,.int .i64 c.most,.int .i64 c.aF,.int .i64 c.num,.int .i64 c.den,.int .i64 c.extra,.bool c.aC,.int .i64 now,.int .i64 ch]
def wZ (w : World) (b : Nat) (c : aS) (now ch : Int) : Prop:=ak w b (Uu c now ch) 190
def YR (c : aS) (w : World) (e : Ending) (w' : World) : Prop :=
 ∃ b,e = .returned (.tuple #[.pointer (some ⟨b,0,none⟩),.int .i64 0]) /\ w.heap.size <= b /\ wZ w' b c (jN c 0) 0 /\ Below w.heap.size w w'
theorem gD {w : World} {b : Nat} {c : aS} {t : TypeId} (h : ak w b #[.int .i64 c.ring,.int .i64 c.window,.int .i64 c.base,.int .i64 c.gain,.int .i64 c.least,.int .i64 c.most,.int .i64 c.aF,.int .i64 c.num,.int .i64 c.den,.int .i64 c.extra,.bool c.aC] t) : w.cell? ⟨b,0,none⟩ = some (.int .i64 c.ring) /\ w.cell? ⟨b,1,none⟩ = some (.int .i64 c.window) /\ w.cell? ⟨b,2,none⟩ = some (.int .i64 c.base) /\ w.cell? ⟨b,3,none⟩ = some (.int .i64 c.gain) /\ w.cell? ⟨b,4,none⟩ = some (.int .i64 c.least) /\ w.cell? ⟨b,5,none⟩ = some (.int .i64 c.most) /\ w.cell? ⟨b,6,none⟩ = some (.int .i64 c.aF) /\ w.cell? ⟨b,7,none⟩ = some (.int .i64 c.num) /\ w.cell? ⟨b,8,none⟩ = some (.int .i64 c.den) /\ w.cell? ⟨b,9,none⟩ = some (.int .i64 c.extra) /\ w.cell? ⟨b,10,none⟩ = some (.bool c.aC) :=
 ⟨h.cell 0,h.cell 1,h.cell 2,h.cell 3,h.cell 4,h.cell 5,h.cell 6,h.cell 7,h.cell 8,h.cell 9,h.cell 10⟩
theorem aed (c : aS) (h0 : fA c ≠ 0) (w : World) :
  Calls Tryz.prog 67 #[bE c] w λe w'=>e = .returned (.tuple #[.pointer none,.int .i64 (fA c)]) /\ Below w.heap.size w w':=by
 have hk:=zJ c
 have h0' : (fA c != 0) = true:=by simpa using h0
 clear h0
 generalize fA c = k at *
 unfold bE at hk ⊢
 go_enter Tryz.func67,Tryz.ntmps67
 go_wp2_with fail
 refine (hk _).mono ?_;rintro e w1 ⟨rfl,hb1⟩
 rw [World.size_alloc] at hb1
 go_wp2
 go_ret2
 exact ⟨rfl,((Below.refl _ _).alloc (Nat.le_refl _) _).trans (hb1.mono (by omega))⟩
set_option maxRecDepth 100000 in
theorem XE (c : aS) (ok : c.Ok) (h0 : fA c = 0) (w : World) :
  Calls Tryz.prog 67 #[bE c] w (YR c w):=by
 have hk:=zJ c
 have tg:=JJ c 0 ok (by unfold aA;omega)
 rw [show wY c 0 = jN c 0 by unfold wY;rw [if_pos h0]] at tg
 rw [h0] at hk
 clear h0
 unfold bE at hk tg ⊢
 go_enter Tryz.func67,Tryz.ntmps67
 go_wp2_with fail
 refine (hk _).mono ?_;rintro e w1 ⟨rfl,hb1⟩
 have B1:=(ak.new w #[.int .i64 c.ring,.int .i64 c.window,.int .i64 c.base,.int .i64 c.gain,.int .i64 c.least,.int .i64 c.most,.int .i64 c.aF,.int .i64 c.num,.int .i64 c.den,.int .i64 c.extra,.bool c.aC] 29).below hb1 (by simp)
 obtain ⟨q0,q1,q2,q3,q4,q5,q6,q7,q8,q9,mP⟩:=gD B1
 have hs1 : w.heap.size < w1.heap.size:=by have:=hb1.size;simp at this;omega
 rw [World.size_alloc] at hb1
 have HB1 : Hid (Below w.heap.size w w1):=ahZ (((Below.refl _ _).alloc (Nat.le_refl _) _).trans (hb1.mono (by omega)))
 clear B1 hb1
 go_wp2_with fail
 go_region_held3 (λw'=>w'.cell? ⟨w.heap.size,0,none⟩ = some (.int .i64 c.ring) /\ w'.cell? ⟨w.heap.size,1,none⟩ = some (.int .i64 c.window) /\ w'.cell? ⟨w.heap.size,2,none⟩ = some (.int .i64 c.base) /\ w'.cell? ⟨w.heap.size,3,none⟩ = some (.int .i64 c.gain) /\ w'.cell? ⟨w.heap.size,4,none⟩ = some (.int .i64 c.least) /\ w'.cell? ⟨w.heap.size,5,none⟩ = some (.int .i64 c.most) /\ w'.cell? ⟨w.heap.size,6,none⟩ = some (.int .i64 c.aF) /\ w'.cell? ⟨w.heap.size,7,none⟩ = some (.int .i64 c.num) /\ w'.cell? ⟨w.heap.size,8,none⟩ = some (.int .i64 c.den) /\ w'.cell? ⟨w.heap.size,9,none⟩ = some (.int .i64 c.extra) /\ w'.cell? ⟨w.heap.size,10,none⟩ = some (.bool c.aC)) (first | go_keep | (refine ⟨?_,?_,?_,?_,?_,?_,?_,?_,?_,?_,?_⟩ <;> (rw [hb2.cell (by simpa using hs1)];assumption))) ((go_at_call 103;refine (tg _).mono ?_;rintro e w2 ⟨rfl,hb2⟩))
 go_wp2
 go_ret2
 have h2 : w1.heap.size <= w2.heap.size:=hb2.size
 exact ⟨w2.heap.size,rfl,by omega,ak.new _ _ _,((HB1.out.drew).trans (hb2.mono (Nat.le_of_lt hs1))).alloc (by omega) _⟩
def AQ (c : aS) (now j : Int) : Int:=if c.aF < max (jN c j - now) (now - jN c j) then jN c j else now
def Gd (c : aS) (now ch j : Int) : Int:=if c.aF < max (jN c j - now) (now - jN c j) then ch + 1 else ch
theorem AU {w : World} {b : Nat} {c : aS} {now ch : Int} (h : wZ w b c now ch) : (w.cell? ⟨b,0,none⟩ = some (.int .i64 c.ring) /\ w.cell? ⟨b,1,none⟩ = some (.int .i64 c.window) /\ w.cell? ⟨b,2,none⟩ = some (.int .i64 c.base) /\ w.cell? ⟨b,3,none⟩ = some (.int .i64 c.gain) /\ w.cell? ⟨b,4,none⟩ = some (.int .i64 c.least) /\ w.cell? ⟨b,5,none⟩ = some (.int .i64 c.most) /\ w.cell? ⟨b,6,none⟩ = some (.int .i64 c.aF) /\ w.cell? ⟨b,7,none⟩ = some (.int .i64 c.num) /\ w.cell? ⟨b,8,none⟩ = some (.int .i64 c.den) /\ w.cell? ⟨b,9,none⟩ = some (.int .i64 c.extra) /\ w.cell? ⟨b,10,none⟩ = some (.bool c.aC)) /\ w.cell? ⟨b,11,none⟩ = some (.int .i64 now) /\ w.cell? ⟨b,12,none⟩ = some (.int .i64 ch) /\ w.frozen? ⟨b,11,none⟩ = false /\ w.frozen? ⟨b,12,none⟩ = false :=
 ⟨⟨h.cell 0,h.cell 1,h.cell 2,h.cell 3,h.cell 4,h.cell 5,h.cell 6,h.cell 7,h.cell 8,h.cell 9,h.cell 10⟩,h.cell 11,h.cell 12,h.free 11,h.free 12⟩
theorem YS (b : Nat) (c : aS) (now ch : Int) (w : World) (h : wZ w b c now ch) :
  Calls Tryz.prog 129 #[.pointer (some ⟨b,0,none⟩)] w λe w'=>e = .returned (.int .i64 now) /\ w = w':=by
 obtain ⟨⟨q0,q1,q2,q3,q4,q5,q6,q7,q8,q9,mP⟩,YT,YU,f11,f12⟩:=AU h
 go_enter Tryz.func129,Tryz.ntmps129
 go_wp2
 go_ret
 exact ⟨rfl,rfl⟩
def xq (c : aS) (now : Int) : Prop:=c.least <= now /\ now <= c.most
theorem Gf {c : aS} (h : fA c = 0) : (0 <= c.base /\ c.base <= 2305843009213693952) /\ (0 <= c.least /\ c.least <= 2305843009213693952) /\ (0 <= c.most /\ c.most <= 2305843009213693952) /\ (0 <= c.aF /\ c.aF <= 2305843009213693952) /\ (0 <= c.gain /\ c.gain <= 68719476736) /\ c.least <= c.most:=by
 unfold fA at h
 split at h
 ·rename_i hh
  simp only [Bool.and_eq_true] at hh
  obtain ⟨⟨⟨⟨a,b⟩,d⟩,e⟩,f⟩:=hh
  have : ¬ c.most < c.least:=λhm=>by rw [if_pos hm] at h;exact absurd h (by decide)
  exact ⟨of_decide_eq_true a,of_decide_eq_true b,of_decide_eq_true d,of_decide_eq_true e,of_decide_eq_true f,by omega⟩
 ·exact absurd h (by decide)
theorem AV {c : aS} (h : fA c = 0) (j : Int) : xq c (jN c j):=by
 obtain ⟨_,_,_,_,_,hl⟩:=Gf h
 unfold xq jN rF;omega
set_option maxRecDepth 100000 in
theorem QA (b : Nat) (c : aS) (now ch j : Int) (w : World) (ok : c.Ok) (h0 : fA c = 0) (hn : xq c now) (hj : aA j) (hc0 : 0 <= ch) (hc1 : ch <= 4611686018427387904) (h : wZ w b c now ch) :
  Calls Tryz.prog 84 #[.pointer (some ⟨b,0,none⟩),.int .i64 j] w λe w'=>e = .returned (.int .i64 (AQ c now j)) /\ wZ w' b c (AQ c now j) (Gd c now ch j) /\ Only (· = b) w w':=by
 have tg:=JJ c j ok hj
 rw [show wY c j = jN c j by unfold wY;rw [if_pos h0]] at tg
 obtain ⟨_,⟨l1,l2⟩,⟨l3,l4⟩,⟨l5,l6⟩,_,_⟩:=Gf h0
 obtain ⟨t1,t2⟩:=AV h0 j
 obtain ⟨n1,n2⟩:=hn
 have HU : Hid (AQ c now j = if c.aF < max (jN c j - now) (now - jN c j) then jN c j else now):=ahZ rfl
 have HN : Hid (Gd c now ch j = if c.aF < max (jN c j - now) (now - jN c j) then ch + 1 else ch):=ahZ rfl
 generalize jN c j = t at *
 obtain ⟨m,hm⟩ : ∃ m,max (t - now) (now - t) = m:=⟨_,rfl⟩
 rw [hm] at HU HN
 have lb:=h.lt
 obtain ⟨⟨q0,q1,q2,q3,q4,q5,q6,q7,q8,q9,mP⟩,YT,YU,f11,f12⟩:=AU h
 have H:=ahZ h
 clear h h0
 unfold bE at tg
 go_enter Tryz.func84,Tryz.ntmps84
 go_wp2_with fail
 refine (tg _).mono ?_;rintro e w1 ⟨rfl,hb1⟩
 have H1 : wZ w1 b c now ch:=H.out.below hb1 lb
 clear q0 q1 q2 q3 q4 q5 q6 q7 q8 q9 mP YT YU f11 f12
 obtain ⟨⟨q0,q1,q2,q3,q4,q5,q6,q7,q8,q9,mP⟩,YT,YU,f11,f12⟩:=AU H1
 have HH:=ahZ H1
 clear H1
 have HB:=ahZ hb1
 clear hb1
 go_wp2_with fail
 go_quiet (fail)
 by_cases hs : c.aF < m
 ·go_wp2
  go_ret
  refine ⟨aQ (by rw [HU.out,if_pos hs]),?_,?_⟩
  ·rw [HU.out,HN.out,if_pos hs,if_pos hs]
   exact ((HH.out.draws _).set 11 _).set 12 _
  ·exact Only.setCell (S:=(· = b)) (p:=⟨b,12,none⟩) (Only.setCell (S:=(· = b)) (p:=⟨b,11,none⟩) ((Only.of_below HB.out).draws _) (.inl rfl) _) (.inl rfl) _
 ·go_wp2
  go_ret
  have hs : ¬ c.aF < m:=by omega
  refine ⟨aQ (by rw [HU.out,if_neg hs]),?_,?_⟩
  ·rw [HU.out,HN.out,if_neg hs,if_neg hs]
   exact HH.out.draws _
  ·exact (Only.of_below HB.out).draws _
theorem Mx {c : aS} (h0 : fA c = 0) {now j : Int} (h : xq c now) : xq c (AQ c now j):=by
 unfold AQ;split
 ·exact AV h0 j
 ·exact h
theorem QB {c : aS} (h0 : fA c = 0) {now : Int} (h : xq c now) : aA now:=by
 obtain ⟨_,⟨l1,l2⟩,⟨l3,l4⟩,_,_,_⟩:=Gf h0
 unfold xq at h;unfold aA;omega
end Go.Proofs.YtklkooeimkedgaaGreat
