/- Walk of TopBeyond. -/
import Derived.Deep.RegionHeld3
import Derived.Lib.SmallJoins
import Derived.Test.YtklkooeimkedgaaGreatB2
import Derived.Test.YtklkooeimkedgaaGreatB23
set_option linter.unusedVariables false
set_option linter.unusedSimpArgs false
namespace Go.Proofs.YtklkooeimkedgaaGreat
open Go.RowKit
def TW (c : aO) (now ch : Int) : Array Value:=#[.int .i64 c.ring,.int .i64 c.window,.int .i64 c.base,.int .i64 c.gain,.int .i64 c.least,.int .i64 c.most,.int .i64 c.aD,.int .i64 c.num,.int .i64 c.den,.int .i64 c.extra,.bool c.aC,.int .i64 now,.int .i64 ch]
def xk (w : World) (b : Nat) (c : aO) (now ch : Int) : Prop:=ak w b (TW c now ch) 190
def YM (c : aO) (w : World) (e : Ending) (w' : World) : Prop :=
 ∃ b,e = .returned (.tuple #[.pointer (some ⟨b,0,none⟩),.int .i64 0]) /\ w.heap.size <= b /\ xk w' b c (jK c 0) 0 /\ Below w.heap.size w w'
theorem eu {w : World} {b : Nat} {c : aO} {t : TypeId} (h : ak w b #[.int .i64 c.ring,.int .i64 c.window,.int .i64 c.base,.int .i64 c.gain,.int .i64 c.least,.int .i64 c.most,.int .i64 c.aD,.int .i64 c.num,.int .i64 c.den,.int .i64 c.extra,.bool c.aC] t) : w.cell? ⟨b,0,none⟩ = some (.int .i64 c.ring) /\ w.cell? ⟨b,1,none⟩ = some (.int .i64 c.window) /\ w.cell? ⟨b,2,none⟩ = some (.int .i64 c.base) /\ w.cell? ⟨b,3,none⟩ = some (.int .i64 c.gain) /\ w.cell? ⟨b,4,none⟩ = some (.int .i64 c.least) /\ w.cell? ⟨b,5,none⟩ = some (.int .i64 c.most) /\ w.cell? ⟨b,6,none⟩ = some (.int .i64 c.aD) /\ w.cell? ⟨b,7,none⟩ = some (.int .i64 c.num) /\ w.cell? ⟨b,8,none⟩ = some (.int .i64 c.den) /\ w.cell? ⟨b,9,none⟩ = some (.int .i64 c.extra) /\ w.cell? ⟨b,10,none⟩ = some (.bool c.aC) :=
 ⟨h.cell 0,h.cell 1,h.cell 2,h.cell 3,h.cell 4,h.cell 5,h.cell 6,h.cell 7,h.cell 8,h.cell 9,h.cell 10⟩
theorem aeD (c : aO) (h0 : fq c ≠ 0) (w : World) :
 Calls Tryz.prog 67 #[aZ c] w λe w'=>e = .returned (.tuple #[.pointer none,.int .i64 (fq c)]) /\ Below w.heap.size w w':=by
 have hk:=zD c
 have h0' : (fq c != 0) = true:=by simpa using h0
 clear h0
 generalize fq c = k at *
 unfold aZ at hk ⊢
 go_enter Tryz.func67,Tryz.ntmps67
 go_wp2_with fail
 refine (hk _).mono ?_;rintro e w1 ⟨rfl,hb1⟩
 rw [World.size_alloc] at hb1
 go_wp2
 go_ret2
 exact ⟨rfl,(aiT).trans (hb1.mono (by omega))⟩
set_option maxRecDepth 100000 in
theorem Xt (c : aO) (ok : c.Ok) (h0 : fq c = 0) (w : World) :
 Calls Tryz.prog 67 #[aZ c] w (YM c w):=by
 have hk:=zD c
 have tg:=Jm c 0 ok (by unfold ay;omega)
 rw [show wZ c 0 = jK c 0 by unfold wZ;rw [if_pos h0]] at tg
 rw [h0] at hk
 clear h0
 unfold aZ at hk tg ⊢
 go_enter Tryz.func67,Tryz.ntmps67
 go_wp2_with fail
 refine (hk _).mono ?_;rintro e w1 ⟨rfl,hb1⟩
 have B1:=(ak.new w #[.int .i64 c.ring,.int .i64 c.window,.int .i64 c.base,.int .i64 c.gain,.int .i64 c.least,.int .i64 c.most,.int .i64 c.aD,.int .i64 c.num,.int .i64 c.den,.int .i64 c.extra,.bool c.aC] 29).below hb1 (by simp)
 obtain ⟨q0,q1,q2,q3,q4,q5,q6,q7,q8,q9,kr⟩:=eu B1
 have hs1 : w.heap.size < w1.heap.size:=by have:=hb1.size;simp at this;omega
 rw [World.size_alloc] at hb1
 have HB1 : Hid (Below w.heap.size w w1):=aiS ((aiT).trans (hb1.mono (by omega)))
 clear B1 hb1
 go_wp2_with fail
 go_region_held3 (λw'=>w'.cell? ⟨w.heap.size,0,none⟩ = some (.int .i64 c.ring) /\ w'.cell? ⟨w.heap.size,1,none⟩ = some (.int .i64 c.window) /\ w'.cell? ⟨w.heap.size,2,none⟩ = some (.int .i64 c.base) /\ w'.cell? ⟨w.heap.size,3,none⟩ = some (.int .i64 c.gain) /\ w'.cell? ⟨w.heap.size,4,none⟩ = some (.int .i64 c.least) /\ w'.cell? ⟨w.heap.size,5,none⟩ = some (.int .i64 c.most) /\ w'.cell? ⟨w.heap.size,6,none⟩ = some (.int .i64 c.aD) /\ w'.cell? ⟨w.heap.size,7,none⟩ = some (.int .i64 c.num) /\ w'.cell? ⟨w.heap.size,8,none⟩ = some (.int .i64 c.den) /\ w'.cell? ⟨w.heap.size,9,none⟩ = some (.int .i64 c.extra) /\ w'.cell? ⟨w.heap.size,10,none⟩ = some (.bool c.aC)) (first | go_keep | (refine ⟨?_,?_,?_,?_,?_,?_,?_,?_,?_,?_,?_⟩ <;> (rw [hb2.cell (by simpa using hs1)];assumption))) ((go_at_call 103;refine (tg _).mono ?_;rintro e w2 ⟨rfl,hb2⟩))
 go_wp2
 go_ret2
 have h2 : w1.heap.size <= w2.heap.size:=hb2.size
 exact ⟨w2.heap.size,rfl,by omega,ak.new _ _ _,((HB1.out.drew).trans (hb2.mono (Nat.le_of_lt hs1))).alloc (by omega) _⟩
def AB (c : aO) (now j : Int) : Int:=if c.aD < max (jK c j - now) (now - jK c j) then jK c j else now
def FU (c : aO) (now ch j : Int) : Int:=if c.aD < max (jK c j - now) (now - jK c j) then ch + 1 else ch
theorem AJ {w : World} {b : Nat} {c : aO} {now ch : Int} (h : xk w b c now ch) : (w.cell? ⟨b,0,none⟩ = some (.int .i64 c.ring) /\ w.cell? ⟨b,1,none⟩ = some (.int .i64 c.window) /\ w.cell? ⟨b,2,none⟩ = some (.int .i64 c.base) /\ w.cell? ⟨b,3,none⟩ = some (.int .i64 c.gain) /\ w.cell? ⟨b,4,none⟩ = some (.int .i64 c.least) /\ w.cell? ⟨b,5,none⟩ = some (.int .i64 c.most) /\ w.cell? ⟨b,6,none⟩ = some (.int .i64 c.aD) /\ w.cell? ⟨b,7,none⟩ = some (.int .i64 c.num) /\ w.cell? ⟨b,8,none⟩ = some (.int .i64 c.den) /\ w.cell? ⟨b,9,none⟩ = some (.int .i64 c.extra) /\ w.cell? ⟨b,10,none⟩ = some (.bool c.aC)) /\ w.cell? ⟨b,11,none⟩ = some (.int .i64 now) /\ w.cell? ⟨b,12,none⟩ = some (.int .i64 ch) /\ w.frozen? ⟨b,11,none⟩ = false /\ w.frozen? ⟨b,12,none⟩ = false :=
 ⟨⟨h.cell 0,h.cell 1,h.cell 2,h.cell 3,h.cell 4,h.cell 5,h.cell 6,h.cell 7,h.cell 8,h.cell 9,h.cell 10⟩,h.cell 11,h.cell 12,h.free 11,h.free 12⟩
theorem YN (b : Nat) (c : aO) (now ch : Int) (w : World) (h : xk w b c now ch) :
 Calls Tryz.prog 129 #[.pointer (some ⟨b,0,none⟩)] w λe w'=>e = .returned (.int .i64 now) /\ w = w':=by
 obtain ⟨⟨q0,q1,q2,q3,q4,q5,q6,q7,q8,q9,kr⟩,YO,YP,f11,f12⟩:=AJ h
 go_enter Tryz.func129,Tryz.ntmps129
 go_wp2
 go_ret
 exact ⟨rfl,rfl⟩
def xq (c : aO) (now : Int) : Prop:=c.least <= now /\ now <= c.most
theorem FV {c : aO} (h : fq c = 0) : (0 <= c.base /\ c.base <= 2305843009213693952) /\ (0 <= c.least /\ c.least <= 2305843009213693952) /\ (0 <= c.most /\ c.most <= 2305843009213693952) /\ (0 <= c.aD /\ c.aD <= 2305843009213693952) /\ (0 <= c.gain /\ c.gain <= 68719476736) /\ c.least <= c.most:=by
 unfold fq at h
 split at h
 ·rename_i hh
  simp only [Bool.and_eq_true] at hh
  obtain ⟨⟨⟨⟨a,b⟩,d⟩,e⟩,f⟩:=hh
  have : ¬ c.most < c.least:=λhm=>by rw [if_pos hm] at h;exact absurd h (by decide)
  exact ⟨of_decide_eq_true a,of_decide_eq_true b,of_decide_eq_true d,of_decide_eq_true e,of_decide_eq_true f,by omega⟩
 ·exact absurd h (by decide)
theorem AO {c : aO} (h : fq c = 0) (j : Int) : xq c (jK c j):=by
 obtain ⟨_,_,_,_,_,hl⟩:=FV h
 unfold xq jK rH;omega
set_option maxRecDepth 100000 in
theorem Qb (b : Nat) (c : aO) (now ch j : Int) (w : World) (ok : c.Ok) (h0 : fq c = 0) (hn : xq c now) (hj : ay j) (hc0 : 0 <= ch) (hc1 : ch <= 4611686018427387904) (h : xk w b c now ch) :
 Calls Tryz.prog 84 #[.pointer (some ⟨b,0,none⟩),.int .i64 j] w λe w'=>e = .returned (.int .i64 (AB c now j)) /\ xk w' b c (AB c now j) (FU c now ch j) /\ Only (· = b) w w':=by
 have tg:=Jm c j ok hj
 rw [show wZ c j = jK c j by unfold wZ;rw [if_pos h0]] at tg
 obtain ⟨_,⟨l1,l2⟩,⟨l3,l4⟩,⟨l5,l6⟩,_,_⟩:=FV h0
 obtain ⟨t1,t2⟩:=AO h0 j
 obtain ⟨n1,n2⟩:=hn
 have HU : Hid (AB c now j = if c.aD < max (jK c j - now) (now - jK c j) then jK c j else now):=aiS rfl
 have HN : Hid (FU c now ch j = if c.aD < max (jK c j - now) (now - jK c j) then ch + 1 else ch):=aiS rfl
 generalize jK c j = t at *
 obtain ⟨m,hm⟩ : ∃ m,max (t - now) (now - t) = m:=⟨_,rfl⟩
 rw [hm] at HU HN
 have lb:=h.lt
 obtain ⟨⟨q0,q1,q2,q3,q4,q5,q6,q7,q8,q9,kr⟩,YO,YP,f11,f12⟩:=AJ h
 have H:=aiS h;clear h h0
 unfold aZ at tg
 go_enter Tryz.func84,Tryz.ntmps84
 go_wp2_with fail
 refine (tg _).mono ?_;rintro e w1 ⟨rfl,hb1⟩
 have H1 : xk w1 b c now ch:=H.out.below hb1 lb
 clear q0 q1 q2 q3 q4 q5 q6 q7 q8 q9 kr YO YP f11 f12
 obtain ⟨⟨q0,q1,q2,q3,q4,q5,q6,q7,q8,q9,kr⟩,YO,YP,f11,f12⟩:=AJ H1
 have HH:=aiS H1;clear H1;have HB:=aiS hb1;clear hb1
 go_wp2_with fail
 go_quiet (fail)
 by_cases hs : c.aD < m
 ·go_wp2
  go_ret
  refine ⟨aR (by rw [HU.out,if_pos hs]),?_,?_⟩
  ·rw [HU.out,HN.out,if_pos hs,if_pos hs]
   exact ((HH.out.draws _).set 11 _).set 12 _
  ·exact Only.setCell (S:=(· = b)) (p:=⟨b,12,none⟩) (Only.setCell (S:=(· = b)) (p:=⟨b,11,none⟩) ((Only.of_below HB.out).draws _) (.inl rfl) _) (.inl rfl) _
 ·go_wp2
  go_ret
  have hs : ¬ c.aD < m:=by omega
  refine ⟨aR (by rw [HU.out,if_neg hs]),?_,?_⟩
  ·rw [HU.out,HN.out,if_neg hs,if_neg hs]
   exact HH.out.draws _
  ·exact (Only.of_below HB.out).draws _
theorem LY {c : aO} (h0 : fq c = 0) {now j : Int} (h : xq c now) : xq c (AB c now j):=by
 unfold AB;split
 ·exact AO h0 j
 ·exact h
theorem Qc {c : aO} (h0 : fq c = 0) {now : Int} (h : xq c now) : ay now:=by
 obtain ⟨_,⟨l1,l2⟩,⟨l3,l4⟩,_,_,_⟩:=FV h0
 unfold xq at h;unfold ay;omega
end Go.Proofs.YtklkooeimkedgaaGreat
