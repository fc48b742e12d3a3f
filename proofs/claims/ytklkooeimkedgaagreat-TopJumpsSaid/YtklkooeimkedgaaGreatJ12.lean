/- Parts of the walk of TopJumps: Delay2. -/
import Derived.Deep.RegionHeld3
import Derived.Lib.SmallJoins
import Derived.Test.YtklkooeimkedgaaGreatJ7
import Derived.Test.YtklkooeimkedgaaGreatJ11
set_option linter.unusedVariables false
set_option linter.unusedSimpArgs false
namespace Go.Proofs.YtklkooeimkedgaaGreat
open Go.RowKit
def delCells (c : Cfg) (now ch : Int) : Array Value:=#[.int .i64 c.ring,.int .i64 c.window,.int .i64 c.base,.int .i64 c.gain,.int .i64 c.least,.int .i64 c.most,.int .i64 c.slack,.int .i64 c.num,.int .i64 c.den,.int .i64 c.extra,.bool c.curved,.int .i64 now,.int .i64 ch]
def DelAt (w : World) (b : Nat) (c : Cfg) (now ch : Int) : Prop:=Blk w b (delCells c now ch) 190
def NewDel (c : Cfg) (w : World) (e : Ending) (w' : World) : Prop :=
 ∃ b,e = .returned (.tuple #[.pointer (some ⟨b,0,none⟩),.int .i64 0]) ∧ w.heap.size ≤ b ∧ DelAt w' b c (targF c 0) 0 ∧ Below w.heap.size w w'
theorem cfg_cells {w : World} {b : Nat} {c : Cfg} {t : TypeId} (h : Blk w b #[.int .i64 c.ring,.int .i64 c.window,.int .i64 c.base,.int .i64 c.gain,.int .i64 c.least,.int .i64 c.most,.int .i64 c.slack,.int .i64 c.num,.int .i64 c.den,.int .i64 c.extra,.bool c.curved] t) : w.cell? ⟨b,0,none⟩ = some (.int .i64 c.ring) ∧ w.cell? ⟨b,1,none⟩ = some (.int .i64 c.window) ∧ w.cell? ⟨b,2,none⟩ = some (.int .i64 c.base) ∧ w.cell? ⟨b,3,none⟩ = some (.int .i64 c.gain) ∧ w.cell? ⟨b,4,none⟩ = some (.int .i64 c.least) ∧ w.cell? ⟨b,5,none⟩ = some (.int .i64 c.most) ∧ w.cell? ⟨b,6,none⟩ = some (.int .i64 c.slack) ∧ w.cell? ⟨b,7,none⟩ = some (.int .i64 c.num) ∧ w.cell? ⟨b,8,none⟩ = some (.int .i64 c.den) ∧ w.cell? ⟨b,9,none⟩ = some (.int .i64 c.extra) ∧ w.cell? ⟨b,10,none⟩ = some (.bool c.curved) :=
 ⟨h.cell 0,h.cell 1,h.cell 2,h.cell 3,h.cell 4,h.cell 5,h.cell 6,h.cell 7,h.cell 8,h.cell 9,h.cell 10⟩
theorem dnew_bad (c : Cfg) (h0 : dchk c ≠ 0) (w : World) :
  Calls Tryz.prog 67 #[cfgV c] w fun e w'=>e = .returned (.tuple #[.pointer none,.int .i64 (dchk c)]) ∧ Below w.heap.size w w':=by
 have hk:=dcheck_f c
 have h0' : (dchk c != 0) = true:=by simpa using h0
 clear h0
 generalize dchk c = k at *
 unfold cfgV at hk ⊢
 go_enter Tryz.func67,Tryz.ntmps67
 go_wp2_with fail
 refine (hk _).mono ?_;rintro e w1 ⟨rfl,hb1⟩
 rw [World.size_alloc] at hb1
 go_wp2
 go_ret2
 exact ⟨rfl,((Below.refl _ _).alloc (Nat.le_refl _) _).trans (hb1.mono (by omega))⟩
set_option maxRecDepth 100000 in
theorem dnew_ok (c : Cfg) (ok : c.Ok) (h0 : dchk c = 0) (w : World) :
  Calls Tryz.prog 67 #[cfgV c] w (NewDel c w):=by
 have hk:=dcheck_f c
 have tg:=target_f c 0 ok (by unfold I64;omega)
 rw [show targA c 0 = targF c 0 by unfold targA;rw [if_pos h0]] at tg
 rw [h0] at hk
 clear h0
 unfold cfgV at hk tg ⊢
 go_enter Tryz.func67,Tryz.ntmps67
 go_wp2_with fail
 refine (hk _).mono ?_;rintro e w1 ⟨rfl,hb1⟩
 have B1:=(Blk.new w #[.int .i64 c.ring,.int .i64 c.window,.int .i64 c.base,.int .i64 c.gain,.int .i64 c.least,.int .i64 c.most,.int .i64 c.slack,.int .i64 c.num,.int .i64 c.den,.int .i64 c.extra,.bool c.curved] 29).below hb1 (by simp)
 obtain ⟨q0,q1,q2,q3,q4,q5,q6,q7,q8,q9,q10⟩:=cfg_cells B1
 have hs1 : w.heap.size < w1.heap.size:=by have:=hb1.size;simp at this;omega
 rw [World.size_alloc] at hb1
 have HB1 : Hid (Below w.heap.size w w1):=Lib.hid (((Below.refl _ _).alloc (Nat.le_refl _) _).trans (hb1.mono (by omega)))
 clear B1 hb1
 go_wp2_with fail
 go_region_held3 (fun w'=>w'.cell? ⟨w.heap.size,0,none⟩ = some (.int .i64 c.ring) ∧ w'.cell? ⟨w.heap.size,1,none⟩ = some (.int .i64 c.window) ∧ w'.cell? ⟨w.heap.size,2,none⟩ = some (.int .i64 c.base) ∧ w'.cell? ⟨w.heap.size,3,none⟩ = some (.int .i64 c.gain) ∧ w'.cell? ⟨w.heap.size,4,none⟩ = some (.int .i64 c.least) ∧ w'.cell? ⟨w.heap.size,5,none⟩ = some (.int .i64 c.most) ∧ w'.cell? ⟨w.heap.size,6,none⟩ = some (.int .i64 c.slack) ∧ w'.cell? ⟨w.heap.size,7,none⟩ = some (.int .i64 c.num) ∧ w'.cell? ⟨w.heap.size,8,none⟩ = some (.int .i64 c.den) ∧ w'.cell? ⟨w.heap.size,9,none⟩ = some (.int .i64 c.extra) ∧ w'.cell? ⟨w.heap.size,10,none⟩ = some (.bool c.curved)) (first | go_keep | (refine ⟨?_,?_,?_,?_,?_,?_,?_,?_,?_,?_,?_⟩ <;> (rw [hb2.cell (by simpa using hs1)];assumption))) ((go_at_call 103;refine (tg _).mono ?_;rintro e w2 ⟨rfl,hb2⟩))
 go_wp2
 go_ret2
 have h2 : w1.heap.size ≤ w2.heap.size:=hb2.size
 exact ⟨w2.heap.size,rfl,by omega,Blk.new _ _ _,((HB1.out.drew).trans (hb2.mono (Nat.le_of_lt hs1))).alloc (by omega) _⟩
def updF (c : Cfg) (now j : Int) : Int:=if c.slack < max (targF c j - now) (now - targF c j) then targF c j else now
def updN (c : Cfg) (now ch j : Int) : Int:=if c.slack < max (targF c j - now) (now - targF c j) then ch + 1 else ch
theorem del_cells {w : World} {b : Nat} {c : Cfg} {now ch : Int} (h : DelAt w b c now ch) : (w.cell? ⟨b,0,none⟩ = some (.int .i64 c.ring) ∧ w.cell? ⟨b,1,none⟩ = some (.int .i64 c.window) ∧ w.cell? ⟨b,2,none⟩ = some (.int .i64 c.base) ∧ w.cell? ⟨b,3,none⟩ = some (.int .i64 c.gain) ∧ w.cell? ⟨b,4,none⟩ = some (.int .i64 c.least) ∧ w.cell? ⟨b,5,none⟩ = some (.int .i64 c.most) ∧ w.cell? ⟨b,6,none⟩ = some (.int .i64 c.slack) ∧ w.cell? ⟨b,7,none⟩ = some (.int .i64 c.num) ∧ w.cell? ⟨b,8,none⟩ = some (.int .i64 c.den) ∧ w.cell? ⟨b,9,none⟩ = some (.int .i64 c.extra) ∧ w.cell? ⟨b,10,none⟩ = some (.bool c.curved)) ∧ w.cell? ⟨b,11,none⟩ = some (.int .i64 now) ∧ w.cell? ⟨b,12,none⟩ = some (.int .i64 ch) ∧ w.frozen? ⟨b,11,none⟩ = false ∧ w.frozen? ⟨b,12,none⟩ = false :=
 ⟨⟨h.cell 0,h.cell 1,h.cell 2,h.cell 3,h.cell 4,h.cell 5,h.cell 6,h.cell 7,h.cell 8,h.cell 9,h.cell 10⟩,h.cell 11,h.cell 12,h.free 11,h.free 12⟩
theorem dnow_f (b : Nat) (c : Cfg) (now ch : Int) (w : World) (h : DelAt w b c now ch) :
  Calls Tryz.prog 129 #[.pointer (some ⟨b,0,none⟩)] w fun e w'=>e = .returned (.int .i64 now) ∧ w = w':=by
 obtain ⟨⟨q0,q1,q2,q3,q4,q5,q6,q7,q8,q9,q10⟩,q11,q12,f11,f12⟩:=del_cells h
 go_enter Tryz.func129,Tryz.ntmps129
 go_wp2
 go_ret
 exact ⟨rfl,rfl⟩
def InLim (c : Cfg) (now : Int) : Prop:=c.least ≤ now ∧ now ≤ c.most
theorem dchk_ok {c : Cfg} (h : dchk c = 0) : (0 ≤ c.base ∧ c.base ≤ 2305843009213693952) ∧ (0 ≤ c.least ∧ c.least ≤ 2305843009213693952) ∧ (0 ≤ c.most ∧ c.most ≤ 2305843009213693952) ∧ (0 ≤ c.slack ∧ c.slack ≤ 2305843009213693952) ∧ (0 ≤ c.gain ∧ c.gain ≤ 68719476736) ∧ c.least ≤ c.most:=by
 unfold dchk at h
 split at h
 ·rename_i hh
  simp only [Bool.and_eq_true] at hh
  obtain ⟨⟨⟨⟨a,b⟩,d⟩,e⟩,f⟩:=hh
  have : ¬ c.most < c.least:=fun hm=>by rw [if_pos hm] at h;exact absurd h (by decide)
  exact ⟨of_decide_eq_true a,of_decide_eq_true b,of_decide_eq_true d,of_decide_eq_true e,of_decide_eq_true f,by omega⟩
 ·exact absurd h (by decide)
theorem targF_lim {c : Cfg} (h : dchk c = 0) (j : Int) : InLim c (targF c j):=by
 obtain ⟨_,_,_,_,_,hl⟩:=dchk_ok h
 unfold InLim targF clampF;omega
set_option maxRecDepth 100000 in
theorem dupdate_f (b : Nat) (c : Cfg) (now ch j : Int) (w : World) (ok : c.Ok) (h0 : dchk c = 0) (hn : InLim c now) (hj : I64 j) (hc0 : 0 ≤ ch) (hc1 : ch ≤ 4611686018427387904) (h : DelAt w b c now ch) :
  Calls Tryz.prog 84 #[.pointer (some ⟨b,0,none⟩),.int .i64 j] w fun e w'=>e = .returned (.int .i64 (updF c now j)) ∧ DelAt w' b c (updF c now j) (updN c now ch j) ∧ Only (· = b) w w':=by
 have tg:=target_f c j ok hj
 rw [show targA c j = targF c j by unfold targA;rw [if_pos h0]] at tg
 obtain ⟨_,⟨l1,l2⟩,⟨l3,l4⟩,⟨l5,l6⟩,_,_⟩:=dchk_ok h0
 obtain ⟨t1,t2⟩:=targF_lim h0 j
 obtain ⟨n1,n2⟩:=hn
 have HU : Hid (updF c now j = if c.slack < max (targF c j - now) (now - targF c j) then targF c j else now):=Lib.hid rfl
 have HN : Hid (updN c now ch j = if c.slack < max (targF c j - now) (now - targF c j) then ch + 1 else ch):=Lib.hid rfl
 generalize targF c j = t at *
 obtain ⟨m,hm⟩ : ∃ m,max (t - now) (now - t) = m:=⟨_,rfl⟩
 rw [hm] at HU HN
 have lb:=h.lt
 obtain ⟨⟨q0,q1,q2,q3,q4,q5,q6,q7,q8,q9,q10⟩,q11,q12,f11,f12⟩:=del_cells h
 have H:=Lib.hid h
 clear h h0
 unfold cfgV at tg
 go_enter Tryz.func84,Tryz.ntmps84
 go_wp2_with fail
 refine (tg _).mono ?_;rintro e w1 ⟨rfl,hb1⟩
 have H1 : DelAt w1 b c now ch:=H.out.below hb1 lb
 clear q0 q1 q2 q3 q4 q5 q6 q7 q8 q9 q10 q11 q12 f11 f12
 obtain ⟨⟨q0,q1,q2,q3,q4,q5,q6,q7,q8,q9,q10⟩,q11,q12,f11,f12⟩:=del_cells H1
 have HH:=Lib.hid H1
 clear H1
 have HB:=Lib.hid hb1
 clear hb1
 go_wp2_with fail
 go_quiet (fail)
 by_cases hs : c.slack < m
 ·go_wp2
  go_ret
  refine ⟨ret_int (by rw [HU.out,if_pos hs]),?_,?_⟩
  ·rw [HU.out,HN.out,if_pos hs,if_pos hs]
   exact ((HH.out.draws _).set 11 _).set 12 _
  ·exact Only.setCell (S:=(· = b)) (p:=⟨b,12,none⟩) (Only.setCell (S:=(· = b)) (p:=⟨b,11,none⟩) ((Only.of_below HB.out).draws _) (.inl rfl) _) (.inl rfl) _
 ·go_wp2
  go_ret
  have hs : ¬ c.slack < m:=by omega
  refine ⟨ret_int (by rw [HU.out,if_neg hs]),?_,?_⟩
  ·rw [HU.out,HN.out,if_neg hs,if_neg hs]
   exact HH.out.draws _
  ·exact (Only.of_below HB.out).draws _
theorem upd_lim {c : Cfg} (h0 : dchk c = 0) {now j : Int} (h : InLim c now) : InLim c (updF c now j):=by
 unfold updF;split
 ·exact targF_lim h0 j
 ·exact h
theorem inlim_i64 {c : Cfg} (h0 : dchk c = 0) {now : Int} (h : InLim c now) : I64 now:=by
 obtain ⟨_,⟨l1,l2⟩,⟨l3,l4⟩,_,_,_⟩:=dchk_ok h0
 unfold InLim at h;unfold I64;omega
end Go.Proofs.YtklkooeimkedgaaGreat
