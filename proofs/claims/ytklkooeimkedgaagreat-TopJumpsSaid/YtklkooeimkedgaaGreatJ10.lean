/- Parts of the walk of TopJumps: Slew. -/
import Derived.BigQuiet
import Derived.BigRegion
import Derived.Deep.QuietTactic
import Derived.Deep.RegionWith
import Derived.RegionTactic
import Derived.Test.YtklkooeimkedgaaGreatJ2
import Derived.Test.YtklkooeimkedgaaGreatJ5
import Derived.Test.YtklkooeimkedgaaGreatJ7
import Derived.Test.YtklkooeimkedgaaGreatJ9
set_option linter.unusedVariables false
set_option linter.unusedSimpArgs false
namespace Go.Proofs.YtklkooeimkedgaaGreat
open Go.RowKit
def ratioB (num den : Int) : Bool:=decide (1 ≤ num ∧ num ≤ 1048576 ∧ 1 ≤ den ∧ den ≤ 1048576)
def chkR (num den : Int) : Int:=if ratioB num den then 0 else 3
def roomF (adv num den : Int) : Int:=min (max 0 adv * num / den) 9223372036854775806 + 1
def toF (at0 last reading want num den : Int) : Int:=max at0 (min want (addF at0 (roomF (subF (max reading last) last) num den)))
theorem ratioB_iff {num den : Int} : ratioB num den = true ↔ (1 ≤ num ∧ num ≤ 1048576 ∧ 1 ≤ den ∧ den ≤ 1048576):=by
 unfold ratioB;exact decide_eq_true_iff
theorem roomF_bounds {adv num den : Int} (hn : 0 ≤ num) (hd : 0 < den) : 1 ≤ roomF adv num den ∧ roomF adv num den ≤ 9223372036854775807:=by
 have : 0 ≤ max 0 adv * num / den:=Int.ediv_nonneg (Int.mul_nonneg (by omega) hn) (by omega)
 unfold roomF;omega
theorem toF_i64 {at0 last reading want num den : Int} (ha : I64 at0) (hw : I64 want) : I64 (toF at0 last reading want num den):=by
 have:=addF_i64 at0 (roomF (subF (max reading last) last) num den)
 unfold I64 at *;unfold toF;omega
theorem qsameS {P : Program} {f : FuncId} {args : Array Value} {w : World} {n : Nat} {v : Value}
  (h : Calls P f args (w.drewN n) fun e w'=>e = .returned v ∧ w.drewN n = w') : Calls P f args (w.drewN n) fun e w''=>e = .returned v ∧ ∃ m,w'' = w.drewN m :=
 h.mono fun _ _ ⟨he,hm⟩=>⟨he,n,hm.symm⟩
theorem scheck_f (num den : Int) (w : World) :
  Calls Tryz.prog 102 #[.int .i64 num,.int .i64 den] w fun e w'=>e = .returned (.int .i64 (chkR num den)) ∧ w = w':=by
 by_cases h : 1 ≤ num ∧ num ≤ 1048576 ∧ 1 ≤ den ∧ den ≤ 1048576
 ·have HE : Hid (chkR num den = 0):=Lib.hid (by unfold chkR;rw [if_pos (ratioB_iff.2 h)])
  obtain ⟨h1,h2,h3,h4⟩:=h
  have g1 : ¬ min num den < 1:=by omega
  have g2 : ¬ 1048576 < max num den:=by omega
  go_enter Tryz.func102,Tryz.ntmps102
  go_wp2
  all_goals first
   | (go_ret;exact ⟨ret_int HE.out.symm,rfl⟩)
   | (exfalso;omega)
 ·have HE : Hid (chkR num den = 3):=Lib.hid (by unfold chkR;rw [if_neg (fun k=>h (ratioB_iff.1 k))])
  have g : min num den < 1 ∨ 1048576 < max num den:=by omega
  clear h
  go_enter Tryz.func102,Tryz.ntmps102
  go_wp2
  all_goals first
   | (go_ret;exact ⟨ret_int HE.out.symm,rfl⟩)
   | (exfalso;omega)
theorem room_bad (adv num den : Int) (h : ratioB num den = false) (w : World) :
  Calls Tryz.prog 101 #[.int .i64 adv,.int .i64 num,.int .i64 den] w fun e w'=>e = .returned (.tuple #[.int .i64 0,.int .i64 3]) ∧ w = w':=by
 have c:=scheck_f num den
 rw [show chkR num den = 3 by unfold chkR;rw [h];rfl] at c
 go_enter Tryz.func101,Tryz.ntmps101
 go_wp2_with fail
 refine (c _).mono ?_;rintro e w' ⟨rfl,rfl⟩
 go_wp2
 go_ret2
 exact ⟨rfl,rfl⟩
theorem room_f (adv num den : Int) (ha : I64 adv) (h : ratioB num den = true) (w : World) :
  Calls Tryz.prog 101 #[.int .i64 adv,.int .i64 num,.int .i64 den] w fun e w'=>e = .returned (.tuple #[.int .i64 (roomF adv num den),.int .i64 0]) ∧ ∃ k,w' = w.drewN k:=by
 have c:=scheck_f num den
 rw [show chkR num den = 0 by unfold chkR;rw [h];rfl] at c
 obtain ⟨n1,n2,d1,d2⟩:=ratioB_iff.1 h
 obtain ⟨a1,a2⟩:=ha
 clear h
 have HR : Hid (roomF adv num den = min (max 0 adv * num / den) 9223372036854775806 + 1):=Lib.hid rfl
 generalize roomF adv num den = r at *
 obtain ⟨m,hm⟩ : ∃ m,max 0 adv = m:=⟨_,rfl⟩
 have m1 : 0 ≤ m:=by omega
 have m2 : m ≤ 9223372036854775807:=by omega
 have hu : IntKind.u64.wrap m = m:=by rw [IntKind.wrap_u64];omega
 have hu2 : IntKind.u64.wrap num = num:=by rw [IntKind.wrap_u64];omega
 have hu3 : IntKind.u64.wrap den = den:=by rw [IntKind.wrap_u64];omega
 have mm:=mul64_f m num ⟨m1,by omega⟩ ⟨by omega,by omega⟩
 rw [hm] at HR
 obtain ⟨P,hP⟩ : ∃ P,m * num = P:=⟨_,rfl⟩
 rw [hP] at mm HR
 have p0 : 0 ≤ P:=by rw [← hP];exact Int.mul_nonneg m1 (by omega)
 have dv:=fun (h : P / 18446744073709551616 < den)=>div64_f (P / 18446744073709551616) (P % 18446744073709551616) den (by omega) h (by omega) (by omega) (by omega)
 rw [show P / 18446744073709551616 * 18446744073709551616 + P % 18446744073709551616 = P by omega] at dv
 have HG : Hid (¬ P / 18446744073709551616 < den → r = 9223372036854775807):=by
  refine Lib.hid fun hh=>?_
  have h1 : den * 18446744073709551616 ≤ P:=by omega
  have h2 : (18446744073709551616 : Int) ≤ P / den:=(Int.le_ediv_iff_mul_le (by omega)).2 (by rw [Int.mul_comm];exact h1)
  rw [HR.out];omega
 have HQ : Hid (0 ≤ P / den):=Lib.hid (Int.ediv_nonneg p0 (by omega))
 obtain ⟨q,hq⟩ : ∃ q,P / den = q:=⟨_,rfl⟩
 rw [hq] at HR HQ dv
 have hw : wrap64 (min q 9223372036854775806) = min q 9223372036854775806:=by
  have:=HQ.out
  unfold wrap64;omega
 have hw2 : wrap64 (min q 9223372036854775806 + 1) = min q 9223372036854775806 + 1:=by
  have:=HQ.out
  unfold wrap64;omega
 clear hP hq a1 a2
 go_enter Tryz.func101,Tryz.ntmps101
 go_wp2_with fail
 refine (c _).mono ?_;rintro e w' ⟨rfl,rfl⟩
 go_wp2_with fail
 refine (mm _).mono ?_;rintro e w' ⟨rfl,rfl⟩
 by_cases hc : P / 18446744073709551616 < den
 ·have dv:=dv hc
  go_wp2_with fail
  refine (dv _).mono ?_;rintro e w' ⟨rfl,k,rfl⟩
  go_wp2
  go_ret2
  exact ⟨ret2_int (hw2.trans HR.out.symm) rfl,k,rfl⟩
 ·have hc' : den ≤ P / 18446744073709551616:=by omega
  have hr:=HG.out (by omega)
  subst hr
  go_wp2
  go_ret2
  exact ⟨rfl,0,rfl⟩
abbrev ClkAt (w : World) (b : Nat) (num den at0 last st : Int) : Prop:=Blk w b #[.int .i64 num,.int .i64 den,.int .i64 at0,.int .i64 last,.int .i64 st] 187
theorem snew_ok (num den : Int) (h : ratioB num den = true) (w : World) :
  Calls Tryz.prog 66 #[.int .i64 num,.int .i64 den] w fun e w'=>e = .returned (.tuple #[.pointer (some ⟨w.heap.size,0,none⟩),.int .i64 0]) ∧ w' = w.alloc (.cells #[.int .i64 num,.int .i64 den,.int .i64 0,.int .i64 0,.int .i64 0] 187):=by
 have c:=scheck_f num den
 rw [show chkR num den = 0 by unfold chkR;rw [h];rfl] at c
 go_enter Tryz.func66,Tryz.ntmps66
 go_wp2_with fail
 refine (c _).mono ?_;rintro e w' ⟨rfl,rfl⟩
 go_wp2
 go_ret2
 exact ⟨rfl,rfl⟩
set_option maxRecDepth 4000 in
set_option maxHeartbeats 1000000 in
theorem sto_next (b : Nat) (num den at0 last reading want : Int) (hr : ratioB num den = true) (ha : I64 at0) (hl : I64 last) (h1 : I64 reading) (h2 : I64 want) (w : World) (h : ClkAt w b num den at0 last 1) :
  Calls Tryz.prog 87 #[.pointer (some ⟨b,0,none⟩),.int .i64 reading,.int .i64 want] w fun e w' =>
   e = .returned (.tuple #[.int .i64 (toF at0 last reading want num den),.int .i64 0]) ∧ ClkAt w' b num den (toF at0 last reading want num den) (max last reading) 1 ∧ Only (· = b) w w':=by
 have q0:=h.cell 0;have q1:=h.cell 1;have q2:=h.cell 2;have q3:=h.cell 3;have q4:=h.cell 4
 have f2:=h.free 2;have f3:=h.free 3;have f4:=h.free 4
 simp at q0 q1 q2 q3 q4 f2 f3 f4
 have im : I64 (max reading last):=by unfold I64 at *;omega
 have s1:=sub_f (max reading last) last im hl
 have r1:=room_f (subF (max reading last) last) num den (subF_i64 _ _) hr
 have rb : 1 ≤ roomF (subF (max reading last) last) num den ∧ _:=roomF_bounds (by have:=ratioB_iff.1 hr;omega) (by have:=ratioB_iff.1 hr;omega)
 have a1:=add_f at0 (roomF (subF (max reading last) last) num den) ha ⟨by omega,rb.2⟩
 have HT : Hid (max at0 (min want (addF at0 (roomF (subF (max reading last) last) num den))) = toF at0 last reading want num den):=Lib.hid rfl
 generalize toF at0 last reading want num den = t at *
 generalize roomF (subF (max reading last) last) num den = rm at *
 generalize subF (max reading last) last = sb at *
 generalize addF at0 rm = ad at *
 have H:=Lib.hid h
 clear h ha hl h1 h2 im rb hr
 go_enter Tryz.func87,Tryz.ntmps87
 go_wp2_with fail
 go_quiet (first | (go_at_call 27;exact qsameS (s1 _)) | (go_at_call 101;exact Calls.quiet_of (r1 _)))
 go_wp2_with fail
 (refine wp_region_tail 16 (by kernel_rfl) (by kernel_rfl) ?_;simp only [List.take_succ_cons,List.take_zero,List.drop_succ_cons,List.drop_zero];(repeat still_step);(try refine wpStill_nil ?_))
 (still_call (still_of (a1 _));(repeat still_step);(try refine wpStill_nil ?_))
 go_wp2
 go_ret2
 have B2:=(((H.out.draws nq).set 4 (.int .i64 1)).set 3 (.int .i64 (max last reading))).set 2 (.int .i64 (max at0 (min want ad)))
 rw [HT.out] at B2
 refine ⟨?_,?_,?_⟩
 ·rw [← HT.out];rfl
 ·rw [HT.out];exact B2.draws 1
 ·exact (((((Only.refl (· = b) w).draws nq).setCell (.inl rfl) _).setCell (.inl rfl) _).setCell (.inl rfl) _).draws 1
theorem to_first_F {want : Int} (hw : I64 want) : max want (min want (addF want 1)) = want:=by
 unfold I64 at hw;unfold addF sat;omega
theorem roomF_zero {num den : Int} (h : ratioB num den = true) : roomF 0 num den = 1:=by
 unfold roomF;simp <;> omega
set_option maxRecDepth 4000 in
set_option maxHeartbeats 1000000 in
theorem sto_first (b : Nat) (num den at0 last reading want : Int) (hr : ratioB num den = true) (h1 : I64 reading) (h2 : I64 want) (w : World) (h : ClkAt w b num den at0 last 0) :
  Calls Tryz.prog 87 #[.pointer (some ⟨b,0,none⟩),.int .i64 reading,.int .i64 want] w fun e w' =>
   e = .returned (.tuple #[.int .i64 want,.int .i64 0]) ∧ ClkAt w' b num den want reading 1 ∧ Only (· = b) w w':=by
 have q0:=h.cell 0;have q1:=h.cell 1;have q2:=h.cell 2;have q3:=h.cell 3;have q4:=h.cell 4
 have f2:=h.free 2;have f3:=h.free 3;have f4:=h.free 4
 simp at q0 q1 q2 q3 q4 f2 f3 f4
 have s1:=sub_f reading reading h1 h1
 rw [subF_self] at s1
 have r1:=room_f 0 num den ⟨by omega,by omega⟩ hr
 rw [roomF_zero hr] at r1
 have a1:=add_f want 1 h2 ⟨by omega,by omega⟩
 have HT:=Lib.hid (to_first_F h2)
 generalize addF want 1 = ad at *
 have H:=Lib.hid h
 have hm : max reading reading = reading:=by omega
 clear h h1 h2 hr
 go_enter Tryz.func87,Tryz.ntmps87
 go_wp2_with fail
 go_quiet (first | (go_at_call 27;exact qsameS (s1 _)) | (go_at_call 101;exact Calls.quiet_of (r1 _)))
 go_wp2_with fail
 (refine wp_region_tail 16 (by kernel_rfl) (by kernel_rfl) ?_;simp only [List.take_succ_cons,List.take_zero,List.drop_succ_cons,List.drop_zero];(repeat still_step);(try refine wpStill_nil ?_))
 (still_call (still_of (a1 _));(repeat still_step);(try refine wpStill_nil ?_))
 go_wp2
 go_ret2
 have B2:=(((((H.out.set 2 (.int .i64 want)).set 3 (.int .i64 reading)).draws nq).set 4 (.int .i64 1)).set 3 (.int .i64 reading)).set 2 (.int .i64 (max want (min want ad)))
 rw [HT.out] at B2
 refine ⟨?_,?_,?_⟩
 ·rw [HT.out];rfl
 ·rw [HT.out];exact B2.draws 1
 ·exact (((((((Only.refl (· = b) w).setCell (.inl rfl) _).setCell (.inl rfl) _).draws nq).setCell (.inl rfl) _).setCell (.inl rfl) _).setCell (.inl rfl) _).draws 1
end Go.Proofs.YtklkooeimkedgaaGreat
