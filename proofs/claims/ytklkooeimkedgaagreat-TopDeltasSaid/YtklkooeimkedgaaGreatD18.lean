/- Walk of TopDeltas. -/
import Derived.BigQuiet
import Derived.BigRegion
import Derived.Deep.QuietTactic
import Derived.Deep.RegionWith
import Derived.RegionTactic
import Derived.Test.YtklkooeimkedgaaGreatD2
import Derived.Test.YtklkooeimkedgaaGreatD6
import Derived.Test.YtklkooeimkedgaaGreatD8
set_option linter.unusedVariables false
set_option linter.unusedSimpArgs false
namespace Go.Proofs.YtklkooeimkedgaaGreat
open Go.RowKit
def iJ (num den : Int) : Bool:=decide (1 <= num /\ num <= 1048576 /\ 1 <= den /\ den <= 1048576)
def wH (num den : Int) : Int:=if iJ num den then 0 else 3
def oH (wI num den : Int) : Int:=min (max 0 wI * num / den) 9223372036854775806 + 1
def Iq (au last reading want num den : Int) : Int:=max au (min want (bJ au (oH (aQ (max reading last) last) num den)))
theorem nH {num den : Int} : iJ num den = true ↔ (1 <= num /\ num <= 1048576 /\ 1 <= den /\ den <= 1048576):=by
 unfold iJ;exact decide_eq_true_iff
theorem Kg {wI num den : Int} (hn : 0 <= num) (hd : 0 < den) : 1 <= oH wI num den /\ oH wI num den <= 9223372036854775807:=by
 have : 0 <= max 0 wI * num / den:=Int.ediv_nonneg (Int.mul_nonneg (by omega) hn) (by omega)
 unfold oH;omega
theorem Yx {au last reading want num den : Int} (ha : aA au) (hw : aA want) : aA (Iq au last reading want num den):=by
 have:=El au (oH (aQ (max reading last) last) num den)
 unfold aA at *;unfold Iq;omega
theorem Rh {P : Program} {f : FuncId} {args : Array Value} {w : World} {n : Nat} {v : Value}
 (h : Calls P f args (w.drewN n) λe w'=>e = .returned v /\ w.drewN n = w') : Calls P f args (w.drewN n) λe w''=>e = .returned v /\ ∃ m,w'' = w.drewN m :=
 h.mono λ_ _ ⟨he,hm⟩=>⟨he,n,hm.symm⟩
theorem Ep (num den : Int) (w : World) :
 Calls Tryz.prog 102 #[.int .i64 num,.int .i64 den] w λe w'=>e = .returned (.int .i64 (wH num den)) /\ w = w':=by
 by_cases h : 1 <= num /\ num <= 1048576 /\ 1 <= den /\ den <= 1048576
 ·have HE : Hid (wH num den = 0):=ajK (by unfold wH;rw [if_pos (nH.2 h)])
  obtain ⟨h1,h2,h3,h4⟩:=h
  have g1 : ¬ min num den < 1:=by omega
  have g2 : ¬ 1048576 < max num den:=by omega
  go_enter Tryz.func102,Tryz.ntmps102
  go_wp2
  all_goals first
   | (go_ret;exact ⟨aL HE.out.symm,rfl⟩)
   | (exfalso;omega)
 ·have HE : Hid (wH num den = 3):=ajK (by unfold wH;rw [if_neg (λk=>h (nH.1 k))])
  have g : min num den < 1 \/ 1048576 < max num den:=by omega
  clear h
  go_enter Tryz.func102,Tryz.ntmps102
  go_wp2
  all_goals first
   | (go_ret;exact ⟨aL HE.out.symm,rfl⟩)
   | (exfalso;omega)
theorem Vi (wI num den : Int) (h : iJ num den = false) (w : World) :
 Calls Tryz.prog 101 #[.int .i64 wI,.int .i64 num,.int .i64 den] w λe w'=>e = .returned (.tuple #[.int .i64 0,.int .i64 3]) /\ w = w':=by
 have c:=Ep num den
 rw [show wH num den = 3 by unfold wH;rw [h];rfl] at c
 go_enter Tryz.func101,Tryz.ntmps101
 go_wp2_with fail
 refine (c _).mono ?_;rintro e w' ⟨rfl,rfl⟩
 go_wp2
 go_ret2
 exact ⟨rfl,rfl⟩
theorem Kh (wI num den : Int) (ha : aA wI) (h : iJ num den = true) (w : World) :
 Calls Tryz.prog 101 #[.int .i64 wI,.int .i64 num,.int .i64 den] w λe w'=>e = .returned (.tuple #[.int .i64 (oH wI num den),.int .i64 0]) /\ ∃ k,w' = w.drewN k:=by
 have c:=Ep num den
 rw [show wH num den = 0 by unfold wH;rw [h];rfl] at c
 obtain ⟨n1,n2,d1,d2⟩:=nH.1 h
 obtain ⟨a1,a2⟩:=ha
 clear h
 have HR : Hid (oH wI num den = min (max 0 wI * num / den) 9223372036854775806 + 1):=ajK rfl
 generalize oH wI num den = r at *
 obtain ⟨m,hm⟩ : ∃ m,max 0 wI = m:=⟨_,rfl⟩
 have m1 : 0 <= m:=by omega
 have m2 : m <= 9223372036854775807:=by omega
 have hu : IntKind.u64.wrap m = m:=by rw [IntKind.wrap_u64];omega
 have hu2 : IntKind.u64.wrap num = num:=by rw [IntKind.wrap_u64];omega
 have hu3 : IntKind.u64.wrap den = den:=by rw [IntKind.wrap_u64];omega
 have mm:=Gx m num ⟨m1,by omega⟩ ⟨by omega,by omega⟩
 rw [hm] at HR
 obtain ⟨P,hP⟩ : ∃ P,m * num = P:=⟨_,rfl⟩
 rw [hP] at mm HR
 have p0 : 0 <= P:=by rw [← hP];exact Int.mul_nonneg m1 (by omega)
 have dv:=λ(h : P / 18446744073709551616 < den)=>Ni (P / 18446744073709551616) (P % 18446744073709551616) den (by omega) h (by omega) (by omega) (by omega)
 rw [show P / 18446744073709551616 * 18446744073709551616 + P % 18446744073709551616 = P by omega] at dv
 have HG : Hid (¬ P / 18446744073709551616 < den -> r = 9223372036854775807):=by
  refine ajK λhh=>?_
  have h1 : den * 18446744073709551616 <= P:=by omega
  have h2 : (18446744073709551616 : Int) <= P / den:=(Int.le_ediv_iff_mul_le (by omega)).2 (by rw [Int.mul_comm];exact h1)
  rw [HR.out];omega
 have HQ : Hid (0 <= P / den):=ajK (Int.ediv_nonneg p0 (by omega))
 obtain ⟨q,hq⟩ : ∃ q,P / den = q:=⟨_,rfl⟩
 rw [hq] at HR HQ dv
 have hw : wrap64 (min q 9223372036854775806) = min q 9223372036854775806:=by
  have:=HQ.out
  unfold wrap64;omega
 have hw2 : wrap64 (min q 9223372036854775806 + 1) = min q 9223372036854775806 + 1:=by
  have:=HQ.out
  unfold wrap64;omega
 clear hP hq a1 a2
 go_enter Tryz.func101,Tryz.ntmps101
 go_wp2_with fail
 refine (c _).mono ?_;rintro e w' ⟨rfl,rfl⟩
 go_wp2_with fail
 refine (mm _).mono ?_;rintro e w' ⟨rfl,rfl⟩
 by_cases hc : P / 18446744073709551616 < den
 ·have dv:=dv hc
  go_wp2_with fail
  refine (dv _).mono ?_;rintro e w' ⟨rfl,k,rfl⟩
  go_wp2
  go_ret2
  exact ⟨zU (hw2.trans HR.out.symm) rfl,k,rfl⟩
 ·have hc' : den <= P / 18446744073709551616:=by omega
  have hr:=HG.out (by omega)
  subst hr
  go_wp2
  go_ret2
  exact ⟨rfl,0,rfl⟩
abbrev Dh (w : World) (b : Nat) (num den au last st : Int) : Prop:=ak w b #[.int .i64 num,.int .i64 den,.int .i64 au,.int .i64 last,.int .i64 st] 187
theorem Yy (num den : Int) (h : iJ num den = true) (w : World) :
 Calls Tryz.prog 66 #[.int .i64 num,.int .i64 den] w λe w'=>e = .returned (.tuple #[.pointer (some ⟨w.heap.size,0,none⟩),.int .i64 0]) /\ w' = w.alloc (.cells #[.int .i64 num,.int .i64 den,.int .i64 0,.int .i64 0,.int .i64 0] 187):=by
 have c:=Ep num den
 rw [show wH num den = 0 by unfold wH;rw [h];rfl] at c
 go_enter Tryz.func66,Tryz.ntmps66
 go_wp2_with fail
 refine (c _).mono ?_;rintro e w' ⟨rfl,rfl⟩
 go_wp2
 go_ret2
 exact ⟨rfl,rfl⟩
set_option maxRecDepth 4000 in
set_option maxHeartbeats 1000000 in
theorem Vj (b : Nat) (num den au last reading want : Int) (hr : iJ num den = true) (ha : aA au) (hl : aA last) (h1 : aA reading) (h2 : aA want) (w : World) (h : Dh w b num den au last 1) :
 Calls Tryz.prog 87 #[.pointer (some ⟨b,0,none⟩),.int .i64 reading,.int .i64 want] w λe w' =>
  e = .returned (.tuple #[.int .i64 (Iq au last reading want num den),.int .i64 0]) /\ Dh w' b num den (Iq au last reading want num den) (max last reading) 1 /\ Only (· = b) w w':=by
 have q0:=h.cell 0;have q1:=h.cell 1;have q2:=h.cell 2;have q3:=h.cell 3;have q4:=h.cell 4
 have f2:=h.free 2;have f3:=h.free 3;have f4:=h.free 4
 simp at q0 q1 q2 q3 q4 f2 f3 f4
 have im : aA (max reading last):=by unfold aA at *;omega
 have s1:=xO (max reading last) last im hl;have r1:=Kh (aQ (max reading last) last) num den (jH _ _) hr
 have rb : 1 <= oH (aQ (max reading last) last) num den /\ _:=Kg (by have:=nH.1 hr;omega) (by have:=nH.1 hr;omega)
 have a1:=vX au (oH (aQ (max reading last) last) num den) ha ⟨by omega,rb.2⟩
 have HT : Hid (max au (min want (bJ au (oH (aQ (max reading last) last) num den))) = Iq au last reading want num den):=ajK rfl
 generalize Iq au last reading want num den = t at *
 generalize oH (aQ (max reading last) last) num den = rm at *
 generalize aQ (max reading last) last = sb at *
 generalize bJ au rm = ad at *
 have H:=ajK h;clear h ha hl h1 h2 im rb hr
 go_enter Tryz.func87,Tryz.ntmps87
 go_wp2_with fail
 go_quiet (first | (go_at_call 27;exact Rh (s1 _)) | (go_at_call 101;exact Calls.quiet_of (r1 _)))
 go_wp2_with fail
 (refine kW 16 (by kernel_rfl) (by kernel_rfl) ?_;simp only [List.take_succ_cons,List.take_zero,List.drop_succ_cons,List.drop_zero];(repeat still_step);(try refine wpStill_nil ?_))
 (still_call (rH (a1 _));(repeat still_step);(try refine wpStill_nil ?_))
 go_wp2
 go_ret2
 have B2:=(((H.out.draws nq).set 4 (.int .i64 1)).set 3 (.int .i64 (max last reading))).set 2 (.int .i64 (max au (min want ad)))
 rw [HT.out] at B2
 refine ⟨?_,?_,?_⟩
 ·rw [← HT.out];rfl
 ·rw [HT.out];exact B2.draws 1
 ·exact (((((Only.refl (· = b) w).draws nq).setCell (.inl rfl) _).setCell (.inl rfl) _).setCell (.inl rfl) _).draws 1
theorem OZ {want : Int} (hw : aA want) : max want (min want (bJ want 1)) = want:=by
 unfold aA at hw;unfold bJ sat;omega
theorem O5 {num den : Int} (h : iJ num den = true) : oH 0 num den = 1:=by
 unfold oH;simp <;> omega
set_option maxRecDepth 4000 in
set_option maxHeartbeats 1000000 in
theorem Ri (b : Nat) (num den au last reading want : Int) (hr : iJ num den = true) (h1 : aA reading) (h2 : aA want) (w : World) (h : Dh w b num den au last 0) :
 Calls Tryz.prog 87 #[.pointer (some ⟨b,0,none⟩),.int .i64 reading,.int .i64 want] w λe w' =>
  e = .returned (.tuple #[.int .i64 want,.int .i64 0]) /\ Dh w' b num den want reading 1 /\ Only (· = b) w w':=by
 have q0:=h.cell 0;have q1:=h.cell 1;have q2:=h.cell 2;have q3:=h.cell 3;have q4:=h.cell 4
 have f2:=h.free 2;have f3:=h.free 3;have f4:=h.free 4
 simp at q0 q1 q2 q3 q4 f2 f3 f4;have s1:=xO reading reading h1 h1
 rw [QI] at s1
 have r1:=Kh 0 num den ⟨by omega,by omega⟩ hr
 rw [O5 hr] at r1
 have a1:=vX want 1 h2 ⟨by omega,by omega⟩
 have HT:=ajK (OZ h2)
 generalize bJ want 1 = ad at *
 have H:=ajK h
 have hm : max reading reading = reading:=by omega
 clear h h1 h2 hr
 go_enter Tryz.func87,Tryz.ntmps87
 go_wp2_with fail
 go_quiet (first | (go_at_call 27;exact Rh (s1 _)) | (go_at_call 101;exact Calls.quiet_of (r1 _)))
 go_wp2_with fail
 (refine kW 16 (by kernel_rfl) (by kernel_rfl) ?_;simp only [List.take_succ_cons,List.take_zero,List.drop_succ_cons,List.drop_zero];(repeat still_step);(try refine wpStill_nil ?_))
 (still_call (rH (a1 _));(repeat still_step);(try refine wpStill_nil ?_))
 go_wp2
 go_ret2
 have B2:=(((((H.out.set 2 (.int .i64 want)).set 3 (.int .i64 reading)).draws nq).set 4 (.int .i64 1)).set 3 (.int .i64 reading)).set 2 (.int .i64 (max want (min want ad)))
 rw [HT.out] at B2
 refine ⟨?_,?_,?_⟩
 ·rw [HT.out];rfl
 ·rw [HT.out];exact B2.draws 1
 ·exact (((((((Only.refl (· = b) w).setCell (.inl rfl) _).setCell (.inl rfl) _).draws nq).setCell (.inl rfl) _).setCell (.inl rfl) _).setCell (.inl rfl) _).draws 1
theorem Ir (num den : Int) (w : World) :
 Calls Tryz.prog 50 #[.int .i64 num,.int .i64 den] w λe w'=>e = .returned (.bool (iJ num den)) /\ w = w':=by
 by_cases h1 : 1 <= num <;> by_cases h2 : num <= 1048576 <;> by_cases h3 : 1 <= den <;> by_cases h4 : den <= 1048576
 all_goals first
  | (have HE : Hid (iJ num den = true):=ajK (nH.2 ⟨h1,h2,h3,h4⟩)
     go_enter Tryz.func50,Tryz.ntmps50
     go_wp2
     go_ret
     refine ⟨?_,rfl⟩
     rw [HE.out];rfl)
  | (have HE : Hid (iJ num den = false):=ajK (by
      cases hh : iJ num den
      ·rfl
      ·have:=nH.1 hh;omega)
     go_enter Tryz.func50,Tryz.ntmps50
     go_wp2
     go_ret
     refine ⟨?_,rfl⟩
     rw [HE.out];rfl)
end Go.Proofs.YtklkooeimkedgaaGreat
