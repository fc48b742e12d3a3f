/- Walk of TopExact. -/
import Derived.BigQuiet
import Derived.BigRegion
import Derived.Deep.QuietTactic
import Derived.Deep.RegionWith
import Derived.RegionTactic
import Derived.Test.YtklkooeimkedgaaGreatE2
import Derived.Test.YtklkooeimkedgaaGreatE6
import Derived.Test.YtklkooeimkedgaaGreatE8
set_option linter.unusedVariables false
set_option linter.unusedSimpArgs false
namespace Go.Proofs.YtklkooeimkedgaaGreat
open Go.RowKit
def lu (num den : Int) : Bool:=decide (1 <= num /\ num <= 1048576 /\ 1 <= den /\ den <= 1048576)
def vJ (num den : Int) : Int:=if lu num den then 0 else 3
def nW (vK num den : Int) : Int:=min (max 0 vK * num / den) 9223372036854775806 + 1
def Gz (au last reading want num den : Int) : Int:=max au (min want (bJ au (nW (aM (max reading last) last) num den)))
theorem rM {num den : Int} : lu num den = true ↔ (1 <= num /\ num <= 1048576 /\ 1 <= den /\ den <= 1048576):=by
 unfold lu;exact decide_eq_true_iff
theorem Jg {vK num den : Int} (hn : 0 <= num) (hd : 0 < den) : 1 <= nW vK num den /\ nW vK num den <= 9223372036854775807:=by
 have : 0 <= max 0 vK * num / den:=Int.ediv_nonneg (Int.mul_nonneg (by omega) hn) (by omega)
 unfold nW;omega
theorem WB {au last reading want num den : Int} (ha : ay au) (hw : ay want) : ay (Gz au last reading want num den):=by
 have:=Dy au (nW (aM (max reading last) last) num den)
 unfold ay at *;unfold Gz;omega
theorem Pq {P : Program} {f : FuncId} {args : Array Value} {w : World} {n : Nat} {v : Value}
 (h : Calls P f args (w.drewN n) λe w'=>e = .returned v /\ w.drewN n = w') : Calls P f args (w.drewN n) λe w''=>e = .returned v /\ ∃ m,w'' = w.drewN m :=
 h.mono λ_ _ ⟨he,hm⟩=>⟨he,n,hm.symm⟩
theorem DJ (num den : Int) (w : World) :
 Calls Tryz.prog 102 #[.int .i64 num,.int .i64 den] w λe w'=>e = .returned (.int .i64 (vJ num den)) /\ w = w':=by
 by_cases h : 1 <= num /\ num <= 1048576 /\ 1 <= den /\ den <= 1048576
 ·have HE : Hid (vJ num den = 0):=ah6 (by unfold vJ;rw [if_pos (rM.2 h)])
  obtain ⟨h1,h2,h3,h4⟩:=h
  have g1 : ¬ min num den < 1:=by omega
  have g2 : ¬ 1048576 < max num den:=by omega
  go_enter Tryz.func102,Tryz.ntmps102
  go_wp2
  all_goals first
   | (go_ret;exact ⟨aP HE.out.symm,rfl⟩)
   | (exfalso;omega)
 ·have HE : Hid (vJ num den = 3):=ah6 (by unfold vJ;rw [if_neg (λk=>h (rM.1 k))])
  have g : min num den < 1 \/ 1048576 < max num den:=by omega
  clear h
  go_enter Tryz.func102,Tryz.ntmps102
  go_wp2
  all_goals first
   | (go_ret;exact ⟨aP HE.out.symm,rfl⟩)
   | (exfalso;omega)
theorem Tt (vK num den : Int) (h : lu num den = false) (w : World) :
 Calls Tryz.prog 101 #[.int .i64 vK,.int .i64 num,.int .i64 den] w λe w'=>e = .returned (.tuple #[.int .i64 0,.int .i64 3]) /\ w = w':=by
 have c:=DJ num den
 rw [show vJ num den = 3 by unfold vJ;rw [h];rfl] at c
 go_enter Tryz.func101,Tryz.ntmps101
 go_wp2_with fail
 refine (c _).mono ?_;rintro e w' ⟨rfl,rfl⟩
 go_wp2
 go_ret2
 exact ⟨rfl,rfl⟩
theorem Jh (vK num den : Int) (ha : ay vK) (h : lu num den = true) (w : World) :
 Calls Tryz.prog 101 #[.int .i64 vK,.int .i64 num,.int .i64 den] w λe w'=>e = .returned (.tuple #[.int .i64 (nW vK num den),.int .i64 0]) /\ ∃ k,w' = w.drewN k:=by
 have c:=DJ num den
 rw [show vJ num den = 0 by unfold vJ;rw [h];rfl] at c
 obtain ⟨n1,n2,d1,d2⟩:=rM.1 h
 obtain ⟨a1,a2⟩:=ha
 clear h
 have HR : Hid (nW vK num den = min (max 0 vK * num / den) 9223372036854775806 + 1):=ah6 rfl
 generalize nW vK num den = r at *
 obtain ⟨m,hm⟩ : ∃ m,max 0 vK = m:=⟨_,rfl⟩
 have m1 : 0 <= m:=by omega
 have m2 : m <= 9223372036854775807:=by omega
 have hu : IntKind.u64.wrap m = m:=by rw [IntKind.wrap_u64];omega
 have hu2 : IntKind.u64.wrap num = num:=by rw [IntKind.wrap_u64];omega
 have hu3 : IntKind.u64.wrap den = den:=by rw [IntKind.wrap_u64];omega
 have mm:=FI m num ⟨m1,by omega⟩ ⟨by omega,by omega⟩
 rw [hm] at HR
 obtain ⟨P,hP⟩ : ∃ P,m * num = P:=⟨_,rfl⟩
 rw [hP] at mm HR
 have p0 : 0 <= P:=by rw [← hP];exact Int.mul_nonneg m1 (by omega)
 have dv:=λ(h : P / 18446744073709551616 < den)=>LG (P / 18446744073709551616) (P % 18446744073709551616) den (by omega) h (by omega) (by omega) (by omega)
 rw [show P / 18446744073709551616 * 18446744073709551616 + P % 18446744073709551616 = P by omega] at dv
 have HG : Hid (¬ P / 18446744073709551616 < den -> r = 9223372036854775807):=by
  refine ah6 λhh=>?_
  have h1 : den * 18446744073709551616 <= P:=by omega
  have h2 : (18446744073709551616 : Int) <= P / den:=(Int.le_ediv_iff_mul_le (by omega)).2 (by rw [Int.mul_comm];exact h1)
  rw [HR.out];omega
 have HQ : Hid (0 <= P / den):=ah6 (Int.ediv_nonneg p0 (by omega))
 obtain ⟨q,hq⟩ : ∃ q,P / den = q:=⟨_,rfl⟩
 rw [hq] at HR HQ dv
 have hw : wrap64 (min q 9223372036854775806) = min q 9223372036854775806:=by
  have:=HQ.out
  unfold wrap64;omega
 have hw2 : wrap64 (min q 9223372036854775806 + 1) = min q 9223372036854775806 + 1:=by
  have:=HQ.out
  unfold wrap64;omega
 clear hP hq a1 a2
 go_enter Tryz.func101,Tryz.ntmps101
 go_wp2_with fail
 refine (c _).mono ?_;rintro e w' ⟨rfl,rfl⟩
 go_wp2_with fail
 refine (mm _).mono ?_;rintro e w' ⟨rfl,rfl⟩
 by_cases hc : P / 18446744073709551616 < den
 ·have dv:=dv hc
  go_wp2_with fail
  refine (dv _).mono ?_;rintro e w' ⟨rfl,k,rfl⟩
  go_wp2
  go_ret2
  exact ⟨zx (hw2.trans HR.out.symm) rfl,k,rfl⟩
 ·have hc' : den <= P / 18446744073709551616:=by omega
  have hr:=HG.out (by omega)
  subst hr
  go_wp2
  go_ret2
  exact ⟨rfl,0,rfl⟩
abbrev Cu (w : World) (b : Nat) (num den au last st : Int) : Prop:=ak w b #[.int .i64 num,.int .i64 den,.int .i64 au,.int .i64 last,.int .i64 st] 187
theorem WI (num den : Int) (h : lu num den = true) (w : World) :
 Calls Tryz.prog 66 #[.int .i64 num,.int .i64 den] w λe w'=>e = .returned (.tuple #[.pointer (some ⟨w.heap.size,0,none⟩),.int .i64 0]) /\ w' = w.alloc (.cells #[.int .i64 num,.int .i64 den,.int .i64 0,.int .i64 0,.int .i64 0] 187):=by
 have c:=DJ num den
 rw [show vJ num den = 0 by unfold vJ;rw [h];rfl] at c
 go_enter Tryz.func66,Tryz.ntmps66
 go_wp2_with fail
 refine (c _).mono ?_;rintro e w' ⟨rfl,rfl⟩
 go_wp2
 go_ret2
 exact ⟨rfl,rfl⟩
set_option maxRecDepth 4000 in
set_option maxHeartbeats 1000000 in
theorem Tv (b : Nat) (num den au last reading want : Int) (hr : lu num den = true) (ha : ay au) (hl : ay last) (h1 : ay reading) (h2 : ay want) (w : World) (h : Cu w b num den au last 1) :
 Calls Tryz.prog 87 #[.pointer (some ⟨b,0,none⟩),.int .i64 reading,.int .i64 want] w λe w' =>
  e = .returned (.tuple #[.int .i64 (Gz au last reading want num den),.int .i64 0]) /\ Cu w' b num den (Gz au last reading want num den) (max last reading) 1 /\ Only (· = b) w w':=by
 have q0:=h.cell 0;have q1:=h.cell 1;have q2:=h.cell 2;have q3:=h.cell 3;have q4:=h.cell 4
 have f2:=h.free 2;have f3:=h.free 3;have f4:=h.free 4
 simp at q0 q1 q2 q3 q4 f2 f3 f4
 have im : ay (max reading last):=by unfold ay at *;omega
 have s1:=wQ (max reading last) last im hl;have r1:=Jh (aM (max reading last) last) num den (jw _ _) hr
 have rb : 1 <= nW (aM (max reading last) last) num den /\ _:=Jg (by have:=rM.1 hr;omega) (by have:=rM.1 hr;omega)
 have a1:=uZ au (nW (aM (max reading last) last) num den) ha ⟨by omega,rb.2⟩
 have HT : Hid (max au (min want (bJ au (nW (aM (max reading last) last) num den))) = Gz au last reading want num den):=ah6 rfl
 generalize Gz au last reading want num den = t at *
 generalize nW (aM (max reading last) last) num den = rm at *
 generalize aM (max reading last) last = sb at *
 generalize bJ au rm = ad at *
 have H:=ah6 h;clear h ha hl h1 h2 im rb hr
 go_enter Tryz.func87,Tryz.ntmps87
 go_wp2_with fail
 go_quiet (first | (go_at_call 27;exact Pq (s1 _)) | (go_at_call 101;exact Calls.quiet_of (r1 _)))
 go_wp2_with fail
 (refine kF 16 (by kernel_rfl) (by kernel_rfl) ?_;simp only [List.take_succ_cons,List.take_zero,List.drop_succ_cons,List.drop_zero];(repeat still_step);(try refine wpStill_nil ?_))
 (still_call (qK (a1 _));(repeat still_step);(try refine wpStill_nil ?_))
 go_wp2
 go_ret2
 have B2:=(((H.out.draws nq).set 4 (.int .i64 1)).set 3 (.int .i64 (max last reading))).set 2 (.int .i64 (max au (min want ad)))
 rw [HT.out] at B2
 refine ⟨?_,?_,?_⟩
 ·rw [← HT.out];rfl
 ·rw [HT.out];exact B2.draws 1
 ·exact (((((Only.refl (· = b) w).draws nq).setCell (.inl rfl) _).setCell (.inl rfl) _).setCell (.inl rfl) _).draws 1
theorem Nk {want : Int} (hw : ay want) : max want (min want (bJ want 1)) = want:=by
 unfold ay at hw;unfold bJ sat;omega
theorem Nl {num den : Int} (h : lu num den = true) : nW 0 num den = 1:=by
 unfold nW;simp <;> omega
set_option maxRecDepth 4000 in
set_option maxHeartbeats 1000000 in
theorem Pt (b : Nat) (num den au last reading want : Int) (hr : lu num den = true) (h1 : ay reading) (h2 : ay want) (w : World) (h : Cu w b num den au last 0) :
 Calls Tryz.prog 87 #[.pointer (some ⟨b,0,none⟩),.int .i64 reading,.int .i64 want] w λe w' =>
  e = .returned (.tuple #[.int .i64 want,.int .i64 0]) /\ Cu w' b num den want reading 1 /\ Only (· = b) w w':=by
 have q0:=h.cell 0;have q1:=h.cell 1;have q2:=h.cell 2;have q3:=h.cell 3;have q4:=h.cell 4
 have f2:=h.free 2;have f3:=h.free 3;have f4:=h.free 4
 simp at q0 q1 q2 q3 q4 f2 f3 f4;have s1:=wQ reading reading h1 h1
 rw [OP] at s1
 have r1:=Jh 0 num den ⟨by omega,by omega⟩ hr
 rw [Nl hr] at r1
 have a1:=uZ want 1 h2 ⟨by omega,by omega⟩
 have HT:=ah6 (Nk h2)
 generalize bJ want 1 = ad at *
 have H:=ah6 h
 have hm : max reading reading = reading:=by omega
 clear h h1 h2 hr
 go_enter Tryz.func87,Tryz.ntmps87
 go_wp2_with fail
 go_quiet (first | (go_at_call 27;exact Pq (s1 _)) | (go_at_call 101;exact Calls.quiet_of (r1 _)))
 go_wp2_with fail
 (refine kF 16 (by kernel_rfl) (by kernel_rfl) ?_;simp only [List.take_succ_cons,List.take_zero,List.drop_succ_cons,List.drop_zero];(repeat still_step);(try refine wpStill_nil ?_))
 (still_call (qK (a1 _));(repeat still_step);(try refine wpStill_nil ?_))
 go_wp2
 go_ret2
 have B2:=(((((H.out.set 2 (.int .i64 want)).set 3 (.int .i64 reading)).draws nq).set 4 (.int .i64 1)).set 3 (.int .i64 reading)).set 2 (.int .i64 (max want (min want ad)))
 rw [HT.out] at B2
 refine ⟨?_,?_,?_⟩
 ·rw [HT.out];rfl
 ·rw [HT.out];exact B2.draws 1
 ·exact (((((((Only.refl (· = b) w).setCell (.inl rfl) _).setCell (.inl rfl) _).draws nq).setCell (.inl rfl) _).setCell (.inl rfl) _).setCell (.inl rfl) _).draws 1
end Go.Proofs.YtklkooeimkedgaaGreat
