/- Walk of TopBeyond. -/
import Derived.BigQuiet
import Derived.BigRegion
import Derived.Deep.QuietTactic
import Derived.Deep.RegionWith
import Derived.RegionTactic
import Derived.Test.YtklkooeimkedgaaGreatB2
import Derived.Test.YtklkooeimkedgaaGreatB6
import Derived.Test.YtklkooeimkedgaaGreatB8
set_option linter.unusedVariables false
set_option linter.unusedSimpArgs false
namespace Go.Proofs.YtklkooeimkedgaaGreat
open Go.RowKit
def lg (num den : Int) : Bool:=decide (1 <= num /\ num <= 1048576 /\ 1 <= den /\ den <= 1048576)
def vN (num den : Int) : Int:=if lg num den then 0 else 3
def nW (vO num den : Int) : Int:=min (max 0 vO * num / den) 9223372036854775806 + 1
def GI (au last reading want num den : Int) : Int:=max au (min want (aU au (nW (aK (max reading last) last) num den)))
theorem rM {num den : Int} : lg num den = true ↔ (1 <= num /\ num <= 1048576 /\ 1 <= den /\ den <= 1048576):=by
 unfold lg;exact decide_eq_true_iff
theorem Jk {vO num den : Int} (hn : 0 <= num) (hd : 0 < den) : 1 <= nW vO num den /\ nW vO num den <= 9223372036854775807:=by
 have : 0 <= max 0 vO * num / den:=Int.ediv_nonneg (Int.mul_nonneg (by omega) hn) (by omega)
 unfold nW;omega
theorem Xp {au last reading want num den : Int} (ha : ay au) (hw : ay want) : ay (GI au last reading want num den):=by
 have:=vJ au (nW (aK (max reading last) last) num den)
 unfold ay at *;unfold GI;omega
theorem PZ {P : Program} {f : FuncId} {args : Array Value} {w : World} {n : Nat} {v : Value}
 (h : Calls P f args (w.drewN n) λe w'=>e = .returned v /\ w.drewN n = w') : Calls P f args (w.drewN n) λe w''=>e = .returned v /\ ∃ m,w'' = w.drewN m :=
 h.mono λ_ _ ⟨he,hm⟩=>⟨he,n,hm.symm⟩
theorem DU (num den : Int) (w : World) :
 Calls Tryz.prog 102 #[.int .i64 num,.int .i64 den] w λe w'=>e = .returned (.int .i64 (vN num den)) /\ w = w':=by
 by_cases h : 1 <= num /\ num <= 1048576 /\ 1 <= den /\ den <= 1048576
 ·have HE : Hid (vN num den = 0):=aiS (by unfold vN;rw [if_pos (rM.2 h)])
  obtain ⟨h1,h2,h3,h4⟩:=h
  have g1 : ¬ min num den < 1:=by omega
  have g2 : ¬ 1048576 < max num den:=by omega
  go_enter Tryz.func102,Tryz.ntmps102
  go_wp2
  all_goals first
   | (go_ret;exact ⟨aR HE.out.symm,rfl⟩)
   | (exfalso;omega)
 ·have HE : Hid (vN num den = 3):=aiS (by unfold vN;rw [if_neg (λk=>h (rM.1 k))])
  have g : min num den < 1 \/ 1048576 < max num den:=by omega
  clear h
  go_enter Tryz.func102,Tryz.ntmps102
  go_wp2
  all_goals first
   | (go_ret;exact ⟨aR HE.out.symm,rfl⟩)
   | (exfalso;omega)
theorem TT (vO num den : Int) (h : lg num den = false) (w : World) :
 Calls Tryz.prog 101 #[.int .i64 vO,.int .i64 num,.int .i64 den] w λe w'=>e = .returned (.tuple #[.int .i64 0,.int .i64 3]) /\ w = w':=by
 have c:=DU num den
 rw [show vN num den = 3 by unfold vN;rw [h];rfl] at c
 go_enter Tryz.func101,Tryz.ntmps101
 go_wp2_with fail
 refine (c _).mono ?_;rintro e w' ⟨rfl,rfl⟩
 go_wp2
 go_ret2
 exact ⟨rfl,rfl⟩
theorem Jl (vO num den : Int) (ha : ay vO) (h : lg num den = true) (w : World) :
 Calls Tryz.prog 101 #[.int .i64 vO,.int .i64 num,.int .i64 den] w λe w'=>e = .returned (.tuple #[.int .i64 (nW vO num den),.int .i64 0]) /\ ∃ k,w' = w.drewN k:=by
 have c:=DU num den
 rw [show vN num den = 0 by unfold vN;rw [h];rfl] at c
 obtain ⟨n1,n2,d1,d2⟩:=rM.1 h
 obtain ⟨a1,a2⟩:=ha
 clear h
 have HR : Hid (nW vO num den = min (max 0 vO * num / den) 9223372036854775806 + 1):=aiS rfl
 generalize nW vO num den = r at *
 obtain ⟨m,hm⟩ : ∃ m,max 0 vO = m:=⟨_,rfl⟩
 have m1 : 0 <= m:=by omega
 have m2 : m <= 9223372036854775807:=by omega
 have hu : IntKind.u64.wrap m = m:=by rw [IntKind.wrap_u64];omega
 have hu2 : IntKind.u64.wrap num = num:=by rw [IntKind.wrap_u64];omega
 have hu3 : IntKind.u64.wrap den = den:=by rw [IntKind.wrap_u64];omega
 have mm:=FN m num ⟨m1,by omega⟩ ⟨by omega,by omega⟩
 rw [hm] at HR
 obtain ⟨P,hP⟩ : ∃ P,m * num = P:=⟨_,rfl⟩
 rw [hP] at mm HR
 have p0 : 0 <= P:=by rw [← hP];exact Int.mul_nonneg m1 (by omega)
 have dv:=λ(h : P / 18446744073709551616 < den)=>LP (P / 18446744073709551616) (P % 18446744073709551616) den (by omega) h (by omega) (by omega) (by omega)
 rw [show P / 18446744073709551616 * 18446744073709551616 + P % 18446744073709551616 = P by omega] at dv
 have HG : Hid (¬ P / 18446744073709551616 < den -> r = 9223372036854775807):=by
  refine aiS λhh=>?_
  have h1 : den * 18446744073709551616 <= P:=by omega
  have h2 : (18446744073709551616 : Int) <= P / den:=(Int.le_ediv_iff_mul_le (by omega)).2 (by rw [Int.mul_comm];exact h1)
  rw [HR.out];omega
 have HQ : Hid (0 <= P / den):=aiS (Int.ediv_nonneg p0 (by omega))
 obtain ⟨q,hq⟩ : ∃ q,P / den = q:=⟨_,rfl⟩
 rw [hq] at HR HQ dv
 have hw : wrap64 (min q 9223372036854775806) = min q 9223372036854775806:=by
  have:=HQ.out
  unfold wrap64;omega
 have hw2 : wrap64 (min q 9223372036854775806 + 1) = min q 9223372036854775806 + 1:=by
  have:=HQ.out
  unfold wrap64;omega
 clear hP hq a1 a2
 go_enter Tryz.func101,Tryz.ntmps101
 go_wp2_with fail
 refine (c _).mono ?_;rintro e w' ⟨rfl,rfl⟩
 go_wp2_with fail
 refine (mm _).mono ?_;rintro e w' ⟨rfl,rfl⟩
 by_cases hc : P / 18446744073709551616 < den
 ·have dv:=dv hc
  go_wp2_with fail
  refine (dv _).mono ?_;rintro e w' ⟨rfl,k,rfl⟩
  go_wp2
  go_ret2
  exact ⟨zy (hw2.trans HR.out.symm) rfl,k,rfl⟩
 ·have hc' : den <= P / 18446744073709551616:=by omega
  have hr:=HG.out (by omega)
  subst hr
  go_wp2
  go_ret2
  exact ⟨rfl,0,rfl⟩
abbrev Cz (w : World) (b : Nat) (num den au last st : Int) : Prop:=ak w b #[.int .i64 num,.int .i64 den,.int .i64 au,.int .i64 last,.int .i64 st] 187
theorem Xq (num den : Int) (h : lg num den = true) (w : World) :
 Calls Tryz.prog 66 #[.int .i64 num,.int .i64 den] w λe w'=>e = .returned (.tuple #[.pointer (some ⟨w.heap.size,0,none⟩),.int .i64 0]) /\ w' = w.alloc (.cells #[.int .i64 num,.int .i64 den,.int .i64 0,.int .i64 0,.int .i64 0] 187):=by
 have c:=DU num den
 rw [show vN num den = 0 by unfold vN;rw [h];rfl] at c
 go_enter Tryz.func66,Tryz.ntmps66
 go_wp2_with fail
 refine (c _).mono ?_;rintro e w' ⟨rfl,rfl⟩
 go_wp2
 go_ret2
 exact ⟨rfl,rfl⟩
set_option maxRecDepth 4000 in
set_option maxHeartbeats 1000000 in
theorem TU (b : Nat) (num den au last reading want : Int) (hr : lg num den = true) (ha : ay au) (hl : ay last) (h1 : ay reading) (h2 : ay want) (w : World) (h : Cz w b num den au last 1) :
 Calls Tryz.prog 87 #[.pointer (some ⟨b,0,none⟩),.int .i64 reading,.int .i64 want] w λe w' =>
  e = .returned (.tuple #[.int .i64 (GI au last reading want num den),.int .i64 0]) /\ Cz w' b num den (GI au last reading want num den) (max last reading) 1 /\ Only (· = b) w w':=by
 have q0:=h.cell 0;have q1:=h.cell 1;have q2:=h.cell 2;have q3:=h.cell 3;have q4:=h.cell 4
 have f2:=h.free 2;have f3:=h.free 3;have f4:=h.free 4
 simp at q0 q1 q2 q3 q4 f2 f3 f4
 have im : ay (max reading last):=by unfold ay at *;omega
 have s1:=tQ (max reading last) last im hl;have r1:=Jl (aK (max reading last) last) num den (jq _ _) hr
 have rb : 1 <= nW (aK (max reading last) last) num den /\ _:=Jk (by have:=rM.1 hr;omega) (by have:=rM.1 hr;omega)
 have a1:=tO au (nW (aK (max reading last) last) num den) ha ⟨by omega,rb.2⟩
 have HT : Hid (max au (min want (aU au (nW (aK (max reading last) last) num den))) = GI au last reading want num den):=aiS rfl
 generalize GI au last reading want num den = t at *
 generalize nW (aK (max reading last) last) num den = rm at *
 generalize aK (max reading last) last = sb at *
 generalize aU au rm = ad at *
 have H:=aiS h;clear h ha hl h1 h2 im rb hr
 go_enter Tryz.func87,Tryz.ntmps87
 go_wp2_with fail
 go_quiet (first | (go_at_call 27;exact PZ (s1 _)) | (go_at_call 101;exact Calls.quiet_of (r1 _)))
 go_wp2_with fail
 (refine kF 16 (by kernel_rfl) (by kernel_rfl) ?_;simp only [List.take_succ_cons,List.take_zero,List.drop_succ_cons,List.drop_zero];(repeat still_step);(try refine wpStill_nil ?_))
 (still_call (qO (a1 _));(repeat still_step);(try refine wpStill_nil ?_))
 go_wp2
 go_ret2
 have B2:=(((H.out.draws nq).set 4 (.int .i64 1)).set 3 (.int .i64 (max last reading))).set 2 (.int .i64 (max au (min want ad)))
 rw [HT.out] at B2
 refine ⟨?_,?_,?_⟩
 ·rw [← HT.out];rfl
 ·rw [HT.out];exact B2.draws 1
 ·exact (((((Only.refl (· = b) w).draws nq).setCell (.inl rfl) _).setCell (.inl rfl) _).setCell (.inl rfl) _).draws 1
theorem Nv {want : Int} (hw : ay want) : max want (min want (aU want 1)) = want:=by
 unfold ay at hw;unfold aU sat;omega
theorem Nw {num den : Int} (h : lg num den = true) : nW 0 num den = 1:=by
 unfold nW;simp <;> omega
set_option maxRecDepth 4000 in
set_option maxHeartbeats 1000000 in
theorem P5 (b : Nat) (num den au last reading want : Int) (hr : lg num den = true) (h1 : ay reading) (h2 : ay want) (w : World) (h : Cz w b num den au last 0) :
 Calls Tryz.prog 87 #[.pointer (some ⟨b,0,none⟩),.int .i64 reading,.int .i64 want] w λe w' =>
  e = .returned (.tuple #[.int .i64 want,.int .i64 0]) /\ Cz w' b num den want reading 1 /\ Only (· = b) w w':=by
 have q0:=h.cell 0;have q1:=h.cell 1;have q2:=h.cell 2;have q3:=h.cell 3;have q4:=h.cell 4
 have f2:=h.free 2;have f3:=h.free 3;have f4:=h.free 4
 simp at q0 q1 q2 q3 q4 f2 f3 f4;have s1:=tQ reading reading h1 h1
 rw [Pg] at s1
 have r1:=Jl 0 num den ⟨by omega,by omega⟩ hr
 rw [Nw hr] at r1
 have a1:=tO want 1 h2 ⟨by omega,by omega⟩
 have HT:=aiS (Nv h2)
 generalize aU want 1 = ad at *
 have H:=aiS h
 have hm : max reading reading = reading:=by omega
 clear h h1 h2 hr
 go_enter Tryz.func87,Tryz.ntmps87
 go_wp2_with fail
 go_quiet (first | (go_at_call 27;exact PZ (s1 _)) | (go_at_call 101;exact Calls.quiet_of (r1 _)))
 go_wp2_with fail
 (refine kF 16 (by kernel_rfl) (by kernel_rfl) ?_;simp only [List.take_succ_cons,List.take_zero,List.drop_succ_cons,List.drop_zero];(repeat still_step);(try refine wpStill_nil ?_))
 (still_call (qO (a1 _));(repeat still_step);(try refine wpStill_nil ?_))
 go_wp2
 go_ret2
 have B2:=(((((H.out.set 2 (.int .i64 want)).set 3 (.int .i64 reading)).draws nq).set 4 (.int .i64 1)).set 3 (.int .i64 reading)).set 2 (.int .i64 (max want (min want ad)))
 rw [HT.out] at B2
 refine ⟨?_,?_,?_⟩
 ·rw [HT.out];rfl
 ·rw [HT.out];exact B2.draws 1
 ·exact (((((((Only.refl (· = b) w).setCell (.inl rfl) _).setCell (.inl rfl) _).draws nq).setCell (.inl rfl) _).setCell (.inl rfl) _).setCell (.inl rfl) _).draws 1
end Go.Proofs.YtklkooeimkedgaaGreat
