/- Walk of TopBeyond. -/
import Derived.Laws.OwnMore
import Derived.Test.YtklkooeimkedgaaGreatB43
set_option linter.unusedVariables false
set_option linter.unusedSimpArgs false
namespace Go.Proofs.YtklkooeimkedgaaGreat
open Go.RowKit
set_option maxRecDepth 100000
theorem Fe {ops : Array Oper} {rest : List Oper} {o : Oper} {a : Act} {Q : Exit -> Act -> World -> Prop} (w : World) (hgd : o.guard = none) (s x : Operand)
 (ho : o.op = .call { callee:=.builtin .append,args:=#[s,x],argTypes:=#[34,34] })
 (base : Nat) (v : Value) (xs : List aB) (hs : a.eval s = v) (hown : aM w base v xs)
 (ao : Option Addr) (c : Nat) (es : List aB) (hx : a.eval x = .slice ao es.length c) (hz : fP w ao es) (hc : ao = none -> c = 0)
 (hb : xs.length + es.length <= 1000000) (hbase : base <= w.heap.size)
 (h : ∀ v' w',aM w' base v' (xs ++ es) -> w.grownBy w' v.ownBlock -> wpList Tryz.prog ops Q rest (a.put o.dst v') w') : wpList Tryz.prog ops Q (o :: rest) a w:=by
 obtain ⟨i0,hi,hz0,hz1,hz2⟩:=info_parts MF
 cases ao with
 | none =>
   obtain rfl:=hc rfl
   have hm : es = []:=by
    rcases hz.2 with hz | ⟨b,off,e,_⟩
    ·exact List.eq_nil_of_length_eq_zero hz
    ·cases e
   subst hm
   refine wpList_append_own_none hgd s x 34 ho base 33 i0 9 Tryz.underlying34 hi v xs.length (xs.flatMap jZ) hs hown hx ?_
   have:=h v w (by simpa using hown) (World.grownBy.refl _ _)
   exact this
 | some ad =>
   have hlen : ∀ l : List aB,(l.flatMap jZ).length = l.length * 9:=λl=>qE (λ_=>rfl) l
   refine wpList_append_own w hgd s x 34 ho base 33 i0 (.agg #[.int .i64 0,.int .i64 0,.int .i64 0,.int .i64 0,.int .i64 0,.int .i64 0,.int .i64 0,.int .u16 0,.int .u8 0]) 9 64 Tryz.underlying34 hi hz0 hz1 hz2 rfl (by decide) v xs.length (xs.flatMap jZ) hs hown ad es.length c (es.flatMap jZ) hx (hlen es) ?_ ?_ (by unfold maxLen;omega) (by omega) hbase ?_
   ·intro j u hj
    have hne : es ≠ []:=by rintro rfl;simp at hj
    obtain ⟨b,off,e,hcell⟩:=hz.own hne
    cases e
    have e : (⟨b,off,none⟩ : Addr).add j = ⟨b,off + j,none⟩:=by unfold Addr.add;split <;> simp_all
    rw [e]
    exact hcell j u hj
   ·intro u hu
    obtain ⟨e,_,he⟩:=List.mem_flatMap.1 hu
    simp [jZ] at he
    rcases he with rfl | rfl | rfl | rfl | rfl | rfl | rfl | rfl | rfl <;> rfl
   ·intro v' w' h1 h2 _
    refine h v' w' ?_ h2
    unfold aM
    rw [List.length_append,List.flatMap_append]
    exact h1
set_option maxHeartbeats 1000000 in
theorem Ol (tick time : Int) (a : Option Addr) (cap : Nat) (es : List aB) (w : World) (h : fP w a es) (hc : a = none -> cap = 0) (hl : es.length <= 1000) :
 Calls Tryz.prog 79 #[.agg #[.int .i64 tick,.int .i64 time,.slice a es.length cap]] w λe w'=>∃ a' c',e = .returned (.agg #[.int .i64 tick,.int .i64 time,.slice a' es.length c']) /\ aM w' w.heap.size (.slice a' es.length c') es /\ Below w.heap.size w w':=by
 obtain ⟨w1,hw1⟩ : ∃ w1,((w.alloc (.cells #[.int .i64 tick,.int .i64 time,.slice a es.length cap] 36)).alloc (.cells #[.int .i64 0,.int .i64 0,.slice none 0 0] 36)).alloc (.cells #[] 33) = w1:=⟨_,rfl⟩
 have hB1 : Below w.heap.size w w1:=by rw [← hw1];exact ((aiT).alloc (by simp) _).alloc (by simp;omega) _
 have HX : Hid (ak w1 w.heap.size #[.int .i64 tick,.int .i64 time,.slice a es.length cap] 36):=aiS (by rw [← hw1];exact ((ak.new _ _ _).alloc _).alloc _)
 have HY : Hid (ak w1 (w.heap.size + 1) #[.int .i64 0,.int .i64 0,.slice none 0 0] 36):=aiS (by
  rw [← hw1]
  have:=(ak.new (w.alloc (.cells #[.int .i64 tick,.int .i64 time,.slice a es.length cap] 36)) #[.int .i64 0,.int .i64 0,.slice none 0 0] 36).alloc (.cells #[] 33)
  simpa using this)
 have HO : Hid (aM w1 w.heap.size (.slice (some ⟨w.heap.size + 2,0,none⟩) 0 0) []):=aiS (by
  refine ⟨rfl,.inr ⟨w.heap.size + 2,0,#[],rfl,by omega,?_,Nat.le_refl _,by unfold maxLen;omega,rfl,rfl⟩⟩
  rw [← hw1]
  have:=ak.new ((w.alloc (.cells #[.int .i64 tick,.int .i64 time,.slice a es.length cap] 36)).alloc (.cells #[.int .i64 0,.int .i64 0,.slice none 0 0] 36)) #[] 33
  unfold ak at this
  simpa using this)
 have HE:=aiS (h.below hB1);have HB:=aiS hB1;have c0:=HX.out.cell 0;have c1:=HX.out.cell 1;have c2:=HX.out.cell 2;simp at c0 c1 c2;clear h hB1
 go_enter Tryz.func79,Tryz.ntmps79
 go_wp2_with (at_builtin;refine Fe w1 rfl (.tmp 3) (.tmp 5) rfl w.heap.size _ [] rfl HO.out a cap es rfl HE.out hc (by simp;omega) HB.out.size ?_)
 intro v' w' hO hg
 clear hw1 c0 c1 c2
 obtain ⟨a',c',rfl,_⟩:=hO.slice
 have hX:=HX.out.grown hg (by simp [Value.ownBlock] <;> omega)
 have hY:=HY.out.grown hg (by simp [Value.ownBlock] <;> omega)
 have hB2 : Below w.heap.size w w':=HB.out.grown hg HB.out.size (λk hk=>by simp [Value.ownBlock] at hk;omega)
 have nX : (Value.slice a' es.length c').ownBlock ≠ some w.heap.size:=bJ hO hX (by decide)
 have nY : (Value.slice a' es.length c').ownBlock ≠ some (w.heap.size + 1):=bJ hO hY (by decide)
 have p2:=hX.cell 2;have q2:=hX.free 2;simp at p2;have hX2:=hX.set 2 (.slice a' es.length c');simp at hX2
 have hY2 : ak (w'.setCell ⟨w.heap.size,2,none⟩ (.slice a' es.length c')) (w.heap.size + 1) #[.int .i64 0,.int .i64 0,.slice none 0 0] 36:=hY.far (p:=⟨w.heap.size,2,none⟩) (by simp) (.slice a' es.length c')
 have r0:=hX2.cell 0;have r1:=hX2.cell 1;have r2:=hX2.cell 2;have y0:=hY2.cell 0;have y1:=hY2.cell 1;have y2:=hY2.cell 2;have z0:=hY2.free 0;have z1:=hY2.free 1;have z2:=hY2.free 2;simp at r0 r1 r2 y0 y1 y2 z0 z1 z2
 have HF : Hid (aM ((((w'.setCell ⟨w.heap.size,2,none⟩ (.slice a' es.length c')).setCell ⟨w.heap.size + 1,0,none⟩ (.int .i64 tick)).setCell ⟨w.heap.size + 1,1,none⟩ (.int .i64 time)).setCell ⟨w.heap.size + 1,2,none⟩ (.slice a' es.length c')) w.heap.size (.slice a' es.length c') es /\ Below w.heap.size w ((((w'.setCell ⟨w.heap.size,2,none⟩ (.slice a' es.length c')).setCell ⟨w.heap.size + 1,0,none⟩ (.int .i64 tick)).setCell ⟨w.heap.size + 1,1,none⟩ (.int .i64 time)).setCell ⟨w.heap.size + 1,2,none⟩ (.slice a' es.length c'))):=aiS (by
  have ho1 : Only (λk=>k = w.heap.size \/ k = w.heap.size + 1) w' ((((w'.setCell ⟨w.heap.size,2,none⟩ (.slice a' es.length c')).setCell ⟨w.heap.size + 1,0,none⟩ (.int .i64 tick)).setCell ⟨w.heap.size + 1,1,none⟩ (.int .i64 time)).setCell ⟨w.heap.size + 1,2,none⟩ (.slice a' es.length c')) :=
   kS (Only.setCell (S:=λk=>k = w.heap.size \/ k = w.heap.size + 1) (p:=⟨w.heap.size,2,none⟩) (Only.refl _ _) (.inl (.inl rfl)) _) (.inl (.inr rfl))
  refine ⟨hO.only ho1 (λj hj hk=>?_),hB2.trans (ho1.below hB2.size (λk hk=>by omega))⟩
  rcases hk with rfl | rfl
  ·exact nX hj
  ·exact nY hj)
 clear hX hY hB2 nX nY hX2 hY2 hO hg
 go_wp2_with fail
 exact bodyPost_ret (v:=.agg #[.int .i64 tick,.int .i64 time,.slice a' es.length c']) (by simp [results,Tryz.results79,go_sem,r0,r1,r2,y0,y1,y2]) rfl ⟨a',c',rfl,HF.out⟩
set_option maxHeartbeats 1000000 in
theorem mP (is : Bool) (why : Int) (E : Nat) (e : Int) (w : World) (h : ak w E #[.int .i64 e] 25) :
 Calls Tryz.prog 115 #[.bool is,.int .i64 why,.pointer (some ⟨E,0,none⟩)] w λr w'=>r = .returned (.tuple #[]) /\ ak w' E #[.int .i64 (if e = 0 /\ is = true then why else e)] 25 /\ Only (λk=>k = E) w w':=by
 have c0:=h.cell 0;have f0:=h.free 0;simp at c0;have HB:=aiS h;clear h
 by_cases he : e = 0
 ·subst he
  cases is
  ·have HV : Hid ((if (0 : Int) = 0 /\ false = true then why else 0) = 0):=aiS (by simp)
   generalize (if (0 : Int) = 0 /\ false = true then why else 0) = v at *
   go_enter Tryz.func115,Tryz.ntmps115
   go_wp2_with fail
   exact bodyPost_end (v:=.tuple #[]) (by simp [results,Tryz.results115,go_sem]) rfl ⟨rfl,by rw [HV.out];exact HB.out,Only.refl _ _⟩
  ·have HV : Hid ((if (0 : Int) = 0 /\ true = true then why else 0) = why):=aiS (by simp)
   generalize (if (0 : Int) = 0 /\ true = true then why else 0) = v at *
   have HB2:=aiS (show ak (w.setCell ⟨E,0,none⟩ (.int .i64 why)) E #[.int .i64 why] 25 by simpa using HB.out.set 0 (.int .i64 why))
   have HO:=aiS (Only.setCell (S:=λk=>k = E) (p:=⟨E,0,none⟩) (Only.refl _ w) (.inl rfl) (.int .i64 why))
   go_enter Tryz.func115,Tryz.ntmps115
   go_wp2_with fail
   exact bodyPost_end (v:=.tuple #[]) (by simp [results,Tryz.results115,go_sem]) rfl ⟨rfl,by rw [HV.out];exact HB2.out,HO.out⟩
 ·have HV : Hid ((if e = 0 /\ is = true then why else e) = e):=aiS (by rw [if_neg (λh=>he h.1)])
  generalize (if e = 0 /\ is = true then why else e) = v at *
  go_enter Tryz.func115,Tryz.ntmps115
  go_wp2_with fail
  exact bodyPost_end (v:=.tuple #[]) (by simp [results,Tryz.results115,go_sem]) rfl ⟨rfl,by rw [HV.out];exact HB.out,Only.refl _ _⟩
def iI (l : List aG) (most floor : Int) (gone : Bool) (tick : Int) : Bool:=(gone && decide (tick <= floor)) || (decide ((l.length : Int) = most) && decide (eB l tick = 0))
set_option maxHeartbeats 1000000 in
theorem XV (T R : Nat) (l : List aG) (most floor : Int) (gone : Bool) (S : Nat -> Prop) (tick : Int) (w : World) (h : gG w T R l most floor gone S) :
 Calls Tryz.prog 116 #[.pointer (some ⟨T,0,none⟩),.int .i64 tick] w λe w'=>e = .returned (.bool (iI l most floor gone tick)) /\ Below w.heap.size w w':=by
 have fl:=Rl R l most floor gone S w h.ring
 obtain ⟨d0,d1⟩:=h.cells
 have HS:=aiS h
 have HV : Hid (iI l most floor gone tick = ((gone && decide (tick <= floor)) || (decide ((l.length : Int) = most) && decide (eB l tick = 0)))):=aiS rfl
 generalize iI l most floor gone tick = sv at *
 clear h
 cases gone
 ·by_cases hm : (l.length : Int) = most
  ·have hm' : ((l.length : Int) == most) = true:=by simpa using hm
   by_cases hu : eB l tick = 0
   ·have hu1 : ((eB l tick : Nat) : Int) = 0:=by omega
    obtain rfl : sv = true:=by rw [HV.out];simp [decide_eq_true_eq,hm,hu]
    clear HV
    go_enter Tryz.func116,Tryz.ntmps116
    go_wp2_with fail
    refine fl.mono ?_
    rintro e w1 ⟨rfl,hB1⟩
    have HB1:=aiS hB1;have HS2:=aiS (HS.out.below hB1)
    obtain ⟨d0,d1⟩:=HS2.out.cells
    clear fl hB1
    go_wp2_with fail
    refine aQ 27 (by kernel_rfl) (by kernel_rfl) ?_
    simp only [List.take_succ_cons,List.take_zero,List.drop_succ_cons,List.drop_zero]
    repeat (first | (apply aA;(next=>(intro W hW K hK;have y0:=hW.cell d0;have y1:=hW.cell d1;go_simp;first | exact ⟨hW,hK⟩ | exact hK));(next=>exact aH.self _);(try go_simp)) | (apply aA;(next=>(intro W hW K hK;go_simp;first | exact ⟨_,hW.of_eq (jy R l most floor false S W (HS2.out.ring.below hW)),hK⟩ | exact ⟨hW,_,hW.of_eq (jy R l most floor false S W (HS2.out.ring.below hW)),hK⟩));(next=>exact aH.self _);(try go_simp)) | (apply aA;(next=>(intro W hW K hK;go_simp;first | exact ⟨_,hW.call (iB R l most floor false S tick W (HS2.out.ring.below hW)),hK⟩ | exact ⟨hW,_,hW.call (iB R l most floor false S tick W (HS2.out.ring.below hW)),hK⟩));(next=>exact aH.self _);(try go_simp)))
    refine aT ?_
    intro WC aP
    have HC:=aiS (HB1.out.trans (Below.mono aP HB1.out.size));clear aP d0 d1
    go_wp2_with fail
    exact bodyPost_ret (v:=.bool true) (by simp [results,Tryz.results116,go_sem,hu]) rfl ⟨rfl,HC.out⟩
   ·have hu1 : ¬ ((eB l tick : Nat) : Int) = 0:=by omega
    obtain rfl : sv = false:=by rw [HV.out];simp [decide_eq_true_eq,hm,hu]
    clear HV
    go_enter Tryz.func116,Tryz.ntmps116
    go_wp2_with fail
    refine fl.mono ?_
    rintro e w1 ⟨rfl,hB1⟩
    have HB1:=aiS hB1;have HS2:=aiS (HS.out.below hB1)
    obtain ⟨d0,d1⟩:=HS2.out.cells
    clear fl hB1
    go_wp2_with fail
    refine aQ 27 (by kernel_rfl) (by kernel_rfl) ?_
    simp only [List.take_succ_cons,List.take_zero,List.drop_succ_cons,List.drop_zero]
    repeat (first | (apply aA;(next=>(intro W hW K hK;have y0:=hW.cell d0;have y1:=hW.cell d1;go_simp;first | exact ⟨hW,hK⟩ | exact hK));(next=>exact aH.self _);(try go_simp)) | (apply aA;(next=>(intro W hW K hK;go_simp;first | exact ⟨_,hW.of_eq (jy R l most floor false S W (HS2.out.ring.below hW)),hK⟩ | exact ⟨hW,_,hW.of_eq (jy R l most floor false S W (HS2.out.ring.below hW)),hK⟩));(next=>exact aH.self _);(try go_simp)) | (apply aA;(next=>(intro W hW K hK;go_simp;first | exact ⟨_,hW.call (iB R l most floor false S tick W (HS2.out.ring.below hW)),hK⟩ | exact ⟨hW,_,hW.call (iB R l most floor false S tick W (HS2.out.ring.below hW)),hK⟩));(next=>exact aH.self _);(try go_simp)))
    refine aT ?_
    intro WC aP
    have HC:=aiS (HB1.out.trans (Below.mono aP HB1.out.size));clear aP d0 d1
    go_wp2_with fail
    exact bodyPost_ret (v:=.bool false) (by simp [results,Tryz.results116,go_sem,hu]) rfl ⟨rfl,HC.out⟩
  ·obtain rfl : sv = false:=by rw [HV.out];simp [decide_eq_true_eq,hm]
   clear HV
   go_enter Tryz.func116,Tryz.ntmps116
   go_wp2_with fail
   refine fl.mono ?_
   rintro e w1 ⟨rfl,hB1⟩
   have HB1:=aiS hB1;have HS2:=aiS (HS.out.below hB1)
   obtain ⟨d0,d1⟩:=HS2.out.cells
   clear fl hB1
   go_wp2_with fail
   refine aQ 27 (by kernel_rfl) (by kernel_rfl) ?_
   simp only [List.take_succ_cons,List.take_zero,List.drop_succ_cons,List.drop_zero]
   repeat (first | (apply aA;(next=>(intro W hW K hK;have y0:=hW.cell d0;have y1:=hW.cell d1;go_simp;first | exact ⟨hW,hK⟩ | exact hK));(next=>exact aH.self _);(try go_simp)) | (apply aA;(next=>(intro W hW K hK;go_simp;first | exact ⟨_,hW.of_eq (jy R l most floor false S W (HS2.out.ring.below hW)),hK⟩ | exact ⟨hW,_,hW.of_eq (jy R l most floor false S W (HS2.out.ring.below hW)),hK⟩));(next=>exact aH.self _);(try go_simp)) | (apply aA;(next=>(intro W hW K hK;go_simp;first | exact ⟨_,hW.call (iB R l most floor false S tick W (HS2.out.ring.below hW)),hK⟩ | exact ⟨hW,_,hW.call (iB R l most floor false S tick W (HS2.out.ring.below hW)),hK⟩));(next=>exact aH.self _);(try go_simp)))
   refine aT ?_
   intro WC aP
   have HC:=aiS (HB1.out.trans (Below.mono aP HB1.out.size));clear aP d0 d1
   go_wp2_with fail
   exact bodyPost_ret (v:=.bool false) (by simp [results,Tryz.results116,go_sem]) rfl ⟨rfl,HC.out⟩
 ·by_cases hg : tick <= floor
  ·obtain rfl : sv = true:=by rw [HV.out];simp [hg]
   clear HV
   go_enter Tryz.func116,Tryz.ntmps116
   go_wp2_with fail
   refine fl.mono ?_
   rintro e w1 ⟨rfl,hB1⟩
   have HB1:=aiS hB1;have HS2:=aiS (HS.out.below hB1)
   obtain ⟨d0,d1⟩:=HS2.out.cells
   clear fl hB1
   go_wp2_with fail
   refine aQ 27 (by kernel_rfl) (by kernel_rfl) ?_
   simp only [List.take_succ_cons,List.take_zero,List.drop_succ_cons,List.drop_zero]
   repeat (first | (apply aA;(next=>(intro W hW K hK;have y0:=hW.cell d0;have y1:=hW.cell d1;go_simp;first | exact ⟨hW,hK⟩ | exact hK));(next=>exact aH.self _);(try go_simp)) | (apply aA;(next=>(intro W hW K hK;go_simp;first | exact ⟨_,hW.of_eq (jy R l most floor true S W (HS2.out.ring.below hW)),hK⟩ | exact ⟨hW,_,hW.of_eq (jy R l most floor true S W (HS2.out.ring.below hW)),hK⟩));(next=>exact aH.self _);(try go_simp)) | (apply aA;(next=>(intro W hW K hK;go_simp;first | exact ⟨_,hW.call (iB R l most floor true S tick W (HS2.out.ring.below hW)),hK⟩ | exact ⟨hW,_,hW.call (iB R l most floor true S tick W (HS2.out.ring.below hW)),hK⟩));(next=>exact aH.self _);(try go_simp)))
   refine aT ?_
   intro WC aP
   have HC:=aiS (HB1.out.trans (Below.mono aP HB1.out.size));clear aP d0 d1
   go_wp2_with fail
   exact bodyPost_ret (v:=.bool true) (by simp [results,Tryz.results116,go_sem]) rfl ⟨rfl,HC.out⟩
  ·by_cases hm : (l.length : Int) = most
   ·have hm' : ((l.length : Int) == most) = true:=by simpa using hm
    by_cases hu : eB l tick = 0
    ·have hu1 : ((eB l tick : Nat) : Int) = 0:=by omega
     obtain rfl : sv = true:=by rw [HV.out];simp [hg,hm,hu]
     clear HV
     go_enter Tryz.func116,Tryz.ntmps116
     go_wp2_with fail
     refine fl.mono ?_
     rintro e w1 ⟨rfl,hB1⟩
     have HB1:=aiS hB1;have HS2:=aiS (HS.out.below hB1)
     obtain ⟨d0,d1⟩:=HS2.out.cells
     clear fl hB1
     go_wp2_with fail
     refine aQ 27 (by kernel_rfl) (by kernel_rfl) ?_
     simp only [List.take_succ_cons,List.take_zero,List.drop_succ_cons,List.drop_zero]
     repeat (first | (apply aA;(next=>(intro W hW K hK;have y0:=hW.cell d0;have y1:=hW.cell d1;go_simp;first | exact ⟨hW,hK⟩ | exact hK));(next=>exact aH.self _);(try go_simp)) | (apply aA;(next=>(intro W hW K hK;go_simp;first | exact ⟨_,hW.of_eq (jy R l most floor true S W (HS2.out.ring.below hW)),hK⟩ | exact ⟨hW,_,hW.of_eq (jy R l most floor true S W (HS2.out.ring.below hW)),hK⟩));(next=>exact aH.self _);(try go_simp)) | (apply aA;(next=>(intro W hW K hK;go_simp;first | exact ⟨_,hW.call (iB R l most floor true S tick W (HS2.out.ring.below hW)),hK⟩ | exact ⟨hW,_,hW.call (iB R l most floor true S tick W (HS2.out.ring.below hW)),hK⟩));(next=>exact aH.self _);(try go_simp)))
     refine aT ?_
     intro WC aP
     have HC:=aiS (HB1.out.trans (Below.mono aP HB1.out.size));clear aP d0 d1
     go_wp2_with fail
     exact bodyPost_ret (v:=.bool true) (by simp [results,Tryz.results116,go_sem,hg,hu]) rfl ⟨rfl,HC.out⟩
    ·have hu1 : ¬ ((eB l tick : Nat) : Int) = 0:=by omega
     obtain rfl : sv = false:=by rw [HV.out];simp [hg,hm,hu]
     clear HV
     go_enter Tryz.func116,Tryz.ntmps116
     go_wp2_with fail
     refine fl.mono ?_
     rintro e w1 ⟨rfl,hB1⟩
     have HB1:=aiS hB1;have HS2:=aiS (HS.out.below hB1)
     obtain ⟨d0,d1⟩:=HS2.out.cells
     clear fl hB1
     go_wp2_with fail
     refine aQ 27 (by kernel_rfl) (by kernel_rfl) ?_
     simp only [List.take_succ_cons,List.take_zero,List.drop_succ_cons,List.drop_zero]
     repeat (first | (apply aA;(next=>(intro W hW K hK;have y0:=hW.cell d0;have y1:=hW.cell d1;go_simp;first | exact ⟨hW,hK⟩ | exact hK));(next=>exact aH.self _);(try go_simp)) | (apply aA;(next=>(intro W hW K hK;go_simp;first | exact ⟨_,hW.of_eq (jy R l most floor true S W (HS2.out.ring.below hW)),hK⟩ | exact ⟨hW,_,hW.of_eq (jy R l most floor true S W (HS2.out.ring.below hW)),hK⟩));(next=>exact aH.self _);(try go_simp)) | (apply aA;(next=>(intro W hW K hK;go_simp;first | exact ⟨_,hW.call (iB R l most floor true S tick W (HS2.out.ring.below hW)),hK⟩ | exact ⟨hW,_,hW.call (iB R l most floor true S tick W (HS2.out.ring.below hW)),hK⟩));(next=>exact aH.self _);(try go_simp)))
     refine aT ?_
     intro WC aP
     have HC:=aiS (HB1.out.trans (Below.mono aP HB1.out.size));clear aP d0 d1
     go_wp2_with fail
     exact bodyPost_ret (v:=.bool false) (by simp [results,Tryz.results116,go_sem,hg,hu]) rfl ⟨rfl,HC.out⟩
   ·obtain rfl : sv = false:=by rw [HV.out];simp [hg,hm]
    clear HV
    go_enter Tryz.func116,Tryz.ntmps116
    go_wp2_with fail
    refine fl.mono ?_
    rintro e w1 ⟨rfl,hB1⟩
    have HB1:=aiS hB1;have HS2:=aiS (HS.out.below hB1)
    obtain ⟨d0,d1⟩:=HS2.out.cells
    clear fl hB1
    go_wp2_with fail
    refine aQ 27 (by kernel_rfl) (by kernel_rfl) ?_
    simp only [List.take_succ_cons,List.take_zero,List.drop_succ_cons,List.drop_zero]
    repeat (first | (apply aA;(next=>(intro W hW K hK;have y0:=hW.cell d0;have y1:=hW.cell d1;go_simp;first | exact ⟨hW,hK⟩ | exact hK));(next=>exact aH.self _);(try go_simp)) | (apply aA;(next=>(intro W hW K hK;go_simp;first | exact ⟨_,hW.of_eq (jy R l most floor true S W (HS2.out.ring.below hW)),hK⟩ | exact ⟨hW,_,hW.of_eq (jy R l most floor true S W (HS2.out.ring.below hW)),hK⟩));(next=>exact aH.self _);(try go_simp)) | (apply aA;(next=>(intro W hW K hK;go_simp;first | exact ⟨_,hW.call (iB R l most floor true S tick W (HS2.out.ring.below hW)),hK⟩ | exact ⟨hW,_,hW.call (iB R l most floor true S tick W (HS2.out.ring.below hW)),hK⟩));(next=>exact aH.self _);(try go_simp)))
    refine aT ?_
    intro WC aP
    have HC:=aiS (HB1.out.trans (Below.mono aP HB1.out.size));clear aP d0 d1
    go_wp2_with fail
    exact bodyPost_ret (v:=.bool false) (by simp [results,Tryz.results116,go_sem,hg]) rfl ⟨rfl,HC.out⟩
end Go.Proofs.YtklkooeimkedgaaGreat
namespace Go.Proofs.YtklkooeimkedgaaGreat
open Go.RowKit
set_option maxRecDepth 100000
def fA (l : List aG) (i : Int) : Option aG:=if i < 0 then none else l[i.toNat]?
def vo : Option aG -> Int | none=>0 | some k=>k.sn.tick
def mX : Option aG -> Int | none=>0 | some k=>k.sn.time
def Wt : Option aG -> Value | none=>.slice none 0 0 | some k=>fQ k
def gT : Option aG -> List aB | none=>[] | some k=>k.sn.ents
def Wu : Option aG -> Int | none=>0 | some k=>k.key
def sQ : Option aG -> Int | none=>3 | some _=>0
theorem BO (o : Option aG) : ∃ a n c,Wt o = .slice a n c:=by cases o <;> exact ⟨_,_,_,rfl⟩
theorem Kn (o : Option aG) : xR o = .agg #[.int .i64 (vo o),.int .i64 (mX o),Wt o]:=by cases o <;> rfl
theorem Om (R : Nat) (l : List aG) (most floor : Int) (gone : Bool) (S : Nat -> Prop) (i : Int) (w : World) (h : RingAt w R l most floor gone S) :
 Calls Tryz.prog 131 #[.pointer (some ⟨R,0,none⟩),.int .i64 i] w λe w'=>e = .returned (.tuple #[.int .i64 (Wu (fA l i)),.agg #[.int .i64 (vo (fA l i)),.int .i64 (mX (fA l i)),Wt (fA l i)],.int .i64 (sQ (fA l i))]) /\ Below w.heap.size w w':=by
 by_cases hi : i < 0 \/ (l.length : Int) <= i
 ·have e : fA l i = none:=by
   unfold fA
   split
   ·rfl
   ·exact List.getElem?_eq_none (by omega)
  rw [e]
  exact XU R l most floor gone S i w h hi
 ·obtain ⟨x,hx⟩ : ∃ x,l[i.toNat]? = some x:=⟨_,List.getElem?_eq_getElem (by omega)⟩
  have e : fA l i = some x:=by
   unfold fA
   rw [if_neg (by omega)];exact hx
  rw [e]
  have:=ZC R l most floor gone S i.toNat x w h hx
  rw [show ((i.toNat : Nat) : Int) = i by omega] at this
  exact this
def fJ (l : List aG) (tick time : Int) : Bool :=
 (decide (sQ (fA l (eB l tick - 1)) ≠ 0) || decide (mX (fA l (eB l tick - 1)) < time)) && (decide (sQ (fA l (eB l tick)) ≠ 0) || decide (time < mX (fA l (eB l tick))))
theorem XW (l : List aG) (key : Int) : eB l key <= l.length:=by
 unfold eB
 split
 ·rename_i h
  obtain ⟨x,hx,_⟩:=Hf h
  exact (List.getElem?_eq_some_iff.1 hx).1
 ·exact zm l key
set_option maxHeartbeats 1000000 in
theorem tK (T R : Nat) (l : List aG) (most floor : Int) (gone : Bool) (S : Nat -> Prop) (tick time : Int) (s : Value) (w : World) (h : gG w T R l most floor gone S) :
 Calls Tryz.prog 118 #[.pointer (some ⟨T,0,none⟩),.agg #[.int .i64 tick,.int .i64 time,s]] w λe w'=>e = .returned (.bool (fJ l tick time)) /\ Below w.heap.size w w':=by
 have un:=λw h=>iB R l most floor gone S tick w h
 have a1:=λw h=>Om R l most floor gone S (eB l tick - 1) w h
 have a2:=λw h=>Om R l most floor gone S (eB l tick) w h
 have HV : Hid (fJ l tick time = ((decide (sQ (fA l (eB l tick - 1)) ≠ 0) || decide (mX (fA l (eB l tick - 1)) < time)) && (decide (sQ (fA l (eB l tick)) ≠ 0) || decide (time < mX (fA l (eB l tick)))))):=aiS rfl
 have hle:=XW l tick
 have F4 : (l.length : Int) <= 64:=by obtain ⟨v,hp⟩:=h.ring;exact hp.len
 obtain ⟨ZL,ZM,ZN,hs1⟩:=BO (fA l (eB l tick - 1))
 obtain ⟨ZO,ZP,ZQ,hs2⟩:=BO (fA l (eB l tick))
 rw [hs1] at a1
 rw [hs2] at a2
 clear hs1 hs2
 generalize fJ l tick time = sv at *
 generalize sQ (fA l (eB l tick - 1)) = e1 at *
 generalize mX (fA l (eB l tick - 1)) = m1 at *
 generalize vo (fA l (eB l tick - 1)) = t1 at *
 generalize Wu (fA l (eB l tick - 1)) = k1 at *
 generalize sQ (fA l (eB l tick)) = e2 at *
 generalize mX (fA l (eB l tick)) = m2 at *
 generalize vo (fA l (eB l tick)) = t2 at *
 generalize Wu (fA l (eB l tick)) = k2 at *
 generalize eB l tick = n at *
 have hw : wrap64 ((n : Int) - 1) = (n : Int) - 1:=by unfold wrap64;omega
 obtain ⟨w0,hw0⟩ : ∃ w0,w.alloc (.cells #[.int .i64 tick,.int .i64 time,s] 36) = w0:=⟨_,rfl⟩
 have HB0 : Hid (Below w.heap.size w w0):=aiS (by rw [← hw0];exact aiT)
 have HX0 : Hid (ak w0 w.heap.size #[.int .i64 tick,.int .i64 time,s] 36):=aiS (by rw [← hw0];exact ak.new _ _ _)
 have zi:=aiS (h.below HB0.out)
 obtain ⟨d0,d1⟩:=zi.out.cells
 have x0:=HX0.out.cell 0;simp at x0;clear h hle F4
 go_enter Tryz.func118,Tryz.ntmps118
 go_wp2_with fail
 clear hw0
 refine aQ 6 (by kernel_rfl) (by kernel_rfl) ?_
 simp only [List.take_succ_cons,List.take_zero,List.drop_succ_cons,List.drop_zero]
 repeat (apply aA;(next=>(intro W hW K hK;have y0:=hW.cell d0;have y1:=hW.cell d1;have y2:=hW.cell x0;go_simp;first | exact ⟨hW,hK⟩ | exact hK));(next=>exact aH.self _);(try go_simp))
 refine aT ?_
 intro W0 hW0
 have Oo : Below w0.heap.size w0 W0:=hW0
 have ZR:=aiS (HB0.out.trans (Oo.mono HB0.out.size));have ZT:=aiS (zi.out.below Oo);have ZU:=aiS (HX0.out.below Oo HX0.out.lt);clear hW0 Oo d0 d1 x0
 go_wp2_with fail
 refine (un W0 ZT.out.ring).mono ?_
 rintro e WC ⟨rfl,bP⟩
 have HBC:=aiS (ZR.out.trans (bP.mono ZR.out.size));have G9:=aiS (ZT.out.below bP);have HXC:=aiS (ZU.out.below bP ZU.out.lt);clear bP un
 obtain ⟨d0,d1⟩:=G9.out.cells
 go_wp2_with fail
 refine (a1 WC G9.out.ring).mono ?_
 rintro e w1 ⟨rfl,hB⟩
 obtain ⟨v1,hv1⟩ : ∃ v,w1.alloc (.cells #[.int .i64 0,.int .i64 0,.slice none 0 0] 36) = v:=⟨_,rfl⟩
 have BP : Below WC.heap.size WC v1:=by rw [← hv1];exact hB.alloc hB.size _
 have bE : ak v1 w1.heap.size #[.int .i64 0,.int .i64 0,.slice none 0 0] 36:=by rw [← hv1];exact ak.new _ _ _
 have f0:=bE.free 0;have f1:=bE.free 1;have f2:=bE.free 2;have q0:=bE.cell 0;have q1:=bE.cell 1;have q2:=bE.cell 2;simp at q0 q1 q2
 have hsz : WC.heap.size <= w1.heap.size:=hB.size
 have fu:=aiS (fB (v0:=.int .i64 t1) (v1:=.int .i64 m1) (v2:=.slice ZL ZM ZN) bE);have HB1:=aiS (dz (v0:=.int .i64 t1) (v1:=.int .i64 m1) (v2:=.slice ZL ZM ZN) BP hsz)
 obtain ⟨u1,hu1⟩ : ∃ u,((v1.setCell ⟨w1.heap.size,0,none⟩ (.int .i64 t1)).setCell ⟨w1.heap.size,1,none⟩ (.int .i64 m1)).setCell ⟨w1.heap.size,2,none⟩ (.slice ZL ZM ZN) = u:=⟨_,rfl⟩
 rw [hu1] at fu HB1
 clear hB BP bE hsz d0 d1 a1;have gL:=aiS (G9.out.below HB1.out);have Ko:=aiS (HBC.out.trans (HB1.out.mono HBC.out.size))
 obtain ⟨d0,d1⟩:=gL.out.cells
 have yF:=aiS (HXC.out.below HB1.out HXC.out.lt)
 go_wp2_with fail
 clear hv1 hu1 f0 f1 f2 q0 q1 q2
 refine (a2 u1 gL.out.ring).mono ?_
 rintro e w2 ⟨rfl,hB⟩
 obtain ⟨v2,hv2⟩ : ∃ v,w2.alloc (.cells #[.int .i64 0,.int .i64 0,.slice none 0 0] 36) = v:=⟨_,rfl⟩
 have BP : Below u1.heap.size u1 v2:=by rw [← hv2];exact hB.alloc hB.size _
 have bE : ak v2 w2.heap.size #[.int .i64 0,.int .i64 0,.slice none 0 0] 36:=by rw [← hv2];exact ak.new _ _ _
 have f0:=bE.free 0;have f1:=bE.free 1;have f2:=bE.free 2;have q0:=bE.cell 0;have q1:=bE.cell 1;have q2:=bE.cell 2;simp at q0 q1 q2
 have hsz : u1.heap.size <= w2.heap.size:=hB.size
 have dU:=aiS (fB (v0:=.int .i64 t2) (v1:=.int .i64 m2) (v2:=.slice ZO ZP ZQ) bE);have HB2:=aiS (dz (v0:=.int .i64 t2) (v1:=.int .i64 m2) (v2:=.slice ZO ZP ZQ) BP hsz)
 obtain ⟨u2,hu2⟩ : ∃ u,((v2.setCell ⟨w2.heap.size,0,none⟩ (.int .i64 t2)).setCell ⟨w2.heap.size,1,none⟩ (.int .i64 m2)).setCell ⟨w2.heap.size,2,none⟩ (.slice ZO ZP ZQ) = u:=⟨_,rfl⟩
 rw [hu2] at dU HB2
 clear hB BP bE hsz d0 d1 a2;have HS2:=aiS (gL.out.below HB2.out);have qd:=aiS (Ko.out.trans (HB2.out.mono Ko.out.size))
 obtain ⟨d0,d1⟩:=HS2.out.cells
 have ae3:=aiS (yF.out.below HB2.out yF.out.lt);have ae4:=aiS (fu.out.below HB2.out fu.out.lt);have r0:=ae3.out.cell 1;have r1:=ae4.out.cell 1;have r2:=dU.out.cell 1;simp at r0 r1 r2;clear d0 d1
 by_cases z1 : e1 = 0
 ·by_cases z2 : e2 = 0
  ·by_cases y1 : m1 < time
   ·by_cases y2 : time < m2
    ·have n1 : (e1 != 0) = false:=by simp [z1]
     have n2 : (e2 != 0) = false:=by simp [z2]
     obtain rfl : sv = true:=by rw [HV.out];simp [z1,z2,y1,y2] <;> omega
     clear z1 z2 HV
     go_wp2_with fail
     exact bodyPost_ret (v:=.bool true) (by simp [results,Tryz.results118,go_sem,y1,y2]) rfl ⟨rfl,qd.out⟩
    ·have n1 : (e1 != 0) = false:=by simp [z1]
     have n2 : (e2 != 0) = false:=by simp [z2]
     obtain rfl : sv = false:=by rw [HV.out];simp [z1,z2,y1,y2] <;> omega
     clear z1 z2 HV
     go_wp2_with fail
     exact bodyPost_ret (v:=.bool false) (by simp [results,Tryz.results118,go_sem,y1,y2]) rfl ⟨rfl,qd.out⟩
   ·by_cases y2 : time < m2
    ·have n1 : (e1 != 0) = false:=by simp [z1]
     have n2 : (e2 != 0) = false:=by simp [z2]
     obtain rfl : sv = false:=by rw [HV.out];simp [z1,z2,y1,y2] <;> omega
     clear z1 z2 HV
     go_wp2_with fail
     exact bodyPost_ret (v:=.bool false) (by simp [results,Tryz.results118,go_sem,y1,y2]) rfl ⟨rfl,qd.out⟩
    ·have n1 : (e1 != 0) = false:=by simp [z1]
     have n2 : (e2 != 0) = false:=by simp [z2]
     obtain rfl : sv = false:=by rw [HV.out];simp [z1,z2,y1,y2] <;> omega
     clear z1 z2 HV
     go_wp2_with fail
     exact bodyPost_ret (v:=.bool false) (by simp [results,Tryz.results118,go_sem,y1,y2]) rfl ⟨rfl,qd.out⟩
  ·by_cases y1 : m1 < time
   ·by_cases y2 : time < m2
    ·have n1 : (e1 != 0) = false:=by simp [z1]
     have n2 : (e2 != 0) = true:=by simp [z2]
     obtain rfl : sv = true:=by rw [HV.out];simp [z1,z2,y1,y2] <;> omega
     clear z1 z2 HV
     go_wp2_with fail
     exact bodyPost_ret (v:=.bool true) (by simp [results,Tryz.results118,go_sem,y1,y2]) rfl ⟨rfl,qd.out⟩
    ·have n1 : (e1 != 0) = false:=by simp [z1]
     have n2 : (e2 != 0) = true:=by simp [z2]
     obtain rfl : sv = true:=by rw [HV.out];simp [z1,z2,y1,y2] <;> omega
     clear z1 z2 HV
     go_wp2_with fail
     exact bodyPost_ret (v:=.bool true) (by simp [results,Tryz.results118,go_sem,y1,y2]) rfl ⟨rfl,qd.out⟩
   ·by_cases y2 : time < m2
    ·have n1 : (e1 != 0) = false:=by simp [z1]
     have n2 : (e2 != 0) = true:=by simp [z2]
     obtain rfl : sv = false:=by rw [HV.out];simp [z1,z2,y1,y2] <;> omega
     clear z1 z2 HV
     go_wp2_with fail
     exact bodyPost_ret (v:=.bool false) (by simp [results,Tryz.results118,go_sem,y1,y2]) rfl ⟨rfl,qd.out⟩
    ·have n1 : (e1 != 0) = false:=by simp [z1]
     have n2 : (e2 != 0) = true:=by simp [z2]
     obtain rfl : sv = false:=by rw [HV.out];simp [z1,z2,y1,y2] <;> omega
     clear z1 z2 HV
     go_wp2_with fail
     exact bodyPost_ret (v:=.bool false) (by simp [results,Tryz.results118,go_sem,y1,y2]) rfl ⟨rfl,qd.out⟩
 ·by_cases z2 : e2 = 0
  ·by_cases y1 : m1 < time
   ·by_cases y2 : time < m2
    ·have n1 : (e1 != 0) = true:=by simp [z1]
     have n2 : (e2 != 0) = false:=by simp [z2]
     obtain rfl : sv = true:=by rw [HV.out];simp [z1,z2,y1,y2] <;> omega
     clear z1 z2 HV
     go_wp2_with fail
     exact bodyPost_ret (v:=.bool true) (by simp [results,Tryz.results118,go_sem,y1,y2]) rfl ⟨rfl,qd.out⟩
    ·have n1 : (e1 != 0) = true:=by simp [z1]
     have n2 : (e2 != 0) = false:=by simp [z2]
     obtain rfl : sv = false:=by rw [HV.out];simp [z1,z2,y1,y2] <;> omega
     clear z1 z2 HV
     go_wp2_with fail
     exact bodyPost_ret (v:=.bool false) (by simp [results,Tryz.results118,go_sem,y1,y2]) rfl ⟨rfl,qd.out⟩
   ·by_cases y2 : time < m2
    ·have n1 : (e1 != 0) = true:=by simp [z1]
     have n2 : (e2 != 0) = false:=by simp [z2]
     obtain rfl : sv = true:=by rw [HV.out];simp [z1,z2,y1,y2] <;> omega
     clear z1 z2 HV
     go_wp2_with fail
     exact bodyPost_ret (v:=.bool true) (by simp [results,Tryz.results118,go_sem,y1,y2]) rfl ⟨rfl,qd.out⟩
    ·have n1 : (e1 != 0) = true:=by simp [z1]
     have n2 : (e2 != 0) = false:=by simp [z2]
     obtain rfl : sv = false:=by rw [HV.out];simp [z1,z2,y1,y2] <;> omega
     clear z1 z2 HV
     go_wp2_with fail
     exact bodyPost_ret (v:=.bool false) (by simp [results,Tryz.results118,go_sem,y1,y2]) rfl ⟨rfl,qd.out⟩
  ·by_cases y1 : m1 < time
   ·by_cases y2 : time < m2
    ·have n1 : (e1 != 0) = true:=by simp [z1]
     have n2 : (e2 != 0) = true:=by simp [z2]
     obtain rfl : sv = true:=by rw [HV.out];simp [z1,z2,y1,y2] <;> omega
     clear z1 z2 HV
     go_wp2_with fail
     exact bodyPost_ret (v:=.bool true) (by simp [results,Tryz.results118,go_sem,y1,y2]) rfl ⟨rfl,qd.out⟩
    ·have n1 : (e1 != 0) = true:=by simp [z1]
     have n2 : (e2 != 0) = true:=by simp [z2]
     obtain rfl : sv = true:=by rw [HV.out];simp [z1,z2,y1,y2] <;> omega
     clear z1 z2 HV
     go_wp2_with fail
     exact bodyPost_ret (v:=.bool true) (by simp [results,Tryz.results118,go_sem,y1,y2]) rfl ⟨rfl,qd.out⟩
   ·by_cases y2 : time < m2
    ·have n1 : (e1 != 0) = true:=by simp [z1]
     have n2 : (e2 != 0) = true:=by simp [z2]
     obtain rfl : sv = true:=by rw [HV.out];simp [z1,z2,y1,y2] <;> omega
     clear z1 z2 HV
     go_wp2_with fail
     exact bodyPost_ret (v:=.bool true) (by simp [results,Tryz.results118,go_sem,y1,y2]) rfl ⟨rfl,qd.out⟩
    ·have n1 : (e1 != 0) = true:=by simp [z1]
     have n2 : (e2 != 0) = true:=by simp [z2]
     obtain rfl : sv = true:=by rw [HV.out];simp [z1,z2,y1,y2] <;> omega
     clear z1 z2 HV
     go_wp2_with fail
     exact bodyPost_ret (v:=.bool true) (by simp [results,Tryz.results118,go_sem,y1,y2]) rfl ⟨rfl,qd.out⟩
end Go.Proofs.YtklkooeimkedgaaGreat
namespace Go.Proofs.YtklkooeimkedgaaGreat
open Go.RowKit
set_option maxRecDepth 100000
theorem lI.cap {w : World} {R : Nat} {l : List aG} {most floor : Int} {gone : Bool} {S : Nat -> Prop} {v : Value} (h : lI w R l most floor gone S v) : lI w R l most floor gone (λk=>S k /\ k < w.heap.size) v :=
 ⟨h.blk,h.row,h.ents,⟨h.sR,h.blk.lt⟩,λj e=>⟨h.sv j e,(h.row.lt j e).2⟩,λk hk j e=>⟨h.se k hk j e,((h.ents k hk).1.lt j e).2⟩,h.up,h.len⟩
theorem RingAt.cap {w : World} {R : Nat} {l : List aG} {most floor : Int} {gone : Bool} {S : Nat -> Prop} (h : RingAt w R l most floor gone S) : RingAt w R l most floor gone (λk=>S k /\ k < w.heap.size):=by
 obtain ⟨v,h⟩:=h;exact ⟨v,h.cap⟩
theorem gG.cap {w : World} {T R : Nat} {l : List aG} {most floor : Int} {gone : Bool} {S : Nat -> Prop} (h : gG w T R l most floor gone S) : gG w T R l most floor gone (λk=>S k /\ k < w.heap.size):=by
 obtain ⟨⟨cs,hcs,hb⟩,h2,h3⟩:=h
 exact ⟨⟨cs,hcs,hb⟩,h2.cap,⟨h3,hb.lt⟩⟩
theorem gG.weaken {w : World} {T R : Nat} {l : List aG} {most floor : Int} {gone : Bool} {S S' : Nat -> Prop} (h : gG w T R l most floor gone S) (hs : ∀ k,S k -> S' k) : gG w T R l most floor gone S' :=
 ⟨h.blk,h.ring.weaken hs,hs _ h.sT⟩
theorem Ea {w : World} {R : Nat} {l : List aG} {most floor : Int} {gone : Bool} {S : Nat -> Prop} (h : RingAt w R l most floor gone S) {o : Option aG} (ho : ∀ k,o = some k -> k ∈ l) (hk : ∀ k ∈ l,k.sn.ents.length <= 64) :
 ∃ a c,Wt o = .slice a (gT o).length c /\ fP w a (gT o) /\ (a = none -> c = 0) /\ (gT o).length <= 64 /\ (∀ x,a = some x -> S x.block) /\ (gT o).length <= c:=by
 obtain ⟨v,hP⟩:=h
 cases o with
 | none =>
   refine ⟨none,0,rfl,?_,λ_=>rfl,by simp [gT],(λx hx=>by cases hx),Nat.le_refl _⟩
   obtain ⟨a,c,e,h1,_⟩:=(aM.nil w 0).ents (by simp)
   cases e
   exact h1
 | some k =>
   have hm:=ho k rfl
   obtain ⟨a,c,e,h1,h2,h3,_⟩:=(hP.ents k hm).1.ents (hP.ents k hm).2
   refine ⟨a,c,e,h1,h2,hk k hm,λx hx=>?_,h3⟩
   have hs:=hP.se k hm;have hr:=(hP.ents k hm).1
   obtain ⟨_,⟨e2,_⟩ | ⟨g,cap,cur,e2,_⟩⟩:=hr
   ·rw [show fQ k = Value.slice a k.sn.ents.length c from e] at e2
    injection e2 with e3
    subst e3;cases hx
   ·rw [show fQ k = Value.slice a k.sn.ents.length c from e] at e2
    injection e2 with e3
    subst e3;cases hx
    exact hs _ (by rw [show fQ k = Value.slice (some ⟨g,0,none⟩) k.sn.ents.length c from e];rfl)
theorem Eb {l : List aG} {key : Int} {k : aG} (h : eG l key = some k) : k ∈ l:=by
 unfold eG at h
 split at h
 ·exact List.mem_of_getElem? h
 ·cases h
def jQ (w1 : World) (t : TypeId) (z u : Array Value) : List Value -> World -> Prop
 | [],W=>Below w1.heap.size w1 W
 | [v],W=>Below w1.heap.size w1 W /\ ∃ b,v = .pointer (some ⟨b,0,none⟩) /\ ak W b z t /\ w1.heap.size <= b
 | [v,_],W=>Below w1.heap.size w1 W /\ ∃ b,v = .pointer (some ⟨b,0,none⟩) /\ ak W b u t /\ w1.heap.size <= b
 | _,_=>False
theorem jQ.base {w1 : World} {t : TypeId} {z u : Array Value} : ∀ {b : List Value} {W : World},jQ w1 t z u b W -> aH w1 W
 | [],_,h=>h
 | [_],_,h=>h.1
 | [_,_],_,h=>h.1
 | _ :: _ :: _ :: _,_,h=>h.elim
theorem jQ.below {w1 : World} {t : TypeId} {z u : Array Value} : ∀ {b : List Value} {W W' : World},jQ w1 t z u b W -> Below W.heap.size W W' -> jQ w1 t z u b W'
 | [],_,_,h,hb=>Below.trans h (hb.mono (Below.size h))
 | [_],_,_,⟨h,b,e,hB,hl⟩,hb=>⟨Below.trans h (hb.mono (Below.size h)),b,e,hB.below hb hB.lt,hl⟩
 | [_,_],_,_,⟨h,b,e,hB,hl⟩,hb=>⟨Below.trans h (hb.mono (Below.size h)),b,e,hB.below hb hB.lt,hl⟩
 | _ :: _ :: _ :: _,_,_,h,_=>h.elim
theorem jQ.new {w1 : World} {t : TypeId} {z u : Array Value} {W : World} (h : jQ w1 t z u [] W) : jQ w1 t z u [.pointer (some ⟨W.heap.size,0,none⟩)] (W.alloc (.cells z t)) :=
 ⟨Below.alloc h (Below.size h) _,_,rfl,ak.new _ _ _,Below.size h⟩
def iW (o : Option aG) : Sn:=⟨vo o,mX o,gT o⟩
theorem fP.only {w w' : World} {a : Option Addr} {es : List aB} {S : Nat -> Prop} (h : fP w a es) (ho : Only S w w') (hS : ∀ x,a = some x -> ¬ S x.block) : fP w' a es:=by
 obtain ⟨h1,h2⟩:=h
 refine ⟨h1,?_⟩
 rcases h2 with h2 | ⟨b,off,e,hl,hc⟩
 ·exact .inl h2
 ·refine .inr ⟨b,off,e,Nat.lt_of_lt_of_le hl ho.size,λi hi=>?_⟩
  have hh : ∀ o,w'.cell? ⟨b,o,none⟩ = w.cell? ⟨b,o,none⟩:=λo=>by
   simp only [World.cell?];rw [ho.block b hl (hS _ e)]
  have:=hc i hi
  unfold dF at this ⊢
  simp only [hh];exact this
def rZ (l : List aG) (most floor : Int) (gone : Bool) (tick base : Int) : Int :=
 if eF l tick = true then 12 else if iI l most floor gone tick = true then 13 else if eF l base = false /\ 0 <= base then 14 else 0
def dS (l : List aG) (most floor : Int) (gone : Bool) (zs : List Int) : Sn × Int :=
 if (bD zs).2 ≠ 0 then (dD,(bD zs).2) else
 if rZ l most floor gone (bD zs).1.tick (bD zs).1.base ≠ 0 then (dD,rZ l most floor gone (bD zs).1.tick (bD zs).1.base) else
 ((jo (iW (eG l (bD zs).1.base)) (bD zs).1).1,if (jo (iW (eG l (bD zs).1.base)) (bD zs).1).2 = 0 /\ fJ l (jo (iW (eG l (bD zs).1.base)) (bD zs).1).1.tick (jo (iW (eG l (bD zs).1.base)) (bD zs).1).1.time = false then 16 else (jo (iW (eG l (bD zs).1.base)) (bD zs).1).2)
structure bT (w : World) (T R : Nat) (l : List aG) (most floor : Int) (gone : Bool) (S : Nat -> Prop) (t m : Int) (s : Value) (e : Int) (W : World) : Prop where
 x : ak W w.heap.size #[.int .i64 t,.int .i64 m,s] 36
 e : ak W (w.heap.size + 1) #[.int .i64 e] 25
 st : gG W T R l most floor gone S
 b : Below w.heap.size w W
 sz : w.heap.size + 2 <= W.heap.size
 sS : ∀ k,S k -> k < w.heap.size
section
variable {w W W' : World} {T R : Nat} {l : List aG} {most floor : Int} {gone : Bool} {S : Nat -> Prop} {t m e : Int} {s : Value}
theorem bT.below (h : bT w T R l most floor gone S t m s e W) (hb : Below W.heap.size W W') : bT w T R l most floor gone S t m s e W' :=
 ⟨h.x.below hb h.x.lt,h.e.below hb h.e.lt,h.st.below hb,h.b.trans (hb.mono h.b.size),Nat.le_trans h.sz hb.size,h.sS⟩
theorem bT.refuse (h : bT w T R l most floor gone S t m s e W) {e' : Int} (he : ak W' (w.heap.size + 1) #[.int .i64 e'] 25) (ho : Only (λk=>k = w.heap.size + 1) W W') : bT w T R l most floor gone S t m s e' W' :=
 ⟨ho.blk h.x (by omega),he,h.st.only ho (λk hk hh=>by have:=h.sS k hk;omega),h.b.trans (ho.below h.b.size (λk hk=>by omega)),Nat.le_trans h.sz ho.size,h.sS⟩
theorem bT.yH (h : bT w T R l most floor gone S t m s e W) (t' m' : Int) (s' : Value) :
 bT w T R l most floor gone S t' m' s' e (((W.setCell ⟨w.heap.size,0,none⟩ (.int .i64 t')).setCell ⟨w.heap.size,1,none⟩ (.int .i64 m')).setCell ⟨w.heap.size,2,none⟩ s'):=by
 have h3 : Only (λk=>k = w.heap.size) W (((W.setCell ⟨w.heap.size,0,none⟩ (.int .i64 t')).setCell ⟨w.heap.size,1,none⟩ (.int .i64 m')).setCell ⟨w.heap.size,2,none⟩ s'):=kS (Only.refl _ _) (.inl rfl)
 exact ⟨fB h.x,h3.blk h.e (by omega),h.st.only h3 (λk hk hh=>by have:=h.sS k hk;omega),h.b.trans (h3.below h.b.size (λk hk=>by omega)),Nat.le_trans h.sz h3.size,h.sS⟩
theorem bT.wK (h : bT w T R l most floor gone S t m s e W) (e' : Int) : bT w T R l most floor gone S t m s e' (W.setCell ⟨w.heap.size + 1,0,none⟩ (.int .i64 e')) :=
 h.refuse (by simpa using h.e.set 0 (.int .i64 e')) (Only.setCell (S:=λk=>k = w.heap.size + 1) (p:=⟨w.heap.size + 1,0,none⟩) (Only.refl _ _) (.inl rfl) _)
theorem bT.yI (h : bT w T R l most floor gone S t m s e W) {base : Nat} {v : Value} {es : List aB} (ho : aM W base v es) (t' m' : Int) (s' : Value) : aM (((W.setCell ⟨w.heap.size,0,none⟩ (.int .i64 t')).setCell ⟨w.heap.size,1,none⟩ (.int .i64 m')).setCell ⟨w.heap.size,2,none⟩ s') base v es :=
 ho.only (kS (S:=λk=>k = w.heap.size) (Only.refl _ _) (.inl rfl)) (λj hj hk=>bJ ho h.x (by decide) (by rw [hj,hk]))
theorem bT.yJ (h : bT w T R l most floor gone S t m s e W) {base : Nat} {v : Value} {es : List aB} (ho : aM W base v es) (e' : Int) : aM (W.setCell ⟨w.heap.size + 1,0,none⟩ (.int .i64 e')) base v es :=
 ho.only (Only.setCell (S:=λk=>k = w.heap.size + 1) (p:=⟨w.heap.size + 1,0,none⟩) (Only.refl _ _) (.inl rfl) _) (λj hj hk=>bJ ho h.e (by decide) (by rw [hj,hk]))
theorem bT.cells (h : bT w T R l most floor gone S t m s e W) : (W.cell? ⟨w.heap.size,0,none⟩ = some (.int .i64 t) /\ W.cell? ⟨w.heap.size,1,none⟩ = some (.int .i64 m) /\ W.cell? ⟨w.heap.size,2,none⟩ = some s) /\ W.cell? ⟨w.heap.size + 1,0,none⟩ = some (.int .i64 e) /\
 (W.frozen? ⟨w.heap.size,0,none⟩ = false /\ W.frozen? ⟨w.heap.size,1,none⟩ = false /\ W.frozen? ⟨w.heap.size,2,none⟩ = false) /\ W.frozen? ⟨w.heap.size + 1,0,none⟩ = false /\ W.cell? ⟨T,0,none⟩ = some (.pointer (some ⟨R,0,none⟩)):=by
 have h0:=h.x.cell 0;have h1:=h.x.cell 1;have h2:=h.x.cell 2;have h3:=h.e.cell 0;simp at h0 h1 h2 h3
 exact ⟨⟨h0,h1,h2⟩,h3,⟨h.x.free 0,h.x.free 1,h.x.free 2⟩,h.e.free 0,h.st.cells.1⟩
end
set_option maxHeartbeats 4000000 in
theorem ZV (T R : Nat) (l : List aG) (most floor : Int) (gone : Bool) (S : Nat -> Prop) (a : Option Addr) (len cap : Nat) (zs : List Int) (w : World) (h0 : gG w T R l most floor gone S) (Oq : ∀ k ∈ l,k.sn.ents.length <= 64)
 (hz : BytesAt w a len zs) (hc : a = none -> cap = 0) (hlc : len <= cap) (hl : (len : Int) <= 140737488355000) (hgt : ay (bD zs).1.time) :
 Calls Tryz.prog 77 #[.pointer (some ⟨T,0,none⟩),.slice a len cap] w λe w'=>∃ v,e = .returned (.tuple #[.agg #[.int .i64 (dS l most floor gone zs).1.tick,.int .i64 (dS l most floor gone zs).1.time,v],.int .i64 (dS l most floor gone zs).2]) /\ aM w' w.heap.size v (dS l most floor gone zs).1.ents /\ Below w.heap.size w w':=by
 have h:=h0.cap
 generalize hS : (λk=>S k /\ k < w.heap.size) = S' at h
 have sS : ∀ k,S' k -> k < w.heap.size:=λk hk=>by rw [← hS] at hk;exact hk.2
 clear hS h0
 have HZ : Hid (dS l most floor gone zs = if (bD zs).2 ≠ 0 then (dD,(bD zs).2) else
  if rZ l most floor gone (bD zs).1.tick (bD zs).1.base ≠ 0 then (dD,rZ l most floor gone (bD zs).1.tick (bD zs).1.base) else
  ((jo (iW (eG l (bD zs).1.base)) (bD zs).1).1,if (jo (iW (eG l (bD zs).1.base)) (bD zs).1).2 = 0 /\ fJ l (jo (iW (eG l (bD zs).1.base)) (bD zs).1).1.tick (jo (iW (eG l (bD zs).1.base)) (bD zs).1).1.time = false then 16 else (jo (iW (eG l (bD zs).1.base)) (bD zs).1).2)):=aiS rfl
 generalize dS l most floor gone zs = z at *
 obtain ⟨w0,hw0⟩ : ∃ w0,(w.alloc (.cells #[.int .i64 0,.int .i64 0,.slice none 0 0] 36)).alloc (.cells #[.int .i64 0] 25) = w0:=⟨_,rfl⟩
 have hB0 : Below w.heap.size w w0:=by rw [← hw0];exact (aiT).alloc (by simp) _
 have H0 : Hid (bT w T R l most floor gone S' 0 0 (.slice none 0 0) 0 w0):=aiS ⟨by rw [← hw0];exact (ak.new _ _ _).alloc _,by
  rw [← hw0]
  have:=ak.new (w.alloc (.cells #[.int .i64 0,.int .i64 0,.slice none 0 0] 36)) #[.int .i64 0] 25
  simpa using this,h.below hB0,hB0,by rw [← hw0];simp,sS⟩
 have rd:=XQ a len cap zs w0 (hz.below hB0) hc hlc hl
 have ap:=λ(k : Option aG) (w : World) (ae : Option Addr) (gB : Nat) (hE : fP w ae (gT k)) (ga : Option Addr) (cap : Nat) (hR : qD w ga (bD zs).1.recs) (hlE : ((gT k).length : Int) <= 140737488355000)=>UE (vo k) (mX k) ae gB (gT k) (bD zs).1 ga cap hgt w hE hR hlE
 have MJ:=aiS ap;have HGT:=aiS hgt;have HK:=aiS Oq;clear hz h hB0 sS ap hgt Oq
 generalize (bD zs).2 = e0 at *
 generalize (bD zs).1 = g at *
 go_enter Tryz.func77,Tryz.ntmps77
 go_wp2_with fail
 clear hw0
 refine rd.mono ?_
 rintro e w1 ⟨v,rfl,hR,hB1⟩
 clear rd
 obtain ⟨ga,uR,rfl,_,_⟩:=hR.recs
 have hH1:=H0.out.below hB1
 obtain ⟨v1,hv1⟩ : ∃ v,w1.alloc (.cells #[.int .i64 0,.int .i64 0,.int .i64 0,.slice none 0 0] 39) = v:=⟨_,rfl⟩
 have BP : Below w1.heap.size w1 v1:=by rw [← hv1];exact aiT
 have bE : ak v1 w1.heap.size #[.int .i64 0,.int .i64 0,.int .i64 0,.slice none 0 0] 39:=by rw [← hv1];exact ak.new _ _ _
 have f0:=bE.free 0;have f1:=bE.free 1;have f2:=bE.free 2;have f3:=bE.free 3;have q0:=bE.cell 0;have q1:=bE.cell 1;have q2:=bE.cell 2;have q3:=bE.cell 3;simp at q0 q1 q2 q3
 have hb4 : Below w1.heap.size w1 ((((v1.setCell ⟨w1.heap.size,0,none⟩ (.int .i64 g.tick)).setCell ⟨w1.heap.size,1,none⟩ (.int .i64 g.time)).setCell ⟨w1.heap.size,2,none⟩ (.int .i64 g.base)).setCell ⟨w1.heap.size,3,none⟩ (.slice ga g.recs.length uR)):=Bp BP (Nat.le_refl _)
 have hG4:=Bo (v0:=.int .i64 g.tick) (v1:=.int .i64 g.time) (v2:=.int .i64 g.base) (v3:=.slice ga g.recs.length uR) bE
 obtain ⟨u0,hu0⟩ : ∃ u,((((v1.setCell ⟨w1.heap.size,0,none⟩ (.int .i64 g.tick)).setCell ⟨w1.heap.size,1,none⟩ (.int .i64 g.time)).setCell ⟨w1.heap.size,2,none⟩ (.int .i64 g.base)).setCell ⟨w1.heap.size,3,none⟩ (.slice ga g.recs.length uR)) = u:=⟨_,rfl⟩
 rw [hu0] at hb4 hG4
 have ZW:=hH1.below hb4
 have QU:=hR.below hb4 (λj e=>(hR.1.lt j e).2)
 have ZX : w.heap.size + 2 <= w1.heap.size:=hH1.sz
 have ZY : w.heap.size + 2 <= w0.heap.size:=H0.out.sz
 obtain ⟨_,p3,_,k3,_⟩:=ZW.cells
 obtain ⟨u1,hu1⟩ : ∃ u,u0.setCell ⟨w.heap.size + 1,0,none⟩ (.int .i64 e0) = u:=⟨_,rfl⟩
 have mU : Only (λk=>k = w.heap.size + 1) u0 u1:=by rw [← hu1];exact Only.setCell (S:=λk=>k = w.heap.size + 1) (p:=⟨w.heap.size + 1,0,none⟩) (Only.refl _ _) (.inl rfl) _
 have H1 : Hid (bT w T R l most floor gone S' 0 0 (.slice none 0 0) e0 u1):=aiS (by rw [← hu1];exact ZW.wK e0)
 have G1:=aiS (mU.blk hG4 (by omega))
 have R1:=aiS (QU.only mU (λj e=>by have:=(hR.1.lt j e).1;omega))
 have hc5:=H1.out.e.cell 0;have g0:=G1.out.cell 0;simp at hc5 g0;have t0:=H1.out.st.cells.1;have HN:=aiS (And.intro ZX ZY);clear BP bE hR hH1 hB1 hb4 hG4 ZW QU ZX ZY mU H0
 by_cases he0 : e0 = 0
 ·subst he0
  have HZ1 : Hid (z = _):=aiS (HZ.out.trans (if_neg (by simp)))
  clear HZ
  have gt:=λW h=>Ke R l most floor gone S' g.tick W h
  rw [Kn] at gt
  obtain ⟨sa,sn,sc,hs1⟩:=BO (eG l g.tick)
  rw [hs1] at gt
  have Gh : Hid (rZ l most floor gone g.tick g.base = if eF l g.tick = true then 12 else if iI l most floor gone g.tick = true then 13 else if eF l g.base = false /\ 0 <= g.base then 14 else 0):=aiS rfl
  generalize rZ l most floor gone g.tick g.base = E3 at *
  generalize eF l g.tick = th at *
  generalize vo (eG l g.tick) = st at *
  generalize mX (eG l g.tick) = sm at *
  clear hs1
  have HI : Hid (jQ u1 36 #[.int .i64 0,.int .i64 0,.slice none 0 0] #[.int .i64 st,.int .i64 sm,.slice sa sn sc] [] u1.drew):=aiS (show Below u1.heap.size u1 u1.drew from below_drewN aiU 1)
  have hE0 : (0 != (0 : Int)) = false:=rfl
  have HB : Hid (jQ u1 36 #[.int .i64 0,.int .i64 0,.slice none 0 0] #[.int .i64 st,.int .i64 sm,.slice sa sn sc] [] u1.drew):=aiS (show Below u1.heap.size u1 u1.drew from below_drewN aiU 1)
  have t0:=H1.out.st.cells.1;have g0:=G1.out.cell 0;simp at g0
  go_wp2_with fail
  apply lG 12 [10,11] (jQ u1 36 #[.int .i64 0,.int .i64 0,.slice none 0 0] #[.int .i64 st,.int .i64 sm,.slice sa sn sc])
  case hm=>kernel_rfl
  case hB=>kernel_rfl
  case hp=>kernel_rfl
  case hI=>exact HB.out
  simp only [List.take_succ_cons,List.take_zero,List.drop_succ_cons,List.drop_zero]
  repeat (first
   | (apply bZ;(next=>rfl);(next=>(intro b W hW K hK;have hb:=jQ.base hW;have y0:=hb.cell t0;have y1:=hb.cell g0; go_simp;first | exact ⟨hW,hK⟩ | exact hK));(next=>exact ⟨_,HB.out⟩);(try go_simp))
   | (apply bZ;(next=>rfl);(next=>(intro b W hW K hK;have hb:=jQ.base hW;have y0:=hb.cell t0;have y1:=hb.cell g0; go_simp;first | exact ⟨hW,_,(gt W (H1.out.st.ring.below hb)).mono (λe w'' h=>⟨h.1,jQ.below hW h.2⟩),hK⟩ | exact ⟨_,(gt W (H1.out.st.ring.below hb)).mono (λe w'' h=>⟨h.1,jQ.below hW h.2⟩),hK⟩));(next=>exact ⟨_,HB.out⟩);(try go_simp)))
  apply dL (s:=λ_=>True)
  case hk=>rfl
  case hne=>exact ⟨undef,trivial⟩
  case hw=>rfl
  case h =>
   intro W hW
   have BQ:=aiS (jQ.new hW)
   go_simp
   first | exact BQ.out | exact ⟨trivial,BQ.out⟩
  intro x1 _
  apply dL (s:=λ_=>True)
  case hk=>rfl
  case hne=>exact ⟨undef,trivial⟩
  case hw=>rfl
  case h =>
   intro W hW
   obtain ⟨hb,bx,rfl,hX,hlx⟩:=hW
   have x0:=hX.cell 0;have x1:=hX.cell 1;have x2:=hX.cell 2;have f0:=hX.free 0;have f1:=hX.free 1;have f2:=hX.free 2;simp at x0 x1 x2
   have BQ:=aiS (show jQ u1 36 #[.int .i64 0,.int .i64 0,.slice none 0 0] #[.int .i64 st,.int .i64 sm,.slice sa sn sc] [.pointer (some ⟨bx,0,none⟩),undef] (((W.setCell ⟨bx,0,none⟩ (.int .i64 st)).setCell ⟨bx,1,none⟩ (.int .i64 sm)).setCell ⟨bx,2,none⟩ (.slice sa sn sc)) from ⟨dz hb hlx,bx,rfl,fB hX,hlx⟩)
   clear hb hX
   go_simp
   first | exact BQ.out | exact ⟨trivial,BQ.out⟩
  intro x2 _
  refine kC ?_
  intro u2 aP
  obtain ⟨hb,b2,rfl,hX,hlx⟩:=aP
  have H2:=aiS (H1.out.below hb);have G2:=aiS (G1.out.below hb G1.out.lt)
  have R2:=aiS (R1.out.below hb (λj e=>(R1.out.1.lt j e).2))
  clear hb hX t0 g0 HB;clear gt
  go_wp2_with fail
  refine (mP th 12 _ (0) u2 H2.out.e).mono ?_
  rintro r u3 ⟨rfl,hE,hO⟩
  have H3:=aiS (H2.out.refuse hE hO)
  have G3:=aiS (hO.blk G2.out (by have:=HN.out;omega))
  have R3:=aiS (R2.out.only hO (λj e=>by have:=(R2.out.1.lt j e).1;have:=HN.out;omega))
  clear hE hO
  obtain ⟨e1,he1⟩ : ∃ x,(if (0 : Int) = 0 /\ th = true then (12 : Int) else 0) = x:=⟨_,rfl⟩
  rw [he1] at H3
  have MS:=aiS he1;clear he1;have g0:=G3.out.cell 0;simp at g0;have stl:=XV T R l most floor gone S' g.tick u3 H3.out.st
  generalize iI l most floor gone g.tick = sl at *
  go_wp2_with fail
  refine stl.mono ?_
  rintro e u4 ⟨rfl,hb⟩
  have H4:=aiS (H3.out.below hb);have G4:=aiS (G3.out.below hb G3.out.lt)
  have R4:=aiS (R3.out.below hb (λj e=>(R3.out.1.lt j e).2))
  clear hb stl g0
  go_wp2_with fail
  refine (mP sl 13 _ (e1) u4 H4.out.e).mono ?_
  rintro r u5 ⟨rfl,hE,hO⟩
  have H5:=aiS (H4.out.refuse hE hO)
  have G5:=aiS (hO.blk G4.out (by have:=HN.out;omega))
  have R5:=aiS (R4.out.only hO (λj e=>by have:=(R4.out.1.lt j e).1;have:=HN.out;omega))
  clear hE hO
  obtain ⟨e2,he2⟩ : ∃ x,(if (e1 : Int) = 0 /\ sl = true then (13 : Int) else e1) = x:=⟨_,rfl⟩
  rw [he2] at H5
  have MU:=aiS he2;clear he2
  have gt:=λW h=>Ke R l most floor gone S' g.base W h
  rw [Kn] at gt
  obtain ⟨ba,bc,hs2,hbe,hbc,hbl,hbS,_⟩:=Ea H5.out.st.ring (λk hk=>Eb hk) HK.out (o:=eG l g.base)
  have sI:=aiS (And.intro hbe (And.intro hbl hbS))
  rw [hs2] at gt
  have ap:=λW hE ga cap hR=>MJ.out (eG l g.base) W ba bc hE ga cap hR (by omega)
  clear hs2 hbe hbc hbl hbS
  unfold iW at HZ1
  generalize eF l g.base = hbv at *
  generalize vo (eG l g.base) = bt at *
  generalize mX (eG l g.base) = bm at *
  generalize ae5 : gT (eG l g.base) = DF at *
  clear ae5 MJ HGT
  have HB : Hid (jQ u5 36 #[.int .i64 0,.int .i64 0,.slice none 0 0] #[.int .i64 bt,.int .i64 bm,.slice ba DF.length bc] [] u5.drew):=aiS (show Below u5.heap.size u5 u5.drew from below_drewN aiU 1)
  have t0:=H5.out.st.cells.1;have g0:=G5.out.cell 2;simp at g0
  go_wp2_with fail
  apply lG 12 [10,11] (jQ u5 36 #[.int .i64 0,.int .i64 0,.slice none 0 0] #[.int .i64 bt,.int .i64 bm,.slice ba DF.length bc])
  case hm=>kernel_rfl
  case hB=>kernel_rfl
  case hp=>kernel_rfl
  case hI=>exact HB.out
  simp only [List.take_succ_cons,List.take_zero,List.drop_succ_cons,List.drop_zero]
  repeat (first
   | (apply bZ;(next=>rfl);(next=>(intro b W hW K hK;have hb:=jQ.base hW;have y0:=hb.cell t0;have y1:=hb.cell g0; go_simp;first | exact ⟨hW,hK⟩ | exact hK));(next=>exact ⟨_,HB.out⟩);(try go_simp))
   | (apply bZ;(next=>rfl);(next=>(intro b W hW K hK;have hb:=jQ.base hW;have y0:=hb.cell t0;have y1:=hb.cell g0; go_simp;first | exact ⟨hW,_,(gt W (H5.out.st.ring.below hb)).mono (λe w'' h=>⟨h.1,jQ.below hW h.2⟩),hK⟩ | exact ⟨_,(gt W (H5.out.st.ring.below hb)).mono (λe w'' h=>⟨h.1,jQ.below hW h.2⟩),hK⟩));(next=>exact ⟨_,HB.out⟩);(try go_simp)))
  apply dL (s:=λ_=>True)
  case hk=>rfl
  case hne=>exact ⟨undef,trivial⟩
  case hw=>rfl
  case h =>
   intro W hW
   have BQ:=aiS (jQ.new hW)
   go_simp
   first | exact BQ.out | exact ⟨trivial,BQ.out⟩
  intro x1 _
  apply dL (s:=λ_=>True)
  case hk=>rfl
  case hne=>exact ⟨undef,trivial⟩
  case hw=>rfl
  case h =>
   intro W hW
   obtain ⟨hb,bx,rfl,hX,hlx⟩:=hW
   have x0:=hX.cell 0;have x1:=hX.cell 1;have x2:=hX.cell 2;have f0:=hX.free 0;have f1:=hX.free 1;have f2:=hX.free 2;simp at x0 x1 x2
   have BQ:=aiS (show jQ u5 36 #[.int .i64 0,.int .i64 0,.slice none 0 0] #[.int .i64 bt,.int .i64 bm,.slice ba DF.length bc] [.pointer (some ⟨bx,0,none⟩),undef] (((W.setCell ⟨bx,0,none⟩ (.int .i64 bt)).setCell ⟨bx,1,none⟩ (.int .i64 bm)).setCell ⟨bx,2,none⟩ (.slice ba DF.length bc)) from ⟨dz hb hlx,bx,rfl,fB hX,hlx⟩)
   clear hb hX
   go_simp
   first | exact BQ.out | exact ⟨trivial,BQ.out⟩
  intro x2 _
  refine kC ?_
  intro u6 aP
  obtain ⟨hb,b6,rfl,hX,hlx⟩:=aP
  have H6:=aiS (H5.out.below hb);have G6:=aiS (G5.out.below hb G5.out.lt)
  have R6:=aiS (R5.out.below hb (λj e=>(R5.out.1.lt j e).2))
  have B6:=aiS hX;have Z0:=aiS hlx
  have B56:=aiS (show Below u5.heap.size u5 u6 from hb)
  clear hb hX t0 g0 HB;clear gt;have Z4:=aiS (sI.out.1.below B56.out)
  cases hbv
  ·by_cases hb0 : 0 <= g.base
   ·have g2:=G6.out.cell 2
    simp at g2
    go_wp2_with fail
    refine (mP true 14 _ (e2) u6 H6.out.e).mono ?_
    rintro r u7 ⟨rfl,hE,hO⟩
    have H7:=aiS (H6.out.refuse hE hO)
    have G7:=aiS (hO.blk G6.out (by have:=HN.out;omega))
    have R7:=aiS (R6.out.only hO (λj e=>by have:=(R6.out.1.lt j e).1;have:=HN.out;omega))
    have B7:=aiS (hO.blk B6.out (by have:=Z0.out;have:=H5.out.sz;omega))
    have Rv:=aiS (fP.only Z4.out hO (λx hx hh=>by have:=H5.out.sS _ (sI.out.2.2 x hx);omega))
    clear hE hO
    obtain ⟨e3,uV⟩ : ∃ x,(if (e2 : Int) = 0 /\ true = true then (14 : Int) else e2) = x:=⟨_,rfl⟩
    rw [uV] at H7
    have Hl:=aiS uV;clear uV
    have uI : Hid (e3 = E3):=aiS (by rw [Gh.out,← Hl.out,← MU.out,← MS.out];cases th <;> cases sl <;> simp [hb0])
    clear Gh MS MU Hl
    obtain ⟨⟨x0,x1,x2⟩,ec,⟨f0,f1,f2⟩,fe,t0⟩:=H7.out.cells
    by_cases h3 : e3 = 0
    ·subst h3
     have HZ2:=aiS (HZ1.out.trans (if_neg (by rw [← uI.out];simp)))
     clear HZ1 uI
     obtain ⟨Rw,Rx,Ry,Rz⟩ : u7.cell? ⟨w1.heap.size,0,none⟩ = some (.int .i64 g.tick) /\ u7.cell? ⟨w1.heap.size,1,none⟩ = some (.int .i64 g.time) /\ u7.cell? ⟨w1.heap.size,2,none⟩ = some (.int .i64 g.base) /\ u7.cell? ⟨w1.heap.size,3,none⟩ = some (.slice ga g.recs.length uR):=by
      have e0:=G7.out.cell 0;have e1:=G7.out.cell 1;have e2:=G7.out.cell 2;have e3:=G7.out.cell 3;simp at e0 e1 e2 e3
      exact ⟨e0,e1,e2,e3⟩
     have k0:=B7.out.cell 0;have k1:=B7.out.cell 1;have k2:=B7.out.cell 2;simp at k0 k1 k2
     have hap : Calls Tryz.prog 117 #[.agg #[.int .i64 bt,.int .i64 bm,.slice ba DF.length bc],.agg #[.int .i64 g.tick,.int .i64 g.time,.int .i64 g.base,.slice ga g.recs.length uR]] u7 _:=ap u7 Rv.out ga uR (by
      obtain ⟨ga',gc',e,hh,_⟩:=R7.out.recs
      cases e
      exact hh)
     generalize jo ⟨bt,bm,DF⟩ g = y at *
     go_wp2_with fail
     refine hap.mono ?_
     rintro e u8 ⟨v,rfl,lH,hb⟩
     obtain ⟨va,vc,rfl,_⟩:=lH.slice
     have xV:=H7.out.below hb
     obtain ⟨⟨z0,z1,z2⟩,zc,⟨wG,wH,wI⟩,RB,_⟩:=xV.cells
     have Z5:=H7.out.sz
     obtain ⟨u9,uJ⟩ : ∃ u,((u8.setCell ⟨w.heap.size,0,none⟩ (.int .i64 y.1.tick)).setCell ⟨w.heap.size,1,none⟩ (.int .i64 y.1.time)).setCell ⟨w.heap.size,2,none⟩ (.slice va y.1.ents.length vc) = u:=⟨_,rfl⟩
     have uK:=xV.yH y.1.tick y.1.time (.slice va y.1.ents.length vc)
     have mY:=xV.yI (aM.base lH (show w.heap.size <= u7.heap.size by omega)) y.1.tick y.1.time (.slice va y.1.ents.length vc)
     rw [uJ] at uK mY
     obtain ⟨_,yc,_,RD,_⟩:=uK.cells
     obtain ⟨RF,BU⟩ : ∃ u,u9.setCell ⟨w.heap.size + 1,0,none⟩ (.int .i64 y.2) = u:=⟨_,rfl⟩
     have oW:=uK.wK y.2;have wL:=uK.yJ mY y.2
     rw [BU] at oW wL
     have RG:=aiS oW;have RH:=aiS wL
     obtain ⟨⟨x0,x1,x2⟩,ec,⟨f0,f1,f2⟩,fe,t0⟩:=oW.cells
     have tm:=tK T R l most floor gone S' y.1.tick y.1.time (.slice va y.1.ents.length vc) RF oW.st
     generalize fJ l y.1.tick y.1.time = tv at *
     clear hap lH hb xV uK mY oW wL Rw Rx Ry Rz k0 k1 k2 ap
     go_wp2_with fail
     clear uJ BU z0 z1 z2 zc wG wH wI RB yc RD
     refine tm.mono ?_
     rintro e RI ⟨rfl,hb⟩
     have Ca:=aiS (RG.out.below hb);have Ho:=aiS (aM.below RH.out hb);clear hb tm x0 x1 x2 ec f0 f1 f2 fe t0
     go_wp2_with fail
     refine (mP (!tv) 16 _ y.2 RI Ca.out.e).mono ?_
     rintro r Hq ⟨rfl,hE,hO⟩
     have Hr:=aiS (Ca.out.refuse hE hO)
     have RJ:=aiS (aM.only Ho.out hO (λj hj hk=>bJ Ho.out Ca.out.e (by decide) (by rw [hj,hk])))
     clear hE hO
     obtain ⟨e5,Cb⟩ : ∃ x,(if (y.2 : Int) = 0 /\ (!tv) = true then (16 : Int) else y.2) = x:=⟨_,rfl⟩
     rw [Cb] at Hr
     have HV : Hid (z = (y.1,e5)):=aiS (by rw [HZ2.out,← Cb];cases tv <;> simp)
     clear Cb HZ2
     have HI : Hid (bT w T R l most floor gone S' (y.1.tick) (y.1.time) (.slice va y.1.ents.length vc) (e5) Hq.drew /\ aM Hq.drew w.heap.size (.slice va y.1.ents.length vc) (y.1.ents)):=aiS ⟨Hr.out.below (below_drewN aiU 1),aM.below RJ.out (below_drewN aiU 1)⟩
     go_wp2_with fail
     apply gK (I:=(λW=>bT w T R l most floor gone S' (y.1.tick) (y.1.time) (.slice va y.1.ents.length vc) (e5) W /\ aM W w.heap.size (.slice va y.1.ents.length vc) (y.1.ents))) 3
     case hm=>kernel_rfl
     case hB=>kernel_rfl
     case hI=>exact HI.out
     simp only [List.take_succ_cons,List.take_zero,List.drop_succ_cons,List.drop_zero]
     repeat (apply aA;(next=>(intro W hW K hK;obtain ⟨⟨x0,x1,x2⟩,ec,⟨f0,f1,f2⟩,fe,t0⟩:=bT.cells hW.1;have HX:=aiS (And.intro (bT.yH hW.1 (y.1.tick) (y.1.time) (.slice va y.1.ents.length vc)) (bT.yI hW.1 hW.2 (y.1.tick) (y.1.time) (.slice va y.1.ents.length vc)));go_simp;first | exact ⟨hW,hK⟩ | exact ⟨HX.out,hK⟩ | exact hK));(next=>exact ⟨_,HI.out⟩);(try go_simp))
     refine aT ?_
     intro WZ jO rC
     obtain ⟨⟨x0,x1,x2⟩,ec,⟨f0,f1,f2⟩,fe,t0⟩:=bT.cells jO
     have HY:=aiS (bT.wK jO (e5));have Fg:=aiS (bT.yJ jO rC (e5))
     obtain ⟨⟨y0,y1,y2⟩,yc,_⟩:=bT.cells HY.out
     clear jO rC
     go_wp2_with fail
     exact bodyPost_ret (v:=.tuple #[.agg #[.int .i64 (y.1.tick),.int .i64 (y.1.time),.slice va y.1.ents.length vc],.int .i64 (e5)]) (by simp [results,Tryz.results77,go_sem,y0,y1,y2,yc,x0,x1,x2,ec]) rfl ⟨_,by rw [HV.out],by rw [HV.out];exact Fg.out,HY.out.b⟩
    ·have h3n : (e3 == 0) = false:=by simpa using h3
     have HV : Hid (z = (dD,e3)):=aiS (by rw [HZ1.out,← uI.out,if_pos (by simpa using h3)])
     clear HZ1 uI ap;have tm:=tK T R l most floor gone S' 0 0 (.slice none 0 0) u7 H7.out.st
     generalize fJ l 0 0 = tv at *
     go_wp2_with fail
     refine tm.mono ?_
     rintro e u8 ⟨rfl,hb⟩
     have H8:=aiS (H7.out.below hb);clear hb tm x0 x1 x2 ec f0 f1 f2 fe t0
     go_wp2_with fail
     refine (mP (!tv) 16 _ e3 u8 H8.out.e).mono ?_
     rintro r u9 ⟨rfl,hE,hO⟩
     have H9:=aiS (H8.out.refuse hE hO);clear hE hO
     rw [if_neg (by simp [h3])] at H9
     have HI : Hid (bT w T R l most floor gone S' (0) (0) (.slice none 0 0) (e3) u9.drew /\ aM u9.drew w.heap.size (.slice none 0 0) ([])):=aiS ⟨H9.out.below (below_drewN aiU 1),aM.nil _ _⟩
     go_wp2_with fail
     apply gK (I:=(λW=>bT w T R l most floor gone S' (0) (0) (.slice none 0 0) (e3) W /\ aM W w.heap.size (.slice none 0 0) ([]))) 3
     case hm=>kernel_rfl
     case hB=>kernel_rfl
     case hI=>exact HI.out
     simp only [List.take_succ_cons,List.take_zero,List.drop_succ_cons,List.drop_zero]
     repeat (apply aA;(next=>(intro W hW K hK;obtain ⟨⟨x0,x1,x2⟩,ec,⟨f0,f1,f2⟩,fe,t0⟩:=bT.cells hW.1;have HX:=aiS (And.intro (bT.yH hW.1 (0) (0) (.slice none 0 0)) (bT.yI hW.1 hW.2 (0) (0) (.slice none 0 0)));go_simp;first | exact ⟨hW,hK⟩ | exact ⟨HX.out,hK⟩ | exact hK));(next=>exact ⟨_,HI.out⟩);(try go_simp))
     refine aT ?_
     intro WZ jO rC
     obtain ⟨⟨x0,x1,x2⟩,ec,⟨f0,f1,f2⟩,fe,t0⟩:=bT.cells jO
     have HY:=aiS (bT.wK jO (e3));have Fg:=aiS (bT.yJ jO rC (e3))
     obtain ⟨⟨y0,y1,y2⟩,yc,_⟩:=bT.cells HY.out
     clear jO rC
     go_wp2_with fail
     exact bodyPost_ret (v:=.tuple #[.agg #[.int .i64 (0),.int .i64 (0),.slice none 0 0],.int .i64 (e3)]) (by simp [results,Tryz.results77,go_sem,y0,y1,y2,yc,x0,x1,x2,ec]) rfl ⟨.slice none 0 0,by rw [HV.out];rfl,by rw [HV.out];exact aM.nil _ _,HY.out.b⟩
   ·have g2:=G6.out.cell 2
    simp at g2
    have hb1 : ¬ g.base ≥ 0:=hb0
    go_wp2_with fail
    refine (mP false 14 _ (e2) u6 H6.out.e).mono ?_
    rintro r u7 ⟨rfl,hE,hO⟩
    have H7:=aiS (H6.out.refuse hE hO)
    have G7:=aiS (hO.blk G6.out (by have:=HN.out;omega))
    have R7:=aiS (R6.out.only hO (λj e=>by have:=(R6.out.1.lt j e).1;have:=HN.out;omega))
    have B7:=aiS (hO.blk B6.out (by have:=Z0.out;have:=H5.out.sz;omega))
    have Rv:=aiS (fP.only Z4.out hO (λx hx hh=>by have:=H5.out.sS _ (sI.out.2.2 x hx);omega))
    clear hE hO
    obtain ⟨e3,uV⟩ : ∃ x,(if (e2 : Int) = 0 /\ false = true then (14 : Int) else e2) = x:=⟨_,rfl⟩
    rw [uV] at H7
    have Hl:=aiS uV;clear uV
    have uI : Hid (e3 = E3):=aiS (by rw [Gh.out,← Hl.out,← MU.out,← MS.out];cases th <;> cases sl <;> simp [hb0])
    clear Gh MS MU Hl
    obtain ⟨⟨x0,x1,x2⟩,ec,⟨f0,f1,f2⟩,fe,t0⟩:=H7.out.cells
    by_cases h3 : e3 = 0
    ·subst h3
     have HZ2:=aiS (HZ1.out.trans (if_neg (by rw [← uI.out];simp)))
     clear HZ1 uI
     obtain ⟨Rw,Rx,Ry,Rz⟩ : u7.cell? ⟨w1.heap.size,0,none⟩ = some (.int .i64 g.tick) /\ u7.cell? ⟨w1.heap.size,1,none⟩ = some (.int .i64 g.time) /\ u7.cell? ⟨w1.heap.size,2,none⟩ = some (.int .i64 g.base) /\ u7.cell? ⟨w1.heap.size,3,none⟩ = some (.slice ga g.recs.length uR):=by
      have e0:=G7.out.cell 0;have e1:=G7.out.cell 1;have e2:=G7.out.cell 2;have e3:=G7.out.cell 3;simp at e0 e1 e2 e3
      exact ⟨e0,e1,e2,e3⟩
     have k0:=B7.out.cell 0;have k1:=B7.out.cell 1;have k2:=B7.out.cell 2;simp at k0 k1 k2
     have hap : Calls Tryz.prog 117 #[.agg #[.int .i64 bt,.int .i64 bm,.slice ba DF.length bc],.agg #[.int .i64 g.tick,.int .i64 g.time,.int .i64 g.base,.slice ga g.recs.length uR]] u7 _:=ap u7 Rv.out ga uR (by
      obtain ⟨ga',gc',e,hh,_⟩:=R7.out.recs
      cases e
      exact hh)
     generalize jo ⟨bt,bm,DF⟩ g = y at *
     go_wp2_with fail
     refine hap.mono ?_
     rintro e u8 ⟨v,rfl,lH,hb⟩
     obtain ⟨va,vc,rfl,_⟩:=lH.slice
     have xV:=H7.out.below hb
     obtain ⟨⟨z0,z1,z2⟩,zc,⟨wG,wH,wI⟩,RB,_⟩:=xV.cells
     have Z5:=H7.out.sz
     obtain ⟨u9,uJ⟩ : ∃ u,((u8.setCell ⟨w.heap.size,0,none⟩ (.int .i64 y.1.tick)).setCell ⟨w.heap.size,1,none⟩ (.int .i64 y.1.time)).setCell ⟨w.heap.size,2,none⟩ (.slice va y.1.ents.length vc) = u:=⟨_,rfl⟩
     have uK:=xV.yH y.1.tick y.1.time (.slice va y.1.ents.length vc)
     have mY:=xV.yI (aM.base lH (show w.heap.size <= u7.heap.size by omega)) y.1.tick y.1.time (.slice va y.1.ents.length vc)
     rw [uJ] at uK mY
     obtain ⟨_,yc,_,RD,_⟩:=uK.cells
     obtain ⟨RF,BU⟩ : ∃ u,u9.setCell ⟨w.heap.size + 1,0,none⟩ (.int .i64 y.2) = u:=⟨_,rfl⟩
     have oW:=uK.wK y.2;have wL:=uK.yJ mY y.2
     rw [BU] at oW wL
     have RG:=aiS oW;have RH:=aiS wL
     obtain ⟨⟨x0,x1,x2⟩,ec,⟨f0,f1,f2⟩,fe,t0⟩:=oW.cells
     have tm:=tK T R l most floor gone S' y.1.tick y.1.time (.slice va y.1.ents.length vc) RF oW.st
     generalize fJ l y.1.tick y.1.time = tv at *
     clear hap lH hb xV uK mY oW wL Rw Rx Ry Rz k0 k1 k2 ap
     go_wp2_with fail
     clear uJ BU z0 z1 z2 zc wG wH wI RB yc RD
     refine tm.mono ?_
     rintro e RI ⟨rfl,hb⟩
     have Ca:=aiS (RG.out.below hb);have Ho:=aiS (aM.below RH.out hb);clear hb tm x0 x1 x2 ec f0 f1 f2 fe t0
     go_wp2_with fail
     refine (mP (!tv) 16 _ y.2 RI Ca.out.e).mono ?_
     rintro r Hq ⟨rfl,hE,hO⟩
     have Hr:=aiS (Ca.out.refuse hE hO)
     have RJ:=aiS (aM.only Ho.out hO (λj hj hk=>bJ Ho.out Ca.out.e (by decide) (by rw [hj,hk])))
     clear hE hO
     obtain ⟨e5,Cb⟩ : ∃ x,(if (y.2 : Int) = 0 /\ (!tv) = true then (16 : Int) else y.2) = x:=⟨_,rfl⟩
     rw [Cb] at Hr
     have HV : Hid (z = (y.1,e5)):=aiS (by rw [HZ2.out,← Cb];cases tv <;> simp)
     clear Cb HZ2
     have HI : Hid (bT w T R l most floor gone S' (y.1.tick) (y.1.time) (.slice va y.1.ents.length vc) (e5) Hq.drew /\ aM Hq.drew w.heap.size (.slice va y.1.ents.length vc) (y.1.ents)):=aiS ⟨Hr.out.below (below_drewN aiU 1),aM.below RJ.out (below_drewN aiU 1)⟩
     go_wp2_with fail
     apply gK (I:=(λW=>bT w T R l most floor gone S' (y.1.tick) (y.1.time) (.slice va y.1.ents.length vc) (e5) W /\ aM W w.heap.size (.slice va y.1.ents.length vc) (y.1.ents))) 3
     case hm=>kernel_rfl
     case hB=>kernel_rfl
     case hI=>exact HI.out
     simp only [List.take_succ_cons,List.take_zero,List.drop_succ_cons,List.drop_zero]
     repeat (apply aA;(next=>(intro W hW K hK;obtain ⟨⟨x0,x1,x2⟩,ec,⟨f0,f1,f2⟩,fe,t0⟩:=bT.cells hW.1;have HX:=aiS (And.intro (bT.yH hW.1 (y.1.tick) (y.1.time) (.slice va y.1.ents.length vc)) (bT.yI hW.1 hW.2 (y.1.tick) (y.1.time) (.slice va y.1.ents.length vc)));go_simp;first | exact ⟨hW,hK⟩ | exact ⟨HX.out,hK⟩ | exact hK));(next=>exact ⟨_,HI.out⟩);(try go_simp))
     refine aT ?_
     intro WZ jO rC
     obtain ⟨⟨x0,x1,x2⟩,ec,⟨f0,f1,f2⟩,fe,t0⟩:=bT.cells jO
     have HY:=aiS (bT.wK jO (e5));have Fg:=aiS (bT.yJ jO rC (e5))
     obtain ⟨⟨y0,y1,y2⟩,yc,_⟩:=bT.cells HY.out
     clear jO rC
     go_wp2_with fail
     exact bodyPost_ret (v:=.tuple #[.agg #[.int .i64 (y.1.tick),.int .i64 (y.1.time),.slice va y.1.ents.length vc],.int .i64 (e5)]) (by simp [results,Tryz.results77,go_sem,y0,y1,y2,yc,x0,x1,x2,ec]) rfl ⟨_,by rw [HV.out],by rw [HV.out];exact Fg.out,HY.out.b⟩
    ·have h3n : (e3 == 0) = false:=by simpa using h3
     have HV : Hid (z = (dD,e3)):=aiS (by rw [HZ1.out,← uI.out,if_pos (by simpa using h3)])
     clear HZ1 uI ap;have tm:=tK T R l most floor gone S' 0 0 (.slice none 0 0) u7 H7.out.st
     generalize fJ l 0 0 = tv at *
     go_wp2_with fail
     refine tm.mono ?_
     rintro e u8 ⟨rfl,hb⟩
     have H8:=aiS (H7.out.below hb);clear hb tm x0 x1 x2 ec f0 f1 f2 fe t0
     go_wp2_with fail
     refine (mP (!tv) 16 _ e3 u8 H8.out.e).mono ?_
     rintro r u9 ⟨rfl,hE,hO⟩
     have H9:=aiS (H8.out.refuse hE hO);clear hE hO
     rw [if_neg (by simp [h3])] at H9
     have HI : Hid (bT w T R l most floor gone S' (0) (0) (.slice none 0 0) (e3) u9.drew /\ aM u9.drew w.heap.size (.slice none 0 0) ([])):=aiS ⟨H9.out.below (below_drewN aiU 1),aM.nil _ _⟩
     go_wp2_with fail
     apply gK (I:=(λW=>bT w T R l most floor gone S' (0) (0) (.slice none 0 0) (e3) W /\ aM W w.heap.size (.slice none 0 0) ([]))) 3
     case hm=>kernel_rfl
     case hB=>kernel_rfl
     case hI=>exact HI.out
     simp only [List.take_succ_cons,List.take_zero,List.drop_succ_cons,List.drop_zero]
     repeat (apply aA;(next=>(intro W hW K hK;obtain ⟨⟨x0,x1,x2⟩,ec,⟨f0,f1,f2⟩,fe,t0⟩:=bT.cells hW.1;have HX:=aiS (And.intro (bT.yH hW.1 (0) (0) (.slice none 0 0)) (bT.yI hW.1 hW.2 (0) (0) (.slice none 0 0)));go_simp;first | exact ⟨hW,hK⟩ | exact ⟨HX.out,hK⟩ | exact hK));(next=>exact ⟨_,HI.out⟩);(try go_simp))
     refine aT ?_
     intro WZ jO rC
     obtain ⟨⟨x0,x1,x2⟩,ec,⟨f0,f1,f2⟩,fe,t0⟩:=bT.cells jO
     have HY:=aiS (bT.wK jO (e3));have Fg:=aiS (bT.yJ jO rC (e3))
     obtain ⟨⟨y0,y1,y2⟩,yc,_⟩:=bT.cells HY.out
     clear jO rC
     go_wp2_with fail
     exact bodyPost_ret (v:=.tuple #[.agg #[.int .i64 (0),.int .i64 (0),.slice none 0 0],.int .i64 (e3)]) (by simp [results,Tryz.results77,go_sem,y0,y1,y2,yc,x0,x1,x2,ec]) rfl ⟨.slice none 0 0,by rw [HV.out];rfl,by rw [HV.out];exact aM.nil _ _,HY.out.b⟩
  ·go_wp2_with fail
   refine (mP false 14 _ (e2) u6 H6.out.e).mono ?_
   rintro r u7 ⟨rfl,hE,hO⟩
   have H7:=aiS (H6.out.refuse hE hO)
   have G7:=aiS (hO.blk G6.out (by have:=HN.out;omega))
   have R7:=aiS (R6.out.only hO (λj e=>by have:=(R6.out.1.lt j e).1;have:=HN.out;omega))
   have B7:=aiS (hO.blk B6.out (by have:=Z0.out;have:=H5.out.sz;omega))
   have Rv:=aiS (fP.only Z4.out hO (λx hx hh=>by have:=H5.out.sS _ (sI.out.2.2 x hx);omega))
   clear hE hO
   obtain ⟨e3,uV⟩ : ∃ x,(if (e2 : Int) = 0 /\ false = true then (14 : Int) else e2) = x:=⟨_,rfl⟩
   rw [uV] at H7
   have Hl:=aiS uV;clear uV
   have uI : Hid (e3 = E3):=aiS (by rw [Gh.out,← Hl.out,← MU.out,← MS.out];cases th <;> cases sl <;> simp)
   clear Gh MS MU Hl
   obtain ⟨⟨x0,x1,x2⟩,ec,⟨f0,f1,f2⟩,fe,t0⟩:=H7.out.cells
   by_cases h3 : e3 = 0
   ·subst h3
    have HZ2:=aiS (HZ1.out.trans (if_neg (by rw [← uI.out];simp)))
    clear HZ1 uI
    obtain ⟨Rw,Rx,Ry,Rz⟩ : u7.cell? ⟨w1.heap.size,0,none⟩ = some (.int .i64 g.tick) /\ u7.cell? ⟨w1.heap.size,1,none⟩ = some (.int .i64 g.time) /\ u7.cell? ⟨w1.heap.size,2,none⟩ = some (.int .i64 g.base) /\ u7.cell? ⟨w1.heap.size,3,none⟩ = some (.slice ga g.recs.length uR):=by
     have e0:=G7.out.cell 0;have e1:=G7.out.cell 1;have e2:=G7.out.cell 2;have e3:=G7.out.cell 3;simp at e0 e1 e2 e3
     exact ⟨e0,e1,e2,e3⟩
    have k0:=B7.out.cell 0;have k1:=B7.out.cell 1;have k2:=B7.out.cell 2;simp at k0 k1 k2
    have hap : Calls Tryz.prog 117 #[.agg #[.int .i64 bt,.int .i64 bm,.slice ba DF.length bc],.agg #[.int .i64 g.tick,.int .i64 g.time,.int .i64 g.base,.slice ga g.recs.length uR]] u7 _:=ap u7 Rv.out ga uR (by
     obtain ⟨ga',gc',e,hh,_⟩:=R7.out.recs
     cases e
     exact hh)
    generalize jo ⟨bt,bm,DF⟩ g = y at *
    go_wp2_with fail
    refine hap.mono ?_
    rintro e u8 ⟨v,rfl,lH,hb⟩
    obtain ⟨va,vc,rfl,_⟩:=lH.slice
    have xV:=H7.out.below hb
    obtain ⟨⟨z0,z1,z2⟩,zc,⟨wG,wH,wI⟩,RB,_⟩:=xV.cells
    have Z5:=H7.out.sz
    obtain ⟨u9,uJ⟩ : ∃ u,((u8.setCell ⟨w.heap.size,0,none⟩ (.int .i64 y.1.tick)).setCell ⟨w.heap.size,1,none⟩ (.int .i64 y.1.time)).setCell ⟨w.heap.size,2,none⟩ (.slice va y.1.ents.length vc) = u:=⟨_,rfl⟩
    have uK:=xV.yH y.1.tick y.1.time (.slice va y.1.ents.length vc)
    have mY:=xV.yI (aM.base lH (show w.heap.size <= u7.heap.size by omega)) y.1.tick y.1.time (.slice va y.1.ents.length vc)
    rw [uJ] at uK mY
    obtain ⟨_,yc,_,RD,_⟩:=uK.cells
    obtain ⟨RF,BU⟩ : ∃ u,u9.setCell ⟨w.heap.size + 1,0,none⟩ (.int .i64 y.2) = u:=⟨_,rfl⟩
    have oW:=uK.wK y.2;have wL:=uK.yJ mY y.2
    rw [BU] at oW wL
    have RG:=aiS oW;have RH:=aiS wL
    obtain ⟨⟨x0,x1,x2⟩,ec,⟨f0,f1,f2⟩,fe,t0⟩:=oW.cells
    have tm:=tK T R l most floor gone S' y.1.tick y.1.time (.slice va y.1.ents.length vc) RF oW.st
    generalize fJ l y.1.tick y.1.time = tv at *
    clear hap lH hb xV uK mY oW wL Rw Rx Ry Rz k0 k1 k2 ap
    go_wp2_with fail
    clear uJ BU z0 z1 z2 zc wG wH wI RB yc RD
    refine tm.mono ?_
    rintro e RI ⟨rfl,hb⟩
    have Ca:=aiS (RG.out.below hb);have Ho:=aiS (aM.below RH.out hb);clear hb tm x0 x1 x2 ec f0 f1 f2 fe t0
    go_wp2_with fail
    refine (mP (!tv) 16 _ y.2 RI Ca.out.e).mono ?_
    rintro r Hq ⟨rfl,hE,hO⟩
    have Hr:=aiS (Ca.out.refuse hE hO)
    have RJ:=aiS (aM.only Ho.out hO (λj hj hk=>bJ Ho.out Ca.out.e (by decide) (by rw [hj,hk])))
    clear hE hO
    obtain ⟨e5,Cb⟩ : ∃ x,(if (y.2 : Int) = 0 /\ (!tv) = true then (16 : Int) else y.2) = x:=⟨_,rfl⟩
    rw [Cb] at Hr
    have HV : Hid (z = (y.1,e5)):=aiS (by rw [HZ2.out,← Cb];cases tv <;> simp)
    clear Cb HZ2
    have HI : Hid (bT w T R l most floor gone S' (y.1.tick) (y.1.time) (.slice va y.1.ents.length vc) (e5) Hq.drew /\ aM Hq.drew w.heap.size (.slice va y.1.ents.length vc) (y.1.ents)):=aiS ⟨Hr.out.below (below_drewN aiU 1),aM.below RJ.out (below_drewN aiU 1)⟩
    go_wp2_with fail
    apply gK (I:=(λW=>bT w T R l most floor gone S' (y.1.tick) (y.1.time) (.slice va y.1.ents.length vc) (e5) W /\ aM W w.heap.size (.slice va y.1.ents.length vc) (y.1.ents))) 3
    case hm=>kernel_rfl
    case hB=>kernel_rfl
    case hI=>exact HI.out
    simp only [List.take_succ_cons,List.take_zero,List.drop_succ_cons,List.drop_zero]
    repeat (apply aA;(next=>(intro W hW K hK;obtain ⟨⟨x0,x1,x2⟩,ec,⟨f0,f1,f2⟩,fe,t0⟩:=bT.cells hW.1;have HX:=aiS (And.intro (bT.yH hW.1 (y.1.tick) (y.1.time) (.slice va y.1.ents.length vc)) (bT.yI hW.1 hW.2 (y.1.tick) (y.1.time) (.slice va y.1.ents.length vc)));go_simp;first | exact ⟨hW,hK⟩ | exact ⟨HX.out,hK⟩ | exact hK));(next=>exact ⟨_,HI.out⟩);(try go_simp))
    refine aT ?_
    intro WZ jO rC
    obtain ⟨⟨x0,x1,x2⟩,ec,⟨f0,f1,f2⟩,fe,t0⟩:=bT.cells jO
    have HY:=aiS (bT.wK jO (e5));have Fg:=aiS (bT.yJ jO rC (e5))
    obtain ⟨⟨y0,y1,y2⟩,yc,_⟩:=bT.cells HY.out
    clear jO rC
    go_wp2_with fail
    exact bodyPost_ret (v:=.tuple #[.agg #[.int .i64 (y.1.tick),.int .i64 (y.1.time),.slice va y.1.ents.length vc],.int .i64 (e5)]) (by simp [results,Tryz.results77,go_sem,y0,y1,y2,yc,x0,x1,x2,ec]) rfl ⟨_,by rw [HV.out],by rw [HV.out];exact Fg.out,HY.out.b⟩
   ·have h3n : (e3 == 0) = false:=by simpa using h3
    have HV : Hid (z = (dD,e3)):=aiS (by rw [HZ1.out,← uI.out,if_pos (by simpa using h3)])
    clear HZ1 uI ap;have tm:=tK T R l most floor gone S' 0 0 (.slice none 0 0) u7 H7.out.st
    generalize fJ l 0 0 = tv at *
    go_wp2_with fail
    refine tm.mono ?_
    rintro e u8 ⟨rfl,hb⟩
    have H8:=aiS (H7.out.below hb);clear hb tm x0 x1 x2 ec f0 f1 f2 fe t0
    go_wp2_with fail
    refine (mP (!tv) 16 _ e3 u8 H8.out.e).mono ?_
    rintro r u9 ⟨rfl,hE,hO⟩
    have H9:=aiS (H8.out.refuse hE hO);clear hE hO
    rw [if_neg (by simp [h3])] at H9
    have HI : Hid (bT w T R l most floor gone S' (0) (0) (.slice none 0 0) (e3) u9.drew /\ aM u9.drew w.heap.size (.slice none 0 0) ([])):=aiS ⟨H9.out.below (below_drewN aiU 1),aM.nil _ _⟩
    go_wp2_with fail
    apply gK (I:=(λW=>bT w T R l most floor gone S' (0) (0) (.slice none 0 0) (e3) W /\ aM W w.heap.size (.slice none 0 0) ([]))) 3
    case hm=>kernel_rfl
    case hB=>kernel_rfl
    case hI=>exact HI.out
    simp only [List.take_succ_cons,List.take_zero,List.drop_succ_cons,List.drop_zero]
    repeat (apply aA;(next=>(intro W hW K hK;obtain ⟨⟨x0,x1,x2⟩,ec,⟨f0,f1,f2⟩,fe,t0⟩:=bT.cells hW.1;have HX:=aiS (And.intro (bT.yH hW.1 (0) (0) (.slice none 0 0)) (bT.yI hW.1 hW.2 (0) (0) (.slice none 0 0)));go_simp;first | exact ⟨hW,hK⟩ | exact ⟨HX.out,hK⟩ | exact hK));(next=>exact ⟨_,HI.out⟩);(try go_simp))
    refine aT ?_
    intro WZ jO rC
    obtain ⟨⟨x0,x1,x2⟩,ec,⟨f0,f1,f2⟩,fe,t0⟩:=bT.cells jO
    have HY:=aiS (bT.wK jO (e3));have Fg:=aiS (bT.yJ jO rC (e3))
    obtain ⟨⟨y0,y1,y2⟩,yc,_⟩:=bT.cells HY.out
    clear jO rC
    go_wp2_with fail
    exact bodyPost_ret (v:=.tuple #[.agg #[.int .i64 (0),.int .i64 (0),.slice none 0 0],.int .i64 (e3)]) (by simp [results,Tryz.results77,go_sem,y0,y1,y2,yc,x0,x1,x2,ec]) rfl ⟨.slice none 0 0,by rw [HV.out];rfl,by rw [HV.out];exact aM.nil _ _,HY.out.b⟩
 ·have hne : (e0 != 0) = true:=by simpa using he0
  obtain rfl : z = (dD,e0):=by rw [HZ.out,if_pos he0]
  have HI : Hid (bT w T R l most floor gone S' (0) (0) (.slice none 0 0) (e0) u1.drew /\ aM u1.drew w.heap.size (.slice none 0 0) ([])):=aiS ⟨H1.out.below (below_drewN aiU 1),aM.nil _ _⟩
  go_wp2_with fail
  apply gK (I:=(λW=>bT w T R l most floor gone S' (0) (0) (.slice none 0 0) (e0) W /\ aM W w.heap.size (.slice none 0 0) ([]))) 3
  case hm=>kernel_rfl
  case hB=>kernel_rfl
  case hI=>exact HI.out
  simp only [List.take_succ_cons,List.take_zero,List.drop_succ_cons,List.drop_zero]
  repeat (apply aA;(next=>(intro W hW K hK;obtain ⟨⟨x0,x1,x2⟩,ec,⟨f0,f1,f2⟩,fe,t0⟩:=bT.cells hW.1;have HX:=aiS (And.intro (bT.yH hW.1 (0) (0) (.slice none 0 0)) (bT.yI hW.1 hW.2 (0) (0) (.slice none 0 0)));go_simp;first | exact ⟨hW,hK⟩ | exact ⟨HX.out,hK⟩ | exact hK));(next=>exact ⟨_,HI.out⟩);(try go_simp))
  refine aT ?_
  intro WZ jO rC
  obtain ⟨⟨x0,x1,x2⟩,ec,⟨f0,f1,f2⟩,fe,t0⟩:=bT.cells jO
  have HY:=aiS (bT.wK jO (e0));have Fg:=aiS (bT.yJ jO rC (e0))
  obtain ⟨⟨y0,y1,y2⟩,yc,_⟩:=bT.cells HY.out
  clear jO rC
  go_wp2_with fail
  exact bodyPost_ret (v:=.tuple #[.agg #[.int .i64 (0),.int .i64 (0),.slice none 0 0],.int .i64 (e0)]) (by simp [results,Tryz.results77,go_sem,y0,y1,y2,yc,x0,x1,x2,ec]) rfl ⟨.slice none 0 0,rfl,aM.nil _ _,HY.out.b⟩
end Go.Proofs.YtklkooeimkedgaaGreat
namespace Go.Proofs.YtklkooeimkedgaaGreat
open Go.RowKit
set_option maxRecDepth 100000
theorem XY (T R : Nat) (l : List aG) (most floor : Int) (gone : Bool) (S : Nat -> Prop) (w : World) (h : gG w T R l most floor gone S) :
 Calls Tryz.prog 89 #[.pointer (some ⟨T,0,none⟩)] w λe w'=>e = .returned (.int .i64 (l.length : Nat)) /\ w = w':=by
 have ln:=jy R l most floor gone S w h.ring
 obtain ⟨d0,d1⟩:=h.cells
 clear h
 go_enter Tryz.func89,Tryz.ntmps89
 go_wp2_with fail
 refine ln.mono ?_
 rintro e w1 ⟨rfl,rfl⟩
 clear ln
 go_wp2_with fail
 go_ret
 exact ⟨rfl,rfl⟩
set_option maxHeartbeats 1000000 in
theorem MV (T R : Nat) (l : List aG) (most floor : Int) (gone : Bool) (S : Nat -> Prop) (i : Int) (w : World) (h : gG w T R l most floor gone S) (hk : ∀ k ∈ l,k.sn.ents.length <= 64) :
 Calls Tryz.prog 40 #[.pointer (some ⟨T,0,none⟩),.int .i64 i] w λe w'=>∃ a c,e = .returned (.tuple #[.agg #[.int .i64 (vo (eG l i)),.int .i64 (mX (eG l i)),.slice a (gT (eG l i)).length c],.bool (eF l i)]) /\ aM w' w.heap.size (.slice a (gT (eG l i)).length c) (gT (eG l i)) /\ Below w.heap.size w w':=by
 obtain ⟨w0,hw0⟩ : ∃ w0,w.alloc (.cells #[.int .i64 0,.int .i64 0,.slice none 0 0] 36) = w0:=⟨_,rfl⟩
 have hB0 : Below w.heap.size w w0:=by rw [← hw0];exact aiT
 have HX0 : Hid (ak w0 w.heap.size #[.int .i64 0,.int .i64 0,.slice none 0 0] 36):=aiS (by rw [← hw0];exact ak.new _ _ _)
 have HZ0 : Hid (w0.heap.size = w.heap.size + 1):=aiS (by rw [← hw0];simp)
 have h1:=h.below hB0;have HB0:=aiS hB0;have gt:=Ke R l most floor gone S i w0 h1.ring
 rw [Kn] at gt
 have HM : Hid (∀ k,(eG l i) = some k -> k ∈ l):=aiS (λk hh=>Eb hh)
 obtain ⟨d0,d1⟩:=h1.cells
 have HS:=aiS h1;have HK:=aiS hk;clear h h1 hk hB0
 generalize eF l i = hv at *
 generalize (eG l i) = o at *
 go_enter Tryz.func40,Tryz.ntmps40
 go_wp2_with fail
 clear hw0
 refine gt.mono ?_
 rintro e w1 ⟨rfl,hB⟩
 clear gt d0 d1
 obtain ⟨a1,c1,e1,hE1,hc1,hl1,_⟩:=Ea (HS.out.below hB).ring HM.out HK.out
 rw [e1]
 obtain ⟨t1,ht1⟩ : ∃ t,vo o = t:=⟨_,rfl⟩
 obtain ⟨m1,hm1⟩ : ∃ t,mX o = t:=⟨_,rfl⟩
 rw [ht1,hm1]
 have RL:=aiS (And.intro ht1 hm1)
 obtain ⟨v1,hv1⟩ : ∃ v,w1.alloc (.cells #[.int .i64 0,.int .i64 0,.slice none 0 0] 36) = v:=⟨_,rfl⟩
 have hB1 : Below w1.heap.size w1 v1:=by rw [← hv1];exact aiT
 have bE : ak v1 w1.heap.size #[.int .i64 0,.int .i64 0,.slice none 0 0] 36:=by rw [← hv1];exact ak.new _ _ _
 have f0:=bE.free 0;have f1:=bE.free 1;have f2:=bE.free 2;have q0:=bE.cell 0;have q1:=bE.cell 1;have q2:=bE.cell 2;simp at q0 q1 q2;have hX1:=fB (v0:=.int .i64 t1) (v1:=.int .i64 m1) (v2:=.slice a1 (gT o).length c1) bE;have hb1:=dz (v0:=.int .i64 t1) (v1:=.int .i64 m1) (v2:=.slice a1 (gT o).length c1) hB1 (Nat.le_refl _)
 obtain ⟨u1,hu1⟩ : ∃ u,((v1.setCell ⟨w1.heap.size,0,none⟩ (.int .i64 t1)).setCell ⟨w1.heap.size,1,none⟩ (.int .i64 m1)).setCell ⟨w1.heap.size,2,none⟩ (.slice a1 (gT o).length c1) = u:=⟨_,rfl⟩
 rw [hu1] at hX1 hb1
 have zQ : Below w0.heap.size w0 u1:=hB.trans (hb1.mono hB.size)
 have ow:=Ol t1 m1 a1 c1 (gT o) u1 (hE1.below hb1) hc1 (by omega)
 have k0:=hX1.cell 0;have k1:=hX1.cell 1;have k2:=hX1.cell 2;simp at k0 k1 k2;have yF:=aiS (HX0.out.below zQ HX0.out.lt);have Kq:=aiS (HB0.out.trans (zQ.mono HB0.out.size))
 have hsz : w.heap.size < u1.heap.size:=Nat.lt_of_lt_of_le (by rw [HZ0.out];omega) zQ.size
 have xU:=aiS hsz;clear hB hE1 hc1 hl1 e1 hB1 bE hX1 hb1 zQ hsz HX0 ht1 hm1
 go_wp2_with fail
 clear hv1 hu1 f0 f1 f2 q0 q1 q2 k0 k1 k2
 refine ow.mono ?_
 rintro e w2 ⟨a2,c2,rfl,hO,hB⟩
 have hX2:=yF.out.below hB yF.out.lt;have f0:=hX2.free 0;have f1:=hX2.free 1;have f2:=hX2.free 2;have q0:=hX2.cell 0;have q1:=hX2.cell 1;have q2:=hX2.cell 2;simp at q0 q1 q2;have aS:=fB (v0:=.int .i64 t1) (v1:=.int .i64 m1) (v2:=.slice a2 (gT o).length c2) hX2
 have HF : Hid (aM (((w2.setCell ⟨w.heap.size,0,none⟩ (.int .i64 t1)).setCell ⟨w.heap.size,1,none⟩ (.int .i64 m1)).setCell ⟨w.heap.size,2,none⟩ (.slice a2 (gT o).length c2)) w.heap.size (.slice a2 (gT o).length c2) (gT o) /\
  Below w.heap.size w (((w2.setCell ⟨w.heap.size,0,none⟩ (.int .i64 t1)).setCell ⟨w.heap.size,1,none⟩ (.int .i64 m1)).setCell ⟨w.heap.size,2,none⟩ (.slice a2 (gT o).length c2))):=aiS
  ⟨(aM.base hO (by have:=xU.out;omega)).only (kS (S:=λk=>k = w.heap.size) (Only.refl _ _) (.inl rfl)) (λj hj hk=>by have:=(hO.lt j hj).1;have:=xU.out;omega),dz (Kq.out.trans (hB.mono Kq.out.size)) (Nat.le_refl _)⟩
 obtain ⟨u3,hu3⟩ : ∃ u,((w2.setCell ⟨w.heap.size,0,none⟩ (.int .i64 t1)).setCell ⟨w.heap.size,1,none⟩ (.int .i64 m1)).setCell ⟨w.heap.size,2,none⟩ (.slice a2 (gT o).length c2) = u:=⟨_,rfl⟩
 rw [hu3] at HF aS
 have g0:=aS.cell 0;have g1:=aS.cell 1;have g2:=aS.cell 2;simp at g0 g1 g2;clear hO hB hX2 aS ow yF
 go_wp2_with fail
 exact bodyPost_ret (v:=.tuple #[.agg #[.int .i64 t1,.int .i64 m1,.slice a2 (gT o).length c2],.bool hv]) (by simp [results,Tryz.results40,go_sem,g0,g1,g2]) rfl ⟨a2,c2,by rw [RL.out.1,RL.out.2],HF.out⟩
theorem XZ {l : List aG} {i : Int} {k : aG} (h : fA l i = some k) : k ∈ l:=by
 unfold fA at h
 split at h
 ·cases h
 ·exact List.mem_of_getElem? h
set_option maxHeartbeats 1000000 in
theorem Z6 (T R : Nat) (l : List aG) (most floor : Int) (gone : Bool) (S : Nat -> Prop) (i : Int) (w : World) (h : gG w T R l most floor gone S) (hk : ∀ k ∈ l,k.sn.ents.length <= 64) :
 Calls Tryz.prog 90 #[.pointer (some ⟨T,0,none⟩),.int .i64 i] w λe w'=>∃ a c,e = .returned (.tuple #[.agg #[.int .i64 (vo (fA l i)),.int .i64 (mX (fA l i)),.slice a (gT (fA l i)).length c],.int .i64 (sQ (fA l i))]) /\ aM w' w.heap.size (.slice a (gT (fA l i)).length c) (gT (fA l i)) /\ Below w.heap.size w w':=by
 obtain ⟨w0,hw0⟩ : ∃ w0,w.alloc (.cells #[.int .i64 0,.int .i64 0,.slice none 0 0] 36) = w0:=⟨_,rfl⟩
 have hB0 : Below w.heap.size w w0:=by rw [← hw0];exact aiT
 have HX0 : Hid (ak w0 w.heap.size #[.int .i64 0,.int .i64 0,.slice none 0 0] 36):=aiS (by rw [← hw0];exact ak.new _ _ _)
 have HZ0 : Hid (w0.heap.size = w.heap.size + 1):=aiS (by rw [← hw0];simp)
 have h1:=h.below hB0;have HB0:=aiS hB0;have gt:=Om R l most floor gone S i w0 h1.ring
 skip
 have HM : Hid (∀ k,(fA l i) = some k -> k ∈ l):=aiS (λk hh=>XZ hh)
 obtain ⟨d0,d1⟩:=h1.cells
 have HS:=aiS h1;have HK:=aiS hk;clear h h1 hk hB0
 generalize sQ (fA l i) = ev at *
 generalize Wu (fA l i) = yv at *
 generalize (fA l i) = o at *
 go_enter Tryz.func90,Tryz.ntmps90
 go_wp2_with fail
 clear hw0
 refine gt.mono ?_
 rintro e w1 ⟨rfl,hB⟩
 clear gt d0 d1
 obtain ⟨a1,c1,e1,hE1,hc1,hl1,_⟩:=Ea (HS.out.below hB).ring HM.out HK.out
 rw [e1]
 obtain ⟨t1,ht1⟩ : ∃ t,vo o = t:=⟨_,rfl⟩
 obtain ⟨m1,hm1⟩ : ∃ t,mX o = t:=⟨_,rfl⟩
 rw [ht1,hm1]
 have RL:=aiS (And.intro ht1 hm1)
 obtain ⟨v1,hv1⟩ : ∃ v,w1.alloc (.cells #[.int .i64 0,.int .i64 0,.slice none 0 0] 36) = v:=⟨_,rfl⟩
 have hB1 : Below w1.heap.size w1 v1:=by rw [← hv1];exact aiT
 have bE : ak v1 w1.heap.size #[.int .i64 0,.int .i64 0,.slice none 0 0] 36:=by rw [← hv1];exact ak.new _ _ _
 have f0:=bE.free 0;have f1:=bE.free 1;have f2:=bE.free 2;have q0:=bE.cell 0;have q1:=bE.cell 1;have q2:=bE.cell 2;simp at q0 q1 q2;have hX1:=fB (v0:=.int .i64 t1) (v1:=.int .i64 m1) (v2:=.slice a1 (gT o).length c1) bE;have hb1:=dz (v0:=.int .i64 t1) (v1:=.int .i64 m1) (v2:=.slice a1 (gT o).length c1) hB1 (Nat.le_refl _)
 obtain ⟨u1,hu1⟩ : ∃ u,((v1.setCell ⟨w1.heap.size,0,none⟩ (.int .i64 t1)).setCell ⟨w1.heap.size,1,none⟩ (.int .i64 m1)).setCell ⟨w1.heap.size,2,none⟩ (.slice a1 (gT o).length c1) = u:=⟨_,rfl⟩
 rw [hu1] at hX1 hb1
 have zQ : Below w0.heap.size w0 u1:=hB.trans (hb1.mono hB.size)
 have ow:=Ol t1 m1 a1 c1 (gT o) u1 (hE1.below hb1) hc1 (by omega)
 have k0:=hX1.cell 0;have k1:=hX1.cell 1;have k2:=hX1.cell 2;simp at k0 k1 k2;have yF:=aiS (HX0.out.below zQ HX0.out.lt);have Kq:=aiS (HB0.out.trans (zQ.mono HB0.out.size))
 have hsz : w.heap.size < u1.heap.size:=Nat.lt_of_lt_of_le (by rw [HZ0.out];omega) zQ.size
 have xU:=aiS hsz;clear hB hE1 hc1 hl1 e1 hB1 bE hX1 hb1 zQ hsz HX0 ht1 hm1
 go_wp2_with fail
 clear hv1 hu1 f0 f1 f2 q0 q1 q2 k0 k1 k2
 refine ow.mono ?_
 rintro e w2 ⟨a2,c2,rfl,hO,hB⟩
 have hX2:=yF.out.below hB yF.out.lt;have f0:=hX2.free 0;have f1:=hX2.free 1;have f2:=hX2.free 2;have q0:=hX2.cell 0;have q1:=hX2.cell 1;have q2:=hX2.cell 2;simp at q0 q1 q2;have aS:=fB (v0:=.int .i64 t1) (v1:=.int .i64 m1) (v2:=.slice a2 (gT o).length c2) hX2
 have HF : Hid (aM (((w2.setCell ⟨w.heap.size,0,none⟩ (.int .i64 t1)).setCell ⟨w.heap.size,1,none⟩ (.int .i64 m1)).setCell ⟨w.heap.size,2,none⟩ (.slice a2 (gT o).length c2)) w.heap.size (.slice a2 (gT o).length c2) (gT o) /\
  Below w.heap.size w (((w2.setCell ⟨w.heap.size,0,none⟩ (.int .i64 t1)).setCell ⟨w.heap.size,1,none⟩ (.int .i64 m1)).setCell ⟨w.heap.size,2,none⟩ (.slice a2 (gT o).length c2))):=aiS
  ⟨(aM.base hO (by have:=xU.out;omega)).only (kS (S:=λk=>k = w.heap.size) (Only.refl _ _) (.inl rfl)) (λj hj hk=>by have:=(hO.lt j hj).1;have:=xU.out;omega),dz (Kq.out.trans (hB.mono Kq.out.size)) (Nat.le_refl _)⟩
 obtain ⟨u3,hu3⟩ : ∃ u,((w2.setCell ⟨w.heap.size,0,none⟩ (.int .i64 t1)).setCell ⟨w.heap.size,1,none⟩ (.int .i64 m1)).setCell ⟨w.heap.size,2,none⟩ (.slice a2 (gT o).length c2) = u:=⟨_,rfl⟩
 rw [hu3] at HF aS
 have g0:=aS.cell 0;have g1:=aS.cell 1;have g2:=aS.cell 2;simp at g0 g1 g2;clear hO hB hX2 aS ow yF
 go_wp2_with fail
 exact bodyPost_ret (v:=.tuple #[.agg #[.int .i64 t1,.int .i64 m1,.slice a2 (gT o).length c2],.int .i64 ev]) (by simp [results,Tryz.results90,go_sem,g0,g1,g2]) rfl ⟨a2,c2,by rw [RL.out.1,RL.out.2],HF.out⟩
end Go.Proofs.YtklkooeimkedgaaGreat
namespace Go.Proofs.YtklkooeimkedgaaGreat
open Go.RowKit
def sU (k : aG) : Int × Sn:=(k.key,k.sn)
def Al (l l' : List aG) : Prop:=l.map sU = l'.map sU
def iP (s : Sn) : aG:=⟨s.tick,s,none,0⟩
theorem Al.len {l l' : List aG} (h : Al l l') : l.length = l'.length:=by
 have:=congrArg List.length h
 simpa using this
theorem Al.nth {l l' : List aG} (h : Al l l') (i : Nat) : (l[i]?).map sU = (l'[i]?).map sU:=by
 have:=congrArg (λm : List (Int × Sn)=>m[i]?) h
 simpa using this
theorem Al.cnt : ∀ {l l' : List aG},Al l l' -> ∀ key,dX l key = dX l' key
 | [],[],_,key=>rfl
 | [],_ :: _,h,key=>by simp [Al] at h
 | _ :: _,[],h,key=>by simp [Al] at h
 | x :: l,y :: l',h,key=>by
   simp only [Al,List.map_cons,List.cons.injEq] at h
   obtain ⟨h1,h2⟩:=h
   have hk : x.key = y.key:=congrArg Prod.fst h1
   have:=Al.cnt (l:=l) (l':=l') h2 key
   unfold dX at *
   by_cases hx : x.key < key
   ·rw [List.takeWhile_cons_of_pos (by simpa using hx),List.takeWhile_cons_of_pos (by simpa [← hk] using hx),List.length_cons,List.length_cons,this]
   ·rw [List.takeWhile_cons_of_neg (by simpa using hx),List.takeWhile_cons_of_neg (by simpa [← hk] using hx)]
theorem X0 {o o' : Option aG} (h : o.map sU = o'.map sU) (key : Int) : o.elim false (λk=>k.key == key) = o'.elim false (λk=>k.key == key):=by
 cases o <;> cases o' <;> simp_all [sU]
theorem Al.has {l l' : List aG} (h : Al l l') (key : Int) : eF l key = eF l' key:=by
 unfold eF
 rw [h.cnt key]
 exact X0 (h.nth _) key
theorem Al.unt {l l' : List aG} (h : Al l l') (key : Int) : eB l key = eB l' key:=by
 unfold eB;rw [h.has,h.cnt]
theorem Al.get {l l' : List aG} (h : Al l l') (key : Int) : (eG l key).map sU = (eG l' key).map sU:=by
 unfold eG
 rw [h.has,h.cnt]
 split
 ·exact h.nth _
 ·rfl
theorem Al.at {l l' : List aG} (h : Al l l') (i : Int) : (fA l i).map sU = (fA l' i).map sU:=by
 unfold fA
 split
 ·rfl
 ·exact h.nth _
theorem UY {o o' : Option aG} (h : o.map sU = o'.map sU) : iW o = iW o':=by
 cases o <;> cases o' <;> simp_all [iW,sU,vo,mX,gT]
theorem CV {o o' : Option aG} (h : o.map sU = o'.map sU) : sQ o = sQ o' /\ mX o = mX o':=by
 cases o <;> cases o' <;> simp_all [sU,sQ,mX]
theorem Al.stale {l l' : List aG} (h : Al l l') (most floor : Int) (gone : Bool) (tick : Int) : iI l most floor gone tick = iI l' most floor gone tick:=by
 unfold iI;rw [h.unt,h.len]
theorem Al.timely {l l' : List aG} (h : Al l l') (tick time : Int) : fJ l tick time = fJ l' tick time:=by
 unfold fJ
 rw [h.unt,(CV (h.at _)).1,(CV (h.at _)).2,(CV (h.at (eB l' tick))).1,(CV (h.at (eB l' tick))).2]
theorem Al.snap {l l' : List aG} (h : Al l l') (most floor : Int) (gone : Bool) (zs : List Int) : dS l most floor gone zs = dS l' most floor gone zs:=by
 unfold dS
 rw [show rZ l most floor gone (bD zs).1.tick (bD zs).1.base = rZ l' most floor gone (bD zs).1.tick (bD zs).1.base by unfold rZ;rw [h.has,h.has,h.stale],UY (h.get (bD zs).1.base),h.timely]
theorem RV {l : List aG} (h : ∀ k ∈ l,k.key = k.sn.tick) : Al l ((l.map (·.sn)).map iP):=by
 unfold Al
 rw [List.map_map,List.map_map]
 refine List.map_congr_left λk hk=>?_
 simp [sU,iP,h k hk]
def jg (ss : List Sn) (x : Sn) : List Sn:=ss.takeWhile (λs=>decide (s.tick < x.tick)) ++ x :: ss.dropWhile (λs=>decide (s.tick < x.tick))
structure Rg where
 ss : List Sn
 floor : Int
 gone : Bool
def jA (most : Int) (r : Rg) (x : Sn) : Rg :=
 if ((jg r.ss x).length : Int) <= most then ⟨jg r.ss x,r.floor,r.gone⟩ else ⟨(jg r.ss x).drop 1,((jg r.ss x).headD dD).tick,true⟩
def fT (most : Int) (r : Rg) (zs : List Int) : Sn × Int:=dS (r.ss.map iP) most r.floor r.gone zs
theorem Kt : ∀ {ss : List Sn} {x : Sn},(∀ s ∈ ss,s.tick < x.tick) -> jg ss x = ss ++ [x]
 | [],x,_=>rfl
 | y :: ss,x,h=>by
   have h1:=Kt (ss:=ss) (x:=x) (λs hs=>h s (List.mem_cons_of_mem _ hs))
   have hy:=h y (List.mem_cons_self ..)
   unfold jg at h1 ⊢
   rw [List.takeWhile_cons_of_pos (by simpa using hy),List.dropWhile_cons_of_pos (by simpa using hy),List.cons_append,h1,List.cons_append]
theorem zR {a : Sn} {g : Gr} (h : (jo a g).2 = 0) : dx g = 0 /\ (jo a g).1.tick = g.tick /\ (jo a g).1.time = g.time:=by
 unfold jo at h ⊢
 split at h
 ·rename_i hh;exact absurd h hh
 ·rename_i hh
  rw [if_neg hh]
  refine ⟨by simpa using hh,?_⟩
  have key : ∀ l,(fD g l).2 = 0 -> (fD g l).1.tick = g.tick /\ (fD g l).1.time = g.time:=by
   intro l hl
   unfold fD at hl ⊢
   cases hx : kR l g.recs with
   | none=>rw [hx] at hl;cases hl
   | some l' =>
     rw [hx] at hl
     simp only at hl ⊢
     split at hl
     ·cases hl
     ·rename_i hy;rw [if_neg hy];exact ⟨rfl,rfl⟩
  split at h
  ·rename_i hb
   rw [if_pos hb]
   split at h
   ·rename_i hc;exact absurd h hc
   ·rename_i hc
    rw [if_neg hc]
    split at h
    ·cases h
    ·rename_i ht
     rw [if_neg ht]
     exact key _ h
  ·rename_i hb
   rw [if_neg hb]
   exact key _ h
end Go.Proofs.YtklkooeimkedgaaGreat
namespace Go.Proofs.YtklkooeimkedgaaGreat
open Go.RowKit
set_option maxRecDepth 100000
theorem gG.apart {w : World} {T R : Nat} {l : List aG} {most floor : Int} {gone : Bool} {S : Nat -> Prop} (h : gG w T R l most floor gone S) : RingAt w R l most floor gone (λk=>S k /\ k ≠ T):=by
 obtain ⟨⟨cs,hcs,hb⟩,⟨v,hp⟩,h3⟩:=h
 refine ⟨v,hp.blk,hp.row,hp.ents,⟨hp.sR,λe=>?_⟩,λj e=>⟨hp.sv j e,λe2=>?_⟩,λk hk j e=>⟨hp.se k hk j e,λe2=>?_⟩,hp.up,hp.len⟩
 ·subst e
  have h1:=hp.blk
  unfold ak at h1 hb
  have h2:=Option.some.inj (h1.symm.trans hb)
  injection h2 with _ h3
  exact absurd h3 (by decide)
 ·subst e2;exact bJ hp.row hb (by decide) e
 ·subst e2;exact bJ (hp.ents k hk).1 hb (by decide) e
theorem UZ (p m : Value) (cs : List Int) (n : Nat) : (#[p,m] ++ (cs.map (Value.int .i64)).toArray)[2 + n]? = (cs[n]?).map (Value.int .i64):=by
 rw [Array.getElem?_append_right (by simp)]
 simp
theorem U0 (p m : Value) (cs : List Int) (n : Nat) (c : Int) : (#[p,m] ++ (cs.map (Value.int .i64)).toArray).setIfInBounds (2 + n) (.int .i64 c) = #[p,m] ++ ((cs.set n c).map (Value.int .i64)).toArray:=by
 apply Array.ext'
 rw [Array.toList_setIfInBounds,Array.toList_append,Array.toList_append,List.map_set,show 2 + n = n + 1 + 1 by omega]
 rfl
theorem gG.count {w : World} {T R : Nat} {l : List aG} {most floor : Int} {gone : Bool} {S : Nat -> Prop} (h : gG w T R l most floor gone S) {e : Int} (he : dO e) :
 ∃ c : Int,w.cell? ⟨T,2 + e.toNat,none⟩ = some (.int .i64 c) /\ w.frozen? ⟨T,2 + e.toNat,none⟩ = false /\ ∀ c',gG (w.setCell ⟨T,2 + e.toNat,none⟩ (.int .i64 c')) T R l most floor gone S:=by
 have ha:=h.apart
 obtain ⟨⟨cs,hcs,hb⟩,_,h3⟩:=h
 obtain ⟨e0,e1⟩:=he
 have hn : e.toNat < cs.length:=by omega
 refine ⟨cs[e.toNat],?_,hb.free _,λc'=>⟨⟨cs.set e.toNat c',by rw [List.length_set];exact hcs,?_⟩,?_,h3⟩⟩
 ·rw [hb.cell,UZ,List.getElem?_eq_getElem hn];rfl
 ·rw [← U0];exact hb.set _ _
 ·exact (ha.only (Only.setCell (S:=λk=>k = T) (p:=⟨T,2 + e.toNat,none⟩) (Only.refl _ _) (.inl rfl) _) (λk hk e=>hk.2 e)).weaken (λk hk=>hk.1)
def U1 (l : List aG) (most floor : Int) (gone : Bool) (x : aG) (l' : List aG) (fl : Int) (g : Bool) : Prop:=(⟨l'.map (·.sn),fl,g⟩ : Rg) = jA most ⟨l.map (·.sn),floor,gone⟩ x.sn /\ ∀ k ∈ l',k = x \/ k ∈ l
def Ku (most : Int) (r : Rg) (x : Sn) : Int × Bool:=if ((jg r.ss x).length : Int) <= most then (0,false) else (((jg r.ss x).headD dD).tick,true)
def Wv (R : Nat) (l : List aG) (most floor : Int) (gone : Bool) (S : Nat -> Prop) (x : aG) (w : World) : Prop :=
 Calls Tryz.prog 78 #[.pointer (some ⟨R,0,none⟩),.int .i64 x.key,.agg #[.int .i64 x.sn.tick,.int .i64 x.sn.time,fQ x]] w λe w'=>∃ (l' : List aG) (fl : Int) (g : Bool),e = .returned (.tuple #[.int .i64 (Ku most ⟨l.map (·.sn),floor,gone⟩ x.sn).1,.bool (Ku most ⟨l.map (·.sn),floor,gone⟩ x.sn).2,.int .i64 0]) /\ RingAt w' R l' most fl g (λk=>S k \/ (w.heap.size <= k /\ k < w'.heap.size)) /\ Only S w w' /\ U1 l most floor gone x l' fl g
def Kv (l : List aG) (most floor : Int) (gone : Bool) (sn : Sn) : Prop:=∀ (R : Nat) (S : Nat -> Prop) (x : aG) (w : World),x.sn = sn -> x.key = sn.tick -> RingAt w R l most floor gone S -> aM w 0 (fQ x) x.sn.ents -> (∀ e ∈ x.sn.ents,e.Ok) -> (∀ j,(fQ x).ownBlock = some j -> S j) -> Wv R l most floor gone S x w
def Kw (u1 : World) (S2 : Nat -> Prop) (R : Nat) (l : List aG) (most floor : Int) (gone : Bool) (sn : Sn) (b : List Value) (W : World) : Prop:=Only S2 u1 W /\ match b with
 | []=>Below u1.heap.size u1 W
 | [v]=>Below u1.heap.size u1 W /\ ∃ a c,v = .agg #[.int .i64 sn.tick,.int .i64 sn.time,.slice a sn.ents.length c] /\ aM W u1.heap.size (.slice a sn.ents.length c) sn.ents
 | [v,u]=>∃ (l' : List aG) (fl : Int) (g : Bool) (x : aG),RingAt W R l' most fl g (λk=>S2 k /\ k < W.heap.size) /\ x.sn = sn /\ x.key = sn.tick /\ U1 l most floor gone x l' fl g
 | _=>False
theorem Kw.below {u1 : World} {S2 : Nat -> Prop} {R : Nat} {l : List aG} {most floor : Int} {gone : Bool} {sn : Sn} {b : List Value} {W W' : World} (h : Kw u1 S2 R l most floor gone sn b W) (hb : Below W.heap.size W W') : Kw u1 S2 R l most floor gone sn b W':=by
 obtain ⟨h1,h2⟩:=h
 refine ⟨h1.eX hb,?_⟩
 match b,h2 with
 | [],h2=>exact h2.trans (hb.mono h2.size)
 | [v],⟨h2,a,c,e,ho⟩=>exact ⟨h2.trans (hb.mono h2.size),a,c,e,ho.below hb⟩
 | [v,u],⟨l',fl,g,x,hr,q⟩=>exact ⟨l',fl,g,x,(hr.below hb).weaken (λk hk=>⟨hk.1,Nat.lt_of_lt_of_le hk.2 hb.size⟩),q⟩
def ae6 (l : List aG) (most floor : Int) (gone : Bool) (z : Sn × Int) (l' : List aG) (fl : Int) (g : Bool) : Prop :=
 (z.2 ≠ 0 /\ l' = l /\ fl = floor /\ g = gone) \/ (z.2 = 0 /\ ∃ x : aG,x.sn = z.1 /\ x.key = z.1.tick /\ U1 l most floor gone x l' fl g)
set_option maxHeartbeats 4000000 in
theorem Ov (T R : Nat) (l : List aG) (most floor : Int) (gone : Bool) (S : Nat -> Prop) (a : Option Addr) (len cap : Nat) (zs : List Int) (w : World) (h0 : gG w T R l most floor gone S) (Oq : ∀ k ∈ l,k.sn.ents.length <= 64)
 (hz : BytesAt w a len zs) (hc : a = none -> cap = 0) (hlc : len <= cap) (hl : (len : Int) <= 140737488355000)
 (Ky : (dS l most floor gone zs).2 = 0 -> Kv l most floor gone (dS l most floor gone zs).1) (hok : ∀ e ∈ (dS l most floor gone zs).1.ents,e.Ok) (hn : (dS l most floor gone zs).1.ents.length <= 64) (her : dO (dS l most floor gone zs).2) :
 Calls Tryz.prog 39 #[.pointer (some ⟨T,0,none⟩),.slice a len cap] w λe w'=>e = .returned (.tuple #[.int .i64 (if (dS l most floor gone zs).2 = 0 then (dS l most floor gone zs).1.tick else 0),.int .i64 (dS l most floor gone zs).2]) /\
  (∃ l' fl g,gG w' T R l' most fl g (λk=>S k \/ (w.heap.size <= k /\ k < w'.heap.size)) /\ ae6 l most floor gone (dS l most floor gone zs) l' fl g) /\ Only S w w':=by
 have hs:=ZV T R l most floor gone S a len cap zs w h0 Oq hz hc hlc hl (RU hz.u8);have Kz:=aiS h0.cap;have Ww:=aiS hok;have ae7:=aiS Ky;have Wx:=aiS her;have HN:=aiS hn;clear Ky hok h0 hz her hn
 generalize dS l most floor gone zs = z at *
 obtain ⟨tk,htk⟩ : ∃ t : Int,(if z.2 = 0 then z.1.tick else 0) = t:=⟨_,rfl⟩
 rw [htk]
 obtain ⟨⟨tick,time,ents⟩,er⟩:=z
 simp only at *
 have HTK:=aiS htk;clear htk
 go_enter Tryz.func39,Tryz.ntmps39
 go_wp2_with fail
 refine hs.mono ?_
 rintro e w1 ⟨v,rfl,hO,hB⟩
 clear hs
 obtain ⟨va,vc,rfl,_⟩:=hO.slice
 have hS1:=Kz.out.below hB
 obtain ⟨v1,hv1⟩ : ∃ v,w1.alloc (.cells #[.int .i64 0,.int .i64 0,.slice none 0 0] 36) = v:=⟨_,rfl⟩
 have hB1 : Below w1.heap.size w1 v1:=by rw [← hv1];exact aiT
 have bE : ak v1 w1.heap.size #[.int .i64 0,.int .i64 0,.slice none 0 0] 36:=by rw [← hv1];exact ak.new _ _ _
 have f0:=bE.free 0;have f1:=bE.free 1;have f2:=bE.free 2;have q0:=bE.cell 0;have q1:=bE.cell 1;have q2:=bE.cell 2;simp at q0 q1 q2;have hX1:=fB (v0:=.int .i64 tick) (v1:=.int .i64 time) (v2:=.slice va ents.length vc) bE;have hb1:=dz (v0:=.int .i64 tick) (v1:=.int .i64 time) (v2:=.slice va ents.length vc) hB1 (Nat.le_refl _)
 obtain ⟨u1,hu1⟩ : ∃ u,((v1.setCell ⟨w1.heap.size,0,none⟩ (.int .i64 tick)).setCell ⟨w1.heap.size,1,none⟩ (.int .i64 time)).setCell ⟨w1.heap.size,2,none⟩ (.slice va ents.length vc) = u:=⟨_,rfl⟩
 rw [hu1] at hX1 hb1
 have fu:=aiS hX1;have gL:=aiS (hS1.below hb1);have HB1:=aiS (hB.trans (hb1.mono hB.size))
 have hE1 : fP u1 va ents /\ (va = none -> vc = 0):=by
  obtain ⟨a',c',e,h1,h2,_⟩:=(aM.below hO hb1).ents Ww.out
  cases e;exact ⟨h1,h2⟩
 have zl:=aiS hE1
 have xU : Hid (w.heap.size <= w1.heap.size /\ w1.heap.size < u1.heap.size):=aiS ⟨hB.size,hX1.lt⟩
 clear hO hB hS1 hB1 bE hX1 hb1 hE1
 by_cases her : er = 0
 ·subst her
  obtain rfl : tick = tk:=by have:=HTK.out;simpa using this
  obtain ⟨d0,d1⟩:=gL.out.cells
  have x0:=fu.out.cell 0;have x1:=fu.out.cell 1;have x2:=fu.out.cell 2;simp at x0 x1 x2
  have HI : Hid (Kw u1 (λk=>(S k /\ k < w.heap.size /\ k ≠ T) \/ u1.heap.size <= k) R l most floor gone ⟨tick,time,ents⟩ [] u1.drew):=aiS ⟨Only.of_below (below_drewN aiU 1),below_drewN aiU 1⟩
  have HT : Hid (T < w.heap.size):=aiS Kz.out.sT.2
  have IV : Hid (∀ b W,Kw u1 (λk=>(S k /\ k < w.heap.size /\ k ≠ T) \/ u1.heap.size <= k) R l most floor gone ⟨tick,time,ents⟩ b W -> W.cell? ⟨T,0,none⟩ = some (.pointer (some ⟨R,0,none⟩)) /\ W.cell? ⟨w1.heap.size,0,none⟩ = some (.int .i64 tick) /\ W.cell? ⟨w1.heap.size,1,none⟩ = some (.int .i64 time) /\ W.cell? ⟨w1.heap.size,2,none⟩ = some (.slice va ents.length vc)):=aiS (λb W hW=>by
   have hh : ∀ k o,k < u1.heap.size -> ¬ ((S k /\ k < w.heap.size /\ k ≠ T) \/ u1.heap.size <= k) -> W.cell? ⟨k,o,none⟩ = u1.cell? ⟨k,o,none⟩:=λk o h1 h2=>by
    simp only [World.cell?];rw [hW.1.block k h1 h2]
   have a1:=HT.out;have a2:=xU.out
   refine ⟨(hh T 0 (by omega) (by omega)).trans d0,(hh _ 0 (by omega) (by omega)).trans x0,(hh _ 1 (by omega) (by omega)).trans x1,(hh _ 2 (by omega) (by omega)).trans x2⟩)
  obtain ⟨av,bv,hlv⟩ : ∃ av bv,Ku most ⟨l.map (·.sn),floor,gone⟩ ⟨tick,time,ents⟩ = (av,bv):=⟨_,_,rfl⟩
  have HLV:=aiS hlv;clear hlv
  go_wp2_with fail
  clear hv1 hu1 f0 f1 f2 q0 q1 q2 d0 d1 x0 x1 x2
  apply lG 13 [7,8] (Kw u1 (λk=>(S k /\ k < w.heap.size /\ k ≠ T) \/ u1.heap.size <= k) R l most floor gone ⟨tick,time,ents⟩)
  case hm=>kernel_rfl
  case hB=>kernel_rfl
  case hp=>kernel_rfl
  case hI=>exact HI.out
  simp only [List.take_succ_cons,List.take_zero,List.drop_succ_cons,List.drop_zero]
  repeat (apply bZ;(next=>rfl);(next=>(intro b W hW K hK;obtain ⟨y0,y1,y2,y3⟩:=IV.out _ _ hW;go_simp;first | exact ⟨hW,hK⟩ | exact hK));(next=>exact ⟨_,HI.out⟩);(try go_simp))
  apply dL (s:=λ_=>True)
  case hk=>rfl
  case hne=>exact ⟨undef,trivial⟩
  case hw=>rfl
  case h =>
   intro W hW
   have hW2 : Below u1.heap.size u1 W:=hW.2
   have ow:=Ol tick time va vc ents W (zl.out.1.below hW2) zl.out.2 (by have:=HN.out;omega)
   have HW:=aiS hW;clear hW hW2
   go_simp
   refine ow.mono ?_
   rintro e w2 ⟨a2,c2,rfl,hO,hB⟩
   have hAc:=Kw.below HW.out hB
   first | refine ⟨_,rfl,?_⟩ | refine ⟨_,rfl,trivial,?_⟩
   exact ⟨hAc.1,hAc.2,a2,c2,rfl,aM.base hO (Below.size (show Below u1.heap.size u1 W from HW.out.2))⟩
  intro v2 _
  repeat (apply bZ;(next=>rfl);(next=>(intro b W hW K hK;obtain ⟨y0,y1,y2,y3⟩:=IV.out _ _ hW;go_simp;first | exact ⟨hW,hK⟩ | exact hK));(next=>exact ⟨_,HI.out⟩);(try go_simp))
  apply dL (s:=λv=>v = .tuple #[.int .i64 av,.bool bv,.int .i64 0])
  case hk=>rfl
  case hne=>exact ⟨_,rfl⟩
  case hw=>rfl
  case h =>
   intro W hW
   obtain ⟨hO,hb,a2,c2,rfl,lH⟩:=hW
   have hS2:=(gL.out.below hb).apart.weaken (S':=λk=>((S k /\ k < w.heap.size /\ k ≠ T) \/ u1.heap.size <= k)) (λk hk=>.inl ⟨hk.1.1,hk.1.2,hk.2⟩)
   have ly:=ae7.out trivial R _ ⟨tick,⟨tick,time,ents⟩,a2,c2⟩ W rfl rfl hS2 (aM.base lH (Nat.zero_le _)) Ww.out (λj hj=>.inr (lH.lt j hj).1)
   have HO:=aiS hO;have hbs:=hb.size;clear hO hb lH hS2
   unfold Wv fQ at ly
   simp only [HLV.out] at ly
   go_simp
   refine ly.mono ?_
   rintro e w2 ⟨l',fl,g,rfl,hR,hO2,Hz⟩
   first | refine ⟨_,rfl,rfl,?_⟩ | refine ⟨_,rfl,trivial,?_⟩ | refine ⟨_,rfl,?_⟩
   exact ⟨HO.out.trans hO2,l',fl,g,_,hR.cap.weaken (λk hk=>⟨by rcases hk.1 with h | h;exact h;exact .inr (by omega),hk.2⟩),rfl,rfl,Hz⟩
  intro v3 hv3
  obtain rfl:=hv3
  try go_simp
  repeat (apply bZ;(next=>rfl);(next=>(intro b W hW K hK;obtain ⟨y0,y1,y2,y3⟩:=IV.out _ _ hW;go_simp;first | exact ⟨hW,hK⟩ | exact hK));(next=>exact ⟨_,HI.out⟩);(try go_simp))
  refine kC ?_
  intro W hW
  have HK:=aiS (IV.out _ W hW)
  obtain ⟨hO,l',fl,g,x,hR,hx1,hx2,Hz⟩:=hW
  have hT:=HT.out;have hsz:=xU.out;have ae8:=hO.size
  have hST : gG W T R l' most fl g (λk=>S k \/ (w.heap.size <= k /\ k < W.heap.size)):=by
   obtain ⟨cs,hcs,hb⟩:=gL.out.blk
   refine ⟨⟨cs,hcs,hO.blk hb (by omega)⟩,hR.weaken (λk hk=>?_),.inl Kz.out.sT.1⟩
   rcases hk.1 with h | h
   ·exact .inl h.1
   ·exact .inr ⟨by omega,hk.2⟩
  have HON : Hid (Only S w W):=aiS ((Only.of_below (S:=S) HB1.out).aW hO (λi hi h=>by rcases h with h | h;exact h.1;omega))
  have Z7:=aiS (And.intro hx1 (And.intro hx2 Hz));have HST:=aiS hST;clear hO hR hx1 hx2 Hz HI hST ae8
  obtain ⟨c,hc0,hf0,hset⟩:=HST.out.count dO.zero
  simp at hc0 hf0
  obtain ⟨kt,Z8,kx1,kx2⟩:=HK.out
  go_wp2_with fail
  refine aQ 9 (by kernel_rfl) (by kernel_rfl) ?_
  simp only [List.take_succ_cons,List.take_zero,List.drop_succ_cons,List.drop_zero]
  repeat (apply aA;(next=>(intro W hW K hK;have y0:=hW.cell kt;have y1:=hW.cell Z8;have y2:=hW.cell kx1;have y3:=hW.cell kx2;have y4:=hW.cell hc0;go_simp;first | exact ⟨hW,hK⟩ | exact hK));(next=>exact aH.self _);(try go_simp))
  refine aT ?_
  intro WC aP
  have bP : Below W.heap.size W WC:=aP
  have RX:=HST.out.below bP
  obtain ⟨c',hc2,hf2,iM⟩:=RX.count dO.zero
  simp at hc2 hf2 iM;have kx:=aP.cell Z8;have hc3:=aP.cell hc0;have ah2:=xU.out;have hTl:=HT.out
  have hne1 : ¬ w1.heap.size = T:=by omega
  have hne2 : ¬ T = w1.heap.size:=by omega
  have HF : Hid (∀ v,gG (WC.setCell ⟨T,2,none⟩ (.int .i64 v)) T R l' most fl g (λk=>S k \/ (w.heap.size <= k /\ k < (WC.setCell ⟨T,2,none⟩ (.int .i64 v)).heap.size)) /\ Only S w (WC.setCell ⟨T,2,none⟩ (.int .i64 v))):=aiS (λv=>⟨(iM v).weaken (λk hk=>by
   rcases hk with h | h
   ·exact .inl h
   ·exact .inr ⟨h.1,by have:=bP.size;simp [World.setCell];omega⟩),(HON.out.eX bP).setCell (p:=⟨T,2,none⟩) (.inl Kz.out.sT.1) _⟩)
  clear aP bP RX kt Z8 kx1 kx2 hc0 hf0 hset HK iM hc2
  go_wp2_with fail
  exact bodyPost_ret (v:=.tuple #[.int .i64 tick,.int .i64 0]) (by simp [results,Tryz.results39,go_sem]) rfl ⟨rfl,⟨l',fl,g,(HF.out _).1,.inr ⟨rfl,x,Z7.out.1,Z7.out.2.1,Z7.out.2.2⟩⟩,(HF.out _).2⟩
 ·have hen : (er == 0) = false:=by simpa using her
  have ah3 : (er != 0) = true:=by simpa using her
  obtain ⟨c,hc0,hf0,hset⟩:=gL.out.count Wx.out
  obtain ⟨d0,d1⟩:=gL.out.cells
  have hb1 : ¬ er < 0:=by have:=Wx.out.1;omega
  have hb2 : er < 18:=by have:=Wx.out.2;omega
  go_wp2_with fail
  clear hv1 hu1 f0 f1 f2 q0 q1 q2
  refine aQ 9 (by kernel_rfl) (by kernel_rfl) ?_
  simp only [List.take_succ_cons,List.take_zero,List.drop_succ_cons,List.drop_zero]
  repeat (apply aA;(next=>(intro W hW K hK;have y0:=hW.cell d0;have y1:=hW.cell d1;have y2:=hW.cell hc0;go_simp;first | exact ⟨hW,hK⟩ | exact hK));(next=>exact aH.self _);(try go_simp))
  refine aT ?_
  intro WC aP
  have bP : Below u1.heap.size u1 WC:=aP
  have RX:=gL.out.below bP
  obtain ⟨c',hc2,hf2,iM⟩:=RX.count Wx.out
  have hc3:=aP.cell hc0
  have HF : Hid (∀ v,gG (WC.setCell ⟨T,2 + er.toNat,none⟩ (.int .i64 v)) T R l most floor gone (λk=>S k \/ (w.heap.size <= k /\ k < (WC.setCell ⟨T,2 + er.toNat,none⟩ (.int .i64 v)).heap.size)) /\ Only S w (WC.setCell ⟨T,2 + er.toNat,none⟩ (.int .i64 v))):=aiS (λv=>⟨(iM v).weaken (λk hk=>.inl hk.1),(Only.of_below (HB1.out.trans (bP.mono HB1.out.size))).setCell (p:=⟨T,2 + er.toNat,none⟩) (.inl Kz.out.sT.1) _⟩)
  have htk : tk = 0:=by rw [← HTK.out,if_neg her]
  subst htk
  have oL:=aiS her;clear aP bP RX d0 d1 hc0 hf0 hset iM hc2 her
  go_wp2_with fail
  exact bodyPost_ret (v:=.tuple #[.int .i64 0,.int .i64 er]) (by simp [results,Tryz.results39,go_sem]) rfl ⟨rfl,⟨l,floor,gone,(HF.out _).1,.inl ⟨oL.out,rfl,rfl,rfl⟩⟩,(HF.out _).2⟩
end Go.Proofs.YtklkooeimkedgaaGreat
namespace Go.Proofs.YtklkooeimkedgaaGreat
open Go.RowKit
theorem vG (E : Nat -> aB) : ∀ (n i : Nat),jF E n i = 0 ↔ ∀ j,i <= j -> j < i + n -> 0 <= (E j).id /\ (E j).id <= 65535 /\ (0 < j -> (E (j - 1)).id < (E j).id)
 | 0,i=>⟨λ_ j h1 h2=>by omega,λ_=>rfl⟩
 | n + 1,i=>by
   unfold jF
   constructor
   ·intro h j h1 h2
    split at h
    ·cases h
    split at h
    ·cases h
    rename_i a b
    by_cases hj : j = i
    ·subst hj;exact ⟨by omega,by omega,λhp=>by omega⟩
    ·exact (vG E n (i + 1)).1 h j (by omega) (by omega)
   ·intro h
    have h0:=h i (Nat.le_refl _) (by omega)
    rw [if_neg (by omega),if_neg (by intro hh;have:=h0.2.2 hh.1;omega)]
    exact (vG E n (i + 1)).2 (λj h1 h2=>h j (by omega) (by omega))
structure pq (s : Sn) : Prop where
 tick : 0 <= s.tick /\ s.tick <= 4294967295
 time : -2305843009213693952 <= s.time /\ s.time <= 2305843009213693952
 len : s.ents.length <= 64
 ids : ∀ e ∈ s.ents,0 <= e.id /\ e.id <= 65535
 up : s.ents.Pairwise (λa b=>a.id < b.id)
theorem getD_get {es : List aB} {i : Nat} (h : i < es.length) : es.getD i bK = es[i]:=by simp [List.getD,h]
theorem Aj : ∀ {es : List aB},(∀ i,0 < i -> (h : i < es.length) -> (es[i - 1]).id < (es[i]).id) -> es.Pairwise (λa b=>a.id < b.id)
 | [],_=>List.Pairwise.nil
 | [x],_=>List.pairwise_singleton _ _
 | x :: y :: es,h=>by
   have ih:=Aj (es:=y :: es) (λi hi hl=>by
    have:=h (i + 1) (by omega) (by simp at hl ⊢;omega)
    obtain ⟨j,rfl⟩ : ∃ j,i = j + 1:=⟨i - 1,by omega⟩
    simpa using this)
   have hxy : x.id < y.id:=h 1 (by omega) (by simp)
   refine List.pairwise_cons.2 ⟨λz hz=>?_,ih⟩
   rcases List.mem_cons.1 hz with rfl | hz
   ·exact hxy
   ·exact Int.lt_trans hxy ((List.pairwise_cons.1 ih).1 z hz)
theorem jI {s : Sn} : fZ s = 0 ↔ pq s:=by
 unfold fZ dh
 constructor
 ·intro h
  split at h
  ·cases h
  split at h
  ·cases h
  rename_i a b
  have h2:=(vG _ _ _).1 h
  refine ⟨by omega,by omega,by omega,λe he=>?_,Aj λi hi hl=>?_⟩
  ·obtain ⟨i,hi,rfl⟩:=List.mem_iff_getElem.1 he
   have:=h2 i (by omega) (by omega)
   rw [getD_get hi] at this
   exact ⟨this.1,this.2.1⟩
  ·have:=(h2 i (by omega) (by omega)).2.2 hi
   rwa [getD_get hl,getD_get (show i - 1 < s.ents.length by omega)] at this
 ·intro h
  rw [if_neg (by have:=h.tick;have:=h.time;omega),if_neg (by have:=h.len;omega)]
  refine (vG _ _ _).2 λj _ hj=>?_
  have hj' : j < s.ents.length:=by omega
  have hi:=h.ids _ (List.getElem_mem hj')
  rw [getD_get hj']
  refine ⟨hi.1,hi.2,λhp=>?_⟩
  rw [getD_get (show j - 1 < s.ents.length by omega)]
  exact List.pairwise_iff_getElem.1 h.up (j - 1) j (by omega) hj' (by omega)
theorem DJ : ∀ (n : Nat) {last : Int} {s : aI},-1 <= last -> last <= 65535 -> aV s.1 -> ∀ r ∈ (gu n last s).1,r.Ok
 | 0,last,s,_,_,_,r,hr=>by simp [gu] at hr
 | n + 1,last,s,h1,h2,h,r,hr=>by
   rw [gu] at hr
   split at hr
   ·simp at hr
   ·rename_i hh
    have hk:=JV h1 h2 h (by simpa using hh)
    rcases List.mem_cons.1 hr with rfl | hr
    ·exact hk.1
    ·exact DJ n (by omega) (by omega) hk.2.1 r hr
theorem Sr {zs : List Int} (h : aV zs) : ∀ r ∈ (bD zs).1.recs,r.Ok:=by
 unfold bD
 split
 ·simp [oJ]
 split
 ·simp [oJ]
 rename_i x hx
 split
 ·simp [oJ]
 ·exact DJ _ (by decide) (by decide) (iQ (iQ (by
   unfold iF;simp only;split
   ·exact jY (iQ (nP (nP (Cc h hx))))
   ·exact jY (iQ (nP (nP (Cc h hx)))))))
theorem Sv {l l' : List aB} {r : Rec} (h : iV l r = some l') (hc : dH r = 0) (hl : ∀ e ∈ l,0 <= e.id /\ e.id <= 65535) (hn : (l.map (·.id)).Nodup) : (∀ e ∈ l',0 <= e.id /\ e.id <= 65535) /\ (l'.map (·.id)).Nodup:=by
 have hr : 0 <= r.id /\ r.id <= 65535:=by
  unfold dH at hc
  split at hc
  ·cases hc
  split at hc
  ·cases hc
  omega
 have put : ∀ e : aB,e.id = r.id -> (∀ x ∈ fG l e,0 <= x.id /\ x.id <= 65535) /\ ((fG l e).map (·.id)).Nodup:=λe he =>
  ⟨λx hx=>by rcases wF hx with h | h;exact hl x h;subst h;omega,zL hn⟩
 unfold iV at h
 cases hf : eZ l r.id with
 | some x =>
   rw [hf] at h
   simp only at h
   have hx:=xO hf
   split at h
   ·cases h
   rename_i hk
   split at h
   ·cases h
    exact ⟨λe he=>hl e (List.mem_filter.1 he).1,hn.sublist (List.Sublist.map _ List.filter_sublist)⟩
   ·rename_i hk2
    cases h
    exact put _ (BF hc hx.2 hk hk2)
 | none =>
   rw [hf] at h
   simp only at h
   split at h
   ·cases h;exact put _ rfl
   ·cases h
theorem Ij : ∀ (rs : List Rec) {l l' : List aB},kR l rs = some l' -> (∀ r ∈ rs,dH r = 0) -> (∀ e ∈ l,0 <= e.id /\ e.id <= 65535) -> (l.map (·.id)).Nodup -> (∀ e ∈ l',0 <= e.id /\ e.id <= 65535) /\ (l'.map (·.id)).Nodup
 | [],l,l',h,_,hl,hn=>by cases h;exact ⟨hl,hn⟩
 | r :: rs,l,l',h,hc,hl,hn=>by
   unfold kR at h
   cases hx : iV l r with
   | none=>rw [hx] at h;cases h
   | some l1 =>
     rw [hx] at h
     have h1:=Sv hx (hc r (by simp)) hl hn
     exact Ij rs h (λr hr=>hc r (by simp [hr])) h1.1 h1.2
theorem Sy {es : List aB} : ∀ e ∈ j4 es,e ∈ es:=by
 have : ∀ (es l : List aB),∀ e ∈ es.foldl fG l,e ∈ l \/ e ∈ es:=by
  intro es
  induction es with
  | nil=>intro l e h;exact .inl h
  | cons x es ih =>
    intro l e h
    rcases ih _ e h with h | h
    ·rcases wF h with h | h
     ·exact .inl h
     ·exact .inr (by simp [h])
    ·exact .inr (by simp [h])
 intro e h
 rcases this es [] e h with h | h
 ·simp at h
 ·exact h
theorem LG (es : List aB) : ((j4 es).map (·.id)).Nodup:=by
 have : ∀ (es l : List aB),(l.map (·.id)).Nodup -> ((es.foldl fG l).map (·.id)).Nodup:=by
  intro es
  induction es with
  | nil=>intro l h;exact h
  | cons x es ih=>intro l h;exact ih _ (zL h)
 exact this es [] (by simp)
theorem Vd {a : Sn} {g : Gr} (h : (jo a g).2 = 0) : pq (jo a g).1:=by
 have ht:=zR h;have hb:=ht.1;have hc:=Fa hb
 have hh : ¬ gX g.tick g.time g.base g.recs.length ≠ 0:=by
  intro hn
  unfold dx at hb
  rw [if_pos hn] at hb
  exact hn hb
 have hh' : gX g.tick g.time g.base g.recs.length = 0:=Decidable.of_not_not hh
 have hr : 0 <= g.tick /\ g.tick <= 4294967295 /\ -2305843009213693952 <= g.time /\ g.time <= 2305843009213693952:=by
  unfold gX at hh'
  split at hh'
  ·cases hh'
  ·omega
 have key : ∀ l : List aB,(fD g l).2 = 0 -> (∀ e ∈ l,0 <= e.id /\ e.id <= 65535) -> (l.map (·.id)).Nodup -> pq (fD g l).1:=by
  intro l hl h1 h2
  unfold fD at hl ⊢
  cases hx : kR l g.recs with
  | none=>rw [hx] at hl;cases hl
  | some l' =>
    rw [hx] at hl
    simp only at hl ⊢
    split at hl
    ·cases hl
    ·rename_i hy
     rw [if_neg hy]
     have h3:=Ij g.recs hx hc h1 h2;have hp:=xP l'
     have hn : ((uQ l').map (·.id)).Nodup:=(hp.map (·.id)).nodup_iff.2 h3.2
     refine ⟨⟨hr.1,hr.2.1⟩,⟨hr.2.2.1,hr.2.2.2⟩,by simp only;rw [hp.length_eq];omega,λe he=>h3.1 e (hp.mem_iff.1 he),?_⟩
     have hs:=MH l'
     unfold DZ at hs
     have h4 : (uQ l').Pairwise (λa b=>a.id ≠ b.id):=List.pairwise_map.1 hn
     exact (List.Pairwise.and hs h4).imp (λ⟨a,b⟩=>by omega)
 unfold jo at h ⊢
 rw [if_neg (by simpa using hb)] at h ⊢
 split at h
 ·rename_i hbs
  rw [if_pos hbs]
  split at h
  ·rename_i hq;exact absurd h hq
  ·rename_i hq
   rw [if_neg hq]
   split at h
   ·cases h
   ·rename_i hq2
    rw [if_neg hq2]
    have ha:=jI.1 (by simpa using hq : fZ a = 0)
    exact key _ h (λe he=>ha.ids e (Sy e he)) (LG _)
 ·rename_i hbs
  rw [if_neg hbs]
  exact key _ h (by simp) (by simp)
theorem Ve {a : Sn} {g : Gr} (ha : ∀ e ∈ a.ents,e.Ok) (hg : ∀ r ∈ g.recs,r.Ok) : ∀ e ∈ (jo a g).1.ents,e.Ok:=by
 have key : ∀ l : List aB,(∀ e ∈ l,e.Ok) -> ∀ e ∈ (fD g l).1.ents,e.Ok:=by
  intro l hl
  unfold fD
  cases hx : kR l g.recs with
  | none=>simp [dD]
  | some l' =>
    simp only
    split
    ·simp [dD]
    ·exact λe he=>J4 g.recs hx hl hg e ((xP l').mem_iff.1 he)
 unfold jo
 split
 ·simp [dD]
 split
 ·split
  ·simp [dD]
  split
  ·simp [dD]
  ·exact key _ (J5 ha)
 ·exact key _ (by simp)
theorem FB (E : Nat -> aB) : ∀ n i,dO (jF E n i)
 | 0,_=>dO.zero
 | n + 1,i=>by
   unfold jF
   split
   ·exact ⟨by decide,by decide⟩
   split
   ·exact ⟨by decide,by decide⟩
   ·exact FB E n _
theorem Sz (s : Sn) : dO (fZ s):=by
 unfold fZ dh
 split
 ·exact ⟨by decide,by decide⟩
 split
 ·exact ⟨by decide,by decide⟩
 ·exact FB _ _ _
theorem Ow (r : Rec) : dO (dH r):=by
 unfold dH
 split
 ·exact ⟨by decide,by decide⟩
 split
 ·exact ⟨by decide,by decide⟩
 split <;> exact ⟨by decide,by decide⟩
theorem Ik : ∀ (rs : List Rec) (last : Int),dO (lZ last rs)
 | [],_=>dO.zero
 | r :: rs,last=>by
   unfold lZ
   split
   ·unfold gQ
    split
    ·exact Ow r
    split
    ·exact ⟨by decide,by decide⟩
    split <;> exact ⟨by decide,by decide⟩
   ·exact Ik rs _
theorem Ox (g : Gr) : dO (dx g):=by
 unfold dx
 split
 ·unfold gX
  split
  ·exact ⟨by decide,by decide⟩
  split
  ·exact ⟨by decide,by decide⟩
  split <;> exact ⟨by decide,by decide⟩
 ·exact Ik _ _
theorem Ye (a : Sn) (g : Gr) : dO (jo a g).2:=by
 have key : ∀ l,dO (fD g l).2:=by
  intro l
  unfold fD
  split
  ·exact ⟨by decide,by decide⟩
  ·split
   ·exact (show dO 4 from ⟨by decide,by decide⟩)
   ·exact dO.zero
 unfold jo
 split
 ·exact Ox g
 split
 ·split
  ·exact Sz a
  split
  ·exact ⟨by decide,by decide⟩
  ·exact key _
 ·exact key _
theorem SE (l : List aG) (most floor : Int) (gone : Bool) (zs : List Int) : dO (dS l most floor gone zs).2:=by
 unfold dS
 split
 ·exact UW zs
 split
 ·unfold rZ
  split
  ·exact ⟨by decide,by decide⟩
  split
  ·exact ⟨by decide,by decide⟩
  split <;> exact ⟨by decide,by decide⟩
 ·simp only
  split
  ·exact ⟨by decide,by decide⟩
  ·exact Ye _ _
theorem xY {l : List aG} {most floor : Int} {gone : Bool} {zs : List Int} (h : (dS l most floor gone zs).2 = 0) :
 (bD zs).2 = 0 /\ rZ l most floor gone (bD zs).1.tick (bD zs).1.base = 0 /\ (jo (iW (eG l (bD zs).1.base)) (bD zs).1).2 = 0 /\ (dS l most floor gone zs).1 = (jo (iW (eG l (bD zs).1.base)) (bD zs).1).1 /\
   fJ l (dS l most floor gone zs).1.tick (dS l most floor gone zs).1.time = true:=by
 unfold dS at h ⊢
 split at h
 ·rename_i hh;exact absurd h hh
 rename_i h1
 rw [if_neg h1]
 split at h
 ·rename_i hh;exact absurd h hh
 rename_i h2
 rw [if_neg h2]
 simp only at h ⊢
 refine ⟨by simpa using h1,by simpa using h2,?_⟩
 split at h
 ·cases h
 ·rename_i h3
  refine ⟨h,trivial,?_⟩
  cases ht : fJ l (jo (iW (eG l (bD zs).1.base)) (bD zs).1).1.tick (jo (iW (eG l (bD zs).1.base)) (bD zs).1).1.time
  ·exact absurd ⟨h,ht⟩ h3
  ·rfl
theorem FC {l : List aG} {most floor : Int} {gone : Bool} {zs : List Int} (h : (dS l most floor gone zs).2 = 0) : pq (dS l most floor gone zs).1:=by
 obtain ⟨_,_,h3,h4,_⟩:=xY h
 rw [h4];exact Vd h3
theorem Oy {l : List aG} {most floor : Int} {gone : Bool} {zs : List Int} (hz : aV zs) (hl : ∀ k ∈ l,∀ e ∈ k.sn.ents,e.Ok) : ∀ e ∈ (dS l most floor gone zs).1.ents,e.Ok:=by
 unfold dS
 split
 ·simp [dD]
 split
 ·simp [dD]
 ·refine Ve (λe he=>?_) (Sr hz)
  unfold iW at he
  cases hk : eG l (bD zs).1.base with
  | none=>rw [hk] at he;simp [gT] at he
  | some k=>rw [hk] at he;exact hl k (Eb hk) e he
theorem SF {l : List aG} {most floor : Int} {gone : Bool} {zs : List Int} : (dS l most floor gone zs).1.ents.length <= 64:=by
 have key : ∀ g l,(fD g l).1.ents.length <= 64:=by
  intro g l
  unfold fD
  split
  ·simp [dD]
  ·split
   ·simp [dD]
   ·simp only;rw [(xP _).length_eq];omega
 unfold dS
 split
 ·simp [dD]
 split
 ·simp [dD]
 ·simp only
  unfold jo
  split
  ·simp [dD]
  split
  ·split
   ·simp [dD]
   split
   ·simp [dD]
   ·exact key _ _
  ·exact key _ _
end Go.Proofs.YtklkooeimkedgaaGreat
namespace Go.Proofs.YtklkooeimkedgaaGreat
open Go.RowKit
theorem abZ : ay 1:=⟨by decide,by decide⟩
theorem ab0 : ay 2:=⟨by decide,by decide⟩
theorem ab1 : ay 3:=⟨by decide,by decide⟩
theorem nQ (n : Int) : ay (IntKind.i64.wrap n):=by
 rw [IntKind.wrap_i64];exact ⟨by omega,by omega⟩
theorem Ta {o x : aB} (h : (lK o x).2 = true) : (lK o x).1.id = x.id:=by
 unfold lK at h ⊢
 split at h
 ·cases h
 ·rename_i hh
  rw [if_neg hh]
  unfold Gn
  split <;> rfl
theorem Tc {o x : aB} (hx : x.Ok) : (lK o x).1.Ok:=by
 unfold lK
 split
 ·exact ⟨bB,bB,bB,bB,bB,bB,bB,bB,(show (0:Int) <= 0 /\ (0:Int) <= 65535 by decide)⟩
 ·unfold Gn
  split
  ·exact ⟨abZ,hx.id,nQ _,nQ _,nQ _,nQ _,nQ _,nQ _,by simp only;rw [IntKind.wrap_u16];omega⟩
  ·exact ⟨ab1,hx.id,hx.px,hx.py,hx.pz,hx.vx,hx.vy,hx.vz,hx.aJ⟩
theorem OI {was : List aB} {out : List Rec} {x : aB} {q : List aB × List Rec} (h : qM was out x = some q) : q.1 = kK was x.id /\ (q.2 = out \/ ∃ r : Rec,q.2 = out ++ [r] /\ r.id = x.id /\ (x.Ok -> r.Ok)):=by
 unfold qM at h
 split at h
 ·split at h
  ·cases h
   exact ⟨rfl,.inr ⟨_,rfl,rfl,λhx=>⟨bB,hx.id,hx.px,hx.py,hx.pz,hx.vx,hx.vy,hx.vz,hx.aJ⟩⟩⟩
  ·cases h
 ·split at h
  ·cases h
  ·cases h
   refine ⟨rfl,?_⟩
   simp only
   split
   ·rename_i o _ hh
    exact .inr ⟨_,rfl,Ta hh,λhx=>Tc hx⟩
   ·exact .inl rfl
theorem Ep {l : List aB} {i : Int} {e : aB} (h : e ∈ kK l i) : e ∈ l /\ e.id ≠ i:=by
 unfold kK at h
 have:=List.mem_filter.1 h
 exact ⟨this.1,by simpa [bne] using this.2⟩
theorem FJ : ∀ (es : List aB) {was : List aB} {out : List Rec} {q : List aB × List Rec},fU was out es = some q ->
 (was.map (·.id)).Nodup -> (es.map (·.id)).Nodup -> (out.map (·.id)).Nodup -> (∀ r ∈ out,r.Ok) -> (∀ e ∈ es,e.Ok) -> (∀ r ∈ out,r.id ∉ was.map (·.id) /\ r.id ∉ es.map (·.id)) ->
 (q.1.map (·.id)).Nodup /\ (q.2.map (·.id)).Nodup /\ (∀ r ∈ q.2,r.Ok) /\ (∀ r ∈ q.2,r.id ∉ q.1.map (·.id)) /\ (∀ e ∈ q.1,e ∈ was)
 | [],was,out,q,h,h1,h2,h3,h4,h5,h6=>by cases h;exact ⟨h1,h3,h4,λr hr=>(h6 r hr).1,λe he=>he⟩
 | x :: es,was,out,q,h,h1,h2,h3,h4,h5,h6=>by
   rw [fU] at h
   cases ho : qM was out x with
   | none=>rw [ho] at h;cases h
   | some p =>
     rw [ho] at h
     obtain ⟨s1,s2⟩:=OI ho
     rw [List.map_cons,List.nodup_cons] at h2
     have hw : (p.1.map (·.id)).Nodup:=by rw [s1];exact h1.sublist (List.Sublist.map _ List.filter_sublist)
     have hnx : ∀ r : Rec,r.id ∉ was.map (·.id) -> r.id ∉ p.1.map (·.id):=λr hr hh=>by
      obtain ⟨e,he,hid⟩:=List.mem_map.1 hh
      rw [s1] at he
      exact hr (List.mem_map.2 ⟨e,(Ep he).1,hid⟩)
     have hout : (p.2.map (·.id)).Nodup /\ (∀ r ∈ p.2,r.Ok) /\ ∀ r ∈ p.2,r.id ∉ p.1.map (·.id) /\ r.id ∉ es.map (·.id):=by
      have hold : ∀ r ∈ out,r.id ∉ p.1.map (·.id) /\ r.id ∉ es.map (·.id):=λr hr=>⟨hnx r (h6 r hr).1,λhh=>(h6 r hr).2 (by rw [List.map_cons];exact List.mem_cons_of_mem _ hh)⟩
      rcases s2 with s2 | ⟨r0,s2,hid,hok⟩
      ·rw [s2];exact ⟨h3,h4,hold⟩
      ·rw [s2]
       refine ⟨?_,?_,?_⟩
       ·rw [List.map_append,List.map_singleton]
        refine List.nodup_append.2 ⟨h3,by simp,λa ha b hb=>?_⟩
        simp at hb
        subst hb
        obtain ⟨r,hr,rfl⟩:=List.mem_map.1 ha
        intro e
        exact (h6 r hr).2 (by rw [List.map_cons];rw [e,hid];exact List.mem_cons_self ..)
       ·intro r hr
        rcases List.mem_append.1 hr with hr | hr
        ·exact h4 r hr
        ·simp at hr;subst hr;exact hok (h5 x (List.mem_cons_self ..))
       ·intro r hr
        rcases List.mem_append.1 hr with hr | hr
        ·exact hold r hr
        ·simp at hr;subst hr
         refine ⟨λhh=>?_,by rw [hid];exact h2.1⟩
         obtain ⟨e,he,he2⟩:=List.mem_map.1 hh
         rw [s1] at he
         exact (Ep he).2 (by rw [he2,hid])
     obtain ⟨a1,a2,a3,a4,a5⟩:=FJ es h hw h2.2 hout.1 hout.2.1 (λe he=>h5 e (List.mem_cons_of_mem _ he)) hout.2.2
     exact ⟨a1,a2,a3,a4,λe he=>by have:=a5 e he;rw [s1] at this;exact (Ep this).1⟩
def KX (l : List Rec) : List Rec:=l.mergeSort (λa b=>decide (a.id <= b.id))
theorem Iw (l : List Rec) : (KX l).Perm l:=List.mergeSort_perm _ _
theorem Yo (l : List Rec) : (KX l).Pairwise (λa b=>a.id <= b.id):=by
 have:=List.pairwise_mergeSort (le:=λa b : Rec=>decide (a.id <= b.id)) (λa b c h1 h2=>by simp at *;omega) (λa b=>by simp;omega) l
 exact this.imp (λh=>by simpa using h)
theorem zq : ∀ (xs ys : List Rec),xs.Perm ys -> xs.Pairwise (λa b=>a.id <= b.id) -> ys.Pairwise (λa b=>a.id <= b.id) -> (xs.map (·.id)).Nodup -> xs = ys
 | [],ys,hp,_,_,_=>by simpa using hp.symm
 | x :: xs,[],hp,_,_,_=>by simp at hp
 | x :: xs,y :: ys,hp,hx,hy,hn=>by
   have hxy : x = y:=by
    have h1 : x ∈ y :: ys:=hp.subset (List.mem_cons_self ..)
    have h2 : y ∈ x :: xs:=hp.symm.subset (List.mem_cons_self ..)
    rcases List.mem_cons.1 h1 with h1 | h1
    ·exact h1
    rcases List.mem_cons.1 h2 with h2 | h2
    ·exact h2.symm
    have a:=(List.pairwise_cons.1 hy).1 x h1;have b:=(List.pairwise_cons.1 hx).1 y h2
    have e : x.id = y.id:=by omega
    rw [List.map_cons,List.nodup_cons] at hn
    exact absurd (List.mem_map.2 ⟨y,h2,e.symm⟩) hn.1
   subst hxy
   rw [List.map_cons,List.nodup_cons] at hn
   rw [zq xs ys (List.Perm.cons_inv hp) (List.pairwise_cons.1 hx).2 (List.pairwise_cons.1 hy).2 hn.2]
theorem M9 {xs l : List Rec} (hp : xs.Perm l) (hs : xs.Pairwise (λa b=>a.id <= b.id)) (hn : (l.map (·.id)).Nodup) : xs = KX l :=
 zq xs (KX l) (hp.trans (Iw l).symm) hs (Yo l) ((hp.map (·.id)).nodup_iff.2 hn)
def mo (q : List aB × List Rec) : List Rec:=KX (q.2 ++ q.1.map Ap)
theorem aaR {e : aB} (h : e.Ok) : (Ap e).Ok:=⟨ab0,h.id,bB,bB,bB,bB,bB,bB,(show (0:Int) <= 0 /\ (0:Int) <= 65535 by decide)⟩
theorem OJ {was es : List aB} {q : List aB × List Rec} (h : fU was [] es = some q) (h1 : (was.map (·.id)).Nodup) (h2 : (es.map (·.id)).Nodup) (h3 : ∀ e ∈ es,e.Ok) (h4 : ∀ e ∈ was,e.Ok) :
 ((q.2 ++ q.1.map Ap).map (·.id)).Nodup /\ ∀ r ∈ mo q,r.Ok:=by
 obtain ⟨a1,a2,a3,a4,a5⟩:=FJ es h h1 h2 (by simp) (by simp) h3 (by simp)
 constructor
 ·rw [List.map_append,List.map_map]
  have e : (q.1.map (Rec.id ∘ Ap)) = q.1.map (·.id):=List.map_congr_left (λ_ _=>rfl)
  rw [e]
  refine List.nodup_append.2 ⟨a2,a1,λa ha b hb hab=>?_⟩
  obtain ⟨r,hr,rfl⟩:=List.mem_map.1 ha
  exact a4 r hr (hab ▸ hb)
 ·intro r hr
  unfold mo at hr
  rcases List.mem_append.1 ((Iw _).mem_iff.1 hr) with hr | hr
  ·exact a3 r hr
  ·obtain ⟨e,he,rfl⟩:=List.mem_map.1 hr
   exact aaR (h4 e (a5 e he))
theorem zW {es : List aB} (h : es.Pairwise (λa b=>a.id < b.id)) : (es.map (·.id)).Nodup :=
 List.pairwise_map.2 (h.imp (λh=>by omega))
end Go.Proofs.YtklkooeimkedgaaGreat
namespace Go.Proofs.YtklkooeimkedgaaGreat
open Go.RowKit
set_option maxRecDepth 100000
theorem OL (tick time : Int) (a : Option Addr) (len cap : Nat) (E : Nat -> aB) (w : World) (h : dw w a len E) :
 Calls Tryz.prog 34 #[bO tick time a len cap] w λe w'=>e = .returned (.int .i64 (dh tick time len E)) /\ Below w.heap.size w w':=by
 by_cases hs : (len : Int) <= 4611686018427387904
 ·exact DN tick time a len cap E w h hs
 unfold dh
 by_cases h1 : tick < 0
 ·rw [if_pos (by omega)];exact Db tick time a len cap h1 w
 by_cases h2 : 4294967295 < tick
 ·rw [if_pos (by omega)];exact Dc tick time a len cap (by omega) w
 by_cases h3 : time < -2305843009213693952
 ·rw [if_pos (by omega)];exact Df tick time a len cap (by omega) w
 by_cases h4 : 2305843009213693952 < time
 ·rw [if_pos (by omega)];exact Dg tick time a len cap (by omega) w
 rw [if_neg (by omega),if_pos (show 64 < len by omega)]
 exact Dh tick time a len cap (by omega) (by omega) (by omega) (by omega) (by omega) w
def j5 (s : Sn) : Gr × Int:=if fZ s ≠ 0 then (oJ,fZ s) else match fU [] [] s.ents with
 | none=>(oJ,15)
 | some q=>(⟨s.tick,s.time,-1,mo q⟩,0)
theorem Iy {w w1 w2 : World} {M : Nat} (h : Below w.heap.size w w1) (hM : w.heap.size <= M) (ho : Only (λk=>k = M) w1 w2) : Below w.heap.size w w2 :=
 h.trans (ho.below h.size (λk hk=>by omega))
theorem Td {M : Nat} {was es : List aB} {q : List aB × List Rec} {w1 w2 : World} {base : Nat} {e : Ending} (hq : fU was [] es = some q) (h1 : (was.map (·.id)).Nodup) (h2 : (es.map (·.id)).Nodup) (h3 : ∀ e ∈ es,e.Ok) (h4 : ∀ e ∈ was,e.Ok) (h : KT (some q) base e w2) : ∃ v,e = .returned (.tuple #[v,.int .i64 0]) /\ gF w2 base v (mo q):=by
 obtain ⟨v,rs,he,hp,hs,ho⟩:=h
 obtain ⟨a1,a2⟩:=OJ hq h1 h2 h3 h4
 have e1 : rs = mo q:=M9 hp hs a1
 subst e1
 exact ⟨v,he,ho,a2⟩
set_option maxHeartbeats 1000000 in
theorem Yp (tick time : Int) (a : Option Addr) (cap : Nat) (es : List aB) (w : World) (hE : fP w a es) :
 Calls Tryz.prog 16 #[bO tick time a es.length cap] w λe w'=>∃ v,e = .returned (.tuple #[.agg #[.int .i64 (j5 ⟨tick,time,es⟩).1.tick,.int .i64 (j5 ⟨tick,time,es⟩).1.time,.int .i64 (j5 ⟨tick,time,es⟩).1.base,v],.int .i64 (j5 ⟨tick,time,es⟩).2]) /\ gF w' w.heap.size v (j5 ⟨tick,time,es⟩).1.recs /\ Below w.heap.size w w':=by
 have HZ : Hid (j5 ⟨tick,time,es⟩ = if fZ ⟨tick,time,es⟩ ≠ 0 then (oJ,fZ ⟨tick,time,es⟩) else match fU [] [] es with | none=>(oJ,15) | some q=>(⟨tick,time,-1,mo q⟩,0)):=aiS rfl
 have He : Hid (fZ ⟨tick,time,es⟩ = 0 -> (es.map (·.id)).Nodup /\ es.length <= 1000):=aiS (λh=>⟨zW (jI.1 h).up,Nat.le_trans (jI.1 h).len (by decide)⟩)
 generalize j5 ⟨tick,time,es⟩ = z at *
 obtain ⟨w0,hw0⟩ : ∃ w0,(w.alloc (.cells #[.int .i64 tick,.int .i64 time,.slice a es.length cap] 36)).alloc (.cells #[.int .i64 0,.int .i64 0,.int .i64 0,.slice none 0 0] 39) = w0:=⟨_,rfl⟩
 have hB0 : Below w.heap.size w w0:=by rw [← hw0];exact (aiT).alloc (by simp) _
 have hX0 : ak w0 w.heap.size #[.int .i64 tick,.int .i64 time,.slice a es.length cap] 36:=by rw [← hw0];exact (ak.new _ _ _).alloc _
 have hG0 : ak w0 (w.heap.size + 1) #[.int .i64 0,.int .i64 0,.int .i64 0,.slice none 0 0] 39:=by
  rw [← hw0]
  have:=ak.new (w.alloc (.cells #[.int .i64 tick,.int .i64 time,.slice a es.length cap] 36)) #[.int .i64 0,.int .i64 0,.int .i64 0,.slice none 0 0] 39
  simpa using this
 have hsz0 : w.heap.size + 2 <= w0.heap.size:=by rw [← hw0];simp
 have ck:=OL tick time a es.length cap (λi=>es.getD i bK) w0 (hE.below hB0)
 have M4:=aiS (hE.below hB0);have HB0:=aiS hB0;have HX0:=aiS hX0;have HG0:=aiS hG0;have zi:=aiS hsz0;have x0:=hX0.cell 0;have x1:=hX0.cell 1;have x2:=hX0.cell 2;simp at x0 x1 x2;clear hE hB0 hX0 hG0 hsz0
 rw [show dh tick time es.length (λi=>es.getD i bK) = fZ ⟨tick,time,es⟩ from rfl] at ck
 generalize fZ ⟨tick,time,es⟩ = ce at *
 unfold bO at *
 go_enter Tryz.func16,Tryz.ntmps16
 go_wp2_with fail
 clear hw0
 refine ck.mono ?_
 rintro e w1 ⟨rfl,hb⟩
 have HB1:=aiS (HB0.out.trans (hb.mono HB0.out.size));have fu:=aiS (HX0.out.below hb HX0.out.lt);have Dk:=aiS (HG0.out.below hb HG0.out.lt);have zl:=aiS (M4.out.below hb)
 have gL : Hid (w.heap.size + 2 <= w1.heap.size):=aiS (Nat.le_trans zi.out hb.size)
 have hx1:=fu.out
 have hs1 : w.heap.size < w1.heap.size:=by have:=gL.out;omega
 clear ck hb x0 x1 x2;have x0:=hx1.cell 0;have x1:=hx1.cell 1;have x2:=hx1.cell 2;simp at x0 x1 x2;clear hx1
 by_cases hce : ce = 0
 ·subst hce
  have HU : Hid ((es.map (·.id)).Nodup):=aiS (He.out rfl).1
  have hl3:=(He.out rfl).2
  have HZ2 : Hid (z = match fU [] [] es with | none=>(oJ,15) | some q=>(⟨tick,time,-1,mo q⟩,0)):=aiS (by rw [HZ.out,if_neg (by simp)])
  clear HZ He
  have iO : Below w1.heap.size w1 (w1.alloc (.map #[] 0)):=aiT
  have tl:=aaL w1.heap.size [] a cap es (w1.alloc (.map #[] 0)) (bW.new w1) (zl.out.below iO) hl3 (by simp)
  have dU:=aiS (fu.out.below iO fu.out.lt);have HG2:=aiS (Dk.out.below iO Dk.out.lt);have HB2:=aiS (HB1.out.trans (iO.mono HB1.out.size));have afg:=aiS zl.out.ok
  cases hz : fU [] [] es with
  | none =>
    have HV : Hid (z = (oJ,15)):=aiS (by rw [HZ2.out,hz])
    rw [hz] at tl
    clear HZ2 hz iO
    go_wp2_with fail
    refine tl.mono ?_
    rintro e w3 ⟨he,hO⟩
    obtain rfl:=he
    have HB3 : Hid (Below w.heap.size w w3):=aiS (Iy HB2.out HB1.out.size hO)
    have Mv:=aiS (hO.blk HG2.out (by have:=gL.out;omega))
    clear hO tl;have kE:=Mv.out;have f0:=kE.free 0;have f1:=kE.free 1;have f2:=kE.free 2;have f3:=kE.free 3;have z0:=kE.cell 0;have z1:=kE.cell 1;have z2:=kE.cell 2;have z3:=kE.cell 3;simp at z0 z1 z2 z3;have rF:=Bo (v0:=.int .i64 0) (v1:=.int .i64 0) (v2:=.int .i64 0) (v3:=.slice none 0 0) kE
    obtain ⟨u9,uJ⟩ : ∃ u,(((w3.setCell ⟨w.heap.size + 1,0,none⟩ (.int .i64 0)).setCell ⟨w.heap.size + 1,1,none⟩ (.int .i64 0)).setCell ⟨w.heap.size + 1,2,none⟩ (.int .i64 0)).setCell ⟨w.heap.size + 1,3,none⟩ (.slice none 0 0) = u:=⟨_,rfl⟩
    have mY : Only (λk=>k = w.heap.size + 1) w3 u9:=by rw [← uJ];exact EW (Only.refl _ _) (.inl rfl)
    rw [uJ] at rF
    have HF : Hid (gF u9 w.heap.size (.slice none 0 0) [] /\ Below w.heap.size w u9):=aiS ⟨gF.nil _ _,HB3.out.trans (mY.below HB3.out.size (λk hk=>by omega))⟩
    have g0:=rF.cell 0;have g1:=rF.cell 1;have g2:=rF.cell 2;have g3:=rF.cell 3;simp at g0 g1 g2 g3;clear kE rF mY
    go_wp2_with fail
    exact bodyPost_ret (v:=.tuple #[.agg #[.int .i64 0,.int .i64 0,.int .i64 0,.slice none 0 0],.int .i64 (15)]) (by simp [results,Tryz.results16,go_sem,g0,g1,g2,g3]) rfl ⟨.slice none 0 0,by rw [HV.out];rfl,by rw [HV.out];exact HF.out.1,HF.out.2⟩
  | some q =>
    have HV : Hid (z = (⟨tick,time,-1,mo q⟩,0)):=aiS (by rw [HZ2.out,hz])
    rw [hz] at tl
    have HQ:=aiS hz;clear HZ2 hz iO
    go_wp2_with fail
    refine tl.mono ?_
    rintro e w3 ⟨he,hO⟩
    obtain ⟨v,rfl,hR⟩:=Td (M:=0) (w1:=w1) HQ.out (by simp) HU.out afg.out (by simp) he
    obtain ⟨ra,rc,rfl,_⟩:=hR.recs
    have HB3 : Hid (Below w.heap.size w w3):=aiS (Iy HB2.out HB1.out.size hO)
    have Mv:=aiS (hO.blk HG2.out (by have:=gL.out;omega))
    have aS:=hO.blk dU.out (by have:=gL.out;omega)
    have HR3:=aiS hR;have y0:=aS.cell 0;have y1:=aS.cell 1;simp at y0 y1;clear hO tl hR aS he;have kE:=Mv.out;have f0:=kE.free 0;have f1:=kE.free 1;have f2:=kE.free 2;have f3:=kE.free 3;have z0:=kE.cell 0;have z1:=kE.cell 1;have z2:=kE.cell 2;have z3:=kE.cell 3;simp at z0 z1 z2 z3;have rF:=Bo (v0:=.int .i64 tick) (v1:=.int .i64 time) (v2:=.int .i64 (-1)) (v3:=.slice ra (mo q).length rc) kE
    obtain ⟨u9,uJ⟩ : ∃ u,(((w3.setCell ⟨w.heap.size + 1,0,none⟩ (.int .i64 tick)).setCell ⟨w.heap.size + 1,1,none⟩ (.int .i64 time)).setCell ⟨w.heap.size + 1,2,none⟩ (.int .i64 (-1))).setCell ⟨w.heap.size + 1,3,none⟩ (.slice ra (mo q).length rc) = u:=⟨_,rfl⟩
    have mY : Only (λk=>k = w.heap.size + 1) w3 u9:=by rw [← uJ];exact EW (Only.refl _ _) (.inl rfl)
    rw [uJ] at rF
    have HF : Hid (gF u9 w.heap.size (.slice ra (mo q).length rc) (mo q) /\ Below w.heap.size w u9):=aiS ⟨(gF.base HR3.out (Nat.le_trans HB1.out.size (by simp))).only mY (λj hj hk=>by have:=(HR3.out.1.lt j hj).1;have:=gL.out;simp at *;omega),HB3.out.trans (mY.below HB3.out.size (λk hk=>by omega))⟩
    have g0:=rF.cell 0;have g1:=rF.cell 1;have g2:=rF.cell 2;have g3:=rF.cell 3;simp at g0 g1 g2 g3;clear kE rF mY
    go_wp2_with fail
    exact bodyPost_ret (v:=.tuple #[.agg #[.int .i64 tick,.int .i64 time,.int .i64 (-1),.slice ra (mo q).length rc],.int .i64 (0)]) (by simp [results,Tryz.results16,go_sem,g0,g1,g2,g3]) rfl ⟨.slice ra (mo q).length rc,by rw [HV.out],by rw [HV.out];exact HF.out.1,HF.out.2⟩
 ·have HV : Hid (z = (oJ,ce)):=aiS (by rw [HZ.out,if_pos hce])
  have aeR : (ce != 0) = true:=by simpa using hce
  clear HZ He hce;have kE:=Dk.out;have f0:=kE.free 0;have f1:=kE.free 1;have f2:=kE.free 2;have f3:=kE.free 3;have z0:=kE.cell 0;have z1:=kE.cell 1;have z2:=kE.cell 2;have z3:=kE.cell 3;simp at z0 z1 z2 z3;have rF:=Bo (v0:=.int .i64 0) (v1:=.int .i64 0) (v2:=.int .i64 0) (v3:=.slice none 0 0) kE
  obtain ⟨u9,uJ⟩ : ∃ u,(((w1.setCell ⟨w.heap.size + 1,0,none⟩ (.int .i64 0)).setCell ⟨w.heap.size + 1,1,none⟩ (.int .i64 0)).setCell ⟨w.heap.size + 1,2,none⟩ (.int .i64 0)).setCell ⟨w.heap.size + 1,3,none⟩ (.slice none 0 0) = u:=⟨_,rfl⟩
  have mY : Only (λk=>k = w.heap.size + 1) w1 u9:=by rw [← uJ];exact EW (Only.refl _ _) (.inl rfl)
  rw [uJ] at rF
  have HF : Hid (gF u9 w.heap.size (.slice none 0 0) [] /\ Below w.heap.size w u9):=aiS ⟨gF.nil _ _,HB1.out.trans (mY.below HB1.out.size (λk hk=>by omega))⟩
  have g0:=rF.cell 0;have g1:=rF.cell 1;have g2:=rF.cell 2;have g3:=rF.cell 3;simp at g0 g1 g2 g3;clear kE rF mY
  go_wp2_with fail
  exact bodyPost_ret (v:=.tuple #[.agg #[.int .i64 0,.int .i64 0,.int .i64 0,.slice none 0 0],.int .i64 (ce)]) (by simp [results,Tryz.results16,go_sem,g0,g1,g2,g3]) rfl ⟨.slice none 0 0,by rw [HV.out];rfl,by rw [HV.out];exact HF.out.1,HF.out.2⟩
end Go.Proofs.YtklkooeimkedgaaGreat
namespace Go.Proofs.YtklkooeimkedgaaGreat
open Go.RowKit
set_option maxRecDepth 100000
structure DiR (w : World) (sa sb : Array Value) (ss : Array Value) (wr : World) : Prop where
 a : ak wr w.heap.size sa 36
 b : ak wr (w.heap.size + 1) sb 36
 g : ak wr (w.heap.size + 2) #[.int .i64 0,.int .i64 0,.int .i64 0,.slice none 0 0] 39
 s : ak wr (w.heap.size + 3) ss 36
 bl : Below w.heap.size w wr
 sz : w.heap.size + 4 <= wr.heap.size
end Go.Proofs.YtklkooeimkedgaaGreat
