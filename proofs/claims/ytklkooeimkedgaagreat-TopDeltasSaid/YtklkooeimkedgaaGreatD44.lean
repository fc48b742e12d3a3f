/- Walk of TopDeltas. -/
import Derived.Laws.OwnMore
import Derived.Test.YtklkooeimkedgaaGreatD43
set_option linter.unusedVariables false
set_option linter.unusedSimpArgs false
namespace Go.Proofs.YtklkooeimkedgaaGreat
open Go.RowKit
set_option maxRecDepth 100000
theorem F3 {ops : Array Oper} {rest : List Oper} {o : Oper} {a : Act} {Q : Exit -> Act -> World -> Prop} (w : World) (hgd : o.guard = none) (s x : Operand)
 (ho : o.op = .call { callee:=.builtin .append,args:=#[s,x],argTypes:=#[34,34] })
 (base : Nat) (v : Value) (xs : List ay) (hs : a.eval s = v) (hown : aM w base v xs)
 (ao : Option Addr) (c : Nat) (es : List ay) (hx : a.eval x = .slice ao es.length c) (hz : eX w ao es) (hc : ao = none -> c = 0)
 (hb : xs.length + es.length <= 1000000) (hbase : base <= w.heap.size)
 (h : ∀ v' w',aM w' base v' (xs ++ es) -> w.grownBy w' v.ownBlock -> wpList Tryz.prog ops Q rest (a.put o.dst v') w') : wpList Tryz.prog ops Q (o :: rest) a w:=by
 obtain ⟨i0,hi,hz0,hz1,hz2⟩:=info_parts NW
 cases ao with
 | none =>
   obtain rfl:=hc rfl
   have hm : es = []:=by
    rcases hz.2 with hz | ⟨b,off,e,_⟩
    ·exact List.eq_nil_of_length_eq_zero hz
    ·cases e
   subst hm
   refine wpList_append_own_none hgd s x 34 ho base 33 i0 9 Tryz.underlying34 hi v xs.length (xs.flatMap kQ) hs hown hx ?_
   have:=h v w (by simpa using hown) (World.grownBy.refl _ _)
   exact this
 | some ad =>
   have hlen : ∀ l : List ay,(l.flatMap kQ).length = l.length * 9:=λl=>qV (λ_=>rfl) l
   refine wpList_append_own w hgd s x 34 ho base 33 i0 (.agg #[.int .i64 0,.int .i64 0,.int .i64 0,.int .i64 0,.int .i64 0,.int .i64 0,.int .i64 0,.int .u16 0,.int .u8 0]) 9 64 Tryz.underlying34 hi hz0 hz1 hz2 rfl (by decide) v xs.length (xs.flatMap kQ) hs hown ad es.length c (es.flatMap kQ) hx (hlen es) ?_ ?_ (by unfold maxLen;omega) (by omega) hbase ?_
   ·intro j u hj
    have hne : es ≠ []:=by rintro rfl;simp at hj
    obtain ⟨b,off,e,hcell⟩:=hz.own hne
    cases e
    have e : (⟨b,off,none⟩ : Addr).add j = ⟨b,off + j,none⟩:=by unfold Addr.add;split <;> simp_all
    rw [e]
    exact hcell j u hj
   ·intro u hu
    obtain ⟨e,_,he⟩:=List.mem_flatMap.1 hu
    simp [kQ] at he
    rcases he with rfl | rfl | rfl | rfl | rfl | rfl | rfl | rfl | rfl <;> rfl
   ·intro v' w' h1 h2 _
    refine h v' w' ?_ h2
    unfold aM
    rw [List.length_append,List.flatMap_append]
    exact h1
set_option maxHeartbeats 1000000 in
theorem PZ (tick time : Int) (a : Option Addr) (cap : Nat) (es : List ay) (w : World) (h : eX w a es) (hc : a = none -> cap = 0) (hl : es.length <= 1000) :
 Calls Tryz.prog 79 #[.agg #[.int .i64 tick,.int .i64 time,.slice a es.length cap]] w λe w'=>∃ a' c',e = .returned (.agg #[.int .i64 tick,.int .i64 time,.slice a' es.length c']) /\ aM w' w.heap.size (.slice a' es.length c') es /\ Below w.heap.size w w':=by
 obtain ⟨w1,hw1⟩ : ∃ w1,((w.alloc (.cells #[.int .i64 tick,.int .i64 time,.slice a es.length cap] 36)).alloc (.cells #[.int .i64 0,.int .i64 0,.slice none 0 0] 36)).alloc (.cells #[] 33) = w1:=⟨_,rfl⟩
 have hB1 : Below w.heap.size w w1:=by rw [← hw1];exact ((ajL).alloc (by simp) _).alloc (by simp;omega) _
 have HX : Hid (ak w1 w.heap.size #[.int .i64 tick,.int .i64 time,.slice a es.length cap] 36):=ajK (by rw [← hw1];exact ((ak.new _ _ _).alloc _).alloc _)
 have HY : Hid (ak w1 (w.heap.size + 1) #[.int .i64 0,.int .i64 0,.slice none 0 0] 36):=ajK (by
  rw [← hw1]
  have:=(ak.new (w.alloc (.cells #[.int .i64 tick,.int .i64 time,.slice a es.length cap] 36)) #[.int .i64 0,.int .i64 0,.slice none 0 0] 36).alloc (.cells #[] 33)
  simpa using this)
 have HO : Hid (aM w1 w.heap.size (.slice (some ⟨w.heap.size + 2,0,none⟩) 0 0) []):=ajK (by
  refine ⟨rfl,.inr ⟨w.heap.size + 2,0,#[],rfl,by omega,?_,Nat.le_refl _,by unfold maxLen;omega,rfl,rfl⟩⟩
  rw [← hw1]
  have:=ak.new ((w.alloc (.cells #[.int .i64 tick,.int .i64 time,.slice a es.length cap] 36)).alloc (.cells #[.int .i64 0,.int .i64 0,.slice none 0 0] 36)) #[] 33
  unfold ak at this
  simpa using this)
 have HE:=ajK (h.below hB1);have HB:=ajK hB1;have c0:=HX.out.cell 0;have c1:=HX.out.cell 1;have c2:=HX.out.cell 2;simp at c0 c1 c2;clear h hB1
 go_enter Tryz.func79,Tryz.ntmps79
 go_wp2_with (at_builtin;refine F3 w1 rfl (.tmp 3) (.tmp 5) rfl w.heap.size _ [] rfl HO.out a cap es rfl HE.out hc (by simp;omega) HB.out.size ?_)
 intro v' w' hO hg
 clear hw1 c0 c1 c2
 obtain ⟨a',c',rfl,_⟩:=hO.slice
 have hX:=HX.out.grown hg (by simp [Value.ownBlock] <;> omega)
 have hY:=HY.out.grown hg (by simp [Value.ownBlock] <;> omega)
 have hB2 : Below w.heap.size w w':=HB.out.grown hg HB.out.size (λk hk=>by simp [Value.ownBlock] at hk;omega)
 have nX : (Value.slice a' es.length c').ownBlock ≠ some w.heap.size:=bI hO hX (by decide)
 have nY : (Value.slice a' es.length c').ownBlock ≠ some (w.heap.size + 1):=bI hO hY (by decide)
 have p2:=hX.cell 2;have q2:=hX.free 2;simp at p2;have hX2:=hX.set 2 (.slice a' es.length c');simp at hX2
 have hY2 : ak (w'.setCell ⟨w.heap.size,2,none⟩ (.slice a' es.length c')) (w.heap.size + 1) #[.int .i64 0,.int .i64 0,.slice none 0 0] 36:=hY.far (p:=⟨w.heap.size,2,none⟩) (by simp) (.slice a' es.length c')
 have r0:=hX2.cell 0;have r1:=hX2.cell 1;have r2:=hX2.cell 2;have y0:=hY2.cell 0;have y1:=hY2.cell 1;have y2:=hY2.cell 2;have z0:=hY2.free 0;have z1:=hY2.free 1;have z2:=hY2.free 2;simp at r0 r1 r2 y0 y1 y2 z0 z1 z2
 have HF : Hid (aM ((((w'.setCell ⟨w.heap.size,2,none⟩ (.slice a' es.length c')).setCell ⟨w.heap.size + 1,0,none⟩ (.int .i64 tick)).setCell ⟨w.heap.size + 1,1,none⟩ (.int .i64 time)).setCell ⟨w.heap.size + 1,2,none⟩ (.slice a' es.length c')) w.heap.size (.slice a' es.length c') es /\ Below w.heap.size w ((((w'.setCell ⟨w.heap.size,2,none⟩ (.slice a' es.length c')).setCell ⟨w.heap.size + 1,0,none⟩ (.int .i64 tick)).setCell ⟨w.heap.size + 1,1,none⟩ (.int .i64 time)).setCell ⟨w.heap.size + 1,2,none⟩ (.slice a' es.length c'))):=ajK (by
  have ho1 : Only (λk=>k = w.heap.size \/ k = w.heap.size + 1) w' ((((w'.setCell ⟨w.heap.size,2,none⟩ (.slice a' es.length c')).setCell ⟨w.heap.size + 1,0,none⟩ (.int .i64 tick)).setCell ⟨w.heap.size + 1,1,none⟩ (.int .i64 time)).setCell ⟨w.heap.size + 1,2,none⟩ (.slice a' es.length c')) :=
   rE (Only.setCell (S:=λk=>k = w.heap.size \/ k = w.heap.size + 1) (p:=⟨w.heap.size,2,none⟩) (Only.refl _ _) (.inl (.inl rfl)) _) (.inl (.inr rfl))
  refine ⟨hO.only ho1 (λj hj hk=>?_),hB2.trans (ho1.below hB2.size (λk hk=>by omega))⟩
  rcases hk with rfl | rfl
  ·exact nX hj
  ·exact nY hj)
 clear hX hY hB2 nX nY hX2 hY2 hO hg
 go_wp2_with fail
 exact bodyPost_ret (v:=.agg #[.int .i64 tick,.int .i64 time,.slice a' es.length c']) (by simp [results,Tryz.results79,go_sem,r0,r1,r2,y0,y1,y2]) rfl ⟨a',c',rfl,HF.out⟩
set_option maxHeartbeats 1000000 in
theorem mX (is : Bool) (why : Int) (E : Nat) (e : Int) (w : World) (h : ak w E #[.int .i64 e] 25) :
 Calls Tryz.prog 115 #[.bool is,.int .i64 why,.pointer (some ⟨E,0,none⟩)] w λr w'=>r = .returned (.tuple #[]) /\ ak w' E #[.int .i64 (if e = 0 /\ is = true then why else e)] 25 /\ Only (λk=>k = E) w w':=by
 have c0:=h.cell 0;have f0:=h.free 0;simp at c0;have HB:=ajK h;clear h
 by_cases he : e = 0
 ·subst he
  cases is
  ·have HV : Hid ((if (0 : Int) = 0 /\ false = true then why else 0) = 0):=ajK (by simp)
   generalize (if (0 : Int) = 0 /\ false = true then why else 0) = v at *
   go_enter Tryz.func115,Tryz.ntmps115
   go_wp2_with fail
   exact bodyPost_end (v:=.tuple #[]) (by simp [results,Tryz.results115,go_sem]) rfl ⟨rfl,by rw [HV.out];exact HB.out,Only.refl _ _⟩
  ·have HV : Hid ((if (0 : Int) = 0 /\ true = true then why else 0) = why):=ajK (by simp)
   generalize (if (0 : Int) = 0 /\ true = true then why else 0) = v at *
   have HB2:=ajK (show ak (w.setCell ⟨E,0,none⟩ (.int .i64 why)) E #[.int .i64 why] 25 by simpa using HB.out.set 0 (.int .i64 why))
   have HO:=ajK (Only.setCell (S:=λk=>k = E) (p:=⟨E,0,none⟩) (Only.refl _ w) (.inl rfl) (.int .i64 why))
   go_enter Tryz.func115,Tryz.ntmps115
   go_wp2_with fail
   exact bodyPost_end (v:=.tuple #[]) (by simp [results,Tryz.results115,go_sem]) rfl ⟨rfl,by rw [HV.out];exact HB2.out,HO.out⟩
 ·have HV : Hid ((if e = 0 /\ is = true then why else e) = e):=ajK (by rw [if_neg (λh=>he h.1)])
  generalize (if e = 0 /\ is = true then why else e) = v at *
  go_enter Tryz.func115,Tryz.ntmps115
  go_wp2_with fail
  exact bodyPost_end (v:=.tuple #[]) (by simp [results,Tryz.results115,go_sem]) rfl ⟨rfl,by rw [HV.out];exact HB.out,Only.refl _ _⟩
def gP (l : List aH) (most floor : Int) (gone : Bool) (tick : Int) : Bool:=(gone && decide (tick <= floor)) || (decide ((l.length : Int) = most) && decide (dW l tick = 0))
set_option maxHeartbeats 1000000 in
theorem YX (T R : Nat) (l : List aH) (most floor : Int) (gone : Bool) (S : Nat -> Prop) (tick : Int) (w : World) (h : iy w T R l most floor gone S) :
 Calls Tryz.prog 116 #[.pointer (some ⟨T,0,none⟩),.int .i64 tick] w λe w'=>e = .returned (.bool (gP l most floor gone tick)) /\ Below w.heap.size w w':=by
 have fl:=Td R l most floor gone S w h.ring
 obtain ⟨d0,d1⟩:=h.cells
 have HS:=ajK h
 have HV : Hid (gP l most floor gone tick = ((gone && decide (tick <= floor)) || (decide ((l.length : Int) = most) && decide (dW l tick = 0)))):=ajK rfl
 generalize gP l most floor gone tick = sv at *
 clear h
 cases gone
 ·by_cases hm : (l.length : Int) = most
  ·have hm' : ((l.length : Int) == most) = true:=by simpa using hm
   by_cases hu : dW l tick = 0
   ·have hu1 : ((dW l tick : Nat) : Int) = 0:=by omega
    obtain rfl : sv = true:=by rw [HV.out];simp [decide_eq_true_eq,hm,hu]
    clear HV
    go_enter Tryz.func116,Tryz.ntmps116
    go_wp2_with fail
    refine fl.mono ?_
    rintro e w1 ⟨rfl,hB1⟩
    have HB1:=ajK hB1;have HS2:=ajK (HS.out.below hB1)
    obtain ⟨d0,d1⟩:=HS2.out.cells
    clear fl hB1
    go_wp2_with fail
    refine aS 27 (by kernel_rfl) (by kernel_rfl) ?_
    simp only [List.take_succ_cons,List.take_zero,List.drop_succ_cons,List.drop_zero]
    repeat (first | (apply aF;(next=>(intro W hW K hK;have y0:=hW.cell d0;have y1:=hW.cell d1;go_simp;first | exact ⟨hW,hK⟩ | exact hK));(next=>exact aN.self _);(try go_simp)) | (apply aF;(next=>(intro W hW K hK;go_simp;first | exact ⟨_,hW.of_eq (jM R l most floor false S W (HS2.out.ring.below hW)),hK⟩ | exact ⟨hW,_,hW.of_eq (jM R l most floor false S W (HS2.out.ring.below hW)),hK⟩));(next=>exact aN.self _);(try go_simp)) | (apply aF;(next=>(intro W hW K hK;go_simp;first | exact ⟨_,hW.call (iY R l most floor false S tick W (HS2.out.ring.below hW)),hK⟩ | exact ⟨hW,_,hW.call (iY R l most floor false S tick W (HS2.out.ring.below hW)),hK⟩));(next=>exact aN.self _);(try go_simp)))
    refine aX ?_
    intro WC aO
    have HC:=ajK (HB1.out.trans (Below.mono aO HB1.out.size));clear aO d0 d1
    go_wp2_with fail
    exact bodyPost_ret (v:=.bool true) (by simp [results,Tryz.results116,go_sem,hu]) rfl ⟨rfl,HC.out⟩
   ·have hu1 : ¬ ((dW l tick : Nat) : Int) = 0:=by omega
    obtain rfl : sv = false:=by rw [HV.out];simp [decide_eq_true_eq,hm,hu]
    clear HV
    go_enter Tryz.func116,Tryz.ntmps116
    go_wp2_with fail
    refine fl.mono ?_
    rintro e w1 ⟨rfl,hB1⟩
    have HB1:=ajK hB1;have HS2:=ajK (HS.out.below hB1)
    obtain ⟨d0,d1⟩:=HS2.out.cells
    clear fl hB1
    go_wp2_with fail
    refine aS 27 (by kernel_rfl) (by kernel_rfl) ?_
    simp only [List.take_succ_cons,List.take_zero,List.drop_succ_cons,List.drop_zero]
    repeat (first | (apply aF;(next=>(intro W hW K hK;have y0:=hW.cell d0;have y1:=hW.cell d1;go_simp;first | exact ⟨hW,hK⟩ | exact hK));(next=>exact aN.self _);(try go_simp)) | (apply aF;(next=>(intro W hW K hK;go_simp;first | exact ⟨_,hW.of_eq (jM R l most floor false S W (HS2.out.ring.below hW)),hK⟩ | exact ⟨hW,_,hW.of_eq (jM R l most floor false S W (HS2.out.ring.below hW)),hK⟩));(next=>exact aN.self _);(try go_simp)) | (apply aF;(next=>(intro W hW K hK;go_simp;first | exact ⟨_,hW.call (iY R l most floor false S tick W (HS2.out.ring.below hW)),hK⟩ | exact ⟨hW,_,hW.call (iY R l most floor false S tick W (HS2.out.ring.below hW)),hK⟩));(next=>exact aN.self _);(try go_simp)))
    refine aX ?_
    intro WC aO
    have HC:=ajK (HB1.out.trans (Below.mono aO HB1.out.size));clear aO d0 d1
    go_wp2_with fail
    exact bodyPost_ret (v:=.bool false) (by simp [results,Tryz.results116,go_sem,hu]) rfl ⟨rfl,HC.out⟩
  ·obtain rfl : sv = false:=by rw [HV.out];simp [decide_eq_true_eq,hm]
   clear HV
   go_enter Tryz.func116,Tryz.ntmps116
   go_wp2_with fail
   refine fl.mono ?_
   rintro e w1 ⟨rfl,hB1⟩
   have HB1:=ajK hB1;have HS2:=ajK (HS.out.below hB1)
   obtain ⟨d0,d1⟩:=HS2.out.cells
   clear fl hB1
   go_wp2_with fail
   refine aS 27 (by kernel_rfl) (by kernel_rfl) ?_
   simp only [List.take_succ_cons,List.take_zero,List.drop_succ_cons,List.drop_zero]
   repeat (first | (apply aF;(next=>(intro W hW K hK;have y0:=hW.cell d0;have y1:=hW.cell d1;go_simp;first | exact ⟨hW,hK⟩ | exact hK));(next=>exact aN.self _);(try go_simp)) | (apply aF;(next=>(intro W hW K hK;go_simp;first | exact ⟨_,hW.of_eq (jM R l most floor false S W (HS2.out.ring.below hW)),hK⟩ | exact ⟨hW,_,hW.of_eq (jM R l most floor false S W (HS2.out.ring.below hW)),hK⟩));(next=>exact aN.self _);(try go_simp)) | (apply aF;(next=>(intro W hW K hK;go_simp;first | exact ⟨_,hW.call (iY R l most floor false S tick W (HS2.out.ring.below hW)),hK⟩ | exact ⟨hW,_,hW.call (iY R l most floor false S tick W (HS2.out.ring.below hW)),hK⟩));(next=>exact aN.self _);(try go_simp)))
   refine aX ?_
   intro WC aO
   have HC:=ajK (HB1.out.trans (Below.mono aO HB1.out.size));clear aO d0 d1
   go_wp2_with fail
   exact bodyPost_ret (v:=.bool false) (by simp [results,Tryz.results116,go_sem]) rfl ⟨rfl,HC.out⟩
 ·by_cases hg : tick <= floor
  ·obtain rfl : sv = true:=by rw [HV.out];simp [hg]
   clear HV
   go_enter Tryz.func116,Tryz.ntmps116
   go_wp2_with fail
   refine fl.mono ?_
   rintro e w1 ⟨rfl,hB1⟩
   have HB1:=ajK hB1;have HS2:=ajK (HS.out.below hB1)
   obtain ⟨d0,d1⟩:=HS2.out.cells
   clear fl hB1
   go_wp2_with fail
   refine aS 27 (by kernel_rfl) (by kernel_rfl) ?_
   simp only [List.take_succ_cons,List.take_zero,List.drop_succ_cons,List.drop_zero]
   repeat (first | (apply aF;(next=>(intro W hW K hK;have y0:=hW.cell d0;have y1:=hW.cell d1;go_simp;first | exact ⟨hW,hK⟩ | exact hK));(next=>exact aN.self _);(try go_simp)) | (apply aF;(next=>(intro W hW K hK;go_simp;first | exact ⟨_,hW.of_eq (jM R l most floor true S W (HS2.out.ring.below hW)),hK⟩ | exact ⟨hW,_,hW.of_eq (jM R l most floor true S W (HS2.out.ring.below hW)),hK⟩));(next=>exact aN.self _);(try go_simp)) | (apply aF;(next=>(intro W hW K hK;go_simp;first | exact ⟨_,hW.call (iY R l most floor true S tick W (HS2.out.ring.below hW)),hK⟩ | exact ⟨hW,_,hW.call (iY R l most floor true S tick W (HS2.out.ring.below hW)),hK⟩));(next=>exact aN.self _);(try go_simp)))
   refine aX ?_
   intro WC aO
   have HC:=ajK (HB1.out.trans (Below.mono aO HB1.out.size));clear aO d0 d1
   go_wp2_with fail
   exact bodyPost_ret (v:=.bool true) (by simp [results,Tryz.results116,go_sem]) rfl ⟨rfl,HC.out⟩
  ·by_cases hm : (l.length : Int) = most
   ·have hm' : ((l.length : Int) == most) = true:=by simpa using hm
    by_cases hu : dW l tick = 0
    ·have hu1 : ((dW l tick : Nat) : Int) = 0:=by omega
     obtain rfl : sv = true:=by rw [HV.out];simp [hg,hm,hu]
     clear HV
     go_enter Tryz.func116,Tryz.ntmps116
     go_wp2_with fail
     refine fl.mono ?_
     rintro e w1 ⟨rfl,hB1⟩
     have HB1:=ajK hB1;have HS2:=ajK (HS.out.below hB1)
     obtain ⟨d0,d1⟩:=HS2.out.cells
     clear fl hB1
     go_wp2_with fail
     refine aS 27 (by kernel_rfl) (by kernel_rfl) ?_
     simp only [List.take_succ_cons,List.take_zero,List.drop_succ_cons,List.drop_zero]
     repeat (first | (apply aF;(next=>(intro W hW K hK;have y0:=hW.cell d0;have y1:=hW.cell d1;go_simp;first | exact ⟨hW,hK⟩ | exact hK));(next=>exact aN.self _);(try go_simp)) | (apply aF;(next=>(intro W hW K hK;go_simp;first | exact ⟨_,hW.of_eq (jM R l most floor true S W (HS2.out.ring.below hW)),hK⟩ | exact ⟨hW,_,hW.of_eq (jM R l most floor true S W (HS2.out.ring.below hW)),hK⟩));(next=>exact aN.self _);(try go_simp)) | (apply aF;(next=>(intro W hW K hK;go_simp;first | exact ⟨_,hW.call (iY R l most floor true S tick W (HS2.out.ring.below hW)),hK⟩ | exact ⟨hW,_,hW.call (iY R l most floor true S tick W (HS2.out.ring.below hW)),hK⟩));(next=>exact aN.self _);(try go_simp)))
     refine aX ?_
     intro WC aO
     have HC:=ajK (HB1.out.trans (Below.mono aO HB1.out.size));clear aO d0 d1
     go_wp2_with fail
     exact bodyPost_ret (v:=.bool true) (by simp [results,Tryz.results116,go_sem,hg,hu]) rfl ⟨rfl,HC.out⟩
    ·have hu1 : ¬ ((dW l tick : Nat) : Int) = 0:=by omega
     obtain rfl : sv = false:=by rw [HV.out];simp [hg,hm,hu]
     clear HV
     go_enter Tryz.func116,Tryz.ntmps116
     go_wp2_with fail
     refine fl.mono ?_
     rintro e w1 ⟨rfl,hB1⟩
     have HB1:=ajK hB1;have HS2:=ajK (HS.out.below hB1)
     obtain ⟨d0,d1⟩:=HS2.out.cells
     clear fl hB1
     go_wp2_with fail
     refine aS 27 (by kernel_rfl) (by kernel_rfl) ?_
     simp only [List.take_succ_cons,List.take_zero,List.drop_succ_cons,List.drop_zero]
     repeat (first | (apply aF;(next=>(intro W hW K hK;have y0:=hW.cell d0;have y1:=hW.cell d1;go_simp;first | exact ⟨hW,hK⟩ | exact hK));(next=>exact aN.self _);(try go_simp)) | (apply aF;(next=>(intro W hW K hK;go_simp;first | exact ⟨_,hW.of_eq (jM R l most floor true S W (HS2.out.ring.below hW)),hK⟩ | exact ⟨hW,_,hW.of_eq (jM R l most floor true S W (HS2.out.ring.below hW)),hK⟩));(next=>exact aN.self _);(try go_simp)) | (apply aF;(next=>(intro W hW K hK;go_simp;first | exact ⟨_,hW.call (iY R l most floor true S tick W (HS2.out.ring.below hW)),hK⟩ | exact ⟨hW,_,hW.call (iY R l most floor true S tick W (HS2.out.ring.below hW)),hK⟩));(next=>exact aN.self _);(try go_simp)))
     refine aX ?_
     intro WC aO
     have HC:=ajK (HB1.out.trans (Below.mono aO HB1.out.size));clear aO d0 d1
     go_wp2_with fail
     exact bodyPost_ret (v:=.bool false) (by simp [results,Tryz.results116,go_sem,hg,hu]) rfl ⟨rfl,HC.out⟩
   ·obtain rfl : sv = false:=by rw [HV.out];simp [hg,hm]
    clear HV
    go_enter Tryz.func116,Tryz.ntmps116
    go_wp2_with fail
    refine fl.mono ?_
    rintro e w1 ⟨rfl,hB1⟩
    have HB1:=ajK hB1;have HS2:=ajK (HS.out.below hB1)
    obtain ⟨d0,d1⟩:=HS2.out.cells
    clear fl hB1
    go_wp2_with fail
    refine aS 27 (by kernel_rfl) (by kernel_rfl) ?_
    simp only [List.take_succ_cons,List.take_zero,List.drop_succ_cons,List.drop_zero]
    repeat (first | (apply aF;(next=>(intro W hW K hK;have y0:=hW.cell d0;have y1:=hW.cell d1;go_simp;first | exact ⟨hW,hK⟩ | exact hK));(next=>exact aN.self _);(try go_simp)) | (apply aF;(next=>(intro W hW K hK;go_simp;first | exact ⟨_,hW.of_eq (jM R l most floor true S W (HS2.out.ring.below hW)),hK⟩ | exact ⟨hW,_,hW.of_eq (jM R l most floor true S W (HS2.out.ring.below hW)),hK⟩));(next=>exact aN.self _);(try go_simp)) | (apply aF;(next=>(intro W hW K hK;go_simp;first | exact ⟨_,hW.call (iY R l most floor true S tick W (HS2.out.ring.below hW)),hK⟩ | exact ⟨hW,_,hW.call (iY R l most floor true S tick W (HS2.out.ring.below hW)),hK⟩));(next=>exact aN.self _);(try go_simp)))
    refine aX ?_
    intro WC aO
    have HC:=ajK (HB1.out.trans (Below.mono aO HB1.out.size));clear aO d0 d1
    go_wp2_with fail
    exact bodyPost_ret (v:=.bool false) (by simp [results,Tryz.results116,go_sem,hg]) rfl ⟨rfl,HC.out⟩
end Go.Proofs.YtklkooeimkedgaaGreat
namespace Go.Proofs.YtklkooeimkedgaaGreat
open Go.RowKit
set_option maxRecDepth 100000
def eG (l : List aH) (i : Int) : Option aH:=if i < 0 then none else l[i.toNat]?
def xD : Option aH -> Int | none=>0 | some k=>k.sn.tick
def om : Option aH -> Int | none=>0 | some k=>k.sn.time
def XQ : Option aH -> Value | none=>.slice none 0 0 | some k=>fZ k
def iR : Option aH -> List ay | none=>[] | some k=>k.sn.ents
def XR : Option aH -> Int | none=>0 | some k=>k.key
def sV : Option aH -> Int | none=>3 | some _=>0
theorem Cr (o : Option aH) : ∃ a n c,XQ o = .slice a n c:=by cases o <;> exact ⟨_,_,_,rfl⟩
theorem Lm (o : Option aH) : yH o = .agg #[.int .i64 (xD o),.int .i64 (om o),XQ o]:=by cases o <;> rfl
theorem P5 (R : Nat) (l : List aH) (most floor : Int) (gone : Bool) (S : Nat -> Prop) (i : Int) (w : World) (h : RingAt w R l most floor gone S) :
 Calls Tryz.prog 131 #[.pointer (some ⟨R,0,none⟩),.int .i64 i] w λe w'=>e = .returned (.tuple #[.int .i64 (XR (eG l i)),.agg #[.int .i64 (xD (eG l i)),.int .i64 (om (eG l i)),XQ (eG l i)],.int .i64 (sV (eG l i))]) /\ Below w.heap.size w w':=by
 by_cases hi : i < 0 \/ (l.length : Int) <= i
 ·have e : eG l i = none:=by
   unfold eG
   split
   ·rfl
   ·exact List.getElem?_eq_none (by omega)
  rw [e]
  exact YW R l most floor gone S i w h hi
 ·obtain ⟨x,hx⟩ : ∃ x,l[i.toNat]? = some x:=⟨_,List.getElem?_eq_getElem (by omega)⟩
  have e : eG l i = some x:=by
   unfold eG
   rw [if_neg (by omega)];exact hx
  rw [e]
  have:=aaM R l most floor gone S i.toNat x w h hx
  rw [show ((i.toNat : Nat) : Int) = i by omega] at this
  exact this
def fO (l : List aH) (tick time : Int) : Bool :=
 (decide (sV (eG l (dW l tick - 1)) ≠ 0) || decide (om (eG l (dW l tick - 1)) < time)) && (decide (sV (eG l (dW l tick)) ≠ 0) || decide (time < om (eG l (dW l tick))))
theorem YZ (l : List aH) (key : Int) : dW l key <= l.length:=by
 unfold dW
 split
 ·rename_i h
  obtain ⟨x,hx,_⟩:=IX h
  exact (List.getElem?_eq_some_iff.1 hx).1
 ·exact zN l key
set_option maxHeartbeats 1000000 in
theorem uD (T R : Nat) (l : List aH) (most floor : Int) (gone : Bool) (S : Nat -> Prop) (tick time : Int) (s : Value) (w : World) (h : iy w T R l most floor gone S) :
 Calls Tryz.prog 118 #[.pointer (some ⟨T,0,none⟩),.agg #[.int .i64 tick,.int .i64 time,s]] w λe w'=>e = .returned (.bool (fO l tick time)) /\ Below w.heap.size w w':=by
 have un:=λw h=>iY R l most floor gone S tick w h
 have a1:=λw h=>P5 R l most floor gone S (dW l tick - 1) w h
 have a2:=λw h=>P5 R l most floor gone S (dW l tick) w h
 have HV : Hid (fO l tick time = ((decide (sV (eG l (dW l tick - 1)) ≠ 0) || decide (om (eG l (dW l tick - 1)) < time)) && (decide (sV (eG l (dW l tick)) ≠ 0) || decide (time < om (eG l (dW l tick)))))):=ajK rfl
 have hle:=YZ l tick
 have GN : (l.length : Int) <= 64:=by obtain ⟨v,hp⟩:=h.ring;exact hp.len
 obtain ⟨a1a,a1n,a1c,hs1⟩:=Cr (eG l (dW l tick - 1))
 obtain ⟨a2a,a2n,a2c,hs2⟩:=Cr (eG l (dW l tick))
 rw [hs1] at a1
 rw [hs2] at a2
 clear hs1 hs2
 generalize fO l tick time = sv at *
 generalize sV (eG l (dW l tick - 1)) = e1 at *
 generalize om (eG l (dW l tick - 1)) = m1 at *
 generalize xD (eG l (dW l tick - 1)) = t1 at *
 generalize XR (eG l (dW l tick - 1)) = k1 at *
 generalize sV (eG l (dW l tick)) = e2 at *
 generalize om (eG l (dW l tick)) = m2 at *
 generalize xD (eG l (dW l tick)) = t2 at *
 generalize XR (eG l (dW l tick)) = k2 at *
 generalize dW l tick = n at *
 have hw : wrap64 ((n : Int) - 1) = (n : Int) - 1:=by unfold wrap64;omega
 obtain ⟨w0,hw0⟩ : ∃ w0,w.alloc (.cells #[.int .i64 tick,.int .i64 time,s] 36) = w0:=⟨_,rfl⟩
 have HB0 : Hid (Below w.heap.size w w0):=ajK (by rw [← hw0];exact ajL)
 have HX0 : Hid (ak w0 w.heap.size #[.int .i64 tick,.int .i64 time,s] 36):=ajK (by rw [← hw0];exact ak.new _ _ _)
 have zJ:=ajK (h.below HB0.out)
 obtain ⟨d0,d1⟩:=zJ.out.cells
 have x0:=HX0.out.cell 0;simp at x0;clear h hle GN
 go_enter Tryz.func118,Tryz.ntmps118
 go_wp2_with fail
 clear hw0
 refine aS 6 (by kernel_rfl) (by kernel_rfl) ?_
 simp only [List.take_succ_cons,List.take_zero,List.drop_succ_cons,List.drop_zero]
 repeat (apply aF;(next=>(intro W hW K hK;have y0:=hW.cell d0;have y1:=hW.cell d1;have y2:=hW.cell x0;go_simp;first | exact ⟨hW,hK⟩ | exact hK));(next=>exact aN.self _);(try go_simp))
 refine aX ?_
 intro W0 hW0
 have Qa : Below w0.heap.size w0 W0:=hW0
 have aa0:=ajK (HB0.out.trans (Qa.mono HB0.out.size));have aa1:=ajK (zJ.out.below Qa);have aa2:=ajK (HX0.out.below Qa HX0.out.lt);clear hW0 Qa d0 d1 x0
 go_wp2_with fail
 refine (un W0 aa1.out.ring).mono ?_
 rintro e WC ⟨rfl,bN⟩
 have HBC:=ajK (aa0.out.trans (bN.mono aa0.out.size));have IW:=ajK (aa1.out.below bN);have HXC:=ajK (aa2.out.below bN aa2.out.lt);clear bN un
 obtain ⟨d0,d1⟩:=IW.out.cells
 go_wp2_with fail
 refine (a1 WC IW.out.ring).mono ?_
 rintro e w1 ⟨rfl,hB⟩
 obtain ⟨v1,hv1⟩ : ∃ v,w1.alloc (.cells #[.int .i64 0,.int .i64 0,.slice none 0 0] 36) = v:=⟨_,rfl⟩
 have vC : Below WC.heap.size WC v1:=by rw [← hv1];exact hB.alloc hB.size _
 have aV : ak v1 w1.heap.size #[.int .i64 0,.int .i64 0,.slice none 0 0] 36:=by rw [← hv1];exact ak.new _ _ _
 have f0:=aV.free 0;have f1:=aV.free 1;have f2:=aV.free 2;have q0:=aV.cell 0;have q1:=aV.cell 1;have q2:=aV.cell 2;simp at q0 q1 q2
 have hsz : WC.heap.size <= w1.heap.size:=hB.size
 have gN:=ajK (jy (v0:=.int .i64 t1) (v1:=.int .i64 m1) (v2:=.slice a1a a1n a1c) aV);have HB1:=ajK (eZ (v0:=.int .i64 t1) (v1:=.int .i64 m1) (v2:=.slice a1a a1n a1c) vC hsz)
 obtain ⟨u1,hu1⟩ : ∃ u,((v1.setCell ⟨w1.heap.size,0,none⟩ (.int .i64 t1)).setCell ⟨w1.heap.size,1,none⟩ (.int .i64 m1)).setCell ⟨w1.heap.size,2,none⟩ (.slice a1a a1n a1c) = u:=⟨_,rfl⟩
 rw [hu1] at gN HB1
 clear hB vC aV hsz d0 d1 a1;have iF:=ajK (IW.out.below HB1.out);have Tq:=ajK (HBC.out.trans (HB1.out.mono HBC.out.size))
 obtain ⟨d0,d1⟩:=iF.out.cells
 have yZ:=ajK (HXC.out.below HB1.out HXC.out.lt)
 go_wp2_with fail
 clear hv1 hu1 f0 f1 f2 q0 q1 q2
 refine (a2 u1 iF.out.ring).mono ?_
 rintro e w2 ⟨rfl,hB⟩
 obtain ⟨v2,hv2⟩ : ∃ v,w2.alloc (.cells #[.int .i64 0,.int .i64 0,.slice none 0 0] 36) = v:=⟨_,rfl⟩
 have vC : Below u1.heap.size u1 v2:=by rw [← hv2];exact hB.alloc hB.size _
 have aV : ak v2 w2.heap.size #[.int .i64 0,.int .i64 0,.slice none 0 0] 36:=by rw [← hv2];exact ak.new _ _ _
 have f0:=aV.free 0;have f1:=aV.free 1;have f2:=aV.free 2;have q0:=aV.cell 0;have q1:=aV.cell 1;have q2:=aV.cell 2;simp at q0 q1 q2
 have hsz : u1.heap.size <= w2.heap.size:=hB.size
 have iM:=ajK (jy (v0:=.int .i64 t2) (v1:=.int .i64 m2) (v2:=.slice a2a a2n a2c) aV);have HB2:=ajK (eZ (v0:=.int .i64 t2) (v1:=.int .i64 m2) (v2:=.slice a2a a2n a2c) vC hsz)
 obtain ⟨u2,hu2⟩ : ∃ u,((v2.setCell ⟨w2.heap.size,0,none⟩ (.int .i64 t2)).setCell ⟨w2.heap.size,1,none⟩ (.int .i64 m2)).setCell ⟨w2.heap.size,2,none⟩ (.slice a2a a2n a2c) = u:=⟨_,rfl⟩
 rw [hu2] at iM HB2
 clear hB vC aV hsz d0 d1 a2;have HS2:=ajK (iF.out.below HB2.out);have qJ:=ajK (Tq.out.trans (HB2.out.mono Tq.out.size))
 obtain ⟨d0,d1⟩:=HS2.out.cells
 have afL:=ajK (yZ.out.below HB2.out yZ.out.lt);have afM:=ajK (gN.out.below HB2.out gN.out.lt);have r0:=afL.out.cell 1;have r1:=afM.out.cell 1;have r2:=iM.out.cell 1;simp at r0 r1 r2;clear d0 d1
 by_cases z1 : e1 = 0
 ·by_cases z2 : e2 = 0
  ·by_cases y1 : m1 < time
   ·by_cases y2 : time < m2
    ·have n1 : (e1 != 0) = false:=by simp [z1]
     have n2 : (e2 != 0) = false:=by simp [z2]
     obtain rfl : sv = true:=by rw [HV.out];simp [z1,z2,y1,y2] <;> omega
     clear z1 z2 HV
     go_wp2_with fail
     exact bodyPost_ret (v:=.bool true) (by simp [results,Tryz.results118,go_sem,y1,y2]) rfl ⟨rfl,qJ.out⟩
    ·have n1 : (e1 != 0) = false:=by simp [z1]
     have n2 : (e2 != 0) = false:=by simp [z2]
     obtain rfl : sv = false:=by rw [HV.out];simp [z1,z2,y1,y2] <;> omega
     clear z1 z2 HV
     go_wp2_with fail
     exact bodyPost_ret (v:=.bool false) (by simp [results,Tryz.results118,go_sem,y1,y2]) rfl ⟨rfl,qJ.out⟩
   ·by_cases y2 : time < m2
    ·have n1 : (e1 != 0) = false:=by simp [z1]
     have n2 : (e2 != 0) = false:=by simp [z2]
     obtain rfl : sv = false:=by rw [HV.out];simp [z1,z2,y1,y2] <;> omega
     clear z1 z2 HV
     go_wp2_with fail
     exact bodyPost_ret (v:=.bool false) (by simp [results,Tryz.results118,go_sem,y1,y2]) rfl ⟨rfl,qJ.out⟩
    ·have n1 : (e1 != 0) = false:=by simp [z1]
     have n2 : (e2 != 0) = false:=by simp [z2]
     obtain rfl : sv = false:=by rw [HV.out];simp [z1,z2,y1,y2] <;> omega
     clear z1 z2 HV
     go_wp2_with fail
     exact bodyPost_ret (v:=.bool false) (by simp [results,Tryz.results118,go_sem,y1,y2]) rfl ⟨rfl,qJ.out⟩
  ·by_cases y1 : m1 < time
   ·by_cases y2 : time < m2
    ·have n1 : (e1 != 0) = false:=by simp [z1]
     have n2 : (e2 != 0) = true:=by simp [z2]
     obtain rfl : sv = true:=by rw [HV.out];simp [z1,z2,y1,y2] <;> omega
     clear z1 z2 HV
     go_wp2_with fail
     exact bodyPost_ret (v:=.bool true) (by simp [results,Tryz.results118,go_sem,y1,y2]) rfl ⟨rfl,qJ.out⟩
    ·have n1 : (e1 != 0) = false:=by simp [z1]
     have n2 : (e2 != 0) = true:=by simp [z2]
     obtain rfl : sv = true:=by rw [HV.out];simp [z1,z2,y1,y2] <;> omega
     clear z1 z2 HV
     go_wp2_with fail
     exact bodyPost_ret (v:=.bool true) (by simp [results,Tryz.results118,go_sem,y1,y2]) rfl ⟨rfl,qJ.out⟩
   ·by_cases y2 : time < m2
    ·have n1 : (e1 != 0) = false:=by simp [z1]
     have n2 : (e2 != 0) = true:=by simp [z2]
     obtain rfl : sv = false:=by rw [HV.out];simp [z1,z2,y1,y2] <;> omega
     clear z1 z2 HV
     go_wp2_with fail
     exact bodyPost_ret (v:=.bool false) (by simp [results,Tryz.results118,go_sem,y1,y2]) rfl ⟨rfl,qJ.out⟩
    ·have n1 : (e1 != 0) = false:=by simp [z1]
     have n2 : (e2 != 0) = true:=by simp [z2]
     obtain rfl : sv = false:=by rw [HV.out];simp [z1,z2,y1,y2] <;> omega
     clear z1 z2 HV
     go_wp2_with fail
     exact bodyPost_ret (v:=.bool false) (by simp [results,Tryz.results118,go_sem,y1,y2]) rfl ⟨rfl,qJ.out⟩
 ·by_cases z2 : e2 = 0
  ·by_cases y1 : m1 < time
   ·by_cases y2 : time < m2
    ·have n1 : (e1 != 0) = true:=by simp [z1]
     have n2 : (e2 != 0) = false:=by simp [z2]
     obtain rfl : sv = true:=by rw [HV.out];simp [z1,z2,y1,y2] <;> omega
     clear z1 z2 HV
     go_wp2_with fail
     exact bodyPost_ret (v:=.bool true) (by simp [results,Tryz.results118,go_sem,y1,y2]) rfl ⟨rfl,qJ.out⟩
    ·have n1 : (e1 != 0) = true:=by simp [z1]
     have n2 : (e2 != 0) = false:=by simp [z2]
     obtain rfl : sv = false:=by rw [HV.out];simp [z1,z2,y1,y2] <;> omega
     clear z1 z2 HV
     go_wp2_with fail
     exact bodyPost_ret (v:=.bool false) (by simp [results,Tryz.results118,go_sem,y1,y2]) rfl ⟨rfl,qJ.out⟩
   ·by_cases y2 : time < m2
    ·have n1 : (e1 != 0) = true:=by simp [z1]
     have n2 : (e2 != 0) = false:=by simp [z2]
     obtain rfl : sv = true:=by rw [HV.out];simp [z1,z2,y1,y2] <;> omega
     clear z1 z2 HV
     go_wp2_with fail
     exact bodyPost_ret (v:=.bool true) (by simp [results,Tryz.results118,go_sem,y1,y2]) rfl ⟨rfl,qJ.out⟩
    ·have n1 : (e1 != 0) = true:=by simp [z1]
     have n2 : (e2 != 0) = false:=by simp [z2]
     obtain rfl : sv = false:=by rw [HV.out];simp [z1,z2,y1,y2] <;> omega
     clear z1 z2 HV
     go_wp2_with fail
     exact bodyPost_ret (v:=.bool false) (by simp [results,Tryz.results118,go_sem,y1,y2]) rfl ⟨rfl,qJ.out⟩
  ·by_cases y1 : m1 < time
   ·by_cases y2 : time < m2
    ·have n1 : (e1 != 0) = true:=by simp [z1]
     have n2 : (e2 != 0) = true:=by simp [z2]
     obtain rfl : sv = true:=by rw [HV.out];simp [z1,z2,y1,y2] <;> omega
     clear z1 z2 HV
     go_wp2_with fail
     exact bodyPost_ret (v:=.bool true) (by simp [results,Tryz.results118,go_sem,y1,y2]) rfl ⟨rfl,qJ.out⟩
    ·have n1 : (e1 != 0) = true:=by simp [z1]
     have n2 : (e2 != 0) = true:=by simp [z2]
     obtain rfl : sv = true:=by rw [HV.out];simp [z1,z2,y1,y2] <;> omega
     clear z1 z2 HV
     go_wp2_with fail
     exact bodyPost_ret (v:=.bool true) (by simp [results,Tryz.results118,go_sem,y1,y2]) rfl ⟨rfl,qJ.out⟩
   ·by_cases y2 : time < m2
    ·have n1 : (e1 != 0) = true:=by simp [z1]
     have n2 : (e2 != 0) = true:=by simp [z2]
     obtain rfl : sv = true:=by rw [HV.out];simp [z1,z2,y1,y2] <;> omega
     clear z1 z2 HV
     go_wp2_with fail
     exact bodyPost_ret (v:=.bool true) (by simp [results,Tryz.results118,go_sem,y1,y2]) rfl ⟨rfl,qJ.out⟩
    ·have n1 : (e1 != 0) = true:=by simp [z1]
     have n2 : (e2 != 0) = true:=by simp [z2]
     obtain rfl : sv = true:=by rw [HV.out];simp [z1,z2,y1,y2] <;> omega
     clear z1 z2 HV
     go_wp2_with fail
     exact bodyPost_ret (v:=.bool true) (by simp [results,Tryz.results118,go_sem,y1,y2]) rfl ⟨rfl,qJ.out⟩
end Go.Proofs.YtklkooeimkedgaaGreat
namespace Go.Proofs.YtklkooeimkedgaaGreat
open Go.RowKit
set_option maxRecDepth 100000
theorem lU.cap {w : World} {R : Nat} {l : List aH} {most floor : Int} {gone : Bool} {S : Nat -> Prop} {v : Value} (h : lU w R l most floor gone S v) : lU w R l most floor gone (λk=>S k /\ k < w.heap.size) v :=
 ⟨h.blk,h.row,h.ents,⟨h.sR,h.blk.lt⟩,λj e=>⟨h.sv j e,(h.row.lt j e).2⟩,λk hk j e=>⟨h.se k hk j e,((h.ents k hk).1.lt j e).2⟩,h.up,h.len⟩
theorem RingAt.cap {w : World} {R : Nat} {l : List aH} {most floor : Int} {gone : Bool} {S : Nat -> Prop} (h : RingAt w R l most floor gone S) : RingAt w R l most floor gone (λk=>S k /\ k < w.heap.size):=by
 obtain ⟨v,h⟩:=h;exact ⟨v,h.cap⟩
theorem iy.cap {w : World} {T R : Nat} {l : List aH} {most floor : Int} {gone : Bool} {S : Nat -> Prop} (h : iy w T R l most floor gone S) : iy w T R l most floor gone (λk=>S k /\ k < w.heap.size):=by
 obtain ⟨⟨cs,hcs,hb⟩,h2,h3⟩:=h
 exact ⟨⟨cs,hcs,hb⟩,h2.cap,⟨h3,hb.lt⟩⟩
theorem iy.weaken {w : World} {T R : Nat} {l : List aH} {most floor : Int} {gone : Bool} {S S' : Nat -> Prop} (h : iy w T R l most floor gone S) (hs : ∀ k,S k -> S' k) : iy w T R l most floor gone S' :=
 ⟨h.blk,h.ring.weaken hs,hs _ h.sT⟩
theorem EC {w : World} {R : Nat} {l : List aH} {most floor : Int} {gone : Bool} {S : Nat -> Prop} (h : RingAt w R l most floor gone S) {o : Option aH} (ho : ∀ k,o = some k -> k ∈ l) (hk : ∀ k ∈ l,k.sn.ents.length <= 64) :
 ∃ a c,XQ o = .slice a (iR o).length c /\ eX w a (iR o) /\ (a = none -> c = 0) /\ (iR o).length <= 64 /\ (∀ x,a = some x -> S x.block) /\ (iR o).length <= c:=by
 obtain ⟨v,hP⟩:=h
 cases o with
 | none =>
   refine ⟨none,0,rfl,?_,λ_=>rfl,by simp [iR],(λx hx=>by cases hx),Nat.le_refl _⟩
   obtain ⟨a,c,e,h1,_⟩:=(aM.nil w 0).ents (by simp)
   cases e
   exact h1
 | some k =>
   have hm:=ho k rfl
   obtain ⟨a,c,e,h1,h2,h3,_⟩:=(hP.ents k hm).1.ents (hP.ents k hm).2
   refine ⟨a,c,e,h1,h2,hk k hm,λx hx=>?_,h3⟩
   have hs:=hP.se k hm;have hr:=(hP.ents k hm).1
   obtain ⟨_,⟨e2,_⟩ | ⟨g,cap,cur,e2,_⟩⟩:=hr
   ·rw [show fZ k = Value.slice a k.sn.ents.length c from e] at e2
    injection e2 with e3
    subst e3;cases hx
   ·rw [show fZ k = Value.slice a k.sn.ents.length c from e] at e2
    injection e2 with e3
    subst e3;cases hx
    exact hs _ (by rw [show fZ k = Value.slice (some ⟨g,0,none⟩) k.sn.ents.length c from e];rfl)
theorem ED {l : List aH} {key : Int} {k : aH} (h : fC l key = some k) : k ∈ l:=by
 unfold fC at h
 split at h
 ·exact List.mem_of_getElem? h
 ·cases h
def kD (w1 : World) (t : TypeId) (z u : Array Value) : List Value -> World -> Prop
 | [],W=>Below w1.heap.size w1 W
 | [v],W=>Below w1.heap.size w1 W /\ ∃ b,v = .pointer (some ⟨b,0,none⟩) /\ ak W b z t /\ w1.heap.size <= b
 | [v,_],W=>Below w1.heap.size w1 W /\ ∃ b,v = .pointer (some ⟨b,0,none⟩) /\ ak W b u t /\ w1.heap.size <= b
 | _,_=>False
theorem kD.base {w1 : World} {t : TypeId} {z u : Array Value} : ∀ {b : List Value} {W : World},kD w1 t z u b W -> aN w1 W
 | [],_,h=>h
 | [_],_,h=>h.1
 | [_,_],_,h=>h.1
 | _ :: _ :: _ :: _,_,h=>h.elim
theorem kD.below {w1 : World} {t : TypeId} {z u : Array Value} : ∀ {b : List Value} {W W' : World},kD w1 t z u b W -> Below W.heap.size W W' -> kD w1 t z u b W'
 | [],_,_,h,hb=>Below.trans h (hb.mono (Below.size h))
 | [_],_,_,⟨h,b,e,hB,hl⟩,hb=>⟨Below.trans h (hb.mono (Below.size h)),b,e,hB.below hb hB.lt,hl⟩
 | [_,_],_,_,⟨h,b,e,hB,hl⟩,hb=>⟨Below.trans h (hb.mono (Below.size h)),b,e,hB.below hb hB.lt,hl⟩
 | _ :: _ :: _ :: _,_,_,h,_=>h.elim
theorem kD.new {w1 : World} {t : TypeId} {z u : Array Value} {W : World} (h : kD w1 t z u [] W) : kD w1 t z u [.pointer (some ⟨W.heap.size,0,none⟩)] (W.alloc (.cells z t)) :=
 ⟨Below.alloc h (Below.size h) _,_,rfl,ak.new _ _ _,Below.size h⟩
def jf (o : Option aH) : Sn:=⟨xD o,om o,iR o⟩
theorem eX.only {w w' : World} {a : Option Addr} {es : List ay} {S : Nat -> Prop} (h : eX w a es) (ho : Only S w w') (hS : ∀ x,a = some x -> ¬ S x.block) : eX w' a es:=by
 obtain ⟨h1,h2⟩:=h
 refine ⟨h1,?_⟩
 rcases h2 with h2 | ⟨b,off,e,hl,hc⟩
 ·exact .inl h2
 ·refine .inr ⟨b,off,e,Nat.lt_of_lt_of_le hl ho.size,λi hi=>?_⟩
  have hh : ∀ o,w'.cell? ⟨b,o,none⟩ = w.cell? ⟨b,o,none⟩:=λo=>by
   simp only [World.cell?];rw [ho.block b hl (hS _ e)]
  have:=hc i hi
  unfold dF at this ⊢
  simp only [hh];exact this
def qO (l : List aH) (most floor : Int) (gone : Bool) (tick base : Int) : Int :=
 if fF l tick = true then 12 else if gP l most floor gone tick = true then 13 else if fF l base = false /\ 0 <= base then 14 else 0
def eu (l : List aH) (most floor : Int) (gone : Bool) (zs : List Int) : Sn × Int :=
 if (bA zs).2 ≠ 0 then (fu,(bA zs).2) else
 if qO l most floor gone (bA zs).1.tick (bA zs).1.base ≠ 0 then (fu,qO l most floor gone (bA zs).1.tick (bA zs).1.base) else
 ((jw (jf (fC l (bA zs).1.base)) (bA zs).1).1,if (jw (jf (fC l (bA zs).1.base)) (bA zs).1).2 = 0 /\ fO l (jw (jf (fC l (bA zs).1.base)) (bA zs).1).1.tick (jw (jf (fC l (bA zs).1.base)) (bA zs).1).1.time = false then 16 else (jw (jf (fC l (bA zs).1.base)) (bA zs).1).2)
structure bW (w : World) (T R : Nat) (l : List aH) (most floor : Int) (gone : Bool) (S : Nat -> Prop) (t m : Int) (s : Value) (e : Int) (W : World) : Prop where
 x : ak W w.heap.size #[.int .i64 t,.int .i64 m,s] 36
 e : ak W (w.heap.size + 1) #[.int .i64 e] 25
 st : iy W T R l most floor gone S
 b : Below w.heap.size w W
 sz : w.heap.size + 2 <= W.heap.size
 sS : ∀ k,S k -> k < w.heap.size
section
variable {w W W' : World} {T R : Nat} {l : List aH} {most floor : Int} {gone : Bool} {S : Nat -> Prop} {t m e : Int} {s : Value}
theorem bW.below (h : bW w T R l most floor gone S t m s e W) (hb : Below W.heap.size W W') : bW w T R l most floor gone S t m s e W' :=
 ⟨h.x.below hb h.x.lt,h.e.below hb h.e.lt,h.st.below hb,h.b.trans (hb.mono h.b.size),Nat.le_trans h.sz hb.size,h.sS⟩
theorem bW.refuse (h : bW w T R l most floor gone S t m s e W) {e' : Int} (he : ak W' (w.heap.size + 1) #[.int .i64 e'] 25) (ho : Only (λk=>k = w.heap.size + 1) W W') : bW w T R l most floor gone S t m s e' W' :=
 ⟨ho.blk h.x (by omega),he,h.st.only ho (λk hk hh=>by have:=h.sS k hk;omega),h.b.trans (ho.below h.b.size (λk hk=>by omega)),Nat.le_trans h.sz ho.size,h.sS⟩
theorem bW.za (h : bW w T R l most floor gone S t m s e W) (t' m' : Int) (s' : Value) :
 bW w T R l most floor gone S t' m' s' e (((W.setCell ⟨w.heap.size,0,none⟩ (.int .i64 t')).setCell ⟨w.heap.size,1,none⟩ (.int .i64 m')).setCell ⟨w.heap.size,2,none⟩ s'):=by
 have h3 : Only (λk=>k = w.heap.size) W (((W.setCell ⟨w.heap.size,0,none⟩ (.int .i64 t')).setCell ⟨w.heap.size,1,none⟩ (.int .i64 m')).setCell ⟨w.heap.size,2,none⟩ s'):=rE (Only.refl _ _) (.inl rfl)
 exact ⟨jy h.x,h3.blk h.e (by omega),h.st.only h3 (λk hk hh=>by have:=h.sS k hk;omega),h.b.trans (h3.below h.b.size (λk hk=>by omega)),Nat.le_trans h.sz h3.size,h.sS⟩
theorem bW.xE (h : bW w T R l most floor gone S t m s e W) (e' : Int) : bW w T R l most floor gone S t m s e' (W.setCell ⟨w.heap.size + 1,0,none⟩ (.int .i64 e')) :=
 h.refuse (by simpa using h.e.set 0 (.int .i64 e')) (Only.setCell (S:=λk=>k = w.heap.size + 1) (p:=⟨w.heap.size + 1,0,none⟩) (Only.refl _ _) (.inl rfl) _)
theorem bW.ze (h : bW w T R l most floor gone S t m s e W) {base : Nat} {v : Value} {es : List ay} (ho : aM W base v es) (t' m' : Int) (s' : Value) : aM (((W.setCell ⟨w.heap.size,0,none⟩ (.int .i64 t')).setCell ⟨w.heap.size,1,none⟩ (.int .i64 m')).setCell ⟨w.heap.size,2,none⟩ s') base v es :=
 ho.only (rE (S:=λk=>k = w.heap.size) (Only.refl _ _) (.inl rfl)) (λj hj hk=>bI ho h.x (by decide) (by rw [hj,hk]))
theorem bW.zf (h : bW w T R l most floor gone S t m s e W) {base : Nat} {v : Value} {es : List ay} (ho : aM W base v es) (e' : Int) : aM (W.setCell ⟨w.heap.size + 1,0,none⟩ (.int .i64 e')) base v es :=
 ho.only (Only.setCell (S:=λk=>k = w.heap.size + 1) (p:=⟨w.heap.size + 1,0,none⟩) (Only.refl _ _) (.inl rfl) _) (λj hj hk=>bI ho h.e (by decide) (by rw [hj,hk]))
theorem bW.cells (h : bW w T R l most floor gone S t m s e W) : (W.cell? ⟨w.heap.size,0,none⟩ = some (.int .i64 t) /\ W.cell? ⟨w.heap.size,1,none⟩ = some (.int .i64 m) /\ W.cell? ⟨w.heap.size,2,none⟩ = some s) /\ W.cell? ⟨w.heap.size + 1,0,none⟩ = some (.int .i64 e) /\
 (W.frozen? ⟨w.heap.size,0,none⟩ = false /\ W.frozen? ⟨w.heap.size,1,none⟩ = false /\ W.frozen? ⟨w.heap.size,2,none⟩ = false) /\ W.frozen? ⟨w.heap.size + 1,0,none⟩ = false /\ W.cell? ⟨T,0,none⟩ = some (.pointer (some ⟨R,0,none⟩)):=by
 have h0:=h.x.cell 0;have h1:=h.x.cell 1;have h2:=h.x.cell 2;have h3:=h.e.cell 0;simp at h0 h1 h2 h3
 exact ⟨⟨h0,h1,h2⟩,h3,⟨h.x.free 0,h.x.free 1,h.x.free 2⟩,h.e.free 0,h.st.cells.1⟩
end
set_option maxHeartbeats 4000000 in
theorem aa3 (T R : Nat) (l : List aH) (most floor : Int) (gone : Bool) (S : Nat -> Prop) (a : Option Addr) (len cap : Nat) (zs : List Int) (w : World) (h0 : iy w T R l most floor gone S) (Qb : ∀ k ∈ l,k.sn.ents.length <= 64)
 (hz : BytesAt w a len zs) (hc : a = none -> cap = 0) (hlc : len <= cap) (hl : (len : Int) <= 140737488355000) (hgt : aA (bA zs).1.time) :
 Calls Tryz.prog 77 #[.pointer (some ⟨T,0,none⟩),.slice a len cap] w λe w'=>∃ v,e = .returned (.tuple #[.agg #[.int .i64 (eu l most floor gone zs).1.tick,.int .i64 (eu l most floor gone zs).1.time,v],.int .i64 (eu l most floor gone zs).2]) /\ aM w' w.heap.size v (eu l most floor gone zs).1.ents /\ Below w.heap.size w w':=by
 have h:=h0.cap
 generalize hS : (λk=>S k /\ k < w.heap.size) = S' at h
 have sS : ∀ k,S' k -> k < w.heap.size:=λk hk=>by rw [← hS] at hk;exact hk.2
 clear hS h0
 have HZ : Hid (eu l most floor gone zs = if (bA zs).2 ≠ 0 then (fu,(bA zs).2) else
  if qO l most floor gone (bA zs).1.tick (bA zs).1.base ≠ 0 then (fu,qO l most floor gone (bA zs).1.tick (bA zs).1.base) else
  ((jw (jf (fC l (bA zs).1.base)) (bA zs).1).1,if (jw (jf (fC l (bA zs).1.base)) (bA zs).1).2 = 0 /\ fO l (jw (jf (fC l (bA zs).1.base)) (bA zs).1).1.tick (jw (jf (fC l (bA zs).1.base)) (bA zs).1).1.time = false then 16 else (jw (jf (fC l (bA zs).1.base)) (bA zs).1).2)):=ajK rfl
 generalize eu l most floor gone zs = z at *
 obtain ⟨w0,hw0⟩ : ∃ w0,(w.alloc (.cells #[.int .i64 0,.int .i64 0,.slice none 0 0] 36)).alloc (.cells #[.int .i64 0] 25) = w0:=⟨_,rfl⟩
 have hB0 : Below w.heap.size w w0:=by rw [← hw0];exact (ajL).alloc (by simp) _
 have H0 : Hid (bW w T R l most floor gone S' 0 0 (.slice none 0 0) 0 w0):=ajK ⟨by rw [← hw0];exact (ak.new _ _ _).alloc _,by
  rw [← hw0]
  have:=ak.new (w.alloc (.cells #[.int .i64 0,.int .i64 0,.slice none 0 0] 36)) #[.int .i64 0] 25
  simpa using this,h.below hB0,hB0,by rw [← hw0];simp,sS⟩
 have rd:=YT a len cap zs w0 (hz.below hB0) hc hlc hl
 have ap:=λ(k : Option aH) (w : World) (ae : Option Addr) (gX : Nat) (hE : eX w ae (iR k)) (ga : Option Addr) (cap : Nat) (hR : lu w ga (bA zs).1.recs) (hlE : ((iR k).length : Int) <= 140737488355000)=>VU (xD k) (om k) ae gX (iR k) (bA zs).1 ga cap hgt w hE hR hlE
 have Ob:=ajK ap;have HGT:=ajK hgt;have HK:=ajK Qb;clear hz h hB0 sS ap hgt Qb
 generalize (bA zs).2 = e0 at *
 generalize (bA zs).1 = g at *
 go_enter Tryz.func77,Tryz.ntmps77
 go_wp2_with fail
 clear hw0
 refine rd.mono ?_
 rintro e w1 ⟨v,rfl,hR,hB1⟩
 clear rd
 obtain ⟨ga,vJ,rfl,_,_⟩:=hR.recs
 have hH1:=H0.out.below hB1
 obtain ⟨v1,hv1⟩ : ∃ v,w1.alloc (.cells #[.int .i64 0,.int .i64 0,.int .i64 0,.slice none 0 0] 39) = v:=⟨_,rfl⟩
 have vC : Below w1.heap.size w1 v1:=by rw [← hv1];exact ajL
 have aV : ak v1 w1.heap.size #[.int .i64 0,.int .i64 0,.int .i64 0,.slice none 0 0] 39:=by rw [← hv1];exact ak.new _ _ _
 have f0:=aV.free 0;have f1:=aV.free 1;have f2:=aV.free 2;have f3:=aV.free 3;have q0:=aV.cell 0;have q1:=aV.cell 1;have q2:=aV.cell 2;have q3:=aV.cell 3;simp at q0 q1 q2 q3
 have hb4 : Below w1.heap.size w1 ((((v1.setCell ⟨w1.heap.size,0,none⟩ (.int .i64 g.tick)).setCell ⟨w1.heap.size,1,none⟩ (.int .i64 g.time)).setCell ⟨w1.heap.size,2,none⟩ (.int .i64 g.base)).setCell ⟨w1.heap.size,3,none⟩ (.slice ga g.recs.length vJ)):=wY vC (Nat.le_refl _)
 have hG4:=qM (v0:=.int .i64 g.tick) (v1:=.int .i64 g.time) (v2:=.int .i64 g.base) (v3:=.slice ga g.recs.length vJ) aV
 obtain ⟨u0,hu0⟩ : ∃ u,((((v1.setCell ⟨w1.heap.size,0,none⟩ (.int .i64 g.tick)).setCell ⟨w1.heap.size,1,none⟩ (.int .i64 g.time)).setCell ⟨w1.heap.size,2,none⟩ (.int .i64 g.base)).setCell ⟨w1.heap.size,3,none⟩ (.slice ga g.recs.length vJ)) = u:=⟨_,rfl⟩
 rw [hu0] at hb4 hG4
 have hH4:=hH1.below hb4
 have Si:=hR.below hb4 (λj e=>(hR.1.lt j e).2)
 have aa5 : w.heap.size + 2 <= w1.heap.size:=hH1.sz
 have aa6 : w.heap.size + 2 <= w0.heap.size:=H0.out.sz
 obtain ⟨_,p3,_,k3,_⟩:=hH4.cells
 obtain ⟨u1,hu1⟩ : ∃ u,u0.setCell ⟨w.heap.size + 1,0,none⟩ (.int .i64 e0) = u:=⟨_,rfl⟩
 have nu : Only (λk=>k = w.heap.size + 1) u0 u1:=by rw [← hu1];exact Only.setCell (S:=λk=>k = w.heap.size + 1) (p:=⟨w.heap.size + 1,0,none⟩) (Only.refl _ _) (.inl rfl) _
 have H1 : Hid (bW w T R l most floor gone S' 0 0 (.slice none 0 0) e0 u1):=ajK (by rw [← hu1];exact hH4.xE e0)
 have G1:=ajK (nu.blk hG4 (by omega))
 have R1:=ajK (Si.only nu (λj e=>by have:=(hR.1.lt j e).1;omega))
 have hc5:=H1.out.e.cell 0;have g0:=G1.out.cell 0;simp at hc5 g0;have t0:=H1.out.st.cells.1;have HN:=ajK (And.intro aa5 aa6);clear vC aV hR hH1 hB1 hb4 hG4 hH4 Si aa5 aa6 nu H0
 by_cases he0 : e0 = 0
 ·subst he0
  have HZ1 : Hid (z = _):=ajK (HZ.out.trans (if_neg (by simp)))
  clear HZ
  have gt:=λW h=>Ld R l most floor gone S' g.tick W h
  rw [Lm] at gt
  obtain ⟨sa,sn,sc,hs1⟩:=Cr (fC l g.tick)
  rw [hs1] at gt
  have Hq : Hid (qO l most floor gone g.tick g.base = if fF l g.tick = true then 12 else if gP l most floor gone g.tick = true then 13 else if fF l g.base = false /\ 0 <= g.base then 14 else 0):=ajK rfl
  generalize qO l most floor gone g.tick g.base = E3 at *
  generalize fF l g.tick = th at *
  generalize xD (fC l g.tick) = st at *
  generalize om (fC l g.tick) = sm at *
  clear hs1
  have HI : Hid (kD u1 36 #[.int .i64 0,.int .i64 0,.slice none 0 0] #[.int .i64 st,.int .i64 sm,.slice sa sn sc] [] u1.drew):=ajK (show Below u1.heap.size u1 u1.drew from below_drewN ajM 1)
  have hE0 : (0 != (0 : Int)) = false:=rfl
  have HB : Hid (kD u1 36 #[.int .i64 0,.int .i64 0,.slice none 0 0] #[.int .i64 st,.int .i64 sm,.slice sa sn sc] [] u1.drew):=ajK (show Below u1.heap.size u1 u1.drew from below_drewN ajM 1)
  have t0:=H1.out.st.cells.1;have g0:=G1.out.cell 0;simp at g0
  go_wp2_with fail
  apply lT 12 [10,11] (kD u1 36 #[.int .i64 0,.int .i64 0,.slice none 0 0] #[.int .i64 st,.int .i64 sm,.slice sa sn sc])
  case hm=>kernel_rfl
  case hB=>kernel_rfl
  case hp=>kernel_rfl
  case hI=>exact HB.out
  simp only [List.take_succ_cons,List.take_zero,List.drop_succ_cons,List.drop_zero]
  repeat (first
   | (apply bR;(next=>rfl);(next=>(intro b W hW K hK;have hb:=kD.base hW;have y0:=hb.cell t0;have y1:=hb.cell g0; go_simp;first | exact ⟨hW,hK⟩ | exact hK));(next=>exact ⟨_,HB.out⟩);(try go_simp))
   | (apply bR;(next=>rfl);(next=>(intro b W hW K hK;have hb:=kD.base hW;have y0:=hb.cell t0;have y1:=hb.cell g0; go_simp;first | exact ⟨hW,_,(gt W (H1.out.st.ring.below hb)).mono (λe w'' h=>⟨h.1,kD.below hW h.2⟩),hK⟩ | exact ⟨_,(gt W (H1.out.st.ring.below hb)).mono (λe w'' h=>⟨h.1,kD.below hW h.2⟩),hK⟩));(next=>exact ⟨_,HB.out⟩);(try go_simp)))
  apply bU (s:=λ_=>True)
  case hk=>rfl
  case hne=>exact ⟨undef,trivial⟩
  case hw=>rfl
  case h =>
   intro W hW
   have Ct:=ajK (kD.new hW)
   go_simp
   first | exact Ct.out | exact ⟨trivial,Ct.out⟩
  intro x1 _
  apply bU (s:=λ_=>True)
  case hk=>rfl
  case hne=>exact ⟨undef,trivial⟩
  case hw=>rfl
  case h =>
   intro W hW
   obtain ⟨hb,bx,rfl,hX,hlx⟩:=hW
   have x0:=hX.cell 0;have x1:=hX.cell 1;have x2:=hX.cell 2;have f0:=hX.free 0;have f1:=hX.free 1;have f2:=hX.free 2;simp at x0 x1 x2
   have Ct:=ajK (show kD u1 36 #[.int .i64 0,.int .i64 0,.slice none 0 0] #[.int .i64 st,.int .i64 sm,.slice sa sn sc] [.pointer (some ⟨bx,0,none⟩),undef] (((W.setCell ⟨bx,0,none⟩ (.int .i64 st)).setCell ⟨bx,1,none⟩ (.int .i64 sm)).setCell ⟨bx,2,none⟩ (.slice sa sn sc)) from ⟨eZ hb hlx,bx,rfl,jy hX,hlx⟩)
   clear hb hX
   go_simp
   first | exact Ct.out | exact ⟨trivial,Ct.out⟩
  intro x2 _
  refine jR ?_
  intro u2 aO
  obtain ⟨hb,b2,rfl,hX,hlx⟩:=aO
  have H2:=ajK (H1.out.below hb);have G2:=ajK (G1.out.below hb G1.out.lt)
  have R2:=ajK (R1.out.below hb (λj e=>(R1.out.1.lt j e).2))
  clear hb hX t0 g0 HB;clear gt
  go_wp2_with fail
  refine (mX th 12 _ (0) u2 H2.out.e).mono ?_
  rintro r u3 ⟨rfl,hE,hO⟩
  have H3:=ajK (H2.out.refuse hE hO)
  have G3:=ajK (hO.blk G2.out (by have:=HN.out;omega))
  have R3:=ajK (R2.out.only hO (λj e=>by have:=(R2.out.1.lt j e).1;have:=HN.out;omega))
  clear hE hO
  obtain ⟨e1,he1⟩ : ∃ x,(if (0 : Int) = 0 /\ th = true then (12 : Int) else 0) = x:=⟨_,rfl⟩
  rw [he1] at H3
  have Oi:=ajK he1;clear he1;have g0:=G3.out.cell 0;simp at g0;have stl:=YX T R l most floor gone S' g.tick u3 H3.out.st
  generalize gP l most floor gone g.tick = sl at *
  go_wp2_with fail
  refine stl.mono ?_
  rintro e u4 ⟨rfl,hb⟩
  have H4:=ajK (H3.out.below hb);have G4:=ajK (G3.out.below hb G3.out.lt)
  have R4:=ajK (R3.out.below hb (λj e=>(R3.out.1.lt j e).2))
  clear hb stl g0
  go_wp2_with fail
  refine (mX sl 13 _ (e1) u4 H4.out.e).mono ?_
  rintro r u5 ⟨rfl,hE,hO⟩
  have H5:=ajK (H4.out.refuse hE hO)
  have G5:=ajK (hO.blk G4.out (by have:=HN.out;omega))
  have R5:=ajK (R4.out.only hO (λj e=>by have:=(R4.out.1.lt j e).1;have:=HN.out;omega))
  clear hE hO
  obtain ⟨e2,he2⟩ : ∃ x,(if (e1 : Int) = 0 /\ sl = true then (13 : Int) else e1) = x:=⟨_,rfl⟩
  rw [he2] at H5
  have Oj:=ajK he2;clear he2
  have gt:=λW h=>Ld R l most floor gone S' g.base W h
  rw [Lm] at gt
  obtain ⟨ba,bc,hs2,hbe,hbc,hbl,hbS,_⟩:=EC H5.out.st.ring (λk hk=>ED hk) HK.out (o:=fC l g.base)
  have tH:=ajK (And.intro hbe (And.intro hbl hbS))
  rw [hs2] at gt
  have ap:=λW hE ga cap hR=>Ob.out (fC l g.base) W ba bc hE ga cap hR (by omega)
  clear hs2 hbe hbc hbl hbS
  unfold jf at HZ1
  generalize fF l g.base = hbv at *
  generalize xD (fC l g.base) = bt at *
  generalize om (fC l g.base) = bm at *
  generalize afN : iR (fC l g.base) = Ed at *
  clear afN Ob HGT
  have HB : Hid (kD u5 36 #[.int .i64 0,.int .i64 0,.slice none 0 0] #[.int .i64 bt,.int .i64 bm,.slice ba Ed.length bc] [] u5.drew):=ajK (show Below u5.heap.size u5 u5.drew from below_drewN ajM 1)
  have t0:=H5.out.st.cells.1;have g0:=G5.out.cell 2;simp at g0
  go_wp2_with fail
  apply lT 12 [10,11] (kD u5 36 #[.int .i64 0,.int .i64 0,.slice none 0 0] #[.int .i64 bt,.int .i64 bm,.slice ba Ed.length bc])
  case hm=>kernel_rfl
  case hB=>kernel_rfl
  case hp=>kernel_rfl
  case hI=>exact HB.out
  simp only [List.take_succ_cons,List.take_zero,List.drop_succ_cons,List.drop_zero]
  repeat (first
   | (apply bR;(next=>rfl);(next=>(intro b W hW K hK;have hb:=kD.base hW;have y0:=hb.cell t0;have y1:=hb.cell g0; go_simp;first | exact ⟨hW,hK⟩ | exact hK));(next=>exact ⟨_,HB.out⟩);(try go_simp))
   | (apply bR;(next=>rfl);(next=>(intro b W hW K hK;have hb:=kD.base hW;have y0:=hb.cell t0;have y1:=hb.cell g0; go_simp;first | exact ⟨hW,_,(gt W (H5.out.st.ring.below hb)).mono (λe w'' h=>⟨h.1,kD.below hW h.2⟩),hK⟩ | exact ⟨_,(gt W (H5.out.st.ring.below hb)).mono (λe w'' h=>⟨h.1,kD.below hW h.2⟩),hK⟩));(next=>exact ⟨_,HB.out⟩);(try go_simp)))
  apply bU (s:=λ_=>True)
  case hk=>rfl
  case hne=>exact ⟨undef,trivial⟩
  case hw=>rfl
  case h =>
   intro W hW
   have Ct:=ajK (kD.new hW)
   go_simp
   first | exact Ct.out | exact ⟨trivial,Ct.out⟩
  intro x1 _
  apply bU (s:=λ_=>True)
  case hk=>rfl
  case hne=>exact ⟨undef,trivial⟩
  case hw=>rfl
  case h =>
   intro W hW
   obtain ⟨hb,bx,rfl,hX,hlx⟩:=hW
   have x0:=hX.cell 0;have x1:=hX.cell 1;have x2:=hX.cell 2;have f0:=hX.free 0;have f1:=hX.free 1;have f2:=hX.free 2;simp at x0 x1 x2
   have Ct:=ajK (show kD u5 36 #[.int .i64 0,.int .i64 0,.slice none 0 0] #[.int .i64 bt,.int .i64 bm,.slice ba Ed.length bc] [.pointer (some ⟨bx,0,none⟩),undef] (((W.setCell ⟨bx,0,none⟩ (.int .i64 bt)).setCell ⟨bx,1,none⟩ (.int .i64 bm)).setCell ⟨bx,2,none⟩ (.slice ba Ed.length bc)) from ⟨eZ hb hlx,bx,rfl,jy hX,hlx⟩)
   clear hb hX
   go_simp
   first | exact Ct.out | exact ⟨trivial,Ct.out⟩
  intro x2 _
  refine jR ?_
  intro u6 aO
  obtain ⟨hb,b6,rfl,hX,hlx⟩:=aO
  have H6:=ajK (H5.out.below hb);have G6:=ajK (G5.out.below hb G5.out.lt)
  have R6:=ajK (R5.out.below hb (λj e=>(R5.out.1.lt j e).2))
  have B6:=ajK hX;have BL6:=ajK hlx
  have B56:=ajK (show Below u5.heap.size u5 u6 from hb)
  clear hb hX t0 g0 HB;clear gt;have BE6:=ajK (tH.out.1.below B56.out)
  cases hbv
  ·by_cases hb0 : 0 <= g.base
   ·have g2:=G6.out.cell 2
    simp at g2
    go_wp2_with fail
    refine (mX true 14 _ (e2) u6 H6.out.e).mono ?_
    rintro r u7 ⟨rfl,hE,hO⟩
    have H7:=ajK (H6.out.refuse hE hO)
    have G7:=ajK (hO.blk G6.out (by have:=HN.out;omega))
    have R7:=ajK (R6.out.only hO (λj e=>by have:=(R6.out.1.lt j e).1;have:=HN.out;omega))
    have B7:=ajK (hO.blk B6.out (by have:=BL6.out;have:=H5.out.sz;omega))
    have Tt:=ajK (eX.only BE6.out hO (λx hx hh=>by have:=H5.out.sS _ (tH.out.2.2 x hx);omega))
    clear hE hO
    obtain ⟨e3,wM⟩ : ∃ x,(if (e2 : Int) = 0 /\ true = true then (14 : Int) else e2) = x:=⟨_,rfl⟩
    rw [wM] at H7
    have IZ:=ajK wM;clear wM
    have vD : Hid (e3 = E3):=ajK (by rw [Hq.out,← IZ.out,← Oj.out,← Oi.out];cases th <;> cases sl <;> simp [hb0])
    clear Hq Oi Oj IZ
    obtain ⟨⟨x0,x1,x2⟩,ec,⟨f0,f1,f2⟩,fe,t0⟩:=H7.out.cells
    by_cases h3 : e3 = 0
    ·subst h3
     have HZ2:=ajK (HZ1.out.trans (if_neg (by rw [← vD.out];simp)))
     clear HZ1 vD
     obtain ⟨Tv,Tw,Tx,Tz⟩ : u7.cell? ⟨w1.heap.size,0,none⟩ = some (.int .i64 g.tick) /\ u7.cell? ⟨w1.heap.size,1,none⟩ = some (.int .i64 g.time) /\ u7.cell? ⟨w1.heap.size,2,none⟩ = some (.int .i64 g.base) /\ u7.cell? ⟨w1.heap.size,3,none⟩ = some (.slice ga g.recs.length vJ):=by
      have e0:=G7.out.cell 0;have e1:=G7.out.cell 1;have e2:=G7.out.cell 2;have e3:=G7.out.cell 3;simp at e0 e1 e2 e3
      exact ⟨e0,e1,e2,e3⟩
     have k0:=B7.out.cell 0;have k1:=B7.out.cell 1;have k2:=B7.out.cell 2;simp at k0 k1 k2
     have hap : Calls Tryz.prog 117 #[.agg #[.int .i64 bt,.int .i64 bm,.slice ba Ed.length bc],.agg #[.int .i64 g.tick,.int .i64 g.time,.int .i64 g.base,.slice ga g.recs.length vJ]] u7 _:=ap u7 Tt.out ga vJ (by
      obtain ⟨ga',gc',e,hh,_⟩:=R7.out.recs
      cases e
      exact hh)
     generalize jw ⟨bt,bm,Ed⟩ g = y at *
     go_wp2_with fail
     refine hap.mono ?_
     rintro e u8 ⟨v,rfl,sO,hb⟩
     obtain ⟨va,vc,rfl,_⟩:=sO.slice
     have yJ:=H7.out.below hb
     obtain ⟨⟨z0,z1,z2⟩,zc,⟨xw,xA,xB⟩,TA,_⟩:=yJ.cells
     have aa9:=H7.out.sz
     obtain ⟨u9,kU⟩ : ∃ u,((u8.setCell ⟨w.heap.size,0,none⟩ (.int .i64 y.1.tick)).setCell ⟨w.heap.size,1,none⟩ (.int .i64 y.1.time)).setCell ⟨w.heap.size,2,none⟩ (.slice va y.1.ents.length vc) = u:=⟨_,rfl⟩
     have vE:=yJ.za y.1.tick y.1.time (.slice va y.1.ents.length vc)
     have dQ:=yJ.ze (aM.base sO (show w.heap.size <= u7.heap.size by omega)) y.1.tick y.1.time (.slice va y.1.ents.length vc)
     rw [kU] at vE dQ
     obtain ⟨_,yc,_,TB,_⟩:=vE.cells
     obtain ⟨TD,Cu⟩ : ∃ u,u9.setCell ⟨w.heap.size + 1,0,none⟩ (.int .i64 y.2) = u:=⟨_,rfl⟩
     have pU:=vE.xE y.2;have xG:=vE.zf dQ y.2
     rw [Cu] at pU xG
     have TF:=ajK pU;have TG:=ajK xG
     obtain ⟨⟨x0,x1,x2⟩,ec,⟨f0,f1,f2⟩,fe,t0⟩:=pU.cells
     have tm:=uD T R l most floor gone S' y.1.tick y.1.time (.slice va y.1.ents.length vc) TD pU.st
     generalize fO l y.1.tick y.1.time = tv at *
     clear hap sO hb yJ vE dQ pU xG Tv Tw Tx Tz k0 k1 k2 ap
     go_wp2_with fail
     clear kU Cu z0 z1 z2 zc xw xA xB TA yc TB
     refine tm.mono ?_
     rintro e TH ⟨rfl,hb⟩
     have Cv:=ajK (TF.out.below hb);have I4:=ajK (aM.below TG.out hb);clear hb tm x0 x1 x2 ec f0 f1 f2 fe t0
     go_wp2_with fail
     refine (mX (!tv) 16 _ y.2 TH Cv.out.e).mono ?_
     rintro r I5 ⟨rfl,hE,hO⟩
     have I6:=ajK (Cv.out.refuse hE hO)
     have TI:=ajK (aM.only I4.out hO (λj hj hk=>bI I4.out Cv.out.e (by decide) (by rw [hj,hk])))
     clear hE hO
     obtain ⟨e5,Cw⟩ : ∃ x,(if (y.2 : Int) = 0 /\ (!tv) = true then (16 : Int) else y.2) = x:=⟨_,rfl⟩
     rw [Cw] at I6
     have HV : Hid (z = (y.1,e5)):=ajK (by rw [HZ2.out,← Cw];cases tv <;> simp)
     clear Cw HZ2
     have HI : Hid (bW w T R l most floor gone S' (y.1.tick) (y.1.time) (.slice va y.1.ents.length vc) (e5) I5.drew /\ aM I5.drew w.heap.size (.slice va y.1.ents.length vc) (y.1.ents)):=ajK ⟨I6.out.below (below_drewN ajM 1),aM.below TI.out (below_drewN ajM 1)⟩
     go_wp2_with fail
     apply iE (I:=(λW=>bW w T R l most floor gone S' (y.1.tick) (y.1.time) (.slice va y.1.ents.length vc) (e5) W /\ aM W w.heap.size (.slice va y.1.ents.length vc) (y.1.ents))) 3
     case hm=>kernel_rfl
     case hB=>kernel_rfl
     case hI=>exact HI.out
     simp only [List.take_succ_cons,List.take_zero,List.drop_succ_cons,List.drop_zero]
     repeat (apply aF;(next=>(intro W hW K hK;obtain ⟨⟨x0,x1,x2⟩,ec,⟨f0,f1,f2⟩,fe,t0⟩:=bW.cells hW.1;have HX:=ajK (And.intro (bW.za hW.1 (y.1.tick) (y.1.time) (.slice va y.1.ents.length vc)) (bW.ze hW.1 hW.2 (y.1.tick) (y.1.time) (.slice va y.1.ents.length vc)));go_simp;first | exact ⟨hW,hK⟩ | exact ⟨HX.out,hK⟩ | exact hK));(next=>exact ⟨_,HI.out⟩);(try go_simp))
     refine aX ?_
     intro WZ ku rZ
     obtain ⟨⟨x0,x1,x2⟩,ec,⟨f0,f1,f2⟩,fe,t0⟩:=bW.cells ku
     have HY:=ajK (bW.xE ku (e5));have F4:=ajK (bW.zf ku rZ (e5))
     obtain ⟨⟨y0,y1,y2⟩,yc,_⟩:=bW.cells HY.out
     clear ku rZ
     go_wp2_with fail
     exact bodyPost_ret (v:=.tuple #[.agg #[.int .i64 (y.1.tick),.int .i64 (y.1.time),.slice va y.1.ents.length vc],.int .i64 (e5)]) (by simp [results,Tryz.results77,go_sem,y0,y1,y2,yc,x0,x1,x2,ec]) rfl ⟨_,by rw [HV.out],by rw [HV.out];exact F4.out,HY.out.b⟩
    ·have h3n : (e3 == 0) = false:=by simpa using h3
     have HV : Hid (z = (fu,e3)):=ajK (by rw [HZ1.out,← vD.out,if_pos (by simpa using h3)])
     clear HZ1 vD ap;have tm:=uD T R l most floor gone S' 0 0 (.slice none 0 0) u7 H7.out.st
     generalize fO l 0 0 = tv at *
     go_wp2_with fail
     refine tm.mono ?_
     rintro e u8 ⟨rfl,hb⟩
     have H8:=ajK (H7.out.below hb);clear hb tm x0 x1 x2 ec f0 f1 f2 fe t0
     go_wp2_with fail
     refine (mX (!tv) 16 _ e3 u8 H8.out.e).mono ?_
     rintro r u9 ⟨rfl,hE,hO⟩
     have H9:=ajK (H8.out.refuse hE hO);clear hE hO
     rw [if_neg (by simp [h3])] at H9
     have HI : Hid (bW w T R l most floor gone S' (0) (0) (.slice none 0 0) (e3) u9.drew /\ aM u9.drew w.heap.size (.slice none 0 0) ([])):=ajK ⟨H9.out.below (below_drewN ajM 1),aM.nil _ _⟩
     go_wp2_with fail
     apply iE (I:=(λW=>bW w T R l most floor gone S' (0) (0) (.slice none 0 0) (e3) W /\ aM W w.heap.size (.slice none 0 0) ([]))) 3
     case hm=>kernel_rfl
     case hB=>kernel_rfl
     case hI=>exact HI.out
     simp only [List.take_succ_cons,List.take_zero,List.drop_succ_cons,List.drop_zero]
     repeat (apply aF;(next=>(intro W hW K hK;obtain ⟨⟨x0,x1,x2⟩,ec,⟨f0,f1,f2⟩,fe,t0⟩:=bW.cells hW.1;have HX:=ajK (And.intro (bW.za hW.1 (0) (0) (.slice none 0 0)) (bW.ze hW.1 hW.2 (0) (0) (.slice none 0 0)));go_simp;first | exact ⟨hW,hK⟩ | exact ⟨HX.out,hK⟩ | exact hK));(next=>exact ⟨_,HI.out⟩);(try go_simp))
     refine aX ?_
     intro WZ ku rZ
     obtain ⟨⟨x0,x1,x2⟩,ec,⟨f0,f1,f2⟩,fe,t0⟩:=bW.cells ku
     have HY:=ajK (bW.xE ku (e3));have F4:=ajK (bW.zf ku rZ (e3))
     obtain ⟨⟨y0,y1,y2⟩,yc,_⟩:=bW.cells HY.out
     clear ku rZ
     go_wp2_with fail
     exact bodyPost_ret (v:=.tuple #[.agg #[.int .i64 (0),.int .i64 (0),.slice none 0 0],.int .i64 (e3)]) (by simp [results,Tryz.results77,go_sem,y0,y1,y2,yc,x0,x1,x2,ec]) rfl ⟨.slice none 0 0,by rw [HV.out];rfl,by rw [HV.out];exact aM.nil _ _,HY.out.b⟩
   ·have g2:=G6.out.cell 2
    simp at g2
    have hb1 : ¬ g.base ≥ 0:=hb0
    go_wp2_with fail
    refine (mX false 14 _ (e2) u6 H6.out.e).mono ?_
    rintro r u7 ⟨rfl,hE,hO⟩
    have H7:=ajK (H6.out.refuse hE hO)
    have G7:=ajK (hO.blk G6.out (by have:=HN.out;omega))
    have R7:=ajK (R6.out.only hO (λj e=>by have:=(R6.out.1.lt j e).1;have:=HN.out;omega))
    have B7:=ajK (hO.blk B6.out (by have:=BL6.out;have:=H5.out.sz;omega))
    have Tt:=ajK (eX.only BE6.out hO (λx hx hh=>by have:=H5.out.sS _ (tH.out.2.2 x hx);omega))
    clear hE hO
    obtain ⟨e3,wM⟩ : ∃ x,(if (e2 : Int) = 0 /\ false = true then (14 : Int) else e2) = x:=⟨_,rfl⟩
    rw [wM] at H7
    have IZ:=ajK wM;clear wM
    have vD : Hid (e3 = E3):=ajK (by rw [Hq.out,← IZ.out,← Oj.out,← Oi.out];cases th <;> cases sl <;> simp [hb0])
    clear Hq Oi Oj IZ
    obtain ⟨⟨x0,x1,x2⟩,ec,⟨f0,f1,f2⟩,fe,t0⟩:=H7.out.cells
    by_cases h3 : e3 = 0
    ·subst h3
     have HZ2:=ajK (HZ1.out.trans (if_neg (by rw [← vD.out];simp)))
     clear HZ1 vD
     obtain ⟨Tv,Tw,Tx,Tz⟩ : u7.cell? ⟨w1.heap.size,0,none⟩ = some (.int .i64 g.tick) /\ u7.cell? ⟨w1.heap.size,1,none⟩ = some (.int .i64 g.time) /\ u7.cell? ⟨w1.heap.size,2,none⟩ = some (.int .i64 g.base) /\ u7.cell? ⟨w1.heap.size,3,none⟩ = some (.slice ga g.recs.length vJ):=by
      have e0:=G7.out.cell 0;have e1:=G7.out.cell 1;have e2:=G7.out.cell 2;have e3:=G7.out.cell 3;simp at e0 e1 e2 e3
      exact ⟨e0,e1,e2,e3⟩
     have k0:=B7.out.cell 0;have k1:=B7.out.cell 1;have k2:=B7.out.cell 2;simp at k0 k1 k2
     have hap : Calls Tryz.prog 117 #[.agg #[.int .i64 bt,.int .i64 bm,.slice ba Ed.length bc],.agg #[.int .i64 g.tick,.int .i64 g.time,.int .i64 g.base,.slice ga g.recs.length vJ]] u7 _:=ap u7 Tt.out ga vJ (by
      obtain ⟨ga',gc',e,hh,_⟩:=R7.out.recs
      cases e
      exact hh)
     generalize jw ⟨bt,bm,Ed⟩ g = y at *
     go_wp2_with fail
     refine hap.mono ?_
     rintro e u8 ⟨v,rfl,sO,hb⟩
     obtain ⟨va,vc,rfl,_⟩:=sO.slice
     have yJ:=H7.out.below hb
     obtain ⟨⟨z0,z1,z2⟩,zc,⟨xw,xA,xB⟩,TA,_⟩:=yJ.cells
     have aa9:=H7.out.sz
     obtain ⟨u9,kU⟩ : ∃ u,((u8.setCell ⟨w.heap.size,0,none⟩ (.int .i64 y.1.tick)).setCell ⟨w.heap.size,1,none⟩ (.int .i64 y.1.time)).setCell ⟨w.heap.size,2,none⟩ (.slice va y.1.ents.length vc) = u:=⟨_,rfl⟩
     have vE:=yJ.za y.1.tick y.1.time (.slice va y.1.ents.length vc)
     have dQ:=yJ.ze (aM.base sO (show w.heap.size <= u7.heap.size by omega)) y.1.tick y.1.time (.slice va y.1.ents.length vc)
     rw [kU] at vE dQ
     obtain ⟨_,yc,_,TB,_⟩:=vE.cells
     obtain ⟨TD,Cu⟩ : ∃ u,u9.setCell ⟨w.heap.size + 1,0,none⟩ (.int .i64 y.2) = u:=⟨_,rfl⟩
     have pU:=vE.xE y.2;have xG:=vE.zf dQ y.2
     rw [Cu] at pU xG
     have TF:=ajK pU;have TG:=ajK xG
     obtain ⟨⟨x0,x1,x2⟩,ec,⟨f0,f1,f2⟩,fe,t0⟩:=pU.cells
     have tm:=uD T R l most floor gone S' y.1.tick y.1.time (.slice va y.1.ents.length vc) TD pU.st
     generalize fO l y.1.tick y.1.time = tv at *
     clear hap sO hb yJ vE dQ pU xG Tv Tw Tx Tz k0 k1 k2 ap
     go_wp2_with fail
     clear kU Cu z0 z1 z2 zc xw xA xB TA yc TB
     refine tm.mono ?_
     rintro e TH ⟨rfl,hb⟩
     have Cv:=ajK (TF.out.below hb);have I4:=ajK (aM.below TG.out hb);clear hb tm x0 x1 x2 ec f0 f1 f2 fe t0
     go_wp2_with fail
     refine (mX (!tv) 16 _ y.2 TH Cv.out.e).mono ?_
     rintro r I5 ⟨rfl,hE,hO⟩
     have I6:=ajK (Cv.out.refuse hE hO)
     have TI:=ajK (aM.only I4.out hO (λj hj hk=>bI I4.out Cv.out.e (by decide) (by rw [hj,hk])))
     clear hE hO
     obtain ⟨e5,Cw⟩ : ∃ x,(if (y.2 : Int) = 0 /\ (!tv) = true then (16 : Int) else y.2) = x:=⟨_,rfl⟩
     rw [Cw] at I6
     have HV : Hid (z = (y.1,e5)):=ajK (by rw [HZ2.out,← Cw];cases tv <;> simp)
     clear Cw HZ2
     have HI : Hid (bW w T R l most floor gone S' (y.1.tick) (y.1.time) (.slice va y.1.ents.length vc) (e5) I5.drew /\ aM I5.drew w.heap.size (.slice va y.1.ents.length vc) (y.1.ents)):=ajK ⟨I6.out.below (below_drewN ajM 1),aM.below TI.out (below_drewN ajM 1)⟩
     go_wp2_with fail
     apply iE (I:=(λW=>bW w T R l most floor gone S' (y.1.tick) (y.1.time) (.slice va y.1.ents.length vc) (e5) W /\ aM W w.heap.size (.slice va y.1.ents.length vc) (y.1.ents))) 3
     case hm=>kernel_rfl
     case hB=>kernel_rfl
     case hI=>exact HI.out
     simp only [List.take_succ_cons,List.take_zero,List.drop_succ_cons,List.drop_zero]
     repeat (apply aF;(next=>(intro W hW K hK;obtain ⟨⟨x0,x1,x2⟩,ec,⟨f0,f1,f2⟩,fe,t0⟩:=bW.cells hW.1;have HX:=ajK (And.intro (bW.za hW.1 (y.1.tick) (y.1.time) (.slice va y.1.ents.length vc)) (bW.ze hW.1 hW.2 (y.1.tick) (y.1.time) (.slice va y.1.ents.length vc)));go_simp;first | exact ⟨hW,hK⟩ | exact ⟨HX.out,hK⟩ | exact hK));(next=>exact ⟨_,HI.out⟩);(try go_simp))
     refine aX ?_
     intro WZ ku rZ
     obtain ⟨⟨x0,x1,x2⟩,ec,⟨f0,f1,f2⟩,fe,t0⟩:=bW.cells ku
     have HY:=ajK (bW.xE ku (e5));have F4:=ajK (bW.zf ku rZ (e5))
     obtain ⟨⟨y0,y1,y2⟩,yc,_⟩:=bW.cells HY.out
     clear ku rZ
     go_wp2_with fail
     exact bodyPost_ret (v:=.tuple #[.agg #[.int .i64 (y.1.tick),.int .i64 (y.1.time),.slice va y.1.ents.length vc],.int .i64 (e5)]) (by simp [results,Tryz.results77,go_sem,y0,y1,y2,yc,x0,x1,x2,ec]) rfl ⟨_,by rw [HV.out],by rw [HV.out];exact F4.out,HY.out.b⟩
    ·have h3n : (e3 == 0) = false:=by simpa using h3
     have HV : Hid (z = (fu,e3)):=ajK (by rw [HZ1.out,← vD.out,if_pos (by simpa using h3)])
     clear HZ1 vD ap;have tm:=uD T R l most floor gone S' 0 0 (.slice none 0 0) u7 H7.out.st
     generalize fO l 0 0 = tv at *
     go_wp2_with fail
     refine tm.mono ?_
     rintro e u8 ⟨rfl,hb⟩
     have H8:=ajK (H7.out.below hb);clear hb tm x0 x1 x2 ec f0 f1 f2 fe t0
     go_wp2_with fail
     refine (mX (!tv) 16 _ e3 u8 H8.out.e).mono ?_
     rintro r u9 ⟨rfl,hE,hO⟩
     have H9:=ajK (H8.out.refuse hE hO);clear hE hO
     rw [if_neg (by simp [h3])] at H9
     have HI : Hid (bW w T R l most floor gone S' (0) (0) (.slice none 0 0) (e3) u9.drew /\ aM u9.drew w.heap.size (.slice none 0 0) ([])):=ajK ⟨H9.out.below (below_drewN ajM 1),aM.nil _ _⟩
     go_wp2_with fail
     apply iE (I:=(λW=>bW w T R l most floor gone S' (0) (0) (.slice none 0 0) (e3) W /\ aM W w.heap.size (.slice none 0 0) ([]))) 3
     case hm=>kernel_rfl
     case hB=>kernel_rfl
     case hI=>exact HI.out
     simp only [List.take_succ_cons,List.take_zero,List.drop_succ_cons,List.drop_zero]
     repeat (apply aF;(next=>(intro W hW K hK;obtain ⟨⟨x0,x1,x2⟩,ec,⟨f0,f1,f2⟩,fe,t0⟩:=bW.cells hW.1;have HX:=ajK (And.intro (bW.za hW.1 (0) (0) (.slice none 0 0)) (bW.ze hW.1 hW.2 (0) (0) (.slice none 0 0)));go_simp;first | exact ⟨hW,hK⟩ | exact ⟨HX.out,hK⟩ | exact hK));(next=>exact ⟨_,HI.out⟩);(try go_simp))
     refine aX ?_
     intro WZ ku rZ
     obtain ⟨⟨x0,x1,x2⟩,ec,⟨f0,f1,f2⟩,fe,t0⟩:=bW.cells ku
     have HY:=ajK (bW.xE ku (e3));have F4:=ajK (bW.zf ku rZ (e3))
     obtain ⟨⟨y0,y1,y2⟩,yc,_⟩:=bW.cells HY.out
     clear ku rZ
     go_wp2_with fail
     exact bodyPost_ret (v:=.tuple #[.agg #[.int .i64 (0),.int .i64 (0),.slice none 0 0],.int .i64 (e3)]) (by simp [results,Tryz.results77,go_sem,y0,y1,y2,yc,x0,x1,x2,ec]) rfl ⟨.slice none 0 0,by rw [HV.out];rfl,by rw [HV.out];exact aM.nil _ _,HY.out.b⟩
  ·go_wp2_with fail
   refine (mX false 14 _ (e2) u6 H6.out.e).mono ?_
   rintro r u7 ⟨rfl,hE,hO⟩
   have H7:=ajK (H6.out.refuse hE hO)
   have G7:=ajK (hO.blk G6.out (by have:=HN.out;omega))
   have R7:=ajK (R6.out.only hO (λj e=>by have:=(R6.out.1.lt j e).1;have:=HN.out;omega))
   have B7:=ajK (hO.blk B6.out (by have:=BL6.out;have:=H5.out.sz;omega))
   have Tt:=ajK (eX.only BE6.out hO (λx hx hh=>by have:=H5.out.sS _ (tH.out.2.2 x hx);omega))
   clear hE hO
   obtain ⟨e3,wM⟩ : ∃ x,(if (e2 : Int) = 0 /\ false = true then (14 : Int) else e2) = x:=⟨_,rfl⟩
   rw [wM] at H7
   have IZ:=ajK wM;clear wM
   have vD : Hid (e3 = E3):=ajK (by rw [Hq.out,← IZ.out,← Oj.out,← Oi.out];cases th <;> cases sl <;> simp)
   clear Hq Oi Oj IZ
   obtain ⟨⟨x0,x1,x2⟩,ec,⟨f0,f1,f2⟩,fe,t0⟩:=H7.out.cells
   by_cases h3 : e3 = 0
   ·subst h3
    have HZ2:=ajK (HZ1.out.trans (if_neg (by rw [← vD.out];simp)))
    clear HZ1 vD
    obtain ⟨Tv,Tw,Tx,Tz⟩ : u7.cell? ⟨w1.heap.size,0,none⟩ = some (.int .i64 g.tick) /\ u7.cell? ⟨w1.heap.size,1,none⟩ = some (.int .i64 g.time) /\ u7.cell? ⟨w1.heap.size,2,none⟩ = some (.int .i64 g.base) /\ u7.cell? ⟨w1.heap.size,3,none⟩ = some (.slice ga g.recs.length vJ):=by
     have e0:=G7.out.cell 0;have e1:=G7.out.cell 1;have e2:=G7.out.cell 2;have e3:=G7.out.cell 3;simp at e0 e1 e2 e3
     exact ⟨e0,e1,e2,e3⟩
    have k0:=B7.out.cell 0;have k1:=B7.out.cell 1;have k2:=B7.out.cell 2;simp at k0 k1 k2
    have hap : Calls Tryz.prog 117 #[.agg #[.int .i64 bt,.int .i64 bm,.slice ba Ed.length bc],.agg #[.int .i64 g.tick,.int .i64 g.time,.int .i64 g.base,.slice ga g.recs.length vJ]] u7 _:=ap u7 Tt.out ga vJ (by
     obtain ⟨ga',gc',e,hh,_⟩:=R7.out.recs
     cases e
     exact hh)
    generalize jw ⟨bt,bm,Ed⟩ g = y at *
    go_wp2_with fail
    refine hap.mono ?_
    rintro e u8 ⟨v,rfl,sO,hb⟩
    obtain ⟨va,vc,rfl,_⟩:=sO.slice
    have yJ:=H7.out.below hb
    obtain ⟨⟨z0,z1,z2⟩,zc,⟨xw,xA,xB⟩,TA,_⟩:=yJ.cells
    have aa9:=H7.out.sz
    obtain ⟨u9,kU⟩ : ∃ u,((u8.setCell ⟨w.heap.size,0,none⟩ (.int .i64 y.1.tick)).setCell ⟨w.heap.size,1,none⟩ (.int .i64 y.1.time)).setCell ⟨w.heap.size,2,none⟩ (.slice va y.1.ents.length vc) = u:=⟨_,rfl⟩
    have vE:=yJ.za y.1.tick y.1.time (.slice va y.1.ents.length vc)
    have dQ:=yJ.ze (aM.base sO (show w.heap.size <= u7.heap.size by omega)) y.1.tick y.1.time (.slice va y.1.ents.length vc)
    rw [kU] at vE dQ
    obtain ⟨_,yc,_,TB,_⟩:=vE.cells
    obtain ⟨TD,Cu⟩ : ∃ u,u9.setCell ⟨w.heap.size + 1,0,none⟩ (.int .i64 y.2) = u:=⟨_,rfl⟩
    have pU:=vE.xE y.2;have xG:=vE.zf dQ y.2
    rw [Cu] at pU xG
    have TF:=ajK pU;have TG:=ajK xG
    obtain ⟨⟨x0,x1,x2⟩,ec,⟨f0,f1,f2⟩,fe,t0⟩:=pU.cells
    have tm:=uD T R l most floor gone S' y.1.tick y.1.time (.slice va y.1.ents.length vc) TD pU.st
    generalize fO l y.1.tick y.1.time = tv at *
    clear hap sO hb yJ vE dQ pU xG Tv Tw Tx Tz k0 k1 k2 ap
    go_wp2_with fail
    clear kU Cu z0 z1 z2 zc xw xA xB TA yc TB
    refine tm.mono ?_
    rintro e TH ⟨rfl,hb⟩
    have Cv:=ajK (TF.out.below hb);have I4:=ajK (aM.below TG.out hb);clear hb tm x0 x1 x2 ec f0 f1 f2 fe t0
    go_wp2_with fail
    refine (mX (!tv) 16 _ y.2 TH Cv.out.e).mono ?_
    rintro r I5 ⟨rfl,hE,hO⟩
    have I6:=ajK (Cv.out.refuse hE hO)
    have TI:=ajK (aM.only I4.out hO (λj hj hk=>bI I4.out Cv.out.e (by decide) (by rw [hj,hk])))
    clear hE hO
    obtain ⟨e5,Cw⟩ : ∃ x,(if (y.2 : Int) = 0 /\ (!tv) = true then (16 : Int) else y.2) = x:=⟨_,rfl⟩
    rw [Cw] at I6
    have HV : Hid (z = (y.1,e5)):=ajK (by rw [HZ2.out,← Cw];cases tv <;> simp)
    clear Cw HZ2
    have HI : Hid (bW w T R l most floor gone S' (y.1.tick) (y.1.time) (.slice va y.1.ents.length vc) (e5) I5.drew /\ aM I5.drew w.heap.size (.slice va y.1.ents.length vc) (y.1.ents)):=ajK ⟨I6.out.below (below_drewN ajM 1),aM.below TI.out (below_drewN ajM 1)⟩
    go_wp2_with fail
    apply iE (I:=(λW=>bW w T R l most floor gone S' (y.1.tick) (y.1.time) (.slice va y.1.ents.length vc) (e5) W /\ aM W w.heap.size (.slice va y.1.ents.length vc) (y.1.ents))) 3
    case hm=>kernel_rfl
    case hB=>kernel_rfl
    case hI=>exact HI.out
    simp only [List.take_succ_cons,List.take_zero,List.drop_succ_cons,List.drop_zero]
    repeat (apply aF;(next=>(intro W hW K hK;obtain ⟨⟨x0,x1,x2⟩,ec,⟨f0,f1,f2⟩,fe,t0⟩:=bW.cells hW.1;have HX:=ajK (And.intro (bW.za hW.1 (y.1.tick) (y.1.time) (.slice va y.1.ents.length vc)) (bW.ze hW.1 hW.2 (y.1.tick) (y.1.time) (.slice va y.1.ents.length vc)));go_simp;first | exact ⟨hW,hK⟩ | exact ⟨HX.out,hK⟩ | exact hK));(next=>exact ⟨_,HI.out⟩);(try go_simp))
    refine aX ?_
    intro WZ ku rZ
    obtain ⟨⟨x0,x1,x2⟩,ec,⟨f0,f1,f2⟩,fe,t0⟩:=bW.cells ku
    have HY:=ajK (bW.xE ku (e5));have F4:=ajK (bW.zf ku rZ (e5))
    obtain ⟨⟨y0,y1,y2⟩,yc,_⟩:=bW.cells HY.out
    clear ku rZ
    go_wp2_with fail
    exact bodyPost_ret (v:=.tuple #[.agg #[.int .i64 (y.1.tick),.int .i64 (y.1.time),.slice va y.1.ents.length vc],.int .i64 (e5)]) (by simp [results,Tryz.results77,go_sem,y0,y1,y2,yc,x0,x1,x2,ec]) rfl ⟨_,by rw [HV.out],by rw [HV.out];exact F4.out,HY.out.b⟩
   ·have h3n : (e3 == 0) = false:=by simpa using h3
    have HV : Hid (z = (fu,e3)):=ajK (by rw [HZ1.out,← vD.out,if_pos (by simpa using h3)])
    clear HZ1 vD ap;have tm:=uD T R l most floor gone S' 0 0 (.slice none 0 0) u7 H7.out.st
    generalize fO l 0 0 = tv at *
    go_wp2_with fail
    refine tm.mono ?_
    rintro e u8 ⟨rfl,hb⟩
    have H8:=ajK (H7.out.below hb);clear hb tm x0 x1 x2 ec f0 f1 f2 fe t0
    go_wp2_with fail
    refine (mX (!tv) 16 _ e3 u8 H8.out.e).mono ?_
    rintro r u9 ⟨rfl,hE,hO⟩
    have H9:=ajK (H8.out.refuse hE hO);clear hE hO
    rw [if_neg (by simp [h3])] at H9
    have HI : Hid (bW w T R l most floor gone S' (0) (0) (.slice none 0 0) (e3) u9.drew /\ aM u9.drew w.heap.size (.slice none 0 0) ([])):=ajK ⟨H9.out.below (below_drewN ajM 1),aM.nil _ _⟩
    go_wp2_with fail
    apply iE (I:=(λW=>bW w T R l most floor gone S' (0) (0) (.slice none 0 0) (e3) W /\ aM W w.heap.size (.slice none 0 0) ([]))) 3
    case hm=>kernel_rfl
    case hB=>kernel_rfl
    case hI=>exact HI.out
    simp only [List.take_succ_cons,List.take_zero,List.drop_succ_cons,List.drop_zero]
    repeat (apply aF;(next=>(intro W hW K hK;obtain ⟨⟨x0,x1,x2⟩,ec,⟨f0,f1,f2⟩,fe,t0⟩:=bW.cells hW.1;have HX:=ajK (And.intro (bW.za hW.1 (0) (0) (.slice none 0 0)) (bW.ze hW.1 hW.2 (0) (0) (.slice none 0 0)));go_simp;first | exact ⟨hW,hK⟩ | exact ⟨HX.out,hK⟩ | exact hK));(next=>exact ⟨_,HI.out⟩);(try go_simp))
    refine aX ?_
    intro WZ ku rZ
    obtain ⟨⟨x0,x1,x2⟩,ec,⟨f0,f1,f2⟩,fe,t0⟩:=bW.cells ku
    have HY:=ajK (bW.xE ku (e3));have F4:=ajK (bW.zf ku rZ (e3))
    obtain ⟨⟨y0,y1,y2⟩,yc,_⟩:=bW.cells HY.out
    clear ku rZ
    go_wp2_with fail
    exact bodyPost_ret (v:=.tuple #[.agg #[.int .i64 (0),.int .i64 (0),.slice none 0 0],.int .i64 (e3)]) (by simp [results,Tryz.results77,go_sem,y0,y1,y2,yc,x0,x1,x2,ec]) rfl ⟨.slice none 0 0,by rw [HV.out];rfl,by rw [HV.out];exact aM.nil _ _,HY.out.b⟩
 ·have hne : (e0 != 0) = true:=by simpa using he0
  obtain rfl : z = (fu,e0):=by rw [HZ.out,if_pos he0]
  have HI : Hid (bW w T R l most floor gone S' (0) (0) (.slice none 0 0) (e0) u1.drew /\ aM u1.drew w.heap.size (.slice none 0 0) ([])):=ajK ⟨H1.out.below (below_drewN ajM 1),aM.nil _ _⟩
  go_wp2_with fail
  apply iE (I:=(λW=>bW w T R l most floor gone S' (0) (0) (.slice none 0 0) (e0) W /\ aM W w.heap.size (.slice none 0 0) ([]))) 3
  case hm=>kernel_rfl
  case hB=>kernel_rfl
  case hI=>exact HI.out
  simp only [List.take_succ_cons,List.take_zero,List.drop_succ_cons,List.drop_zero]
  repeat (apply aF;(next=>(intro W hW K hK;obtain ⟨⟨x0,x1,x2⟩,ec,⟨f0,f1,f2⟩,fe,t0⟩:=bW.cells hW.1;have HX:=ajK (And.intro (bW.za hW.1 (0) (0) (.slice none 0 0)) (bW.ze hW.1 hW.2 (0) (0) (.slice none 0 0)));go_simp;first | exact ⟨hW,hK⟩ | exact ⟨HX.out,hK⟩ | exact hK));(next=>exact ⟨_,HI.out⟩);(try go_simp))
  refine aX ?_
  intro WZ ku rZ
  obtain ⟨⟨x0,x1,x2⟩,ec,⟨f0,f1,f2⟩,fe,t0⟩:=bW.cells ku
  have HY:=ajK (bW.xE ku (e0));have F4:=ajK (bW.zf ku rZ (e0))
  obtain ⟨⟨y0,y1,y2⟩,yc,_⟩:=bW.cells HY.out
  clear ku rZ
  go_wp2_with fail
  exact bodyPost_ret (v:=.tuple #[.agg #[.int .i64 (0),.int .i64 (0),.slice none 0 0],.int .i64 (e0)]) (by simp [results,Tryz.results77,go_sem,y0,y1,y2,yc,x0,x1,x2,ec]) rfl ⟨.slice none 0 0,rfl,aM.nil _ _,HY.out.b⟩
end Go.Proofs.YtklkooeimkedgaaGreat
