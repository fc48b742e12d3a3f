/- Parts of the walk of TopOrders: Store2, Store3, Store4. -/
import Derived.Test.YtklkooeimkedgaaGreatO0
import Derived.Laws.AppendOwnNone
import Derived.Laws.OwnMore
import Derived.Test.YtklkooeimkedgaaGreatO28
import Derived.Test.YtklkooeimkedgaaGreatO43
set_option linter.unusedVariables false
set_option linter.unusedSimpArgs false
namespace Go.Proofs.YtklkooeimkedgaaGreat
open Go.RowKit
set_option maxRecDepth 100000
theorem FB {ops : Array Oper} {rest : List Oper} {o : Oper} {a : Act} {Q : Exit -> Act -> World -> Prop} (w : World) (hgd : o.guard = none) (s x : Operand)
  (ho : o.op = .call { callee:=.builtin .append,args:=#[s,x],argTypes:=#[34,34] })
  (base : Nat) (v : Value) (xs : List ay) (hs : a.eval s = v) (hown : aK w base v xs)
  (ao : Option Addr) (c : Nat) (es : List ay) (hx : a.eval x = .slice ao es.length c) (hz : dH w ao es) (hc : ao = none -> c = 0)
  (hb : xs.length + es.length <= 1000000) (hbase : base <= w.heap.size)
  (h : ∀ v' w',aK w' base v' (xs ++ es) -> w.grownBy w' v.ownBlock -> wpList Tryz.prog ops Q rest (a.put o.dst v') w') : wpList Tryz.prog ops Q (o :: rest) a w:=by
 obtain ⟨i0,hi,hz0,hz1,hz2⟩:=info_parts M9
 cases ao with
 | none =>
  obtain rfl:=hc rfl
  have hm : es = []:=by
   rcases hz.2 with hz | ⟨b,off,e,_⟩
   ·exact List.eq_nil_of_length_eq_zero hz
   ·cases e
  subst hm
  refine wpList_append_own_none hgd s x 34 ho base 33 i0 9 Tryz.underlying34 hi v xs.length (xs.flatMap kg) hs hown hx ?_
  have:=h v w (by simpa using hown) (World.grownBy.refl _ _)
  exact this
 | some ad =>
  have hlen : ∀ l : List ay,(l.flatMap kg).length = l.length * 9:=λl=>qG (λ_=>rfl) l
  refine wpList_append_own w hgd s x 34 ho base 33 i0 (.agg #[.int .i64 0,.int .i64 0,.int .i64 0,.int .i64 0,.int .i64 0,.int .i64 0,.int .i64 0,.int .u16 0,.int .u8 0]) 9 64 Tryz.underlying34 hi hz0 hz1 hz2 rfl (by decide) v xs.length (xs.flatMap kg) hs hown ad es.length c (es.flatMap kg) hx (hlen es) ?_ ?_ (by unfold maxLen;omega) (by omega) hbase ?_
  ·intro j u hj
   have hne : es ≠ []:=by rintro rfl;simp at hj
   obtain ⟨b,off,e,hcell⟩:=hz.own hne
   cases e
   have e : (⟨b,off,none⟩ : Addr).add j = ⟨b,off + j,none⟩:=by unfold Addr.add;split <;> simp_all
   rw [e]
   exact hcell j u hj
  ·intro u hu
   obtain ⟨e,_,he⟩:=List.mem_flatMap.1 hu
   simp [kg] at he
   rcases he with rfl | rfl | rfl | rfl | rfl | rfl | rfl | rfl | rfl <;> rfl
  ·intro v' w' h1 h2 _
   refine h v' w' ?_ h2
   unfold aK
   rw [List.length_append,List.flatMap_append]
   exact h1
set_option maxHeartbeats 1000000 in
theorem O6 (tick time : Int) (a : Option Addr) (cap : Nat) (es : List ay) (w : World) (h : dH w a es) (hc : a = none -> cap = 0) (hl : es.length <= 1000) :
  Calls Tryz.prog 79 #[.agg #[.int .i64 tick,.int .i64 time,.slice a es.length cap]] w λe w'=>∃ a' c',e = .returned (.agg #[.int .i64 tick,.int .i64 time,.slice a' es.length c']) /\ aK w' w.heap.size (.slice a' es.length c') es /\ Below w.heap.size w w':=by
 obtain ⟨w1,hw1⟩ : ∃ w1,((w.alloc (.cells #[.int .i64 tick,.int .i64 time,.slice a es.length cap] 36)).alloc (.cells #[.int .i64 0,.int .i64 0,.slice none 0 0] 36)).alloc (.cells #[] 33) = w1:=⟨_,rfl⟩
 have hB1 : Below w.heap.size w w1:=by rw [← hw1];exact (((Below.refl _ _).alloc (Nat.le_refl _) _).alloc (by simp) _).alloc (by simp;omega) _
 have HX : Hid (ak w1 w.heap.size #[.int .i64 tick,.int .i64 time,.slice a es.length cap] 36):=ahZ (by rw [← hw1];exact ((ak.new _ _ _).alloc _).alloc _)
 have HY : Hid (ak w1 (w.heap.size + 1) #[.int .i64 0,.int .i64 0,.slice none 0 0] 36):=ahZ (by
  rw [← hw1]
  have:=(ak.new (w.alloc (.cells #[.int .i64 tick,.int .i64 time,.slice a es.length cap] 36)) #[.int .i64 0,.int .i64 0,.slice none 0 0] 36).alloc (.cells #[] 33)
  simpa using this)
 have HO : Hid (aK w1 w.heap.size (.slice (some ⟨w.heap.size + 2,0,none⟩) 0 0) []):=ahZ (by
  refine ⟨rfl,.inr ⟨w.heap.size + 2,0,#[],rfl,by omega,?_,Nat.le_refl _,by unfold maxLen;omega,rfl,rfl⟩⟩
  rw [← hw1]
  have:=ak.new ((w.alloc (.cells #[.int .i64 tick,.int .i64 time,.slice a es.length cap] 36)).alloc (.cells #[.int .i64 0,.int .i64 0,.slice none 0 0] 36)) #[] 33
  unfold ak at this
  simpa using this)
 have HE:=ahZ (h.below hB1)
 have HB:=ahZ hB1
 have c0:=HX.out.cell 0
 have c1:=HX.out.cell 1
 have c2:=HX.out.cell 2
 simp at c0 c1 c2
 clear h hB1
 go_enter Tryz.func79,Tryz.ntmps79
 go_wp2_with (at_builtin;refine FB w1 rfl (.tmp 3) (.tmp 5) rfl w.heap.size _ [] rfl HO.out a cap es rfl HE.out hc (by simp;omega) HB.out.size ?_)
 intro v' w' hO hg
 clear hw1 c0 c1 c2
 obtain ⟨a',c',rfl,_⟩:=hO.slice
 have hX:=HX.out.grown hg (by simp [Value.ownBlock] <;> omega)
 have hY:=HY.out.grown hg (by simp [Value.ownBlock] <;> omega)
 have hB2 : Below w.heap.size w w':=HB.out.grown hg HB.out.size (λk hk=>by simp [Value.ownBlock] at hk;omega)
 have nX : (Value.slice a' es.length c').ownBlock ≠ some w.heap.size:=bK hO hX (by decide)
 have nY : (Value.slice a' es.length c').ownBlock ≠ some (w.heap.size + 1):=bK hO hY (by decide)
 have p2:=hX.cell 2
 have q2:=hX.free 2
 simp at p2
 have hX2:=hX.set 2 (.slice a' es.length c')
 simp at hX2
 have hY2 : ak (w'.setCell ⟨w.heap.size,2,none⟩ (.slice a' es.length c')) (w.heap.size + 1) #[.int .i64 0,.int .i64 0,.slice none 0 0] 36:=hY.far (p:=⟨w.heap.size,2,none⟩) (by simp) (.slice a' es.length c')
 have r0:=hX2.cell 0
 have r1:=hX2.cell 1
 have r2:=hX2.cell 2
 have y0:=hY2.cell 0
 have y1:=hY2.cell 1
 have y2:=hY2.cell 2
 have z0:=hY2.free 0
 have z1:=hY2.free 1
 have z2:=hY2.free 2
 simp at r0 r1 r2 y0 y1 y2 z0 z1 z2
 have HF : Hid (aK ((((w'.setCell ⟨w.heap.size,2,none⟩ (.slice a' es.length c')).setCell ⟨w.heap.size + 1,0,none⟩ (.int .i64 tick)).setCell ⟨w.heap.size + 1,1,none⟩ (.int .i64 time)).setCell ⟨w.heap.size + 1,2,none⟩ (.slice a' es.length c')) w.heap.size (.slice a' es.length c') es /\ Below w.heap.size w ((((w'.setCell ⟨w.heap.size,2,none⟩ (.slice a' es.length c')).setCell ⟨w.heap.size + 1,0,none⟩ (.int .i64 tick)).setCell ⟨w.heap.size + 1,1,none⟩ (.int .i64 time)).setCell ⟨w.heap.size + 1,2,none⟩ (.slice a' es.length c'))):=ahZ (by
  have ho1 : Only (λk=>k = w.heap.size \/ k = w.heap.size + 1) w' ((((w'.setCell ⟨w.heap.size,2,none⟩ (.slice a' es.length c')).setCell ⟨w.heap.size + 1,0,none⟩ (.int .i64 tick)).setCell ⟨w.heap.size + 1,1,none⟩ (.int .i64 time)).setCell ⟨w.heap.size + 1,2,none⟩ (.slice a' es.length c')) :=
   sw (Only.setCell (S:=λk=>k = w.heap.size \/ k = w.heap.size + 1) (p:=⟨w.heap.size,2,none⟩) (Only.refl _ _) (.inl (.inl rfl)) _) (.inl (.inr rfl))
  refine ⟨hO.only ho1 (λj hj hk=>?_),hB2.trans (ho1.below hB2.size (λk hk=>by omega))⟩
  rcases hk with rfl | rfl
  ·exact nX hj
  ·exact nY hj)
 clear hX hY hB2 nX nY hX2 hY2 hO hg
 go_wp2_with fail
 exact bodyPost_ret (v:=.agg #[.int .i64 tick,.int .i64 time,.slice a' es.length c']) (by simp [results,Tryz.results79,go_sem,r0,r1,r2,y0,y1,y2]) rfl ⟨a',c',rfl,HF.out⟩
set_option maxHeartbeats 1000000 in
theorem mM (is : Bool) (why : Int) (E : Nat) (e : Int) (w : World) (h : ak w E #[.int .i64 e] 25) :
  Calls Tryz.prog 115 #[.bool is,.int .i64 why,.pointer (some ⟨E,0,none⟩)] w λr w'=>r = .returned (.tuple #[]) /\ ak w' E #[.int .i64 (if e = 0 /\ is = true then why else e)] 25 /\ Only (λk=>k = E) w w':=by
 have c0:=h.cell 0
 have f0:=h.free 0
 simp at c0
 have HB:=ahZ h
 clear h
 by_cases he : e = 0
 ·subst he
  cases is
  ·have HV : Hid ((if (0 : Int) = 0 /\ false = true then why else 0) = 0):=ahZ (by simp)
   generalize (if (0 : Int) = 0 /\ false = true then why else 0) = v at *
   go_enter Tryz.func115,Tryz.ntmps115
   go_wp2_with fail
   exact bodyPost_end (v:=.tuple #[]) (by simp [results,Tryz.results115,go_sem]) rfl ⟨rfl,by rw [HV.out];exact HB.out,Only.refl _ _⟩
  ·have HV : Hid ((if (0 : Int) = 0 /\ true = true then why else 0) = why):=ahZ (by simp)
   generalize (if (0 : Int) = 0 /\ true = true then why else 0) = v at *
   have HB2:=ahZ (show ak (w.setCell ⟨E,0,none⟩ (.int .i64 why)) E #[.int .i64 why] 25 by simpa using HB.out.set 0 (.int .i64 why))
   have HO:=ahZ (Only.setCell (S:=λk=>k = E) (p:=⟨E,0,none⟩) (Only.refl _ w) (.inl rfl) (.int .i64 why))
   go_enter Tryz.func115,Tryz.ntmps115
   go_wp2_with fail
   exact bodyPost_end (v:=.tuple #[]) (by simp [results,Tryz.results115,go_sem]) rfl ⟨rfl,by rw [HV.out];exact HB2.out,HO.out⟩
 ·have HV : Hid ((if e = 0 /\ is = true then why else e) = e):=ahZ (by rw [if_neg (λh=>he h.1)])
  generalize (if e = 0 /\ is = true then why else e) = v at *
  go_enter Tryz.func115,Tryz.ntmps115
  go_wp2_with fail
  exact bodyPost_end (v:=.tuple #[]) (by simp [results,Tryz.results115,go_sem]) rfl ⟨rfl,by rw [HV.out];exact HB.out,Only.refl _ _⟩
def gQ (l : List aG) (most floor : Int) (gone : Bool) (tick : Int) : Bool:=(gone && decide (tick <= floor)) || (decide ((l.length : Int) = most) && decide (dZ l tick = 0))
set_option maxHeartbeats 1000000 in
theorem Yb (T R : Nat) (l : List aG) (most floor : Int) (gone : Bool) (S : Nat -> Prop) (tick : Int) (w : World) (h : gN w T R l most floor gone S) :
  Calls Tryz.prog 116 #[.pointer (some ⟨T,0,none⟩),.int .i64 tick] w λe w'=>e = .returned (.bool (gQ l most floor gone tick)) /\ Below w.heap.size w w':=by
 have fl:=R8 R l most floor gone S w h.ring
 obtain ⟨d0,d1⟩:=h.cells
 have HS:=ahZ h
 have HV : Hid (gQ l most floor gone tick = ((gone && decide (tick <= floor)) || (decide ((l.length : Int) = most) && decide (dZ l tick = 0)))):=ahZ rfl
 generalize gQ l most floor gone tick = sv at *
 clear h
 cases gone
 ·by_cases hm : (l.length : Int) = most
  ·have hm' : ((l.length : Int) == most) = true:=by simpa using hm
   by_cases hu : dZ l tick = 0
   ·have hu1 : ((dZ l tick : Nat) : Int) = 0:=by omega
    obtain rfl : sv = true:=by rw [HV.out];simp [decide_eq_true_eq,hm,hu]
    clear HV
    go_enter Tryz.func116,Tryz.ntmps116
    go_wp2_with fail
    refine fl.mono ?_
    rintro e w1 ⟨rfl,hB1⟩
    have HB1:=ahZ hB1
    have HS2:=ahZ (HS.out.below hB1)
    obtain ⟨d0,d1⟩:=HS2.out.cells
    clear fl hB1
    go_wp2_with fail
    refine aR 27 (by kernel_rfl) (by kernel_rfl) ?_
    simp only [List.take_succ_cons,List.take_zero,List.drop_succ_cons,List.drop_zero]
    repeat (first | (apply aB;(next=>(intro W hW K hK;have y0:=hW.cell d0;have y1:=hW.cell d1;go_simp;first | exact ⟨hW,hK⟩ | exact hK));(next=>exact aO.self _);(try go_simp)) | (apply aB;(next=>(intro W hW K hK;go_simp;first | exact ⟨_,hW.of_eq (jC R l most floor false S W (HS2.out.ring.below hW)),hK⟩ | exact ⟨hW,_,hW.of_eq (jC R l most floor false S W (HS2.out.ring.below hW)),hK⟩));(next=>exact aO.self _);(try go_simp)) | (apply aB;(next=>(intro W hW K hK;go_simp;first | exact ⟨_,hW.call (iH R l most floor false S tick W (HS2.out.ring.below hW)),hK⟩ | exact ⟨hW,_,hW.call (iH R l most floor false S tick W (HS2.out.ring.below hW)),hK⟩));(next=>exact aO.self _);(try go_simp)))
    refine aW ?_
    intro WC aM
    have HC:=ahZ (HB1.out.trans (Below.mono aM HB1.out.size))
    clear aM d0 d1
    go_wp2_with fail
    exact bodyPost_ret (v:=.bool true) (by simp [results,Tryz.results116,go_sem,hu]) rfl ⟨rfl,HC.out⟩
   ·have hu1 : ¬ ((dZ l tick : Nat) : Int) = 0:=by omega
    obtain rfl : sv = false:=by rw [HV.out];simp [decide_eq_true_eq,hm,hu]
    clear HV
    go_enter Tryz.func116,Tryz.ntmps116
    go_wp2_with fail
    refine fl.mono ?_
    rintro e w1 ⟨rfl,hB1⟩
    have HB1:=ahZ hB1
    have HS2:=ahZ (HS.out.below hB1)
    obtain ⟨d0,d1⟩:=HS2.out.cells
    clear fl hB1
    go_wp2_with fail
    refine aR 27 (by kernel_rfl) (by kernel_rfl) ?_
    simp only [List.take_succ_cons,List.take_zero,List.drop_succ_cons,List.drop_zero]
    repeat (first | (apply aB;(next=>(intro W hW K hK;have y0:=hW.cell d0;have y1:=hW.cell d1;go_simp;first | exact ⟨hW,hK⟩ | exact hK));(next=>exact aO.self _);(try go_simp)) | (apply aB;(next=>(intro W hW K hK;go_simp;first | exact ⟨_,hW.of_eq (jC R l most floor false S W (HS2.out.ring.below hW)),hK⟩ | exact ⟨hW,_,hW.of_eq (jC R l most floor false S W (HS2.out.ring.below hW)),hK⟩));(next=>exact aO.self _);(try go_simp)) | (apply aB;(next=>(intro W hW K hK;go_simp;first | exact ⟨_,hW.call (iH R l most floor false S tick W (HS2.out.ring.below hW)),hK⟩ | exact ⟨hW,_,hW.call (iH R l most floor false S tick W (HS2.out.ring.below hW)),hK⟩));(next=>exact aO.self _);(try go_simp)))
    refine aW ?_
    intro WC aM
    have HC:=ahZ (HB1.out.trans (Below.mono aM HB1.out.size))
    clear aM d0 d1
    go_wp2_with fail
    exact bodyPost_ret (v:=.bool false) (by simp [results,Tryz.results116,go_sem,hu]) rfl ⟨rfl,HC.out⟩
  ·obtain rfl : sv = false:=by rw [HV.out];simp [decide_eq_true_eq,hm]
   clear HV
   go_enter Tryz.func116,Tryz.ntmps116
   go_wp2_with fail
   refine fl.mono ?_
   rintro e w1 ⟨rfl,hB1⟩
   have HB1:=ahZ hB1
   have HS2:=ahZ (HS.out.below hB1)
   obtain ⟨d0,d1⟩:=HS2.out.cells
   clear fl hB1
   go_wp2_with fail
   refine aR 27 (by kernel_rfl) (by kernel_rfl) ?_
   simp only [List.take_succ_cons,List.take_zero,List.drop_succ_cons,List.drop_zero]
   repeat (first | (apply aB;(next=>(intro W hW K hK;have y0:=hW.cell d0;have y1:=hW.cell d1;go_simp;first | exact ⟨hW,hK⟩ | exact hK));(next=>exact aO.self _);(try go_simp)) | (apply aB;(next=>(intro W hW K hK;go_simp;first | exact ⟨_,hW.of_eq (jC R l most floor false S W (HS2.out.ring.below hW)),hK⟩ | exact ⟨hW,_,hW.of_eq (jC R l most floor false S W (HS2.out.ring.below hW)),hK⟩));(next=>exact aO.self _);(try go_simp)) | (apply aB;(next=>(intro W hW K hK;go_simp;first | exact ⟨_,hW.call (iH R l most floor false S tick W (HS2.out.ring.below hW)),hK⟩ | exact ⟨hW,_,hW.call (iH R l most floor false S tick W (HS2.out.ring.below hW)),hK⟩));(next=>exact aO.self _);(try go_simp)))
   refine aW ?_
   intro WC aM
   have HC:=ahZ (HB1.out.trans (Below.mono aM HB1.out.size))
   clear aM d0 d1
   go_wp2_with fail
   exact bodyPost_ret (v:=.bool false) (by simp [results,Tryz.results116,go_sem]) rfl ⟨rfl,HC.out⟩
 ·by_cases hg : tick <= floor
  ·obtain rfl : sv = true:=by rw [HV.out];simp [hg]
   clear HV
   go_enter Tryz.func116,Tryz.ntmps116
   go_wp2_with fail
   refine fl.mono ?_
   rintro e w1 ⟨rfl,hB1⟩
   have HB1:=ahZ hB1
   have HS2:=ahZ (HS.out.below hB1)
   obtain ⟨d0,d1⟩:=HS2.out.cells
   clear fl hB1
   go_wp2_with fail
   refine aR 27 (by kernel_rfl) (by kernel_rfl) ?_
   simp only [List.take_succ_cons,List.take_zero,List.drop_succ_cons,List.drop_zero]
   repeat (first | (apply aB;(next=>(intro W hW K hK;have y0:=hW.cell d0;have y1:=hW.cell d1;go_simp;first | exact ⟨hW,hK⟩ | exact hK));(next=>exact aO.self _);(try go_simp)) | (apply aB;(next=>(intro W hW K hK;go_simp;first | exact ⟨_,hW.of_eq (jC R l most floor true S W (HS2.out.ring.below hW)),hK⟩ | exact ⟨hW,_,hW.of_eq (jC R l most floor true S W (HS2.out.ring.below hW)),hK⟩));(next=>exact aO.self _);(try go_simp)) | (apply aB;(next=>(intro W hW K hK;go_simp;first | exact ⟨_,hW.call (iH R l most floor true S tick W (HS2.out.ring.below hW)),hK⟩ | exact ⟨hW,_,hW.call (iH R l most floor true S tick W (HS2.out.ring.below hW)),hK⟩));(next=>exact aO.self _);(try go_simp)))
   refine aW ?_
   intro WC aM
   have HC:=ahZ (HB1.out.trans (Below.mono aM HB1.out.size))
   clear aM d0 d1
   go_wp2_with fail
   exact bodyPost_ret (v:=.bool true) (by simp [results,Tryz.results116,go_sem]) rfl ⟨rfl,HC.out⟩
  ·by_cases hm : (l.length : Int) = most
   ·have hm' : ((l.length : Int) == most) = true:=by simpa using hm
    by_cases hu : dZ l tick = 0
    ·have hu1 : ((dZ l tick : Nat) : Int) = 0:=by omega
     obtain rfl : sv = true:=by rw [HV.out];simp [hg,hm,hu]
     clear HV
     go_enter Tryz.func116,Tryz.ntmps116
     go_wp2_with fail
     refine fl.mono ?_
     rintro e w1 ⟨rfl,hB1⟩
     have HB1:=ahZ hB1
     have HS2:=ahZ (HS.out.below hB1)
     obtain ⟨d0,d1⟩:=HS2.out.cells
     clear fl hB1
     go_wp2_with fail
     refine aR 27 (by kernel_rfl) (by kernel_rfl) ?_
     simp only [List.take_succ_cons,List.take_zero,List.drop_succ_cons,List.drop_zero]
     repeat (first | (apply aB;(next=>(intro W hW K hK;have y0:=hW.cell d0;have y1:=hW.cell d1;go_simp;first | exact ⟨hW,hK⟩ | exact hK));(next=>exact aO.self _);(try go_simp)) | (apply aB;(next=>(intro W hW K hK;go_simp;first | exact ⟨_,hW.of_eq (jC R l most floor true S W (HS2.out.ring.below hW)),hK⟩ | exact ⟨hW,_,hW.of_eq (jC R l most floor true S W (HS2.out.ring.below hW)),hK⟩));(next=>exact aO.self _);(try go_simp)) | (apply aB;(next=>(intro W hW K hK;go_simp;first | exact ⟨_,hW.call (iH R l most floor true S tick W (HS2.out.ring.below hW)),hK⟩ | exact ⟨hW,_,hW.call (iH R l most floor true S tick W (HS2.out.ring.below hW)),hK⟩));(next=>exact aO.self _);(try go_simp)))
     refine aW ?_
     intro WC aM
     have HC:=ahZ (HB1.out.trans (Below.mono aM HB1.out.size))
     clear aM d0 d1
     go_wp2_with fail
     exact bodyPost_ret (v:=.bool true) (by simp [results,Tryz.results116,go_sem,hg,hu]) rfl ⟨rfl,HC.out⟩
    ·have hu1 : ¬ ((dZ l tick : Nat) : Int) = 0:=by omega
     obtain rfl : sv = false:=by rw [HV.out];simp [hg,hm,hu]
     clear HV
     go_enter Tryz.func116,Tryz.ntmps116
     go_wp2_with fail
     refine fl.mono ?_
     rintro e w1 ⟨rfl,hB1⟩
     have HB1:=ahZ hB1
     have HS2:=ahZ (HS.out.below hB1)
     obtain ⟨d0,d1⟩:=HS2.out.cells
     clear fl hB1
     go_wp2_with fail
     refine aR 27 (by kernel_rfl) (by kernel_rfl) ?_
     simp only [List.take_succ_cons,List.take_zero,List.drop_succ_cons,List.drop_zero]
     repeat (first | (apply aB;(next=>(intro W hW K hK;have y0:=hW.cell d0;have y1:=hW.cell d1;go_simp;first | exact ⟨hW,hK⟩ | exact hK));(next=>exact aO.self _);(try go_simp)) | (apply aB;(next=>(intro W hW K hK;go_simp;first | exact ⟨_,hW.of_eq (jC R l most floor true S W (HS2.out.ring.below hW)),hK⟩ | exact ⟨hW,_,hW.of_eq (jC R l most floor true S W (HS2.out.ring.below hW)),hK⟩));(next=>exact aO.self _);(try go_simp)) | (apply aB;(next=>(intro W hW K hK;go_simp;first | exact ⟨_,hW.call (iH R l most floor true S tick W (HS2.out.ring.below hW)),hK⟩ | exact ⟨hW,_,hW.call (iH R l most floor true S tick W (HS2.out.ring.below hW)),hK⟩));(next=>exact aO.self _);(try go_simp)))
     refine aW ?_
     intro WC aM
     have HC:=ahZ (HB1.out.trans (Below.mono aM HB1.out.size))
     clear aM d0 d1
     go_wp2_with fail
     exact bodyPost_ret (v:=.bool false) (by simp [results,Tryz.results116,go_sem,hg,hu]) rfl ⟨rfl,HC.out⟩
   ·obtain rfl : sv = false:=by rw [HV.out];simp [hg,hm]
    clear HV
    go_enter Tryz.func116,Tryz.ntmps116
    go_wp2_with fail
    refine fl.mono ?_
    rintro e w1 ⟨rfl,hB1⟩
    have HB1:=ahZ hB1
    have HS2:=ahZ (HS.out.below hB1)
    obtain ⟨d0,d1⟩:=HS2.out.cells
    clear fl hB1
    go_wp2_with fail
    refine aR 27 (by kernel_rfl) (by kernel_rfl) ?_
    simp only [List.take_succ_cons,List.take_zero,List.drop_succ_cons,List.drop_zero]
    repeat (first | (apply aB;(next=>(intro W hW K hK;have y0:=hW.cell d0;have y1:=hW.cell d1;go_simp;first | exact ⟨hW,hK⟩ | exact hK));(next=>exact aO.self _);(try go_simp)) | (apply aB;(next=>(intro W hW K hK;go_simp;first | exact ⟨_,hW.of_eq (jC R l most floor true S W (HS2.out.ring.below hW)),hK⟩ | exact ⟨hW,_,hW.of_eq (jC R l most floor true S W (HS2.out.ring.below hW)),hK⟩));(next=>exact aO.self _);(try go_simp)) | (apply aB;(next=>(intro W hW K hK;go_simp;first | exact ⟨_,hW.call (iH R l most floor true S tick W (HS2.out.ring.below hW)),hK⟩ | exact ⟨hW,_,hW.call (iH R l most floor true S tick W (HS2.out.ring.below hW)),hK⟩));(next=>exact aO.self _);(try go_simp)))
    refine aW ?_
    intro WC aM
    have HC:=ahZ (HB1.out.trans (Below.mono aM HB1.out.size))
    clear aM d0 d1
    go_wp2_with fail
    exact bodyPost_ret (v:=.bool false) (by simp [results,Tryz.results116,go_sem,hg]) rfl ⟨rfl,HC.out⟩
end Go.Proofs.YtklkooeimkedgaaGreat
namespace Go.Proofs.YtklkooeimkedgaaGreat
open Go.RowKit
set_option maxRecDepth 100000
def fq (l : List aG) (i : Int) : Option aG:=if i < 0 then none else l[i.toNat]?
def uZ : Option aG -> Int | none=>0 | some k=>k.sn.tick
def mW : Option aG -> Int | none=>0 | some k=>k.sn.time
def WT : Option aG -> Value | none=>.slice none 0 0 | some k=>dV k
def iw : Option aG -> List ay | none=>[] | some k=>k.sn.ents
def WU : Option aG -> Int | none=>0 | some k=>k.key
def qZ : Option aG -> Int | none=>3 | some _=>0
theorem BQ (o : Option aG) : ∃ a n c,WT o = .slice a n c:=by cases o <;> exact ⟨_,_,_,rfl⟩
theorem KS (o : Option aG) : xR o = .agg #[.int .i64 (uZ o),.int .i64 (mW o),WT o]:=by cases o <;> rfl
theorem O7 (R : Nat) (l : List aG) (most floor : Int) (gone : Bool) (S : Nat -> Prop) (i : Int) (w : World) (h : RingAt w R l most floor gone S) :
  Calls Tryz.prog 131 #[.pointer (some ⟨R,0,none⟩),.int .i64 i] w λe w'=>e = .returned (.tuple #[.int .i64 (WU (fq l i)),.agg #[.int .i64 (uZ (fq l i)),.int .i64 (mW (fq l i)),WT (fq l i)],.int .i64 (qZ (fq l i))]) /\ Below w.heap.size w w':=by
 by_cases hi : i < 0 \/ (l.length : Int) <= i
 ·have e : fq l i = none:=by
   unfold fq
   split
   ·rfl
   ·exact List.getElem?_eq_none (by omega)
  rw [e]
  exact Ya R l most floor gone S i w h hi
 ·obtain ⟨x,hx⟩ : ∃ x,l[i.toNat]? = some x:=⟨_,List.getElem?_eq_getElem (by omega)⟩
  have e : fq l i = some x:=by
   unfold fq
   rw [if_neg (by omega)];exact hx
  rw [e]
  have:=ZV R l most floor gone S i.toNat x w h hx
  rw [show ((i.toNat : Nat) : Int) = i by omega] at this
  exact this
def fQ (l : List aG) (tick time : Int) : Bool :=
 (decide (qZ (fq l (dZ l tick - 1)) ≠ 0) || decide (mW (fq l (dZ l tick - 1)) < time)) && (decide (qZ (fq l (dZ l tick)) ≠ 0) || decide (time < mW (fq l (dZ l tick))))
theorem Yc (l : List aG) (key : Int) : dZ l key <= l.length:=by
 unfold dZ
 split
 ·rename_i h
  obtain ⟨x,hx,_⟩:=Ig h
  exact (List.getElem?_eq_some_iff.1 hx).1
 ·exact vI l key
set_option maxHeartbeats 1000000 in
theorem tJ (T R : Nat) (l : List aG) (most floor : Int) (gone : Bool) (S : Nat -> Prop) (tick time : Int) (s : Value) (w : World) (h : gN w T R l most floor gone S) :
  Calls Tryz.prog 118 #[.pointer (some ⟨T,0,none⟩),.agg #[.int .i64 tick,.int .i64 time,s]] w λe w'=>e = .returned (.bool (fQ l tick time)) /\ Below w.heap.size w w':=by
 have un:=λw h=>iH R l most floor gone S tick w h
 have a1:=λw h=>O7 R l most floor gone S (dZ l tick - 1) w h
 have a2:=λw h=>O7 R l most floor gone S (dZ l tick) w h
 have HV : Hid (fQ l tick time = ((decide (qZ (fq l (dZ l tick - 1)) ≠ 0) || decide (mW (fq l (dZ l tick - 1)) < time)) && (decide (qZ (fq l (dZ l tick)) ≠ 0) || decide (time < mW (fq l (dZ l tick)))))):=ahZ rfl
 have hle:=Yc l tick
 have Gi : (l.length : Int) <= 64:=by obtain ⟨v,hp⟩:=h.ring;exact hp.len
 obtain ⟨Z7,Z8,a1c,hs1⟩:=BQ (fq l (dZ l tick - 1))
 obtain ⟨a2a,a2n,a2c,hs2⟩:=BQ (fq l (dZ l tick))
 rw [hs1] at a1
 rw [hs2] at a2
 clear hs1 hs2
 generalize fQ l tick time = sv at *
 generalize qZ (fq l (dZ l tick - 1)) = e1 at *
 generalize mW (fq l (dZ l tick - 1)) = m1 at *
 generalize uZ (fq l (dZ l tick - 1)) = t1 at *
 generalize WU (fq l (dZ l tick - 1)) = k1 at *
 generalize qZ (fq l (dZ l tick)) = e2 at *
 generalize mW (fq l (dZ l tick)) = m2 at *
 generalize uZ (fq l (dZ l tick)) = t2 at *
 generalize WU (fq l (dZ l tick)) = k2 at *
 generalize dZ l tick = n at *
 have hw : wrap64 ((n : Int) - 1) = (n : Int) - 1:=by unfold wrap64;omega
 obtain ⟨w0,hw0⟩ : ∃ w0,w.alloc (.cells #[.int .i64 tick,.int .i64 time,s] 36) = w0:=⟨_,rfl⟩
 have HB0 : Hid (Below w.heap.size w w0):=ahZ (by rw [← hw0];exact (Below.refl _ _).alloc (Nat.le_refl _) _)
 have HX0 : Hid (ak w0 w.heap.size #[.int .i64 tick,.int .i64 time,s] 36):=ahZ (by rw [← hw0];exact ak.new _ _ _)
 have zq:=ahZ (h.below HB0.out)
 obtain ⟨d0,d1⟩:=zq.out.cells
 have x0:=HX0.out.cell 0
 simp at x0
 clear h hle Gi
 go_enter Tryz.func118,Tryz.ntmps118
 go_wp2_with fail
 clear hw0
 refine aR 6 (by kernel_rfl) (by kernel_rfl) ?_
 simp only [List.take_succ_cons,List.take_zero,List.drop_succ_cons,List.drop_zero]
 repeat (apply aB;(next=>(intro W hW K hK;have y0:=hW.cell d0;have y1:=hW.cell d1;have y2:=hW.cell x0;go_simp;first | exact ⟨hW,hK⟩ | exact hK));(next=>exact aO.self _);(try go_simp))
 refine aW ?_
 intro W0 hW0
 have O8 : Below w0.heap.size w0 W0:=hW0
 have aag:=ahZ (HB0.out.trans (O8.mono HB0.out.size))
 have aah:=ahZ (zq.out.below O8)
 have aai:=ahZ (HX0.out.below O8 HX0.out.lt)
 clear hW0 O8 d0 d1 x0
 go_wp2_with fail
 refine (un W0 aah.out.ring).mono ?_
 rintro e WC ⟨rfl,aV⟩
 have HBC:=ahZ (aag.out.trans (aV.mono aag.out.size))
 have BI:=ahZ (aah.out.below aV)
 have HXC:=ahZ (aai.out.below aV aai.out.lt)
 clear aV un
 obtain ⟨d0,d1⟩:=BI.out.cells
 go_wp2_with fail
 refine (a1 WC BI.out.ring).mono ?_
 rintro e w1 ⟨rfl,hB⟩
 obtain ⟨v1,hv1⟩ : ∃ v,w1.alloc (.cells #[.int .i64 0,.int .i64 0,.slice none 0 0] 36) = v:=⟨_,rfl⟩
 have xU : Below WC.heap.size WC v1:=by rw [← hv1];exact hB.alloc hB.size _
 have aY : ak v1 w1.heap.size #[.int .i64 0,.int .i64 0,.slice none 0 0] 36:=by rw [← hv1];exact ak.new _ _ _
 have f0:=aY.free 0
 have f1:=aY.free 1
 have f2:=aY.free 2
 have q0:=aY.cell 0
 have q1:=aY.cell 1
 have q2:=aY.cell 2
 simp at q0 q1 q2
 have hsz : WC.heap.size <= w1.heap.size:=hB.size
 have gJ:=ahZ (jf (v0:=.int .i64 t1) (v1:=.int .i64 m1) (v2:=.slice Z7 Z8 a1c) aY)
 have HB1:=ahZ (dQ (v0:=.int .i64 t1) (v1:=.int .i64 m1) (v2:=.slice Z7 Z8 a1c) xU hsz)
 obtain ⟨u1,hu1⟩ : ∃ u,((v1.setCell ⟨w1.heap.size,0,none⟩ (.int .i64 t1)).setCell ⟨w1.heap.size,1,none⟩ (.int .i64 m1)).setCell ⟨w1.heap.size,2,none⟩ (.slice Z7 Z8 a1c) = u:=⟨_,rfl⟩
 rw [hu1] at gJ HB1
 clear hB xU aY hsz d0 d1 a1
 have gX:=ahZ (BI.out.below HB1.out)
 have KT:=ahZ (HBC.out.trans (HB1.out.mono HBC.out.size))
 obtain ⟨d0,d1⟩:=gX.out.cells
 have yF:=ahZ (HXC.out.below HB1.out HXC.out.lt)
 go_wp2_with fail
 clear hv1 hu1 f0 f1 f2 q0 q1 q2
 refine (a2 u1 gX.out.ring).mono ?_
 rintro e w2 ⟨rfl,hB⟩
 obtain ⟨v2,hv2⟩ : ∃ v,w2.alloc (.cells #[.int .i64 0,.int .i64 0,.slice none 0 0] 36) = v:=⟨_,rfl⟩
 have xU : Below u1.heap.size u1 v2:=by rw [← hv2];exact hB.alloc hB.size _
 have aY : ak v2 w2.heap.size #[.int .i64 0,.int .i64 0,.slice none 0 0] 36:=by rw [← hv2];exact ak.new _ _ _
 have f0:=aY.free 0
 have f1:=aY.free 1
 have f2:=aY.free 2
 have q0:=aY.cell 0
 have q1:=aY.cell 1
 have q2:=aY.cell 2
 simp at q0 q1 q2
 have hsz : u1.heap.size <= w2.heap.size:=hB.size
 have gy:=ahZ (jf (v0:=.int .i64 t2) (v1:=.int .i64 m2) (v2:=.slice a2a a2n a2c) aY)
 have HB2:=ahZ (dQ (v0:=.int .i64 t2) (v1:=.int .i64 m2) (v2:=.slice a2a a2n a2c) xU hsz)
 obtain ⟨u2,hu2⟩ : ∃ u,((v2.setCell ⟨w2.heap.size,0,none⟩ (.int .i64 t2)).setCell ⟨w2.heap.size,1,none⟩ (.int .i64 m2)).setCell ⟨w2.heap.size,2,none⟩ (.slice a2a a2n a2c) = u:=⟨_,rfl⟩
 rw [hu2] at gy HB2
 clear hB xU aY hsz d0 d1 a2
 have HS2:=ahZ (gX.out.below HB2.out)
 have qo:=ahZ (KT.out.trans (HB2.out.mono KT.out.size))
 obtain ⟨d0,d1⟩:=HS2.out.cells
 have aeF:=ahZ (yF.out.below HB2.out yF.out.lt)
 have aeG:=ahZ (gJ.out.below HB2.out gJ.out.lt)
 have r0:=aeF.out.cell 1
 have r1:=aeG.out.cell 1
 have r2:=gy.out.cell 1
 simp at r0 r1 r2
 clear d0 d1
 by_cases z1 : e1 = 0
 ·by_cases z2 : e2 = 0
  ·by_cases y1 : m1 < time
   ·by_cases y2 : time < m2
    ·have n1 : (e1 != 0) = false:=by simp [z1]
     have n2 : (e2 != 0) = false:=by simp [z2]
     obtain rfl : sv = true:=by rw [HV.out];simp [z1,z2,y1,y2] <;> omega
     clear z1 z2 HV
     go_wp2_with fail
     exact bodyPost_ret (v:=.bool true) (by simp [results,Tryz.results118,go_sem,y1,y2]) rfl ⟨rfl,qo.out⟩
    ·have n1 : (e1 != 0) = false:=by simp [z1]
     have n2 : (e2 != 0) = false:=by simp [z2]
     obtain rfl : sv = false:=by rw [HV.out];simp [z1,z2,y1,y2] <;> omega
     clear z1 z2 HV
     go_wp2_with fail
     exact bodyPost_ret (v:=.bool false) (by simp [results,Tryz.results118,go_sem,y1,y2]) rfl ⟨rfl,qo.out⟩
   ·by_cases y2 : time < m2
    ·have n1 : (e1 != 0) = false:=by simp [z1]
     have n2 : (e2 != 0) = false:=by simp [z2]
     obtain rfl : sv = false:=by rw [HV.out];simp [z1,z2,y1,y2] <;> omega
     clear z1 z2 HV
     go_wp2_with fail
     exact bodyPost_ret (v:=.bool false) (by simp [results,Tryz.results118,go_sem,y1,y2]) rfl ⟨rfl,qo.out⟩
    ·have n1 : (e1 != 0) = false:=by simp [z1]
     have n2 : (e2 != 0) = false:=by simp [z2]
     obtain rfl : sv = false:=by rw [HV.out];simp [z1,z2,y1,y2] <;> omega
     clear z1 z2 HV
     go_wp2_with fail
     exact bodyPost_ret (v:=.bool false) (by simp [results,Tryz.results118,go_sem,y1,y2]) rfl ⟨rfl,qo.out⟩
  ·by_cases y1 : m1 < time
   ·by_cases y2 : time < m2
    ·have n1 : (e1 != 0) = false:=by simp [z1]
     have n2 : (e2 != 0) = true:=by simp [z2]
     obtain rfl : sv = true:=by rw [HV.out];simp [z1,z2,y1,y2] <;> omega
     clear z1 z2 HV
     go_wp2_with fail
     exact bodyPost_ret (v:=.bool true) (by simp [results,Tryz.results118,go_sem,y1,y2]) rfl ⟨rfl,qo.out⟩
    ·have n1 : (e1 != 0) = false:=by simp [z1]
     have n2 : (e2 != 0) = true:=by simp [z2]
     obtain rfl : sv = true:=by rw [HV.out];simp [z1,z2,y1,y2] <;> omega
     clear z1 z2 HV
     go_wp2_with fail
     exact bodyPost_ret (v:=.bool true) (by simp [results,Tryz.results118,go_sem,y1,y2]) rfl ⟨rfl,qo.out⟩
   ·by_cases y2 : time < m2
    ·have n1 : (e1 != 0) = false:=by simp [z1]
     have n2 : (e2 != 0) = true:=by simp [z2]
     obtain rfl : sv = false:=by rw [HV.out];simp [z1,z2,y1,y2] <;> omega
     clear z1 z2 HV
     go_wp2_with fail
     exact bodyPost_ret (v:=.bool false) (by simp [results,Tryz.results118,go_sem,y1,y2]) rfl ⟨rfl,qo.out⟩
    ·have n1 : (e1 != 0) = false:=by simp [z1]
     have n2 : (e2 != 0) = true:=by simp [z2]
     obtain rfl : sv = false:=by rw [HV.out];simp [z1,z2,y1,y2] <;> omega
     clear z1 z2 HV
     go_wp2_with fail
     exact bodyPost_ret (v:=.bool false) (by simp [results,Tryz.results118,go_sem,y1,y2]) rfl ⟨rfl,qo.out⟩
 ·by_cases z2 : e2 = 0
  ·by_cases y1 : m1 < time
   ·by_cases y2 : time < m2
    ·have n1 : (e1 != 0) = true:=by simp [z1]
     have n2 : (e2 != 0) = false:=by simp [z2]
     obtain rfl : sv = true:=by rw [HV.out];simp [z1,z2,y1,y2] <;> omega
     clear z1 z2 HV
     go_wp2_with fail
     exact bodyPost_ret (v:=.bool true) (by simp [results,Tryz.results118,go_sem,y1,y2]) rfl ⟨rfl,qo.out⟩
    ·have n1 : (e1 != 0) = true:=by simp [z1]
     have n2 : (e2 != 0) = false:=by simp [z2]
     obtain rfl : sv = false:=by rw [HV.out];simp [z1,z2,y1,y2] <;> omega
     clear z1 z2 HV
     go_wp2_with fail
     exact bodyPost_ret (v:=.bool false) (by simp [results,Tryz.results118,go_sem,y1,y2]) rfl ⟨rfl,qo.out⟩
   ·by_cases y2 : time < m2
    ·have n1 : (e1 != 0) = true:=by simp [z1]
     have n2 : (e2 != 0) = false:=by simp [z2]
     obtain rfl : sv = true:=by rw [HV.out];simp [z1,z2,y1,y2] <;> omega
     clear z1 z2 HV
     go_wp2_with fail
     exact bodyPost_ret (v:=.bool true) (by simp [results,Tryz.results118,go_sem,y1,y2]) rfl ⟨rfl,qo.out⟩
    ·have n1 : (e1 != 0) = true:=by simp [z1]
     have n2 : (e2 != 0) = false:=by simp [z2]
     obtain rfl : sv = false:=by rw [HV.out];simp [z1,z2,y1,y2] <;> omega
     clear z1 z2 HV
     go_wp2_with fail
     exact bodyPost_ret (v:=.bool false) (by simp [results,Tryz.results118,go_sem,y1,y2]) rfl ⟨rfl,qo.out⟩
  ·by_cases y1 : m1 < time
   ·by_cases y2 : time < m2
    ·have n1 : (e1 != 0) = true:=by simp [z1]
     have n2 : (e2 != 0) = true:=by simp [z2]
     obtain rfl : sv = true:=by rw [HV.out];simp [z1,z2,y1,y2] <;> omega
     clear z1 z2 HV
     go_wp2_with fail
     exact bodyPost_ret (v:=.bool true) (by simp [results,Tryz.results118,go_sem,y1,y2]) rfl ⟨rfl,qo.out⟩
    ·have n1 : (e1 != 0) = true:=by simp [z1]
     have n2 : (e2 != 0) = true:=by simp [z2]
     obtain rfl : sv = true:=by rw [HV.out];simp [z1,z2,y1,y2] <;> omega
     clear z1 z2 HV
     go_wp2_with fail
     exact bodyPost_ret (v:=.bool true) (by simp [results,Tryz.results118,go_sem,y1,y2]) rfl ⟨rfl,qo.out⟩
   ·by_cases y2 : time < m2
    ·have n1 : (e1 != 0) = true:=by simp [z1]
     have n2 : (e2 != 0) = true:=by simp [z2]
     obtain rfl : sv = true:=by rw [HV.out];simp [z1,z2,y1,y2] <;> omega
     clear z1 z2 HV
     go_wp2_with fail
     exact bodyPost_ret (v:=.bool true) (by simp [results,Tryz.results118,go_sem,y1,y2]) rfl ⟨rfl,qo.out⟩
    ·have n1 : (e1 != 0) = true:=by simp [z1]
     have n2 : (e2 != 0) = true:=by simp [z2]
     obtain rfl : sv = true:=by rw [HV.out];simp [z1,z2,y1,y2] <;> omega
     clear z1 z2 HV
     go_wp2_with fail
     exact bodyPost_ret (v:=.bool true) (by simp [results,Tryz.results118,go_sem,y1,y2]) rfl ⟨rfl,qo.out⟩
end Go.Proofs.YtklkooeimkedgaaGreat
namespace Go.Proofs.YtklkooeimkedgaaGreat
open Go.RowKit
set_option maxRecDepth 100000
theorem lG.cap {w : World} {R : Nat} {l : List aG} {most floor : Int} {gone : Bool} {S : Nat -> Prop} {v : Value} (h : lG w R l most floor gone S v) : lG w R l most floor gone (λk=>S k /\ k < w.heap.size) v :=
 ⟨h.blk,h.row,h.ents,⟨h.sR,h.blk.lt⟩,λj e=>⟨h.sv j e,(h.row.lt j e).2⟩,λk hk j e=>⟨h.se k hk j e,((h.ents k hk).1.lt j e).2⟩,h.up,h.len⟩
theorem RingAt.cap {w : World} {R : Nat} {l : List aG} {most floor : Int} {gone : Bool} {S : Nat -> Prop} (h : RingAt w R l most floor gone S) : RingAt w R l most floor gone (λk=>S k /\ k < w.heap.size):=by
 obtain ⟨v,h⟩:=h;exact ⟨v,h.cap⟩
theorem gN.cap {w : World} {T R : Nat} {l : List aG} {most floor : Int} {gone : Bool} {S : Nat -> Prop} (h : gN w T R l most floor gone S) : gN w T R l most floor gone (λk=>S k /\ k < w.heap.size):=by
 obtain ⟨⟨cs,hcs,hb⟩,h2,h3⟩:=h
 exact ⟨⟨cs,hcs,hb⟩,h2.cap,⟨h3,hb.lt⟩⟩
theorem gN.weaken {w : World} {T R : Nat} {l : List aG} {most floor : Int} {gone : Bool} {S S' : Nat -> Prop} (h : gN w T R l most floor gone S) (hs : ∀ k,S k -> S' k) : gN w T R l most floor gone S' :=
 ⟨h.blk,h.ring.weaken hs,hs _ h.sT⟩
theorem Ei {w : World} {R : Nat} {l : List aG} {most floor : Int} {gone : Bool} {S : Nat -> Prop} (h : RingAt w R l most floor gone S) {o : Option aG} (ho : ∀ k,o = some k -> k ∈ l) (hk : ∀ k ∈ l,k.sn.ents.length <= 64) :
  ∃ a c,WT o = .slice a (iw o).length c /\ dH w a (iw o) /\ (a = none -> c = 0) /\ (iw o).length <= 64 /\ (∀ x,a = some x -> S x.block) /\ (iw o).length <= c:=by
 obtain ⟨v,hP⟩:=h
 cases o with
 | none =>
  refine ⟨none,0,rfl,?_,λ_=>rfl,by simp [iw],(λx hx=>by cases hx),Nat.le_refl _⟩
  obtain ⟨a,c,e,h1,_⟩:=(aK.nil w 0).ents (by simp)
  cases e
  exact h1
 | some k =>
  have hm:=ho k rfl
  obtain ⟨a,c,e,h1,h2,h3,_⟩:=(hP.ents k hm).1.ents (hP.ents k hm).2
  refine ⟨a,c,e,h1,h2,hk k hm,λx hx=>?_,h3⟩
  have hs:=hP.se k hm
  have hr:=(hP.ents k hm).1
  obtain ⟨_,⟨e2,_⟩ | ⟨g,cap,cur,e2,_⟩⟩:=hr
  ·rw [show dV k = Value.slice a k.sn.ents.length c from e] at e2
   injection e2 with e3
   subst e3;cases hx
  ·rw [show dV k = Value.slice a k.sn.ents.length c from e] at e2
   injection e2 with e3
   subst e3;cases hx
   exact hs _ (by rw [show dV k = Value.slice (some ⟨g,0,none⟩) k.sn.ents.length c from e];rfl)
theorem Ej {l : List aG} {key : Int} {k : aG} (h : eO l key = some k) : k ∈ l:=by
 unfold eO at h
 split at h
 ·exact List.mem_of_getElem? h
 ·cases h
def jU (w1 : World) (t : TypeId) (z u : Array Value) : List Value -> World -> Prop
 | [],W=>Below w1.heap.size w1 W
 | [v],W=>Below w1.heap.size w1 W /\ ∃ b,v = .pointer (some ⟨b,0,none⟩) /\ ak W b z t /\ w1.heap.size <= b
 | [v,_],W=>Below w1.heap.size w1 W /\ ∃ b,v = .pointer (some ⟨b,0,none⟩) /\ ak W b u t /\ w1.heap.size <= b
 | _,_=>False
theorem jU.base {w1 : World} {t : TypeId} {z u : Array Value} : ∀ {b : List Value} {W : World},jU w1 t z u b W -> aO w1 W
 | [],_,h=>h
 | [_],_,h=>h.1
 | [_,_],_,h=>h.1
 | _ :: _ :: _ :: _,_,h=>h.elim
theorem jU.below {w1 : World} {t : TypeId} {z u : Array Value} : ∀ {b : List Value} {W W' : World},jU w1 t z u b W -> Below W.heap.size W W' -> jU w1 t z u b W'
 | [],_,_,h,hb=>Below.trans h (hb.mono (Below.size h))
 | [_],_,_,⟨h,b,e,hB,hl⟩,hb=>⟨Below.trans h (hb.mono (Below.size h)),b,e,hB.below hb hB.lt,hl⟩
 | [_,_],_,_,⟨h,b,e,hB,hl⟩,hb=>⟨Below.trans h (hb.mono (Below.size h)),b,e,hB.below hb hB.lt,hl⟩
 | _ :: _ :: _ :: _,_,_,h,_=>h.elim
theorem jU.new {w1 : World} {t : TypeId} {z u : Array Value} {W : World} (h : jU w1 t z u [] W) : jU w1 t z u [.pointer (some ⟨W.heap.size,0,none⟩)] (W.alloc (.cells z t)) :=
 ⟨Below.alloc h (Below.size h) _,_,rfl,ak.new _ _ _,Below.size h⟩
def jg (o : Option aG) : Sn:=⟨uZ o,mW o,iw o⟩
theorem dH.only {w w' : World} {a : Option Addr} {es : List ay} {S : Nat -> Prop} (h : dH w a es) (ho : Only S w w') (hS : ∀ x,a = some x -> ¬ S x.block) : dH w' a es:=by
 obtain ⟨h1,h2⟩:=h
 refine ⟨h1,?_⟩
 rcases h2 with h2 | ⟨b,off,e,hl,hc⟩
 ·exact .inl h2
 ·refine .inr ⟨b,off,e,Nat.lt_of_lt_of_le hl ho.size,λi hi=>?_⟩
  have hh : ∀ o,w'.cell? ⟨b,o,none⟩ = w.cell? ⟨b,o,none⟩:=λo=>by
   simp only [World.cell?];rw [ho.block b hl (hS _ e)]
  have:=hc i hi
  unfold dh at this ⊢
  simp only [hh];exact this
def sD (l : List aG) (most floor : Int) (gone : Bool) (tick base : Int) : Int :=
 if dY l tick = true then 12 else if gQ l most floor gone tick = true then 13 else if dY l base = false /\ 0 <= base then 14 else 0
def eG (l : List aG) (most floor : Int) (gone : Bool) (zs : List Int) : Sn × Int :=
 if (bF zs).2 ≠ 0 then (eT,(bF zs).2) else
 if sD l most floor gone (bF zs).1.tick (bF zs).1.base ≠ 0 then (eT,sD l most floor gone (bF zs).1.tick (bF zs).1.base) else
 ((jr (jg (eO l (bF zs).1.base)) (bF zs).1).1,if (jr (jg (eO l (bF zs).1.base)) (bF zs).1).2 = 0 /\ fQ l (jr (jg (eO l (bF zs).1.base)) (bF zs).1).1.tick (jr (jg (eO l (bF zs).1.base)) (bF zs).1).1.time = false then 16 else (jr (jg (eO l (bF zs).1.base)) (bF zs).1).2)
structure bW (w : World) (T R : Nat) (l : List aG) (most floor : Int) (gone : Bool) (S : Nat -> Prop) (t m : Int) (s : Value) (e : Int) (W : World) : Prop where
 x : ak W w.heap.size #[.int .i64 t,.int .i64 m,s] 36
 e : ak W (w.heap.size + 1) #[.int .i64 e] 25
 st : gN W T R l most floor gone S
 b : Below w.heap.size w W
 sz : w.heap.size + 2 <= W.heap.size
 sS : ∀ k,S k -> k < w.heap.size
section
variable {w W W' : World} {T R : Nat} {l : List aG} {most floor : Int} {gone : Bool} {S : Nat -> Prop} {t m e : Int} {s : Value}
theorem bW.below (h : bW w T R l most floor gone S t m s e W) (hb : Below W.heap.size W W') : bW w T R l most floor gone S t m s e W' :=
 ⟨h.x.below hb h.x.lt,h.e.below hb h.e.lt,h.st.below hb,h.b.trans (hb.mono h.b.size),Nat.le_trans h.sz hb.size,h.sS⟩
theorem bW.refuse (h : bW w T R l most floor gone S t m s e W) {e' : Int} (he : ak W' (w.heap.size + 1) #[.int .i64 e'] 25) (ho : Only (λk=>k = w.heap.size + 1) W W') : bW w T R l most floor gone S t m s e' W' :=
 ⟨ho.blk h.x (by omega),he,h.st.only ho (λk hk hh=>by have:=h.sS k hk;omega),h.b.trans (ho.below h.b.size (λk hk=>by omega)),Nat.le_trans h.sz ho.size,h.sS⟩
theorem bW.yH (h : bW w T R l most floor gone S t m s e W) (t' m' : Int) (s' : Value) :
  bW w T R l most floor gone S t' m' s' e (((W.setCell ⟨w.heap.size,0,none⟩ (.int .i64 t')).setCell ⟨w.heap.size,1,none⟩ (.int .i64 m')).setCell ⟨w.heap.size,2,none⟩ s'):=by
 have h3 : Only (λk=>k = w.heap.size) W (((W.setCell ⟨w.heap.size,0,none⟩ (.int .i64 t')).setCell ⟨w.heap.size,1,none⟩ (.int .i64 m')).setCell ⟨w.heap.size,2,none⟩ s'):=sw (Only.refl _ _) (.inl rfl)
 exact ⟨jf h.x,h3.blk h.e (by omega),h.st.only h3 (λk hk hh=>by have:=h.sS k hk;omega),h.b.trans (h3.below h.b.size (λk hk=>by omega)),Nat.le_trans h.sz h3.size,h.sS⟩
theorem bW.wP (h : bW w T R l most floor gone S t m s e W) (e' : Int) : bW w T R l most floor gone S t m s e' (W.setCell ⟨w.heap.size + 1,0,none⟩ (.int .i64 e')) :=
 h.refuse (by simpa using h.e.set 0 (.int .i64 e')) (Only.setCell (S:=λk=>k = w.heap.size + 1) (p:=⟨w.heap.size + 1,0,none⟩) (Only.refl _ _) (.inl rfl) _)
theorem bW.yI (h : bW w T R l most floor gone S t m s e W) {base : Nat} {v : Value} {es : List ay} (ho : aK W base v es) (t' m' : Int) (s' : Value) : aK (((W.setCell ⟨w.heap.size,0,none⟩ (.int .i64 t')).setCell ⟨w.heap.size,1,none⟩ (.int .i64 m')).setCell ⟨w.heap.size,2,none⟩ s') base v es :=
 ho.only (sw (S:=λk=>k = w.heap.size) (Only.refl _ _) (.inl rfl)) (λj hj hk=>bK ho h.x (by decide) (by rw [hj,hk]))
theorem bW.yJ (h : bW w T R l most floor gone S t m s e W) {base : Nat} {v : Value} {es : List ay} (ho : aK W base v es) (e' : Int) : aK (W.setCell ⟨w.heap.size + 1,0,none⟩ (.int .i64 e')) base v es :=
 ho.only (Only.setCell (S:=λk=>k = w.heap.size + 1) (p:=⟨w.heap.size + 1,0,none⟩) (Only.refl _ _) (.inl rfl) _) (λj hj hk=>bK ho h.e (by decide) (by rw [hj,hk]))
theorem bW.cells (h : bW w T R l most floor gone S t m s e W) : (W.cell? ⟨w.heap.size,0,none⟩ = some (.int .i64 t) /\ W.cell? ⟨w.heap.size,1,none⟩ = some (.int .i64 m) /\ W.cell? ⟨w.heap.size,2,none⟩ = some s) /\ W.cell? ⟨w.heap.size + 1,0,none⟩ = some (.int .i64 e) /\
  (W.frozen? ⟨w.heap.size,0,none⟩ = false /\ W.frozen? ⟨w.heap.size,1,none⟩ = false /\ W.frozen? ⟨w.heap.size,2,none⟩ = false) /\ W.frozen? ⟨w.heap.size + 1,0,none⟩ = false /\ W.cell? ⟨T,0,none⟩ = some (.pointer (some ⟨R,0,none⟩)):=by
 have h0:=h.x.cell 0
 have h1:=h.x.cell 1
 have h2:=h.x.cell 2
 have h3:=h.e.cell 0
 simp at h0 h1 h2 h3
 exact ⟨⟨h0,h1,h2⟩,h3,⟨h.x.free 0,h.x.free 1,h.x.free 2⟩,h.e.free 0,h.st.cells.1⟩
end
set_option maxHeartbeats 4000000 in
theorem aaj (T R : Nat) (l : List aG) (most floor : Int) (gone : Bool) (S : Nat -> Prop) (a : Option Addr) (len cap : Nat) (zs : List Int) (w : World) (h0 : gN w T R l most floor gone S) (Pb : ∀ k ∈ l,k.sn.ents.length <= 64)
  (hz : BytesAt w a len zs) (hc : a = none -> cap = 0) (hlc : len <= cap) (hl : (len : Int) <= 140737488355000) (hgt : aA (bF zs).1.time) :
  Calls Tryz.prog 77 #[.pointer (some ⟨T,0,none⟩),.slice a len cap] w λe w'=>∃ v,e = .returned (.tuple #[.agg #[.int .i64 (eG l most floor gone zs).1.tick,.int .i64 (eG l most floor gone zs).1.time,v],.int .i64 (eG l most floor gone zs).2]) /\ aK w' w.heap.size v (eG l most floor gone zs).1.ents /\ Below w.heap.size w w':=by
 have h:=h0.cap
 generalize hS : (λk=>S k /\ k < w.heap.size) = S' at h
 have sS : ∀ k,S' k -> k < w.heap.size:=λk hk=>by rw [← hS] at hk;exact hk.2
 clear hS h0
 have HZ : Hid (eG l most floor gone zs = if (bF zs).2 ≠ 0 then (eT,(bF zs).2) else
  if sD l most floor gone (bF zs).1.tick (bF zs).1.base ≠ 0 then (eT,sD l most floor gone (bF zs).1.tick (bF zs).1.base) else
  ((jr (jg (eO l (bF zs).1.base)) (bF zs).1).1,if (jr (jg (eO l (bF zs).1.base)) (bF zs).1).2 = 0 /\ fQ l (jr (jg (eO l (bF zs).1.base)) (bF zs).1).1.tick (jr (jg (eO l (bF zs).1.base)) (bF zs).1).1.time = false then 16 else (jr (jg (eO l (bF zs).1.base)) (bF zs).1).2)):=ahZ rfl
 generalize eG l most floor gone zs = z at *
 obtain ⟨w0,hw0⟩ : ∃ w0,(w.alloc (.cells #[.int .i64 0,.int .i64 0,.slice none 0 0] 36)).alloc (.cells #[.int .i64 0] 25) = w0:=⟨_,rfl⟩
 have hB0 : Below w.heap.size w w0:=by rw [← hw0];exact ((Below.refl _ _).alloc (Nat.le_refl _) _).alloc (by simp) _
 have H0 : Hid (bW w T R l most floor gone S' 0 0 (.slice none 0 0) 0 w0):=ahZ ⟨by rw [← hw0];exact (ak.new _ _ _).alloc _,by
  rw [← hw0]
  have:=ak.new (w.alloc (.cells #[.int .i64 0,.int .i64 0,.slice none 0 0] 36)) #[.int .i64 0] 25
  simpa using this,h.below hB0,hB0,by rw [← hw0];simp,sS⟩
 have rd:=X0 a len cap zs w0 (hz.below hB0) hc hlc hl
 have ap:=λ(k : Option aG) (w : World) (ae : Option Addr) (gI : Nat) (hE : dH w ae (iw k)) (ga : Option Addr) (cap : Nat) (hR : oU w ga (bF zs).1.recs) (hlE : ((iw k).length : Int) <= 140737488355000)=>U5 (uZ k) (mW k) ae gI (iw k) (bF zs).1 ga cap hgt w hE hR hlE
 have Nl:=ahZ ap
 have HGT:=ahZ hgt
 have HK:=ahZ Pb
 clear hz h hB0 sS ap hgt Pb
 generalize (bF zs).2 = e0 at *
 generalize (bF zs).1 = g at *
 go_enter Tryz.func77,Tryz.ntmps77
 go_wp2_with fail
 clear hw0
 refine rd.mono ?_
 rintro e w1 ⟨v,rfl,hR,hB1⟩
 clear rd
 obtain ⟨ga,uR,rfl,_,_⟩:=hR.recs
 have hH1:=H0.out.below hB1
 obtain ⟨v1,hv1⟩ : ∃ v,w1.alloc (.cells #[.int .i64 0,.int .i64 0,.int .i64 0,.slice none 0 0] 39) = v:=⟨_,rfl⟩
 have xU : Below w1.heap.size w1 v1:=by rw [← hv1];exact (Below.refl _ _).alloc (Nat.le_refl _) _
 have aY : ak v1 w1.heap.size #[.int .i64 0,.int .i64 0,.int .i64 0,.slice none 0 0] 39:=by rw [← hv1];exact ak.new _ _ _
 have f0:=aY.free 0
 have f1:=aY.free 1
 have f2:=aY.free 2
 have f3:=aY.free 3
 have q0:=aY.cell 0
 have q1:=aY.cell 1
 have q2:=aY.cell 2
 have q3:=aY.cell 3
 simp at q0 q1 q2 q3
 have hb4 : Below w1.heap.size w1 ((((v1.setCell ⟨w1.heap.size,0,none⟩ (.int .i64 g.tick)).setCell ⟨w1.heap.size,1,none⟩ (.int .i64 g.time)).setCell ⟨w1.heap.size,2,none⟩ (.int .i64 g.base)).setCell ⟨w1.heap.size,3,none⟩ (.slice ga g.recs.length uR)):=zo xU (Nat.le_refl _)
 have hG4:=zP (v0:=.int .i64 g.tick) (v1:=.int .i64 g.time) (v2:=.int .i64 g.base) (v3:=.slice ga g.recs.length uR) aY
 obtain ⟨u0,hu0⟩ : ∃ u,((((v1.setCell ⟨w1.heap.size,0,none⟩ (.int .i64 g.tick)).setCell ⟨w1.heap.size,1,none⟩ (.int .i64 g.time)).setCell ⟨w1.heap.size,2,none⟩ (.int .i64 g.base)).setCell ⟨w1.heap.size,3,none⟩ (.slice ga g.recs.length uR)) = u:=⟨_,rfl⟩
 rw [hu0] at hb4 hG4
 have hH4:=hH1.below hb4
 have Rt:=hR.below hb4 (λj e=>(hR.1.lt j e).2)
 have aal : w.heap.size + 2 <= w1.heap.size:=hH1.sz
 have aam : w.heap.size + 2 <= w0.heap.size:=H0.out.sz
 obtain ⟨_,p3,_,k3,_⟩:=hH4.cells
 obtain ⟨u1,hu1⟩ : ∃ u,u0.setCell ⟨w.heap.size + 1,0,none⟩ (.int .i64 e0) = u:=⟨_,rfl⟩
 have mR : Only (λk=>k = w.heap.size + 1) u0 u1:=by rw [← hu1];exact Only.setCell (S:=λk=>k = w.heap.size + 1) (p:=⟨w.heap.size + 1,0,none⟩) (Only.refl _ _) (.inl rfl) _
 have H1 : Hid (bW w T R l most floor gone S' 0 0 (.slice none 0 0) e0 u1):=ahZ (by rw [← hu1];exact hH4.wP e0)
 have G1:=ahZ (mR.blk hG4 (by omega))
 have R1:=ahZ (Rt.only mR (λj e=>by have:=(hR.1.lt j e).1;omega))
 have hc5:=H1.out.e.cell 0
 have g0:=G1.out.cell 0
 simp at hc5 g0
 have t0:=H1.out.st.cells.1
 have HN:=ahZ (And.intro aal aam)
 clear xU aY hR hH1 hB1 hb4 hG4 hH4 Rt aal aam mR H0
 by_cases he0 : e0 = 0
 ·subst he0
  have HZ1 : Hid (z = _):=ahZ (HZ.out.trans (if_neg (by simp)))
  clear HZ
  have gt:=λW h=>KJ R l most floor gone S' g.tick W h
  rw [KS] at gt
  obtain ⟨sa,sn,sc,hs1⟩:=BQ (eO l g.tick)
  rw [hs1] at gt
  have Gy : Hid (sD l most floor gone g.tick g.base = if dY l g.tick = true then 12 else if gQ l most floor gone g.tick = true then 13 else if dY l g.base = false /\ 0 <= g.base then 14 else 0):=ahZ rfl
  generalize sD l most floor gone g.tick g.base = E3 at *
  generalize dY l g.tick = th at *
  generalize uZ (eO l g.tick) = st at *
  generalize mW (eO l g.tick) = sm at *
  clear hs1
  have HI : Hid (jU u1 36 #[.int .i64 0,.int .i64 0,.slice none 0 0] #[.int .i64 st,.int .i64 sm,.slice sa sn sc] [] u1.drew):=ahZ (show Below u1.heap.size u1 u1.drew from below_drewN (Below.refl _ _) 1)
  have hE0 : (0 != (0 : Int)) = false:=rfl
  have HB : Hid (jU u1 36 #[.int .i64 0,.int .i64 0,.slice none 0 0] #[.int .i64 st,.int .i64 sm,.slice sa sn sc] [] u1.drew):=ahZ (show Below u1.heap.size u1 u1.drew from below_drewN (Below.refl _ _) 1)
  have t0:=H1.out.st.cells.1
  have g0:=G1.out.cell 0
  simp at g0
  go_wp2_with fail
  apply lD 12 [10,11] (jU u1 36 #[.int .i64 0,.int .i64 0,.slice none 0 0] #[.int .i64 st,.int .i64 sm,.slice sa sn sc])
  case hm=>kernel_rfl
  case hB=>kernel_rfl
  case hp=>kernel_rfl
  case hI=>exact HB.out
  simp only [List.take_succ_cons,List.take_zero,List.drop_succ_cons,List.drop_zero]
  repeat (first
   | (apply dw;(next=>rfl);(next=>(intro b W hW K hK;have hb:=jU.base hW;have y0:=hb.cell t0;have y1:=hb.cell g0; go_simp;first | exact ⟨hW,hK⟩ | exact hK));(next=>exact ⟨_,HB.out⟩);(try go_simp))
   | (apply dw;(next=>rfl);(next=>(intro b W hW K hK;have hb:=jU.base hW;have y0:=hb.cell t0;have y1:=hb.cell g0; go_simp;first | exact ⟨hW,_,(gt W (H1.out.st.ring.below hb)).mono (λe w'' h=>⟨h.1,jU.below hW h.2⟩),hK⟩ | exact ⟨_,(gt W (H1.out.st.ring.below hb)).mono (λe w'' h=>⟨h.1,jU.below hW h.2⟩),hK⟩));(next=>exact ⟨_,HB.out⟩);(try go_simp)))
  apply dM (s:=λ_=>True)
  case hk=>rfl
  case hne=>exact ⟨undef,trivial⟩
  case hw=>rfl
  case h =>
   intro W hW
   have BU:=ahZ (jU.new hW)
   go_simp
   first | exact BU.out | exact ⟨trivial,BU.out⟩
  intro x1 _
  apply dM (s:=λ_=>True)
  case hk=>rfl
  case hne=>exact ⟨undef,trivial⟩
  case hw=>rfl
  case h =>
   intro W hW
   obtain ⟨hb,bx,rfl,hX,hlx⟩:=hW
   have x0:=hX.cell 0
   have x1:=hX.cell 1
   have x2:=hX.cell 2
   have f0:=hX.free 0
   have f1:=hX.free 1
   have f2:=hX.free 2
   simp at x0 x1 x2
   have BU:=ahZ (show jU u1 36 #[.int .i64 0,.int .i64 0,.slice none 0 0] #[.int .i64 st,.int .i64 sm,.slice sa sn sc] [.pointer (some ⟨bx,0,none⟩),undef] (((W.setCell ⟨bx,0,none⟩ (.int .i64 st)).setCell ⟨bx,1,none⟩ (.int .i64 sm)).setCell ⟨bx,2,none⟩ (.slice sa sn sc)) from ⟨dQ hb hlx,bx,rfl,jf hX,hlx⟩)
   clear hb hX
   go_simp
   first | exact BU.out | exact ⟨trivial,BU.out⟩
  intro x2 _
  refine kD ?_
  intro u2 aM
  obtain ⟨hb,b2,rfl,hX,hlx⟩:=aM
  have H2:=ahZ (H1.out.below hb)
  have G2:=ahZ (G1.out.below hb G1.out.lt)
  have R2:=ahZ (R1.out.below hb (λj e=>(R1.out.1.lt j e).2))
  clear hb hX t0 g0 HB
  clear gt
  go_wp2_with fail
  refine (mM th 12 _ (0) u2 H2.out.e).mono ?_
  rintro r u3 ⟨rfl,hE,hO⟩
  have H3:=ahZ (H2.out.refuse hE hO)
  have G3:=ahZ (hO.blk G2.out (by have:=HN.out;omega))
  have R3:=ahZ (R2.out.only hO (λj e=>by have:=(R2.out.1.lt j e).1;have:=HN.out;omega))
  clear hE hO
  obtain ⟨e1,he1⟩ : ∃ x,(if (0 : Int) = 0 /\ th = true then (12 : Int) else 0) = x:=⟨_,rfl⟩
  rw [he1] at H3
  have Nt:=ahZ he1
  clear he1
  have g0:=G3.out.cell 0
  simp at g0
  have stl:=Yb T R l most floor gone S' g.tick u3 H3.out.st
  generalize gQ l most floor gone g.tick = sl at *
  go_wp2_with fail
  refine stl.mono ?_
  rintro e u4 ⟨rfl,hb⟩
  have H4:=ahZ (H3.out.below hb)
  have G4:=ahZ (G3.out.below hb G3.out.lt)
  have R4:=ahZ (R3.out.below hb (λj e=>(R3.out.1.lt j e).2))
  clear hb stl g0
  go_wp2_with fail
  refine (mM sl 13 _ (e1) u4 H4.out.e).mono ?_
  rintro r u5 ⟨rfl,hE,hO⟩
  have H5:=ahZ (H4.out.refuse hE hO)
  have G5:=ahZ (hO.blk G4.out (by have:=HN.out;omega))
  have R5:=ahZ (R4.out.only hO (λj e=>by have:=(R4.out.1.lt j e).1;have:=HN.out;omega))
  clear hE hO
  obtain ⟨e2,he2⟩ : ∃ x,(if (e1 : Int) = 0 /\ sl = true then (13 : Int) else e1) = x:=⟨_,rfl⟩
  rw [he2] at H5
  have Nu:=ahZ he2
  clear he2
  have gt:=λW h=>KJ R l most floor gone S' g.base W h
  rw [KS] at gt
  obtain ⟨ba,bc,hs2,hbe,hbc,hbl,hbS,_⟩:=Ei H5.out.st.ring (λk hk=>Ej hk) HK.out (o:=eO l g.base)
  have sJ:=ahZ (And.intro hbe (And.intro hbl hbS))
  rw [hs2] at gt
  have ap:=λW hE ga cap hR=>Nl.out (eO l g.base) W ba bc hE ga cap hR (by omega)
  clear hs2 hbe hbc hbl hbS
  unfold jg at HZ1
  generalize dY l g.base = hbv at *
  generalize uZ (eO l g.base) = bt at *
  generalize mW (eO l g.base) = bm at *
  generalize aeH : iw (eO l g.base) = DL at *
  clear aeH Nl HGT
  have HB : Hid (jU u5 36 #[.int .i64 0,.int .i64 0,.slice none 0 0] #[.int .i64 bt,.int .i64 bm,.slice ba DL.length bc] [] u5.drew):=ahZ (show Below u5.heap.size u5 u5.drew from below_drewN (Below.refl _ _) 1)
  have t0:=H5.out.st.cells.1
  have g0:=G5.out.cell 2
  simp at g0
  go_wp2_with fail
  apply lD 12 [10,11] (jU u5 36 #[.int .i64 0,.int .i64 0,.slice none 0 0] #[.int .i64 bt,.int .i64 bm,.slice ba DL.length bc])
  case hm=>kernel_rfl
  case hB=>kernel_rfl
  case hp=>kernel_rfl
  case hI=>exact HB.out
  simp only [List.take_succ_cons,List.take_zero,List.drop_succ_cons,List.drop_zero]
  repeat (first
   | (apply dw;(next=>rfl);(next=>(intro b W hW K hK;have hb:=jU.base hW;have y0:=hb.cell t0;have y1:=hb.cell g0; go_simp;first | exact ⟨hW,hK⟩ | exact hK));(next=>exact ⟨_,HB.out⟩);(try go_simp))
   | (apply dw;(next=>rfl);(next=>(intro b W hW K hK;have hb:=jU.base hW;have y0:=hb.cell t0;have y1:=hb.cell g0; go_simp;first | exact ⟨hW,_,(gt W (H5.out.st.ring.below hb)).mono (λe w'' h=>⟨h.1,jU.below hW h.2⟩),hK⟩ | exact ⟨_,(gt W (H5.out.st.ring.below hb)).mono (λe w'' h=>⟨h.1,jU.below hW h.2⟩),hK⟩));(next=>exact ⟨_,HB.out⟩);(try go_simp)))
  apply dM (s:=λ_=>True)
  case hk=>rfl
  case hne=>exact ⟨undef,trivial⟩
  case hw=>rfl
  case h =>
   intro W hW
   have BU:=ahZ (jU.new hW)
   go_simp
   first | exact BU.out | exact ⟨trivial,BU.out⟩
  intro x1 _
  apply dM (s:=λ_=>True)
  case hk=>rfl
  case hne=>exact ⟨undef,trivial⟩
  case hw=>rfl
  case h =>
   intro W hW
   obtain ⟨hb,bx,rfl,hX,hlx⟩:=hW
   have x0:=hX.cell 0
   have x1:=hX.cell 1
   have x2:=hX.cell 2
   have f0:=hX.free 0
   have f1:=hX.free 1
   have f2:=hX.free 2
   simp at x0 x1 x2
   have BU:=ahZ (show jU u5 36 #[.int .i64 0,.int .i64 0,.slice none 0 0] #[.int .i64 bt,.int .i64 bm,.slice ba DL.length bc] [.pointer (some ⟨bx,0,none⟩),undef] (((W.setCell ⟨bx,0,none⟩ (.int .i64 bt)).setCell ⟨bx,1,none⟩ (.int .i64 bm)).setCell ⟨bx,2,none⟩ (.slice ba DL.length bc)) from ⟨dQ hb hlx,bx,rfl,jf hX,hlx⟩)
   clear hb hX
   go_simp
   first | exact BU.out | exact ⟨trivial,BU.out⟩
  intro x2 _
  refine kD ?_
  intro u6 aM
  obtain ⟨hb,b6,rfl,hX,hlx⟩:=aM
  have H6:=ahZ (H5.out.below hb)
  have G6:=ahZ (G5.out.below hb G5.out.lt)
  have R6:=ahZ (R5.out.below hb (λj e=>(R5.out.1.lt j e).2))
  have B6:=ahZ hX
  have BL6:=ahZ hlx
  have B56:=ahZ (show Below u5.heap.size u5 u6 from hb)
  clear hb hX t0 g0 HB
  clear gt
  have BE6:=ahZ (sJ.out.1.below B56.out)
  cases hbv
  ·by_cases hb0 : 0 <= g.base
   ·have g2:=G6.out.cell 2
    simp at g2
    go_wp2_with fail
    refine (mM true 14 _ (e2) u6 H6.out.e).mono ?_
    rintro r u7 ⟨rfl,hE,hO⟩
    have H7:=ahZ (H6.out.refuse hE hO)
    have G7:=ahZ (hO.blk G6.out (by have:=HN.out;omega))
    have R7:=ahZ (R6.out.only hO (λj e=>by have:=(R6.out.1.lt j e).1;have:=HN.out;omega))
    have B7:=ahZ (hO.blk B6.out (by have:=BL6.out;have:=H5.out.sz;omega))
    have Sl:=ahZ (dH.only BE6.out hO (λx hx hh=>by have:=H5.out.sS _ (sJ.out.2.2 x hx);omega))
    clear hE hO
    obtain ⟨e3,vV⟩ : ∃ x,(if (e2 : Int) = 0 /\ true = true then (14 : Int) else e2) = x:=⟨_,rfl⟩
    rw [vV] at H7
    have Ii:=ahZ vV
    clear vV
    have uK : Hid (e3 = E3):=ahZ (by rw [Gy.out,← Ii.out,← Nu.out,← Nt.out];cases th <;> cases sl <;> simp [hb0])
    clear Gy Nt Nu Ii
    obtain ⟨⟨x0,x1,x2⟩,ec,⟨f0,f1,f2⟩,fe,t0⟩:=H7.out.cells
    by_cases h3 : e3 = 0
    ·subst h3
     have HZ2:=ahZ (HZ1.out.trans (if_neg (by rw [← uK.out];simp)))
     clear HZ1 uK
     obtain ⟨Sm,Sq,Sr,Sv⟩ : u7.cell? ⟨w1.heap.size,0,none⟩ = some (.int .i64 g.tick) /\ u7.cell? ⟨w1.heap.size,1,none⟩ = some (.int .i64 g.time) /\ u7.cell? ⟨w1.heap.size,2,none⟩ = some (.int .i64 g.base) /\ u7.cell? ⟨w1.heap.size,3,none⟩ = some (.slice ga g.recs.length uR):=by
      have e0:=G7.out.cell 0
      have e1:=G7.out.cell 1
      have e2:=G7.out.cell 2
      have e3:=G7.out.cell 3
      simp at e0 e1 e2 e3
      exact ⟨e0,e1,e2,e3⟩
     have k0:=B7.out.cell 0
     have k1:=B7.out.cell 1
     have k2:=B7.out.cell 2
     simp at k0 k1 k2
     have hap : Calls Tryz.prog 117 #[.agg #[.int .i64 bt,.int .i64 bm,.slice ba DL.length bc],.agg #[.int .i64 g.tick,.int .i64 g.time,.int .i64 g.base,.slice ga g.recs.length uR]] u7 _:=ap u7 Sl.out ga uR (by
      obtain ⟨ga',gc',e,hh,_⟩:=R7.out.recs
      cases e
      exact hh)
     generalize jr ⟨bt,bm,DL⟩ g = y at *
     go_wp2_with fail
     refine hap.mono ?_
     rintro e u8 ⟨v,rfl,r9,hb⟩
     obtain ⟨va,vc,rfl,_⟩:=r9.slice
     have xV:=H7.out.below hb
     obtain ⟨⟨z0,z1,z2⟩,zc,⟨wL,wM,wN⟩,Sy,_⟩:=xV.cells
     have aap:=H7.out.sz
     obtain ⟨u9,uL⟩ : ∃ u,((u8.setCell ⟨w.heap.size,0,none⟩ (.int .i64 y.1.tick)).setCell ⟨w.heap.size,1,none⟩ (.int .i64 y.1.time)).setCell ⟨w.heap.size,2,none⟩ (.slice va y.1.ents.length vc) = u:=⟨_,rfl⟩
     have uM:=xV.yH y.1.tick y.1.time (.slice va y.1.ents.length vc)
     have mX:=xV.yI (aK.base r9 (show w.heap.size <= u7.heap.size by omega)) y.1.tick y.1.time (.slice va y.1.ents.length vc)
     rw [uL] at uM mX
     obtain ⟨_,yc,_,Sz,_⟩:=uM.cells
     obtain ⟨SE,Ca⟩ : ∃ u,u9.setCell ⟨w.heap.size + 1,0,none⟩ (.int .i64 y.2) = u:=⟨_,rfl⟩
     have pG:=uM.wP y.2
     have wQ:=uM.yJ mX y.2
     rw [Ca] at pG wQ
     have SF:=ahZ pG
     have SG:=ahZ wQ
     obtain ⟨⟨x0,x1,x2⟩,ec,⟨f0,f1,f2⟩,fe,t0⟩:=pG.cells
     have tm:=tJ T R l most floor gone S' y.1.tick y.1.time (.slice va y.1.ents.length vc) SE pG.st
     generalize fQ l y.1.tick y.1.time = tv at *
     clear hap r9 hb xV uM mX pG wQ Sm Sq Sr Sv k0 k1 k2 ap
     go_wp2_with fail
     clear uL Ca z0 z1 z2 zc wL wM wN Sy yc Sz
     refine tm.mono ?_
     rintro e SH ⟨rfl,hb⟩
     have Cb:=ahZ (SF.out.below hb)
     have Ij:=ahZ (aK.below SG.out hb)
     clear hb tm x0 x1 x2 ec f0 f1 f2 fe t0
     go_wp2_with fail
     refine (mM (!tv) 16 _ y.2 SH Cb.out.e).mono ?_
     rintro r Ik ⟨rfl,hE,hO⟩
     have Il:=ahZ (Cb.out.refuse hE hO)
     have SI:=ahZ (aK.only Ij.out hO (λj hj hk=>bK Ij.out Cb.out.e (by decide) (by rw [hj,hk])))
     clear hE hO
     obtain ⟨e5,Cc⟩ : ∃ x,(if (y.2 : Int) = 0 /\ (!tv) = true then (16 : Int) else y.2) = x:=⟨_,rfl⟩
     rw [Cc] at Il
     have HV : Hid (z = (y.1,e5)):=ahZ (by rw [HZ2.out,← Cc];cases tv <;> simp)
     clear Cc HZ2
     have HI : Hid (bW w T R l most floor gone S' (y.1.tick) (y.1.time) (.slice va y.1.ents.length vc) (e5) Ik.drew /\ aK Ik.drew w.heap.size (.slice va y.1.ents.length vc) (y.1.ents)):=ahZ ⟨Il.out.below (below_drewN (Below.refl _ _) 1),aK.below SI.out (below_drewN (Below.refl _ _) 1)⟩
     go_wp2_with fail
     apply gW (I:=(λW=>bW w T R l most floor gone S' (y.1.tick) (y.1.time) (.slice va y.1.ents.length vc) (e5) W /\ aK W w.heap.size (.slice va y.1.ents.length vc) (y.1.ents))) 3
     case hm=>kernel_rfl
     case hB=>kernel_rfl
     case hI=>exact HI.out
     simp only [List.take_succ_cons,List.take_zero,List.drop_succ_cons,List.drop_zero]
     repeat (apply aB;(next=>(intro W hW K hK;obtain ⟨⟨x0,x1,x2⟩,ec,⟨f0,f1,f2⟩,fe,t0⟩:=bW.cells hW.1;have HX:=ahZ (And.intro (bW.yH hW.1 (y.1.tick) (y.1.time) (.slice va y.1.ents.length vc)) (bW.yI hW.1 hW.2 (y.1.tick) (y.1.time) (.slice va y.1.ents.length vc)));go_simp;first | exact ⟨hW,hK⟩ | exact ⟨HX.out,hK⟩ | exact hK));(next=>exact ⟨_,HI.out⟩);(try go_simp))
     refine aW ?_
     intro WZ jS rz
     obtain ⟨⟨x0,x1,x2⟩,ec,⟨f0,f1,f2⟩,fe,t0⟩:=bW.cells jS
     have HY:=ahZ (bW.wP jS (e5))
     have FC:=ahZ (bW.yJ jS rz (e5))
     obtain ⟨⟨y0,y1,y2⟩,yc,_⟩:=bW.cells HY.out
     clear jS rz
     go_wp2_with fail
     exact bodyPost_ret (v:=.tuple #[.agg #[.int .i64 (y.1.tick),.int .i64 (y.1.time),.slice va y.1.ents.length vc],.int .i64 (e5)]) (by simp [results,Tryz.results77,go_sem,y0,y1,y2,yc,x0,x1,x2,ec]) rfl ⟨_,by rw [HV.out],by rw [HV.out];exact FC.out,HY.out.b⟩
    ·have h3n : (e3 == 0) = false:=by simpa using h3
     have HV : Hid (z = (eT,e3)):=ahZ (by rw [HZ1.out,← uK.out,if_pos (by simpa using h3)])
     clear HZ1 uK ap
     have tm:=tJ T R l most floor gone S' 0 0 (.slice none 0 0) u7 H7.out.st
     generalize fQ l 0 0 = tv at *
     go_wp2_with fail
     refine tm.mono ?_
     rintro e u8 ⟨rfl,hb⟩
     have H8:=ahZ (H7.out.below hb)
     clear hb tm x0 x1 x2 ec f0 f1 f2 fe t0
     go_wp2_with fail
     refine (mM (!tv) 16 _ e3 u8 H8.out.e).mono ?_
     rintro r u9 ⟨rfl,hE,hO⟩
     have H9:=ahZ (H8.out.refuse hE hO)
     clear hE hO
     rw [if_neg (by simp [h3])] at H9
     have HI : Hid (bW w T R l most floor gone S' (0) (0) (.slice none 0 0) (e3) u9.drew /\ aK u9.drew w.heap.size (.slice none 0 0) ([])):=ahZ ⟨H9.out.below (below_drewN (Below.refl _ _) 1),aK.nil _ _⟩
     go_wp2_with fail
     apply gW (I:=(λW=>bW w T R l most floor gone S' (0) (0) (.slice none 0 0) (e3) W /\ aK W w.heap.size (.slice none 0 0) ([]))) 3
     case hm=>kernel_rfl
     case hB=>kernel_rfl
     case hI=>exact HI.out
     simp only [List.take_succ_cons,List.take_zero,List.drop_succ_cons,List.drop_zero]
     repeat (apply aB;(next=>(intro W hW K hK;obtain ⟨⟨x0,x1,x2⟩,ec,⟨f0,f1,f2⟩,fe,t0⟩:=bW.cells hW.1;have HX:=ahZ (And.intro (bW.yH hW.1 (0) (0) (.slice none 0 0)) (bW.yI hW.1 hW.2 (0) (0) (.slice none 0 0)));go_simp;first | exact ⟨hW,hK⟩ | exact ⟨HX.out,hK⟩ | exact hK));(next=>exact ⟨_,HI.out⟩);(try go_simp))
     refine aW ?_
     intro WZ jS rz
     obtain ⟨⟨x0,x1,x2⟩,ec,⟨f0,f1,f2⟩,fe,t0⟩:=bW.cells jS
     have HY:=ahZ (bW.wP jS (e3))
     have FC:=ahZ (bW.yJ jS rz (e3))
     obtain ⟨⟨y0,y1,y2⟩,yc,_⟩:=bW.cells HY.out
     clear jS rz
     go_wp2_with fail
     exact bodyPost_ret (v:=.tuple #[.agg #[.int .i64 (0),.int .i64 (0),.slice none 0 0],.int .i64 (e3)]) (by simp [results,Tryz.results77,go_sem,y0,y1,y2,yc,x0,x1,x2,ec]) rfl ⟨.slice none 0 0,by rw [HV.out];rfl,by rw [HV.out];exact aK.nil _ _,HY.out.b⟩
   ·have g2:=G6.out.cell 2
    simp at g2
    have hb1 : ¬ g.base ≥ 0:=hb0
    go_wp2_with fail
    refine (mM false 14 _ (e2) u6 H6.out.e).mono ?_
    rintro r u7 ⟨rfl,hE,hO⟩
    have H7:=ahZ (H6.out.refuse hE hO)
    have G7:=ahZ (hO.blk G6.out (by have:=HN.out;omega))
    have R7:=ahZ (R6.out.only hO (λj e=>by have:=(R6.out.1.lt j e).1;have:=HN.out;omega))
    have B7:=ahZ (hO.blk B6.out (by have:=BL6.out;have:=H5.out.sz;omega))
    have Sl:=ahZ (dH.only BE6.out hO (λx hx hh=>by have:=H5.out.sS _ (sJ.out.2.2 x hx);omega))
    clear hE hO
    obtain ⟨e3,vV⟩ : ∃ x,(if (e2 : Int) = 0 /\ false = true then (14 : Int) else e2) = x:=⟨_,rfl⟩
    rw [vV] at H7
    have Ii:=ahZ vV
    clear vV
    have uK : Hid (e3 = E3):=ahZ (by rw [Gy.out,← Ii.out,← Nu.out,← Nt.out];cases th <;> cases sl <;> simp [hb0])
    clear Gy Nt Nu Ii
    obtain ⟨⟨x0,x1,x2⟩,ec,⟨f0,f1,f2⟩,fe,t0⟩:=H7.out.cells
    by_cases h3 : e3 = 0
    ·subst h3
     have HZ2:=ahZ (HZ1.out.trans (if_neg (by rw [← uK.out];simp)))
     clear HZ1 uK
     obtain ⟨Sm,Sq,Sr,Sv⟩ : u7.cell? ⟨w1.heap.size,0,none⟩ = some (.int .i64 g.tick) /\ u7.cell? ⟨w1.heap.size,1,none⟩ = some (.int .i64 g.time) /\ u7.cell? ⟨w1.heap.size,2,none⟩ = some (.int .i64 g.base) /\ u7.cell? ⟨w1.heap.size,3,none⟩ = some (.slice ga g.recs.length uR):=by
      have e0:=G7.out.cell 0
      have e1:=G7.out.cell 1
      have e2:=G7.out.cell 2
      have e3:=G7.out.cell 3
      simp at e0 e1 e2 e3
      exact ⟨e0,e1,e2,e3⟩
     have k0:=B7.out.cell 0
     have k1:=B7.out.cell 1
     have k2:=B7.out.cell 2
     simp at k0 k1 k2
     have hap : Calls Tryz.prog 117 #[.agg #[.int .i64 bt,.int .i64 bm,.slice ba DL.length bc],.agg #[.int .i64 g.tick,.int .i64 g.time,.int .i64 g.base,.slice ga g.recs.length uR]] u7 _:=ap u7 Sl.out ga uR (by
      obtain ⟨ga',gc',e,hh,_⟩:=R7.out.recs
      cases e
      exact hh)
     generalize jr ⟨bt,bm,DL⟩ g = y at *
     go_wp2_with fail
     refine hap.mono ?_
     rintro e u8 ⟨v,rfl,r9,hb⟩
     obtain ⟨va,vc,rfl,_⟩:=r9.slice
     have xV:=H7.out.below hb
     obtain ⟨⟨z0,z1,z2⟩,zc,⟨wL,wM,wN⟩,Sy,_⟩:=xV.cells
     have aap:=H7.out.sz
     obtain ⟨u9,uL⟩ : ∃ u,((u8.setCell ⟨w.heap.size,0,none⟩ (.int .i64 y.1.tick)).setCell ⟨w.heap.size,1,none⟩ (.int .i64 y.1.time)).setCell ⟨w.heap.size,2,none⟩ (.slice va y.1.ents.length vc) = u:=⟨_,rfl⟩
     have uM:=xV.yH y.1.tick y.1.time (.slice va y.1.ents.length vc)
     have mX:=xV.yI (aK.base r9 (show w.heap.size <= u7.heap.size by omega)) y.1.tick y.1.time (.slice va y.1.ents.length vc)
     rw [uL] at uM mX
     obtain ⟨_,yc,_,Sz,_⟩:=uM.cells
     obtain ⟨SE,Ca⟩ : ∃ u,u9.setCell ⟨w.heap.size + 1,0,none⟩ (.int .i64 y.2) = u:=⟨_,rfl⟩
     have pG:=uM.wP y.2
     have wQ:=uM.yJ mX y.2
     rw [Ca] at pG wQ
     have SF:=ahZ pG
     have SG:=ahZ wQ
     obtain ⟨⟨x0,x1,x2⟩,ec,⟨f0,f1,f2⟩,fe,t0⟩:=pG.cells
     have tm:=tJ T R l most floor gone S' y.1.tick y.1.time (.slice va y.1.ents.length vc) SE pG.st
     generalize fQ l y.1.tick y.1.time = tv at *
     clear hap r9 hb xV uM mX pG wQ Sm Sq Sr Sv k0 k1 k2 ap
     go_wp2_with fail
     clear uL Ca z0 z1 z2 zc wL wM wN Sy yc Sz
     refine tm.mono ?_
     rintro e SH ⟨rfl,hb⟩
     have Cb:=ahZ (SF.out.below hb)
     have Ij:=ahZ (aK.below SG.out hb)
     clear hb tm x0 x1 x2 ec f0 f1 f2 fe t0
     go_wp2_with fail
     refine (mM (!tv) 16 _ y.2 SH Cb.out.e).mono ?_
     rintro r Ik ⟨rfl,hE,hO⟩
     have Il:=ahZ (Cb.out.refuse hE hO)
     have SI:=ahZ (aK.only Ij.out hO (λj hj hk=>bK Ij.out Cb.out.e (by decide) (by rw [hj,hk])))
     clear hE hO
     obtain ⟨e5,Cc⟩ : ∃ x,(if (y.2 : Int) = 0 /\ (!tv) = true then (16 : Int) else y.2) = x:=⟨_,rfl⟩
     rw [Cc] at Il
     have HV : Hid (z = (y.1,e5)):=ahZ (by rw [HZ2.out,← Cc];cases tv <;> simp)
     clear Cc HZ2
     have HI : Hid (bW w T R l most floor gone S' (y.1.tick) (y.1.time) (.slice va y.1.ents.length vc) (e5) Ik.drew /\ aK Ik.drew w.heap.size (.slice va y.1.ents.length vc) (y.1.ents)):=ahZ ⟨Il.out.below (below_drewN (Below.refl _ _) 1),aK.below SI.out (below_drewN (Below.refl _ _) 1)⟩
     go_wp2_with fail
     apply gW (I:=(λW=>bW w T R l most floor gone S' (y.1.tick) (y.1.time) (.slice va y.1.ents.length vc) (e5) W /\ aK W w.heap.size (.slice va y.1.ents.length vc) (y.1.ents))) 3
     case hm=>kernel_rfl
     case hB=>kernel_rfl
     case hI=>exact HI.out
     simp only [List.take_succ_cons,List.take_zero,List.drop_succ_cons,List.drop_zero]
     repeat (apply aB;(next=>(intro W hW K hK;obtain ⟨⟨x0,x1,x2⟩,ec,⟨f0,f1,f2⟩,fe,t0⟩:=bW.cells hW.1;have HX:=ahZ (And.intro (bW.yH hW.1 (y.1.tick) (y.1.time) (.slice va y.1.ents.length vc)) (bW.yI hW.1 hW.2 (y.1.tick) (y.1.time) (.slice va y.1.ents.length vc)));go_simp;first | exact ⟨hW,hK⟩ | exact ⟨HX.out,hK⟩ | exact hK));(next=>exact ⟨_,HI.out⟩);(try go_simp))
     refine aW ?_
     intro WZ jS rz
     obtain ⟨⟨x0,x1,x2⟩,ec,⟨f0,f1,f2⟩,fe,t0⟩:=bW.cells jS
     have HY:=ahZ (bW.wP jS (e5))
     have FC:=ahZ (bW.yJ jS rz (e5))
     obtain ⟨⟨y0,y1,y2⟩,yc,_⟩:=bW.cells HY.out
     clear jS rz
     go_wp2_with fail
     exact bodyPost_ret (v:=.tuple #[.agg #[.int .i64 (y.1.tick),.int .i64 (y.1.time),.slice va y.1.ents.length vc],.int .i64 (e5)]) (by simp [results,Tryz.results77,go_sem,y0,y1,y2,yc,x0,x1,x2,ec]) rfl ⟨_,by rw [HV.out],by rw [HV.out];exact FC.out,HY.out.b⟩
    ·have h3n : (e3 == 0) = false:=by simpa using h3
     have HV : Hid (z = (eT,e3)):=ahZ (by rw [HZ1.out,← uK.out,if_pos (by simpa using h3)])
     clear HZ1 uK ap
     have tm:=tJ T R l most floor gone S' 0 0 (.slice none 0 0) u7 H7.out.st
     generalize fQ l 0 0 = tv at *
     go_wp2_with fail
     refine tm.mono ?_
     rintro e u8 ⟨rfl,hb⟩
     have H8:=ahZ (H7.out.below hb)
     clear hb tm x0 x1 x2 ec f0 f1 f2 fe t0
     go_wp2_with fail
     refine (mM (!tv) 16 _ e3 u8 H8.out.e).mono ?_
     rintro r u9 ⟨rfl,hE,hO⟩
     have H9:=ahZ (H8.out.refuse hE hO)
     clear hE hO
     rw [if_neg (by simp [h3])] at H9
     have HI : Hid (bW w T R l most floor gone S' (0) (0) (.slice none 0 0) (e3) u9.drew /\ aK u9.drew w.heap.size (.slice none 0 0) ([])):=ahZ ⟨H9.out.below (below_drewN (Below.refl _ _) 1),aK.nil _ _⟩
     go_wp2_with fail
     apply gW (I:=(λW=>bW w T R l most floor gone S' (0) (0) (.slice none 0 0) (e3) W /\ aK W w.heap.size (.slice none 0 0) ([]))) 3
     case hm=>kernel_rfl
     case hB=>kernel_rfl
     case hI=>exact HI.out
     simp only [List.take_succ_cons,List.take_zero,List.drop_succ_cons,List.drop_zero]
     repeat (apply aB;(next=>(intro W hW K hK;obtain ⟨⟨x0,x1,x2⟩,ec,⟨f0,f1,f2⟩,fe,t0⟩:=bW.cells hW.1;have HX:=ahZ (And.intro (bW.yH hW.1 (0) (0) (.slice none 0 0)) (bW.yI hW.1 hW.2 (0) (0) (.slice none 0 0)));go_simp;first | exact ⟨hW,hK⟩ | exact ⟨HX.out,hK⟩ | exact hK));(next=>exact ⟨_,HI.out⟩);(try go_simp))
     refine aW ?_
     intro WZ jS rz
     obtain ⟨⟨x0,x1,x2⟩,ec,⟨f0,f1,f2⟩,fe,t0⟩:=bW.cells jS
     have HY:=ahZ (bW.wP jS (e3))
     have FC:=ahZ (bW.yJ jS rz (e3))
     obtain ⟨⟨y0,y1,y2⟩,yc,_⟩:=bW.cells HY.out
     clear jS rz
     go_wp2_with fail
     exact bodyPost_ret (v:=.tuple #[.agg #[.int .i64 (0),.int .i64 (0),.slice none 0 0],.int .i64 (e3)]) (by simp [results,Tryz.results77,go_sem,y0,y1,y2,yc,x0,x1,x2,ec]) rfl ⟨.slice none 0 0,by rw [HV.out];rfl,by rw [HV.out];exact aK.nil _ _,HY.out.b⟩
  ·go_wp2_with fail
   refine (mM false 14 _ (e2) u6 H6.out.e).mono ?_
   rintro r u7 ⟨rfl,hE,hO⟩
   have H7:=ahZ (H6.out.refuse hE hO)
   have G7:=ahZ (hO.blk G6.out (by have:=HN.out;omega))
   have R7:=ahZ (R6.out.only hO (λj e=>by have:=(R6.out.1.lt j e).1;have:=HN.out;omega))
   have B7:=ahZ (hO.blk B6.out (by have:=BL6.out;have:=H5.out.sz;omega))
   have Sl:=ahZ (dH.only BE6.out hO (λx hx hh=>by have:=H5.out.sS _ (sJ.out.2.2 x hx);omega))
   clear hE hO
   obtain ⟨e3,vV⟩ : ∃ x,(if (e2 : Int) = 0 /\ false = true then (14 : Int) else e2) = x:=⟨_,rfl⟩
   rw [vV] at H7
   have Ii:=ahZ vV
   clear vV
   have uK : Hid (e3 = E3):=ahZ (by rw [Gy.out,← Ii.out,← Nu.out,← Nt.out];cases th <;> cases sl <;> simp)
   clear Gy Nt Nu Ii
   obtain ⟨⟨x0,x1,x2⟩,ec,⟨f0,f1,f2⟩,fe,t0⟩:=H7.out.cells
   by_cases h3 : e3 = 0
   ·subst h3
    have HZ2:=ahZ (HZ1.out.trans (if_neg (by rw [← uK.out];simp)))
    clear HZ1 uK
    obtain ⟨Sm,Sq,Sr,Sv⟩ : u7.cell? ⟨w1.heap.size,0,none⟩ = some (.int .i64 g.tick) /\ u7.cell? ⟨w1.heap.size,1,none⟩ = some (.int .i64 g.time) /\ u7.cell? ⟨w1.heap.size,2,none⟩ = some (.int .i64 g.base) /\ u7.cell? ⟨w1.heap.size,3,none⟩ = some (.slice ga g.recs.length uR):=by
     have e0:=G7.out.cell 0
     have e1:=G7.out.cell 1
     have e2:=G7.out.cell 2
     have e3:=G7.out.cell 3
     simp at e0 e1 e2 e3
     exact ⟨e0,e1,e2,e3⟩
    have k0:=B7.out.cell 0
    have k1:=B7.out.cell 1
    have k2:=B7.out.cell 2
    simp at k0 k1 k2
    have hap : Calls Tryz.prog 117 #[.agg #[.int .i64 bt,.int .i64 bm,.slice ba DL.length bc],.agg #[.int .i64 g.tick,.int .i64 g.time,.int .i64 g.base,.slice ga g.recs.length uR]] u7 _:=ap u7 Sl.out ga uR (by
     obtain ⟨ga',gc',e,hh,_⟩:=R7.out.recs
     cases e
     exact hh)
    generalize jr ⟨bt,bm,DL⟩ g = y at *
    go_wp2_with fail
    refine hap.mono ?_
    rintro e u8 ⟨v,rfl,r9,hb⟩
    obtain ⟨va,vc,rfl,_⟩:=r9.slice
    have xV:=H7.out.below hb
    obtain ⟨⟨z0,z1,z2⟩,zc,⟨wL,wM,wN⟩,Sy,_⟩:=xV.cells
    have aap:=H7.out.sz
    obtain ⟨u9,uL⟩ : ∃ u,((u8.setCell ⟨w.heap.size,0,none⟩ (.int .i64 y.1.tick)).setCell ⟨w.heap.size,1,none⟩ (.int .i64 y.1.time)).setCell ⟨w.heap.size,2,none⟩ (.slice va y.1.ents.length vc) = u:=⟨_,rfl⟩
    have uM:=xV.yH y.1.tick y.1.time (.slice va y.1.ents.length vc)
    have mX:=xV.yI (aK.base r9 (show w.heap.size <= u7.heap.size by omega)) y.1.tick y.1.time (.slice va y.1.ents.length vc)
    rw [uL] at uM mX
    obtain ⟨_,yc,_,Sz,_⟩:=uM.cells
    obtain ⟨SE,Ca⟩ : ∃ u,u9.setCell ⟨w.heap.size + 1,0,none⟩ (.int .i64 y.2) = u:=⟨_,rfl⟩
    have pG:=uM.wP y.2
    have wQ:=uM.yJ mX y.2
    rw [Ca] at pG wQ
    have SF:=ahZ pG
    have SG:=ahZ wQ
    obtain ⟨⟨x0,x1,x2⟩,ec,⟨f0,f1,f2⟩,fe,t0⟩:=pG.cells
    have tm:=tJ T R l most floor gone S' y.1.tick y.1.time (.slice va y.1.ents.length vc) SE pG.st
    generalize fQ l y.1.tick y.1.time = tv at *
    clear hap r9 hb xV uM mX pG wQ Sm Sq Sr Sv k0 k1 k2 ap
    go_wp2_with fail
    clear uL Ca z0 z1 z2 zc wL wM wN Sy yc Sz
    refine tm.mono ?_
    rintro e SH ⟨rfl,hb⟩
    have Cb:=ahZ (SF.out.below hb)
    have Ij:=ahZ (aK.below SG.out hb)
    clear hb tm x0 x1 x2 ec f0 f1 f2 fe t0
    go_wp2_with fail
    refine (mM (!tv) 16 _ y.2 SH Cb.out.e).mono ?_
    rintro r Ik ⟨rfl,hE,hO⟩
    have Il:=ahZ (Cb.out.refuse hE hO)
    have SI:=ahZ (aK.only Ij.out hO (λj hj hk=>bK Ij.out Cb.out.e (by decide) (by rw [hj,hk])))
    clear hE hO
    obtain ⟨e5,Cc⟩ : ∃ x,(if (y.2 : Int) = 0 /\ (!tv) = true then (16 : Int) else y.2) = x:=⟨_,rfl⟩
    rw [Cc] at Il
    have HV : Hid (z = (y.1,e5)):=ahZ (by rw [HZ2.out,← Cc];cases tv <;> simp)
    clear Cc HZ2
    have HI : Hid (bW w T R l most floor gone S' (y.1.tick) (y.1.time) (.slice va y.1.ents.length vc) (e5) Ik.drew /\ aK Ik.drew w.heap.size (.slice va y.1.ents.length vc) (y.1.ents)):=ahZ ⟨Il.out.below (below_drewN (Below.refl _ _) 1),aK.below SI.out (below_drewN (Below.refl _ _) 1)⟩
    go_wp2_with fail
    apply gW (I:=(λW=>bW w T R l most floor gone S' (y.1.tick) (y.1.time) (.slice va y.1.ents.length vc) (e5) W /\ aK W w.heap.size (.slice va y.1.ents.length vc) (y.1.ents))) 3
    case hm=>kernel_rfl
    case hB=>kernel_rfl
    case hI=>exact HI.out
    simp only [List.take_succ_cons,List.take_zero,List.drop_succ_cons,List.drop_zero]
    repeat (apply aB;(next=>(intro W hW K hK;obtain ⟨⟨x0,x1,x2⟩,ec,⟨f0,f1,f2⟩,fe,t0⟩:=bW.cells hW.1;have HX:=ahZ (And.intro (bW.yH hW.1 (y.1.tick) (y.1.time) (.slice va y.1.ents.length vc)) (bW.yI hW.1 hW.2 (y.1.tick) (y.1.time) (.slice va y.1.ents.length vc)));go_simp;first | exact ⟨hW,hK⟩ | exact ⟨HX.out,hK⟩ | exact hK));(next=>exact ⟨_,HI.out⟩);(try go_simp))
    refine aW ?_
    intro WZ jS rz
    obtain ⟨⟨x0,x1,x2⟩,ec,⟨f0,f1,f2⟩,fe,t0⟩:=bW.cells jS
    have HY:=ahZ (bW.wP jS (e5))
    have FC:=ahZ (bW.yJ jS rz (e5))
    obtain ⟨⟨y0,y1,y2⟩,yc,_⟩:=bW.cells HY.out
    clear jS rz
    go_wp2_with fail
    exact bodyPost_ret (v:=.tuple #[.agg #[.int .i64 (y.1.tick),.int .i64 (y.1.time),.slice va y.1.ents.length vc],.int .i64 (e5)]) (by simp [results,Tryz.results77,go_sem,y0,y1,y2,yc,x0,x1,x2,ec]) rfl ⟨_,by rw [HV.out],by rw [HV.out];exact FC.out,HY.out.b⟩
   ·have h3n : (e3 == 0) = false:=by simpa using h3
    have HV : Hid (z = (eT,e3)):=ahZ (by rw [HZ1.out,← uK.out,if_pos (by simpa using h3)])
    clear HZ1 uK ap
    have tm:=tJ T R l most floor gone S' 0 0 (.slice none 0 0) u7 H7.out.st
    generalize fQ l 0 0 = tv at *
    go_wp2_with fail
    refine tm.mono ?_
    rintro e u8 ⟨rfl,hb⟩
    have H8:=ahZ (H7.out.below hb)
    clear hb tm x0 x1 x2 ec f0 f1 f2 fe t0
    go_wp2_with fail
    refine (mM (!tv) 16 _ e3 u8 H8.out.e).mono ?_
    rintro r u9 ⟨rfl,hE,hO⟩
    have H9:=ahZ (H8.out.refuse hE hO)
    clear hE hO
    rw [if_neg (by simp [h3])] at H9
    have HI : Hid (bW w T R l most floor gone S' (0) (0) (.slice none 0 0) (e3) u9.drew /\ aK u9.drew w.heap.size (.slice none 0 0) ([])):=ahZ ⟨H9.out.below (below_drewN (Below.refl _ _) 1),aK.nil _ _⟩
    go_wp2_with fail
    apply gW (I:=(λW=>bW w T R l most floor gone S' (0) (0) (.slice none 0 0) (e3) W /\ aK W w.heap.size (.slice none 0 0) ([]))) 3
    case hm=>kernel_rfl
    case hB=>kernel_rfl
    case hI=>exact HI.out
    simp only [List.take_succ_cons,List.take_zero,List.drop_succ_cons,List.drop_zero]
    repeat (apply aB;(next=>(intro W hW K hK;obtain ⟨⟨x0,x1,x2⟩,ec,⟨f0,f1,f2⟩,fe,t0⟩:=bW.cells hW.1;have HX:=ahZ (And.intro (bW.yH hW.1 (0) (0) (.slice none 0 0)) (bW.yI hW.1 hW.2 (0) (0) (.slice none 0 0)));go_simp;first | exact ⟨hW,hK⟩ | exact ⟨HX.out,hK⟩ | exact hK));(next=>exact ⟨_,HI.out⟩);(try go_simp))
    refine aW ?_
    intro WZ jS rz
    obtain ⟨⟨x0,x1,x2⟩,ec,⟨f0,f1,f2⟩,fe,t0⟩:=bW.cells jS
    have HY:=ahZ (bW.wP jS (e3))
    have FC:=ahZ (bW.yJ jS rz (e3))
    obtain ⟨⟨y0,y1,y2⟩,yc,_⟩:=bW.cells HY.out
    clear jS rz
    go_wp2_with fail
    exact bodyPost_ret (v:=.tuple #[.agg #[.int .i64 (0),.int .i64 (0),.slice none 0 0],.int .i64 (e3)]) (by simp [results,Tryz.results77,go_sem,y0,y1,y2,yc,x0,x1,x2,ec]) rfl ⟨.slice none 0 0,by rw [HV.out];rfl,by rw [HV.out];exact aK.nil _ _,HY.out.b⟩
 ·have hne : (e0 != 0) = true:=by simpa using he0
  obtain rfl : z = (eT,e0):=by rw [HZ.out,if_pos he0]
  have HI : Hid (bW w T R l most floor gone S' (0) (0) (.slice none 0 0) (e0) u1.drew /\ aK u1.drew w.heap.size (.slice none 0 0) ([])):=ahZ ⟨H1.out.below (below_drewN (Below.refl _ _) 1),aK.nil _ _⟩
  go_wp2_with fail
  apply gW (I:=(λW=>bW w T R l most floor gone S' (0) (0) (.slice none 0 0) (e0) W /\ aK W w.heap.size (.slice none 0 0) ([]))) 3
  case hm=>kernel_rfl
  case hB=>kernel_rfl
  case hI=>exact HI.out
  simp only [List.take_succ_cons,List.take_zero,List.drop_succ_cons,List.drop_zero]
  repeat (apply aB;(next=>(intro W hW K hK;obtain ⟨⟨x0,x1,x2⟩,ec,⟨f0,f1,f2⟩,fe,t0⟩:=bW.cells hW.1;have HX:=ahZ (And.intro (bW.yH hW.1 (0) (0) (.slice none 0 0)) (bW.yI hW.1 hW.2 (0) (0) (.slice none 0 0)));go_simp;first | exact ⟨hW,hK⟩ | exact ⟨HX.out,hK⟩ | exact hK));(next=>exact ⟨_,HI.out⟩);(try go_simp))
  refine aW ?_
  intro WZ jS rz
  obtain ⟨⟨x0,x1,x2⟩,ec,⟨f0,f1,f2⟩,fe,t0⟩:=bW.cells jS
  have HY:=ahZ (bW.wP jS (e0))
  have FC:=ahZ (bW.yJ jS rz (e0))
  obtain ⟨⟨y0,y1,y2⟩,yc,_⟩:=bW.cells HY.out
  clear jS rz
  go_wp2_with fail
  exact bodyPost_ret (v:=.tuple #[.agg #[.int .i64 (0),.int .i64 (0),.slice none 0 0],.int .i64 (e0)]) (by simp [results,Tryz.results77,go_sem,y0,y1,y2,yc,x0,x1,x2,ec]) rfl ⟨.slice none 0 0,rfl,aK.nil _ _,HY.out.b⟩
end Go.Proofs.YtklkooeimkedgaaGreat
