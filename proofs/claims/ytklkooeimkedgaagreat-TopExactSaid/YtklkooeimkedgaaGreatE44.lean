/- Walk of TopExact. -/
import Derived.Laws.OwnMore
import Derived.Test.YtklkooeimkedgaaGreatE43
set_option linter.unusedVariables false
set_option linter.unusedSimpArgs false
namespace Go.Proofs.YtklkooeimkedgaaGreat
open Go.RowKit
set_option maxRecDepth 100000
theorem EY {ops : Array Oper} {rest : List Oper} {o : Oper} {a : Act} {Q : Exit -> Act -> World -> Prop} (w : World) (hgd : o.guard = none) (s x : Operand)
 (ho : o.op = .call { callee:=.builtin .append,args:=#[s,x],argTypes:=#[34,34] })
 (base : Nat) (v : Value) (xs : List aA) (hs : a.eval s = v) (hown : aK w base v xs)
 (ao : Option Addr) (c : Nat) (es : List aA) (hx : a.eval x = .slice ao es.length c) (hz : fO w ao es) (hc : ao = none -> c = 0)
 (hb : xs.length + es.length <= 1000000) (hbase : base <= w.heap.size)
 (h : ∀ v' w',aK w' base v' (xs ++ es) -> w.grownBy w' v.ownBlock -> wpList Tryz.prog ops Q rest (a.put o.dst v') w') : wpList Tryz.prog ops Q (o :: rest) a w:=by
 obtain ⟨i0,hi,hz0,hz1,hz2⟩:=info_parts Mw
 cases ao with
 | none =>
   obtain rfl:=hc rfl
   have hm : es = []:=by
    rcases hz.2 with hz | ⟨b,off,e,_⟩
    ·exact List.eq_nil_of_length_eq_zero hz
    ·cases e
   subst hm
   refine wpList_append_own_none hgd s x 34 ho base 33 i0 9 Tryz.underlying34 hi v xs.length (xs.flatMap j4) hs hown hx ?_
   have:=h v w (by simpa using hown) (World.grownBy.refl _ _)
   exact this
 | some ad =>
   have hlen : ∀ l : List aA,(l.flatMap j4).length = l.length * 9:=λl=>qC (λ_=>rfl) l
   refine wpList_append_own w hgd s x 34 ho base 33 i0 (.agg #[.int .i64 0,.int .i64 0,.int .i64 0,.int .i64 0,.int .i64 0,.int .i64 0,.int .i64 0,.int .u16 0,.int .u8 0]) 9 64 Tryz.underlying34 hi hz0 hz1 hz2 rfl (by decide) v xs.length (xs.flatMap j4) hs hown ad es.length c (es.flatMap j4) hx (hlen es) ?_ ?_ (by unfold maxLen;omega) (by omega) hbase ?_
   ·intro j u hj
    have hne : es ≠ []:=by rintro rfl;simp at hj
    obtain ⟨b,off,e,hcell⟩:=hz.own hne
    cases e
    have e : (⟨b,off,none⟩ : Addr).add j = ⟨b,off + j,none⟩:=by unfold Addr.add;split <;> simp_all
    rw [e]
    exact hcell j u hj
   ·intro u hu
    obtain ⟨e,_,he⟩:=List.mem_flatMap.1 hu
    simp [j4] at he
    rcases he with rfl | rfl | rfl | rfl | rfl | rfl | rfl | rfl | rfl <;> rfl
   ·intro v' w' h1 h2 _
    refine h v' w' ?_ h2
    unfold aK
    rw [List.length_append,List.flatMap_append]
    exact h1
set_option maxHeartbeats 1000000 in
theorem N7 (tick time : Int) (a : Option Addr) (cap : Nat) (es : List aA) (w : World) (h : fO w a es) (hc : a = none -> cap = 0) (hl : es.length <= 1000) :
 Calls Tryz.prog 79 #[.agg #[.int .i64 tick,.int .i64 time,.slice a es.length cap]] w λe w'=>∃ a' c',e = .returned (.agg #[.int .i64 tick,.int .i64 time,.slice a' es.length c']) /\ aK w' w.heap.size (.slice a' es.length c') es /\ Below w.heap.size w w':=by
 obtain ⟨w1,hw1⟩ : ∃ w1,((w.alloc (.cells #[.int .i64 tick,.int .i64 time,.slice a es.length cap] 36)).alloc (.cells #[.int .i64 0,.int .i64 0,.slice none 0 0] 36)).alloc (.cells #[] 33) = w1:=⟨_,rfl⟩
 have hB1 : Below w.heap.size w w1:=by rw [← hw1];exact ((ah7).alloc (by simp) _).alloc (by simp;omega) _
 have HX : Hid (ak w1 w.heap.size #[.int .i64 tick,.int .i64 time,.slice a es.length cap] 36):=ah6 (by rw [← hw1];exact ((ak.new _ _ _).alloc _).alloc _)
 have HY : Hid (ak w1 (w.heap.size + 1) #[.int .i64 0,.int .i64 0,.slice none 0 0] 36):=ah6 (by
  rw [← hw1]
  have:=(ak.new (w.alloc (.cells #[.int .i64 tick,.int .i64 time,.slice a es.length cap] 36)) #[.int .i64 0,.int .i64 0,.slice none 0 0] 36).alloc (.cells #[] 33)
  simpa using this)
 have HO : Hid (aK w1 w.heap.size (.slice (some ⟨w.heap.size + 2,0,none⟩) 0 0) []):=ah6 (by
  refine ⟨rfl,.inr ⟨w.heap.size + 2,0,#[],rfl,by omega,?_,Nat.le_refl _,by unfold maxLen;omega,rfl,rfl⟩⟩
  rw [← hw1]
  have:=ak.new ((w.alloc (.cells #[.int .i64 tick,.int .i64 time,.slice a es.length cap] 36)).alloc (.cells #[.int .i64 0,.int .i64 0,.slice none 0 0] 36)) #[] 33
  unfold ak at this
  simpa using this)
 have HE:=ah6 (h.below hB1);have HB:=ah6 hB1;have c0:=HX.out.cell 0;have c1:=HX.out.cell 1;have c2:=HX.out.cell 2;simp at c0 c1 c2;clear h hB1
 go_enter Tryz.func79,Tryz.ntmps79
 go_wp2_with (at_builtin;refine EY w1 rfl (.tmp 3) (.tmp 5) rfl w.heap.size _ [] rfl HO.out a cap es rfl HE.out hc (by simp;omega) HB.out.size ?_)
 intro v' w' hO hg
 clear hw1 c0 c1 c2
 obtain ⟨a',c',rfl,_⟩:=hO.slice
 have hX:=HX.out.grown hg (by simp [Value.ownBlock] <;> omega)
 have hY:=HY.out.grown hg (by simp [Value.ownBlock] <;> omega)
 have hB2 : Below w.heap.size w w':=HB.out.grown hg HB.out.size (λk hk=>by simp [Value.ownBlock] at hk;omega)
 have nX : (Value.slice a' es.length c').ownBlock ≠ some w.heap.size:=bL hO hX (by decide)
 have nY : (Value.slice a' es.length c').ownBlock ≠ some (w.heap.size + 1):=bL hO hY (by decide)
 have p2:=hX.cell 2;have q2:=hX.free 2;simp at p2;have hX2:=hX.set 2 (.slice a' es.length c');simp at hX2
 have hY2 : ak (w'.setCell ⟨w.heap.size,2,none⟩ (.slice a' es.length c')) (w.heap.size + 1) #[.int .i64 0,.int .i64 0,.slice none 0 0] 36:=hY.far (p:=⟨w.heap.size,2,none⟩) (by simp) (.slice a' es.length c')
 have r0:=hX2.cell 0;have r1:=hX2.cell 1;have r2:=hX2.cell 2;have y0:=hY2.cell 0;have y1:=hY2.cell 1;have y2:=hY2.cell 2;have z0:=hY2.free 0;have z1:=hY2.free 1;have z2:=hY2.free 2;simp at r0 r1 r2 y0 y1 y2 z0 z1 z2
 have HF : Hid (aK ((((w'.setCell ⟨w.heap.size,2,none⟩ (.slice a' es.length c')).setCell ⟨w.heap.size + 1,0,none⟩ (.int .i64 tick)).setCell ⟨w.heap.size + 1,1,none⟩ (.int .i64 time)).setCell ⟨w.heap.size + 1,2,none⟩ (.slice a' es.length c')) w.heap.size (.slice a' es.length c') es /\ Below w.heap.size w ((((w'.setCell ⟨w.heap.size,2,none⟩ (.slice a' es.length c')).setCell ⟨w.heap.size + 1,0,none⟩ (.int .i64 tick)).setCell ⟨w.heap.size + 1,1,none⟩ (.int .i64 time)).setCell ⟨w.heap.size + 1,2,none⟩ (.slice a' es.length c'))):=ah6 (by
  have ho1 : Only (λk=>k = w.heap.size \/ k = w.heap.size + 1) w' ((((w'.setCell ⟨w.heap.size,2,none⟩ (.slice a' es.length c')).setCell ⟨w.heap.size + 1,0,none⟩ (.int .i64 tick)).setCell ⟨w.heap.size + 1,1,none⟩ (.int .i64 time)).setCell ⟨w.heap.size + 1,2,none⟩ (.slice a' es.length c')) :=
   kT (Only.setCell (S:=λk=>k = w.heap.size \/ k = w.heap.size + 1) (p:=⟨w.heap.size,2,none⟩) (Only.refl _ _) (.inl (.inl rfl)) _) (.inl (.inr rfl))
  refine ⟨hO.only ho1 (λj hj hk=>?_),hB2.trans (ho1.below hB2.size (λk hk=>by omega))⟩
  rcases hk with rfl | rfl
  ·exact nX hj
  ·exact nY hj)
 clear hX hY hB2 nX nY hX2 hY2 hO hg
 go_wp2_with fail
 exact bodyPost_ret (v:=.agg #[.int .i64 tick,.int .i64 time,.slice a' es.length c']) (by simp [results,Tryz.results79,go_sem,r0,r1,r2,y0,y1,y2]) rfl ⟨a',c',rfl,HF.out⟩
set_option maxHeartbeats 1000000 in
theorem mM (is : Bool) (why : Int) (E : Nat) (e : Int) (w : World) (h : ak w E #[.int .i64 e] 25) :
 Calls Tryz.prog 115 #[.bool is,.int .i64 why,.pointer (some ⟨E,0,none⟩)] w λr w'=>r = .returned (.tuple #[]) /\ ak w' E #[.int .i64 (if e = 0 /\ is = true then why else e)] 25 /\ Only (λk=>k = E) w w':=by
 have c0:=h.cell 0;have f0:=h.free 0;simp at c0;have HB:=ah6 h;clear h
 by_cases he : e = 0
 ·subst he
  cases is
  ·have HV : Hid ((if (0 : Int) = 0 /\ false = true then why else 0) = 0):=ah6 (by simp)
   generalize (if (0 : Int) = 0 /\ false = true then why else 0) = v at *
   go_enter Tryz.func115,Tryz.ntmps115
   go_wp2_with fail
   exact bodyPost_end (v:=.tuple #[]) (by simp [results,Tryz.results115,go_sem]) rfl ⟨rfl,by rw [HV.out];exact HB.out,Only.refl _ _⟩
  ·have HV : Hid ((if (0 : Int) = 0 /\ true = true then why else 0) = why):=ah6 (by simp)
   generalize (if (0 : Int) = 0 /\ true = true then why else 0) = v at *
   have HB2:=ah6 (show ak (w.setCell ⟨E,0,none⟩ (.int .i64 why)) E #[.int .i64 why] 25 by simpa using HB.out.set 0 (.int .i64 why))
   have HO:=ah6 (Only.setCell (S:=λk=>k = E) (p:=⟨E,0,none⟩) (Only.refl _ w) (.inl rfl) (.int .i64 why))
   go_enter Tryz.func115,Tryz.ntmps115
   go_wp2_with fail
   exact bodyPost_end (v:=.tuple #[]) (by simp [results,Tryz.results115,go_sem]) rfl ⟨rfl,by rw [HV.out];exact HB2.out,HO.out⟩
 ·have HV : Hid ((if e = 0 /\ is = true then why else e) = e):=ah6 (by rw [if_neg (λh=>he h.1)])
  generalize (if e = 0 /\ is = true then why else e) = v at *
  go_enter Tryz.func115,Tryz.ntmps115
  go_wp2_with fail
  exact bodyPost_end (v:=.tuple #[]) (by simp [results,Tryz.results115,go_sem]) rfl ⟨rfl,by rw [HV.out];exact HB.out,Only.refl _ _⟩
def iK (l : List aG) (most floor : Int) (gone : Bool) (tick : Int) : Bool:=(gone && decide (tick <= floor)) || (decide ((l.length : Int) = most) && decide (d9 l tick = 0))
set_option maxHeartbeats 1000000 in
theorem Xl (T R : Nat) (l : List aG) (most floor : Int) (gone : Bool) (S : Nat -> Prop) (tick : Int) (w : World) (h : gG w T R l most floor gone S) :
 Calls Tryz.prog 116 #[.pointer (some ⟨T,0,none⟩),.int .i64 tick] w λe w'=>e = .returned (.bool (iK l most floor gone tick)) /\ Below w.heap.size w w':=by
 have fl:=QY R l most floor gone S w h.ring
 obtain ⟨d0,d1⟩:=h.cells
 have HS:=ah6 h
 have HV : Hid (iK l most floor gone tick = ((gone && decide (tick <= floor)) || (decide ((l.length : Int) = most) && decide (d9 l tick = 0)))):=ah6 rfl
 generalize iK l most floor gone tick = sv at *
 clear h
 cases gone
 ·by_cases hm : (l.length : Int) = most
  ·have hm' : ((l.length : Int) == most) = true:=by simpa using hm
   by_cases hu : d9 l tick = 0
   ·have hu1 : ((d9 l tick : Nat) : Int) = 0:=by omega
    obtain rfl : sv = true:=by rw [HV.out];simp [decide_eq_true_eq,hm,hu]
    clear HV
    go_enter Tryz.func116,Tryz.ntmps116
    go_wp2_with fail
    refine fl.mono ?_
    rintro e w1 ⟨rfl,hB1⟩
    have HB1:=ah6 hB1;have HS2:=ah6 (HS.out.below hB1)
    obtain ⟨d0,d1⟩:=HS2.out.cells
    clear fl hB1
    go_wp2_with fail
    refine aR 27 (by kernel_rfl) (by kernel_rfl) ?_
    simp only [List.take_succ_cons,List.take_zero,List.drop_succ_cons,List.drop_zero]
    repeat (first | (apply aF;(next=>(intro W hW K hK;have y0:=hW.cell d0;have y1:=hW.cell d1;go_simp;first | exact ⟨hW,hK⟩ | exact hK));(next=>exact aO.self _);(try go_simp)) | (apply aF;(next=>(intro W hW K hK;go_simp;first | exact ⟨_,hW.of_eq (jC R l most floor false S W (HS2.out.ring.below hW)),hK⟩ | exact ⟨hW,_,hW.of_eq (jC R l most floor false S W (HS2.out.ring.below hW)),hK⟩));(next=>exact aO.self _);(try go_simp)) | (apply aF;(next=>(intro W hW K hK;go_simp;first | exact ⟨_,hW.call (iE R l most floor false S tick W (HS2.out.ring.below hW)),hK⟩ | exact ⟨hW,_,hW.call (iE R l most floor false S tick W (HS2.out.ring.below hW)),hK⟩));(next=>exact aO.self _);(try go_simp)))
    refine aV ?_
    intro WC aL
    have HC:=ah6 (HB1.out.trans (Below.mono aL HB1.out.size));clear aL d0 d1
    go_wp2_with fail
    exact bodyPost_ret (v:=.bool true) (by simp [results,Tryz.results116,go_sem,hu]) rfl ⟨rfl,HC.out⟩
   ·have hu1 : ¬ ((d9 l tick : Nat) : Int) = 0:=by omega
    obtain rfl : sv = false:=by rw [HV.out];simp [decide_eq_true_eq,hm,hu]
    clear HV
    go_enter Tryz.func116,Tryz.ntmps116
    go_wp2_with fail
    refine fl.mono ?_
    rintro e w1 ⟨rfl,hB1⟩
    have HB1:=ah6 hB1;have HS2:=ah6 (HS.out.below hB1)
    obtain ⟨d0,d1⟩:=HS2.out.cells
    clear fl hB1
    go_wp2_with fail
    refine aR 27 (by kernel_rfl) (by kernel_rfl) ?_
    simp only [List.take_succ_cons,List.take_zero,List.drop_succ_cons,List.drop_zero]
    repeat (first | (apply aF;(next=>(intro W hW K hK;have y0:=hW.cell d0;have y1:=hW.cell d1;go_simp;first | exact ⟨hW,hK⟩ | exact hK));(next=>exact aO.self _);(try go_simp)) | (apply aF;(next=>(intro W hW K hK;go_simp;first | exact ⟨_,hW.of_eq (jC R l most floor false S W (HS2.out.ring.below hW)),hK⟩ | exact ⟨hW,_,hW.of_eq (jC R l most floor false S W (HS2.out.ring.below hW)),hK⟩));(next=>exact aO.self _);(try go_simp)) | (apply aF;(next=>(intro W hW K hK;go_simp;first | exact ⟨_,hW.call (iE R l most floor false S tick W (HS2.out.ring.below hW)),hK⟩ | exact ⟨hW,_,hW.call (iE R l most floor false S tick W (HS2.out.ring.below hW)),hK⟩));(next=>exact aO.self _);(try go_simp)))
    refine aV ?_
    intro WC aL
    have HC:=ah6 (HB1.out.trans (Below.mono aL HB1.out.size));clear aL d0 d1
    go_wp2_with fail
    exact bodyPost_ret (v:=.bool false) (by simp [results,Tryz.results116,go_sem,hu]) rfl ⟨rfl,HC.out⟩
  ·obtain rfl : sv = false:=by rw [HV.out];simp [decide_eq_true_eq,hm]
   clear HV
   go_enter Tryz.func116,Tryz.ntmps116
   go_wp2_with fail
   refine fl.mono ?_
   rintro e w1 ⟨rfl,hB1⟩
   have HB1:=ah6 hB1;have HS2:=ah6 (HS.out.below hB1)
   obtain ⟨d0,d1⟩:=HS2.out.cells
   clear fl hB1
   go_wp2_with fail
   refine aR 27 (by kernel_rfl) (by kernel_rfl) ?_
   simp only [List.take_succ_cons,List.take_zero,List.drop_succ_cons,List.drop_zero]
   repeat (first | (apply aF;(next=>(intro W hW K hK;have y0:=hW.cell d0;have y1:=hW.cell d1;go_simp;first | exact ⟨hW,hK⟩ | exact hK));(next=>exact aO.self _);(try go_simp)) | (apply aF;(next=>(intro W hW K hK;go_simp;first | exact ⟨_,hW.of_eq (jC R l most floor false S W (HS2.out.ring.below hW)),hK⟩ | exact ⟨hW,_,hW.of_eq (jC R l most floor false S W (HS2.out.ring.below hW)),hK⟩));(next=>exact aO.self _);(try go_simp)) | (apply aF;(next=>(intro W hW K hK;go_simp;first | exact ⟨_,hW.call (iE R l most floor false S tick W (HS2.out.ring.below hW)),hK⟩ | exact ⟨hW,_,hW.call (iE R l most floor false S tick W (HS2.out.ring.below hW)),hK⟩));(next=>exact aO.self _);(try go_simp)))
   refine aV ?_
   intro WC aL
   have HC:=ah6 (HB1.out.trans (Below.mono aL HB1.out.size));clear aL d0 d1
   go_wp2_with fail
   exact bodyPost_ret (v:=.bool false) (by simp [results,Tryz.results116,go_sem]) rfl ⟨rfl,HC.out⟩
 ·by_cases hg : tick <= floor
  ·obtain rfl : sv = true:=by rw [HV.out];simp [hg]
   clear HV
   go_enter Tryz.func116,Tryz.ntmps116
   go_wp2_with fail
   refine fl.mono ?_
   rintro e w1 ⟨rfl,hB1⟩
   have HB1:=ah6 hB1;have HS2:=ah6 (HS.out.below hB1)
   obtain ⟨d0,d1⟩:=HS2.out.cells
   clear fl hB1
   go_wp2_with fail
   refine aR 27 (by kernel_rfl) (by kernel_rfl) ?_
   simp only [List.take_succ_cons,List.take_zero,List.drop_succ_cons,List.drop_zero]
   repeat (first | (apply aF;(next=>(intro W hW K hK;have y0:=hW.cell d0;have y1:=hW.cell d1;go_simp;first | exact ⟨hW,hK⟩ | exact hK));(next=>exact aO.self _);(try go_simp)) | (apply aF;(next=>(intro W hW K hK;go_simp;first | exact ⟨_,hW.of_eq (jC R l most floor true S W (HS2.out.ring.below hW)),hK⟩ | exact ⟨hW,_,hW.of_eq (jC R l most floor true S W (HS2.out.ring.below hW)),hK⟩));(next=>exact aO.self _);(try go_simp)) | (apply aF;(next=>(intro W hW K hK;go_simp;first | exact ⟨_,hW.call (iE R l most floor true S tick W (HS2.out.ring.below hW)),hK⟩ | exact ⟨hW,_,hW.call (iE R l most floor true S tick W (HS2.out.ring.below hW)),hK⟩));(next=>exact aO.self _);(try go_simp)))
   refine aV ?_
   intro WC aL
   have HC:=ah6 (HB1.out.trans (Below.mono aL HB1.out.size));clear aL d0 d1
   go_wp2_with fail
   exact bodyPost_ret (v:=.bool true) (by simp [results,Tryz.results116,go_sem]) rfl ⟨rfl,HC.out⟩
  ·by_cases hm : (l.length : Int) = most
   ·have hm' : ((l.length : Int) == most) = true:=by simpa using hm
    by_cases hu : d9 l tick = 0
    ·have hu1 : ((d9 l tick : Nat) : Int) = 0:=by omega
     obtain rfl : sv = true:=by rw [HV.out];simp [hg,hm,hu]
     clear HV
     go_enter Tryz.func116,Tryz.ntmps116
     go_wp2_with fail
     refine fl.mono ?_
     rintro e w1 ⟨rfl,hB1⟩
     have HB1:=ah6 hB1;have HS2:=ah6 (HS.out.below hB1)
     obtain ⟨d0,d1⟩:=HS2.out.cells
     clear fl hB1
     go_wp2_with fail
     refine aR 27 (by kernel_rfl) (by kernel_rfl) ?_
     simp only [List.take_succ_cons,List.take_zero,List.drop_succ_cons,List.drop_zero]
     repeat (first | (apply aF;(next=>(intro W hW K hK;have y0:=hW.cell d0;have y1:=hW.cell d1;go_simp;first | exact ⟨hW,hK⟩ | exact hK));(next=>exact aO.self _);(try go_simp)) | (apply aF;(next=>(intro W hW K hK;go_simp;first | exact ⟨_,hW.of_eq (jC R l most floor true S W (HS2.out.ring.below hW)),hK⟩ | exact ⟨hW,_,hW.of_eq (jC R l most floor true S W (HS2.out.ring.below hW)),hK⟩));(next=>exact aO.self _);(try go_simp)) | (apply aF;(next=>(intro W hW K hK;go_simp;first | exact ⟨_,hW.call (iE R l most floor true S tick W (HS2.out.ring.below hW)),hK⟩ | exact ⟨hW,_,hW.call (iE R l most floor true S tick W (HS2.out.ring.below hW)),hK⟩));(next=>exact aO.self _);(try go_simp)))
     refine aV ?_
     intro WC aL
     have HC:=ah6 (HB1.out.trans (Below.mono aL HB1.out.size));clear aL d0 d1
     go_wp2_with fail
     exact bodyPost_ret (v:=.bool true) (by simp [results,Tryz.results116,go_sem,hg,hu]) rfl ⟨rfl,HC.out⟩
    ·have hu1 : ¬ ((d9 l tick : Nat) : Int) = 0:=by omega
     obtain rfl : sv = false:=by rw [HV.out];simp [hg,hm,hu]
     clear HV
     go_enter Tryz.func116,Tryz.ntmps116
     go_wp2_with fail
     refine fl.mono ?_
     rintro e w1 ⟨rfl,hB1⟩
     have HB1:=ah6 hB1;have HS2:=ah6 (HS.out.below hB1)
     obtain ⟨d0,d1⟩:=HS2.out.cells
     clear fl hB1
     go_wp2_with fail
     refine aR 27 (by kernel_rfl) (by kernel_rfl) ?_
     simp only [List.take_succ_cons,List.take_zero,List.drop_succ_cons,List.drop_zero]
     repeat (first | (apply aF;(next=>(intro W hW K hK;have y0:=hW.cell d0;have y1:=hW.cell d1;go_simp;first | exact ⟨hW,hK⟩ | exact hK));(next=>exact aO.self _);(try go_simp)) | (apply aF;(next=>(intro W hW K hK;go_simp;first | exact ⟨_,hW.of_eq (jC R l most floor true S W (HS2.out.ring.below hW)),hK⟩ | exact ⟨hW,_,hW.of_eq (jC R l most floor true S W (HS2.out.ring.below hW)),hK⟩));(next=>exact aO.self _);(try go_simp)) | (apply aF;(next=>(intro W hW K hK;go_simp;first | exact ⟨_,hW.call (iE R l most floor true S tick W (HS2.out.ring.below hW)),hK⟩ | exact ⟨hW,_,hW.call (iE R l most floor true S tick W (HS2.out.ring.below hW)),hK⟩));(next=>exact aO.self _);(try go_simp)))
     refine aV ?_
     intro WC aL
     have HC:=ah6 (HB1.out.trans (Below.mono aL HB1.out.size));clear aL d0 d1
     go_wp2_with fail
     exact bodyPost_ret (v:=.bool false) (by simp [results,Tryz.results116,go_sem,hg,hu]) rfl ⟨rfl,HC.out⟩
   ·obtain rfl : sv = false:=by rw [HV.out];simp [hg,hm]
    clear HV
    go_enter Tryz.func116,Tryz.ntmps116
    go_wp2_with fail
    refine fl.mono ?_
    rintro e w1 ⟨rfl,hB1⟩
    have HB1:=ah6 hB1;have HS2:=ah6 (HS.out.below hB1)
    obtain ⟨d0,d1⟩:=HS2.out.cells
    clear fl hB1
    go_wp2_with fail
    refine aR 27 (by kernel_rfl) (by kernel_rfl) ?_
    simp only [List.take_succ_cons,List.take_zero,List.drop_succ_cons,List.drop_zero]
    repeat (first | (apply aF;(next=>(intro W hW K hK;have y0:=hW.cell d0;have y1:=hW.cell d1;go_simp;first | exact ⟨hW,hK⟩ | exact hK));(next=>exact aO.self _);(try go_simp)) | (apply aF;(next=>(intro W hW K hK;go_simp;first | exact ⟨_,hW.of_eq (jC R l most floor true S W (HS2.out.ring.below hW)),hK⟩ | exact ⟨hW,_,hW.of_eq (jC R l most floor true S W (HS2.out.ring.below hW)),hK⟩));(next=>exact aO.self _);(try go_simp)) | (apply aF;(next=>(intro W hW K hK;go_simp;first | exact ⟨_,hW.call (iE R l most floor true S tick W (HS2.out.ring.below hW)),hK⟩ | exact ⟨hW,_,hW.call (iE R l most floor true S tick W (HS2.out.ring.below hW)),hK⟩));(next=>exact aO.self _);(try go_simp)))
    refine aV ?_
    intro WC aL
    have HC:=ah6 (HB1.out.trans (Below.mono aL HB1.out.size));clear aL d0 d1
    go_wp2_with fail
    exact bodyPost_ret (v:=.bool false) (by simp [results,Tryz.results116,go_sem,hg]) rfl ⟨rfl,HC.out⟩
end Go.Proofs.YtklkooeimkedgaaGreat
namespace Go.Proofs.YtklkooeimkedgaaGreat
open Go.RowKit
set_option maxRecDepth 100000
def fu (l : List aG) (i : Int) : Option aG:=if i < 0 then none else l[i.toNat]?
def uX : Option aG -> Int | none=>0 | some k=>k.sn.tick
def mX : Option aG -> Int | none=>0 | some k=>k.sn.time
def VN : Option aG -> Value | none=>.slice none 0 0 | some k=>fP k
def gV : Option aG -> List aA | none=>[] | some k=>k.sn.ents
def VO : Option aG -> Int | none=>0 | some k=>k.key
def sQ : Option aG -> Int | none=>3 | some _=>0
theorem BM (o : Option aG) : ∃ a n c,VN o = .slice a n c:=by cases o <;> exact ⟨_,_,_,rfl⟩
theorem Kk (o : Option aG) : xP o = .agg #[.int .i64 (uX o),.int .i64 (mX o),VN o]:=by cases o <;> rfl
theorem N8 (R : Nat) (l : List aG) (most floor : Int) (gone : Bool) (S : Nat -> Prop) (i : Int) (w : World) (h : RingAt w R l most floor gone S) :
 Calls Tryz.prog 131 #[.pointer (some ⟨R,0,none⟩),.int .i64 i] w λe w'=>e = .returned (.tuple #[.int .i64 (VO (fu l i)),.agg #[.int .i64 (uX (fu l i)),.int .i64 (mX (fu l i)),VN (fu l i)],.int .i64 (sQ (fu l i))]) /\ Below w.heap.size w w':=by
 by_cases hi : i < 0 \/ (l.length : Int) <= i
 ·have e : fu l i = none:=by
   unfold fu
   split
   ·rfl
   ·exact List.getElem?_eq_none (by omega)
  rw [e]
  exact Xk R l most floor gone S i w h hi
 ·obtain ⟨x,hx⟩ : ∃ x,l[i.toNat]? = some x:=⟨_,List.getElem?_eq_getElem (by omega)⟩
  have e : fu l i = some x:=by
   unfold fu
   rw [if_neg (by omega)];exact hx
  rw [e]
  have:=Y3 R l most floor gone S i.toNat x w h hx
  rw [show ((i.toNat : Nat) : Int) = i by omega] at this
  exact this
def fI (l : List aG) (tick time : Int) : Bool :=
 (decide (sQ (fu l (d9 l tick - 1)) ≠ 0) || decide (mX (fu l (d9 l tick - 1)) < time)) && (decide (sQ (fu l (d9 l tick)) ≠ 0) || decide (time < mX (fu l (d9 l tick))))
theorem Xm (l : List aG) (key : Int) : d9 l key <= l.length:=by
 unfold d9
 split
 ·rename_i h
  obtain ⟨x,hx,_⟩:=GY h
  exact (List.getElem?_eq_some_iff.1 hx).1
 ·exact zk l key
set_option maxHeartbeats 1000000 in
theorem tJ (T R : Nat) (l : List aG) (most floor : Int) (gone : Bool) (S : Nat -> Prop) (tick time : Int) (s : Value) (w : World) (h : gG w T R l most floor gone S) :
 Calls Tryz.prog 118 #[.pointer (some ⟨T,0,none⟩),.agg #[.int .i64 tick,.int .i64 time,s]] w λe w'=>e = .returned (.bool (fI l tick time)) /\ Below w.heap.size w w':=by
 have un:=λw h=>iE R l most floor gone S tick w h
 have a1:=λw h=>N8 R l most floor gone S (d9 l tick - 1) w h
 have a2:=λw h=>N8 R l most floor gone S (d9 l tick) w h
 have HV : Hid (fI l tick time = ((decide (sQ (fu l (d9 l tick - 1)) ≠ 0) || decide (mX (fu l (d9 l tick - 1)) < time)) && (decide (sQ (fu l (d9 l tick)) ≠ 0) || decide (time < mX (fu l (d9 l tick)))))):=ah6 rfl
 have hle:=Xm l tick
 have FW : (l.length : Int) <= 64:=by obtain ⟨v,hp⟩:=h.ring;exact hp.len
 obtain ⟨Ze,Zf,Zg,hs1⟩:=BM (fu l (d9 l tick - 1))
 obtain ⟨Zh,Zi,Zj,hs2⟩:=BM (fu l (d9 l tick))
 rw [hs1] at a1
 rw [hs2] at a2
 clear hs1 hs2
 generalize fI l tick time = sv at *
 generalize sQ (fu l (d9 l tick - 1)) = e1 at *
 generalize mX (fu l (d9 l tick - 1)) = m1 at *
 generalize uX (fu l (d9 l tick - 1)) = t1 at *
 generalize VO (fu l (d9 l tick - 1)) = k1 at *
 generalize sQ (fu l (d9 l tick)) = e2 at *
 generalize mX (fu l (d9 l tick)) = m2 at *
 generalize uX (fu l (d9 l tick)) = t2 at *
 generalize VO (fu l (d9 l tick)) = k2 at *
 generalize d9 l tick = n at *
 have hw : wrap64 ((n : Int) - 1) = (n : Int) - 1:=by unfold wrap64;omega
 obtain ⟨w0,hw0⟩ : ∃ w0,w.alloc (.cells #[.int .i64 tick,.int .i64 time,s] 36) = w0:=⟨_,rfl⟩
 have HB0 : Hid (Below w.heap.size w w0):=ah6 (by rw [← hw0];exact ah7)
 have HX0 : Hid (ak w0 w.heap.size #[.int .i64 tick,.int .i64 time,s] 36):=ah6 (by rw [← hw0];exact ak.new _ _ _)
 have zf:=ah6 (h.below HB0.out)
 obtain ⟨d0,d1⟩:=zf.out.cells
 have x0:=HX0.out.cell 0;simp at x0;clear h hle FW
 go_enter Tryz.func118,Tryz.ntmps118
 go_wp2_with fail
 clear hw0
 refine aR 6 (by kernel_rfl) (by kernel_rfl) ?_
 simp only [List.take_succ_cons,List.take_zero,List.drop_succ_cons,List.drop_zero]
 repeat (apply aF;(next=>(intro W hW K hK;have y0:=hW.cell d0;have y1:=hW.cell d1;have y2:=hW.cell x0;go_simp;first | exact ⟨hW,hK⟩ | exact hK));(next=>exact aO.self _);(try go_simp))
 refine aV ?_
 intro W0 hW0
 have N9 : Below w0.heap.size w0 W0:=hW0
 have Zk:=ah6 (HB0.out.trans (N9.mono HB0.out.size));have Zl:=ah6 (zf.out.below N9);have Zm:=ah6 (HX0.out.below N9 HX0.out.lt);clear hW0 N9 d0 d1 x0
 go_wp2_with fail
 refine (un W0 Zl.out.ring).mono ?_
 rintro e WC ⟨rfl,bQ⟩
 have HBC:=ah6 (Zk.out.trans (bQ.mono Zk.out.size));have GV:=ah6 (Zl.out.below bQ);have HXC:=ah6 (Zm.out.below bQ Zm.out.lt);clear bQ un
 obtain ⟨d0,d1⟩:=GV.out.cells
 go_wp2_with fail
 refine (a1 WC GV.out.ring).mono ?_
 rintro e w1 ⟨rfl,hB⟩
 obtain ⟨v1,hv1⟩ : ∃ v,w1.alloc (.cells #[.int .i64 0,.int .i64 0,.slice none 0 0] 36) = v:=⟨_,rfl⟩
 have BO : Below WC.heap.size WC v1:=by rw [← hv1];exact hB.alloc hB.size _
 have bC : ak v1 w1.heap.size #[.int .i64 0,.int .i64 0,.slice none 0 0] 36:=by rw [← hv1];exact ak.new _ _ _
 have f0:=bC.free 0;have f1:=bC.free 1;have f2:=bC.free 2;have q0:=bC.cell 0;have q1:=bC.cell 1;have q2:=bC.cell 2;simp at q0 q1 q2
 have hsz : WC.heap.size <= w1.heap.size:=hB.size
 have fq:=ah6 (fA (v0:=.int .i64 t1) (v1:=.int .i64 m1) (v2:=.slice Ze Zf Zg) bC);have HB1:=ah6 (dB (v0:=.int .i64 t1) (v1:=.int .i64 m1) (v2:=.slice Ze Zf Zg) BO hsz)
 obtain ⟨u1,hu1⟩ : ∃ u,((v1.setCell ⟨w1.heap.size,0,none⟩ (.int .i64 t1)).setCell ⟨w1.heap.size,1,none⟩ (.int .i64 m1)).setCell ⟨w1.heap.size,2,none⟩ (.slice Ze Zf Zg) = u:=⟨_,rfl⟩
 rw [hu1] at fq HB1
 clear hB BO bC hsz d0 d1 a1;have fZ:=ah6 (GV.out.below HB1.out);have Kl:=ah6 (HBC.out.trans (HB1.out.mono HBC.out.size))
 obtain ⟨d0,d1⟩:=fZ.out.cells
 have yD:=ah6 (HXC.out.below HB1.out HXC.out.lt)
 go_wp2_with fail
 clear hv1 hu1 f0 f1 f2 q0 q1 q2
 refine (a2 u1 fZ.out.ring).mono ?_
 rintro e w2 ⟨rfl,hB⟩
 obtain ⟨v2,hv2⟩ : ∃ v,w2.alloc (.cells #[.int .i64 0,.int .i64 0,.slice none 0 0] 36) = v:=⟨_,rfl⟩
 have BO : Below u1.heap.size u1 v2:=by rw [← hv2];exact hB.alloc hB.size _
 have bC : ak v2 w2.heap.size #[.int .i64 0,.int .i64 0,.slice none 0 0] 36:=by rw [← hv2];exact ak.new _ _ _
 have f0:=bC.free 0;have f1:=bC.free 1;have f2:=bC.free 2;have q0:=bC.cell 0;have q1:=bC.cell 1;have q2:=bC.cell 2;simp at q0 q1 q2
 have hsz : u1.heap.size <= w2.heap.size:=hB.size
 have dR:=ah6 (fA (v0:=.int .i64 t2) (v1:=.int .i64 m2) (v2:=.slice Zh Zi Zj) bC);have HB2:=ah6 (dB (v0:=.int .i64 t2) (v1:=.int .i64 m2) (v2:=.slice Zh Zi Zj) BO hsz)
 obtain ⟨u2,hu2⟩ : ∃ u,((v2.setCell ⟨w2.heap.size,0,none⟩ (.int .i64 t2)).setCell ⟨w2.heap.size,1,none⟩ (.int .i64 m2)).setCell ⟨w2.heap.size,2,none⟩ (.slice Zh Zi Zj) = u:=⟨_,rfl⟩
 rw [hu2] at dR HB2
 clear hB BO bC hsz d0 d1 a2;have HS2:=ah6 (fZ.out.below HB2.out);have pY:=ah6 (Kl.out.trans (HB2.out.mono Kl.out.size))
 obtain ⟨d0,d1⟩:=HS2.out.cells
 have aek:=ah6 (yD.out.below HB2.out yD.out.lt);have ael:=ah6 (fq.out.below HB2.out fq.out.lt);have r0:=aek.out.cell 1;have r1:=ael.out.cell 1;have r2:=dR.out.cell 1;simp at r0 r1 r2;clear d0 d1
 by_cases z1 : e1 = 0
 ·by_cases z2 : e2 = 0
  ·by_cases y1 : m1 < time
   ·by_cases y2 : time < m2
    ·have n1 : (e1 != 0) = false:=by simp [z1]
     have n2 : (e2 != 0) = false:=by simp [z2]
     obtain rfl : sv = true:=by rw [HV.out];simp [z1,z2,y1,y2] <;> omega
     clear z1 z2 HV
     go_wp2_with fail
     exact bodyPost_ret (v:=.bool true) (by simp [results,Tryz.results118,go_sem,y1,y2]) rfl ⟨rfl,pY.out⟩
    ·have n1 : (e1 != 0) = false:=by simp [z1]
     have n2 : (e2 != 0) = false:=by simp [z2]
     obtain rfl : sv = false:=by rw [HV.out];simp [z1,z2,y1,y2] <;> omega
     clear z1 z2 HV
     go_wp2_with fail
     exact bodyPost_ret (v:=.bool false) (by simp [results,Tryz.results118,go_sem,y1,y2]) rfl ⟨rfl,pY.out⟩
   ·by_cases y2 : time < m2
    ·have n1 : (e1 != 0) = false:=by simp [z1]
     have n2 : (e2 != 0) = false:=by simp [z2]
     obtain rfl : sv = false:=by rw [HV.out];simp [z1,z2,y1,y2] <;> omega
     clear z1 z2 HV
     go_wp2_with fail
     exact bodyPost_ret (v:=.bool false) (by simp [results,Tryz.results118,go_sem,y1,y2]) rfl ⟨rfl,pY.out⟩
    ·have n1 : (e1 != 0) = false:=by simp [z1]
     have n2 : (e2 != 0) = false:=by simp [z2]
     obtain rfl : sv = false:=by rw [HV.out];simp [z1,z2,y1,y2] <;> omega
     clear z1 z2 HV
     go_wp2_with fail
     exact bodyPost_ret (v:=.bool false) (by simp [results,Tryz.results118,go_sem,y1,y2]) rfl ⟨rfl,pY.out⟩
  ·by_cases y1 : m1 < time
   ·by_cases y2 : time < m2
    ·have n1 : (e1 != 0) = false:=by simp [z1]
     have n2 : (e2 != 0) = true:=by simp [z2]
     obtain rfl : sv = true:=by rw [HV.out];simp [z1,z2,y1,y2] <;> omega
     clear z1 z2 HV
     go_wp2_with fail
     exact bodyPost_ret (v:=.bool true) (by simp [results,Tryz.results118,go_sem,y1,y2]) rfl ⟨rfl,pY.out⟩
    ·have n1 : (e1 != 0) = false:=by simp [z1]
     have n2 : (e2 != 0) = true:=by simp [z2]
     obtain rfl : sv = true:=by rw [HV.out];simp [z1,z2,y1,y2] <;> omega
     clear z1 z2 HV
     go_wp2_with fail
     exact bodyPost_ret (v:=.bool true) (by simp [results,Tryz.results118,go_sem,y1,y2]) rfl ⟨rfl,pY.out⟩
   ·by_cases y2 : time < m2
    ·have n1 : (e1 != 0) = false:=by simp [z1]
     have n2 : (e2 != 0) = true:=by simp [z2]
     obtain rfl : sv = false:=by rw [HV.out];simp [z1,z2,y1,y2] <;> omega
     clear z1 z2 HV
     go_wp2_with fail
     exact bodyPost_ret (v:=.bool false) (by simp [results,Tryz.results118,go_sem,y1,y2]) rfl ⟨rfl,pY.out⟩
    ·have n1 : (e1 != 0) = false:=by simp [z1]
     have n2 : (e2 != 0) = true:=by simp [z2]
     obtain rfl : sv = false:=by rw [HV.out];simp [z1,z2,y1,y2] <;> omega
     clear z1 z2 HV
     go_wp2_with fail
     exact bodyPost_ret (v:=.bool false) (by simp [results,Tryz.results118,go_sem,y1,y2]) rfl ⟨rfl,pY.out⟩
 ·by_cases z2 : e2 = 0
  ·by_cases y1 : m1 < time
   ·by_cases y2 : time < m2
    ·have n1 : (e1 != 0) = true:=by simp [z1]
     have n2 : (e2 != 0) = false:=by simp [z2]
     obtain rfl : sv = true:=by rw [HV.out];simp [z1,z2,y1,y2] <;> omega
     clear z1 z2 HV
     go_wp2_with fail
     exact bodyPost_ret (v:=.bool true) (by simp [results,Tryz.results118,go_sem,y1,y2]) rfl ⟨rfl,pY.out⟩
    ·have n1 : (e1 != 0) = true:=by simp [z1]
     have n2 : (e2 != 0) = false:=by simp [z2]
     obtain rfl : sv = false:=by rw [HV.out];simp [z1,z2,y1,y2] <;> omega
     clear z1 z2 HV
     go_wp2_with fail
     exact bodyPost_ret (v:=.bool false) (by simp [results,Tryz.results118,go_sem,y1,y2]) rfl ⟨rfl,pY.out⟩
   ·by_cases y2 : time < m2
    ·have n1 : (e1 != 0) = true:=by simp [z1]
     have n2 : (e2 != 0) = false:=by simp [z2]
     obtain rfl : sv = true:=by rw [HV.out];simp [z1,z2,y1,y2] <;> omega
     clear z1 z2 HV
     go_wp2_with fail
     exact bodyPost_ret (v:=.bool true) (by simp [results,Tryz.results118,go_sem,y1,y2]) rfl ⟨rfl,pY.out⟩
    ·have n1 : (e1 != 0) = true:=by simp [z1]
     have n2 : (e2 != 0) = false:=by simp [z2]
     obtain rfl : sv = false:=by rw [HV.out];simp [z1,z2,y1,y2] <;> omega
     clear z1 z2 HV
     go_wp2_with fail
     exact bodyPost_ret (v:=.bool false) (by simp [results,Tryz.results118,go_sem,y1,y2]) rfl ⟨rfl,pY.out⟩
  ·by_cases y1 : m1 < time
   ·by_cases y2 : time < m2
    ·have n1 : (e1 != 0) = true:=by simp [z1]
     have n2 : (e2 != 0) = true:=by simp [z2]
     obtain rfl : sv = true:=by rw [HV.out];simp [z1,z2,y1,y2] <;> omega
     clear z1 z2 HV
     go_wp2_with fail
     exact bodyPost_ret (v:=.bool true) (by simp [results,Tryz.results118,go_sem,y1,y2]) rfl ⟨rfl,pY.out⟩
    ·have n1 : (e1 != 0) = true:=by simp [z1]
     have n2 : (e2 != 0) = true:=by simp [z2]
     obtain rfl : sv = true:=by rw [HV.out];simp [z1,z2,y1,y2] <;> omega
     clear z1 z2 HV
     go_wp2_with fail
     exact bodyPost_ret (v:=.bool true) (by simp [results,Tryz.results118,go_sem,y1,y2]) rfl ⟨rfl,pY.out⟩
   ·by_cases y2 : time < m2
    ·have n1 : (e1 != 0) = true:=by simp [z1]
     have n2 : (e2 != 0) = true:=by simp [z2]
     obtain rfl : sv = true:=by rw [HV.out];simp [z1,z2,y1,y2] <;> omega
     clear z1 z2 HV
     go_wp2_with fail
     exact bodyPost_ret (v:=.bool true) (by simp [results,Tryz.results118,go_sem,y1,y2]) rfl ⟨rfl,pY.out⟩
    ·have n1 : (e1 != 0) = true:=by simp [z1]
     have n2 : (e2 != 0) = true:=by simp [z2]
     obtain rfl : sv = true:=by rw [HV.out];simp [z1,z2,y1,y2] <;> omega
     clear z1 z2 HV
     go_wp2_with fail
     exact bodyPost_ret (v:=.bool true) (by simp [results,Tryz.results118,go_sem,y1,y2]) rfl ⟨rfl,pY.out⟩
end Go.Proofs.YtklkooeimkedgaaGreat
namespace Go.Proofs.YtklkooeimkedgaaGreat
open Go.RowKit
set_option maxRecDepth 100000
theorem lI.cap {w : World} {R : Nat} {l : List aG} {most floor : Int} {gone : Bool} {S : Nat -> Prop} {v : Value} (h : lI w R l most floor gone S v) : lI w R l most floor gone (λk=>S k /\ k < w.heap.size) v :=
 ⟨h.blk,h.row,h.ents,⟨h.sR,h.blk.lt⟩,λj e=>⟨h.sv j e,(h.row.lt j e).2⟩,λk hk j e=>⟨h.se k hk j e,((h.ents k hk).1.lt j e).2⟩,h.up,h.len⟩
theorem RingAt.cap {w : World} {R : Nat} {l : List aG} {most floor : Int} {gone : Bool} {S : Nat -> Prop} (h : RingAt w R l most floor gone S) : RingAt w R l most floor gone (λk=>S k /\ k < w.heap.size):=by
 obtain ⟨v,h⟩:=h;exact ⟨v,h.cap⟩
theorem gG.cap {w : World} {T R : Nat} {l : List aG} {most floor : Int} {gone : Bool} {S : Nat -> Prop} (h : gG w T R l most floor gone S) : gG w T R l most floor gone (λk=>S k /\ k < w.heap.size):=by
 obtain ⟨⟨cs,hcs,hb⟩,h2,h3⟩:=h
 exact ⟨⟨cs,hcs,hb⟩,h2.cap,⟨h3,hb.lt⟩⟩
theorem gG.weaken {w : World} {T R : Nat} {l : List aG} {most floor : Int} {gone : Bool} {S S' : Nat -> Prop} (h : gG w T R l most floor gone S) (hs : ∀ k,S k -> S' k) : gG w T R l most floor gone S' :=
 ⟨h.blk,h.ring.weaken hs,hs _ h.sT⟩
theorem DZ {w : World} {R : Nat} {l : List aG} {most floor : Int} {gone : Bool} {S : Nat -> Prop} (h : RingAt w R l most floor gone S) {o : Option aG} (ho : ∀ k,o = some k -> k ∈ l) (hk : ∀ k ∈ l,k.sn.ents.length <= 64) :
 ∃ a c,VN o = .slice a (gV o).length c /\ fO w a (gV o) /\ (a = none -> c = 0) /\ (gV o).length <= 64 /\ (∀ x,a = some x -> S x.block) /\ (gV o).length <= c:=by
 obtain ⟨v,hP⟩:=h
 cases o with
 | none =>
   refine ⟨none,0,rfl,?_,λ_=>rfl,by simp [gV],(λx hx=>by cases hx),Nat.le_refl _⟩
   obtain ⟨a,c,e,h1,_⟩:=(aK.nil w 0).ents (by simp)
   cases e
   exact h1
 | some k =>
   have hm:=ho k rfl
   obtain ⟨a,c,e,h1,h2,h3,_⟩:=(hP.ents k hm).1.ents (hP.ents k hm).2
   refine ⟨a,c,e,h1,h2,hk k hm,λx hx=>?_,h3⟩
   have hs:=hP.se k hm;have hr:=(hP.ents k hm).1
   obtain ⟨_,⟨e2,_⟩ | ⟨g,cap,cur,e2,_⟩⟩:=hr
   ·rw [show fP k = Value.slice a k.sn.ents.length c from e] at e2
    injection e2 with e3
    subst e3;cases hx
   ·rw [show fP k = Value.slice a k.sn.ents.length c from e] at e2
    injection e2 with e3
    subst e3;cases hx
    exact hs _ (by rw [show fP k = Value.slice (some ⟨g,0,none⟩) k.sn.ents.length c from e];rfl)
theorem D5 {l : List aG} {key : Int} {k : aG} (h : eD l key = some k) : k ∈ l:=by
 unfold eD at h
 split at h
 ·exact List.mem_of_getElem? h
 ·cases h
def gK (w1 : World) (t : TypeId) (z u : Array Value) : List Value -> World -> Prop
 | [],W=>Below w1.heap.size w1 W
 | [v],W=>Below w1.heap.size w1 W /\ ∃ b,v = .pointer (some ⟨b,0,none⟩) /\ ak W b z t /\ w1.heap.size <= b
 | [v,_],W=>Below w1.heap.size w1 W /\ ∃ b,v = .pointer (some ⟨b,0,none⟩) /\ ak W b u t /\ w1.heap.size <= b
 | _,_=>False
theorem gK.base {w1 : World} {t : TypeId} {z u : Array Value} : ∀ {b : List Value} {W : World},gK w1 t z u b W -> aO w1 W
 | [],_,h=>h
 | [_],_,h=>h.1
 | [_,_],_,h=>h.1
 | _ :: _ :: _ :: _,_,h=>h.elim
theorem gK.below {w1 : World} {t : TypeId} {z u : Array Value} : ∀ {b : List Value} {W W' : World},gK w1 t z u b W -> Below W.heap.size W W' -> gK w1 t z u b W'
 | [],_,_,h,hb=>Below.trans h (hb.mono (Below.size h))
 | [_],_,_,⟨h,b,e,hB,hl⟩,hb=>⟨Below.trans h (hb.mono (Below.size h)),b,e,hB.below hb hB.lt,hl⟩
 | [_,_],_,_,⟨h,b,e,hB,hl⟩,hb=>⟨Below.trans h (hb.mono (Below.size h)),b,e,hB.below hb hB.lt,hl⟩
 | _ :: _ :: _ :: _,_,_,h,_=>h.elim
theorem gK.new {w1 : World} {t : TypeId} {z u : Array Value} {W : World} (h : gK w1 t z u [] W) : gK w1 t z u [.pointer (some ⟨W.heap.size,0,none⟩)] (W.alloc (.cells z t)) :=
 ⟨Below.alloc h (Below.size h) _,_,rfl,ak.new _ _ _,Below.size h⟩
def iY (o : Option aG) : Sn:=⟨uX o,mX o,gV o⟩
theorem fO.only {w w' : World} {a : Option Addr} {es : List aA} {S : Nat -> Prop} (h : fO w a es) (ho : Only S w w') (hS : ∀ x,a = some x -> ¬ S x.block) : fO w' a es:=by
 obtain ⟨h1,h2⟩:=h
 refine ⟨h1,?_⟩
 rcases h2 with h2 | ⟨b,off,e,hl,hc⟩
 ·exact .inl h2
 ·refine .inr ⟨b,off,e,Nat.lt_of_lt_of_le hl ho.size,λi hi=>?_⟩
  have hh : ∀ o,w'.cell? ⟨b,o,none⟩ = w.cell? ⟨b,o,none⟩:=λo=>by
   simp only [World.cell?];rw [ho.block b hl (hS _ e)]
  have:=hc i hi
  unfold dG at this ⊢
  simp only [hh];exact this
def rZ (l : List aG) (most floor : Int) (gone : Bool) (tick base : Int) : Int :=
 if eB l tick = true then 12 else if iK l most floor gone tick = true then 13 else if eB l base = false /\ 0 <= base then 14 else 0
def dQ (l : List aG) (most floor : Int) (gone : Bool) (zs : List Int) : Sn × Int :=
 if (bD zs).2 ≠ 0 then (dI,(bD zs).2) else
 if rZ l most floor gone (bD zs).1.tick (bD zs).1.base ≠ 0 then (dI,rZ l most floor gone (bD zs).1.tick (bD zs).1.base) else
 ((jv (iY (eD l (bD zs).1.base)) (bD zs).1).1,if (jv (iY (eD l (bD zs).1.base)) (bD zs).1).2 = 0 /\ fI l (jv (iY (eD l (bD zs).1.base)) (bD zs).1).1.tick (jv (iY (eD l (bD zs).1.base)) (bD zs).1).1.time = false then 16 else (jv (iY (eD l (bD zs).1.base)) (bD zs).1).2)
structure bU (w : World) (T R : Nat) (l : List aG) (most floor : Int) (gone : Bool) (S : Nat -> Prop) (t m : Int) (s : Value) (e : Int) (W : World) : Prop where
 x : ak W w.heap.size #[.int .i64 t,.int .i64 m,s] 36
 e : ak W (w.heap.size + 1) #[.int .i64 e] 25
 st : gG W T R l most floor gone S
 b : Below w.heap.size w W
 sz : w.heap.size + 2 <= W.heap.size
 sS : ∀ k,S k -> k < w.heap.size
section
variable {w W W' : World} {T R : Nat} {l : List aG} {most floor : Int} {gone : Bool} {S : Nat -> Prop} {t m e : Int} {s : Value}
theorem bU.below (h : bU w T R l most floor gone S t m s e W) (hb : Below W.heap.size W W') : bU w T R l most floor gone S t m s e W' :=
 ⟨h.x.below hb h.x.lt,h.e.below hb h.e.lt,h.st.below hb,h.b.trans (hb.mono h.b.size),Nat.le_trans h.sz hb.size,h.sS⟩
theorem bU.refuse (h : bU w T R l most floor gone S t m s e W) {e' : Int} (he : ak W' (w.heap.size + 1) #[.int .i64 e'] 25) (ho : Only (λk=>k = w.heap.size + 1) W W') : bU w T R l most floor gone S t m s e' W' :=
 ⟨ho.blk h.x (by omega),he,h.st.only ho (λk hk hh=>by have:=h.sS k hk;omega),h.b.trans (ho.below h.b.size (λk hk=>by omega)),Nat.le_trans h.sz ho.size,h.sS⟩
theorem bU.yF (h : bU w T R l most floor gone S t m s e W) (t' m' : Int) (s' : Value) :
 bU w T R l most floor gone S t' m' s' e (((W.setCell ⟨w.heap.size,0,none⟩ (.int .i64 t')).setCell ⟨w.heap.size,1,none⟩ (.int .i64 m')).setCell ⟨w.heap.size,2,none⟩ s'):=by
 have h3 : Only (λk=>k = w.heap.size) W (((W.setCell ⟨w.heap.size,0,none⟩ (.int .i64 t')).setCell ⟨w.heap.size,1,none⟩ (.int .i64 m')).setCell ⟨w.heap.size,2,none⟩ s'):=kT (Only.refl _ _) (.inl rfl)
 exact ⟨fA h.x,h3.blk h.e (by omega),h.st.only h3 (λk hk hh=>by have:=h.sS k hk;omega),h.b.trans (h3.below h.b.size (λk hk=>by omega)),Nat.le_trans h.sz h3.size,h.sS⟩
theorem bU.wG (h : bU w T R l most floor gone S t m s e W) (e' : Int) : bU w T R l most floor gone S t m s e' (W.setCell ⟨w.heap.size + 1,0,none⟩ (.int .i64 e')) :=
 h.refuse (by simpa using h.e.set 0 (.int .i64 e')) (Only.setCell (S:=λk=>k = w.heap.size + 1) (p:=⟨w.heap.size + 1,0,none⟩) (Only.refl _ _) (.inl rfl) _)
theorem bU.yH (h : bU w T R l most floor gone S t m s e W) {base : Nat} {v : Value} {es : List aA} (ho : aK W base v es) (t' m' : Int) (s' : Value) : aK (((W.setCell ⟨w.heap.size,0,none⟩ (.int .i64 t')).setCell ⟨w.heap.size,1,none⟩ (.int .i64 m')).setCell ⟨w.heap.size,2,none⟩ s') base v es :=
 ho.only (kT (S:=λk=>k = w.heap.size) (Only.refl _ _) (.inl rfl)) (λj hj hk=>bL ho h.x (by decide) (by rw [hj,hk]))
theorem bU.yI (h : bU w T R l most floor gone S t m s e W) {base : Nat} {v : Value} {es : List aA} (ho : aK W base v es) (e' : Int) : aK (W.setCell ⟨w.heap.size + 1,0,none⟩ (.int .i64 e')) base v es :=
 ho.only (Only.setCell (S:=λk=>k = w.heap.size + 1) (p:=⟨w.heap.size + 1,0,none⟩) (Only.refl _ _) (.inl rfl) _) (λj hj hk=>bL ho h.e (by decide) (by rw [hj,hk]))
theorem bU.cells (h : bU w T R l most floor gone S t m s e W) : (W.cell? ⟨w.heap.size,0,none⟩ = some (.int .i64 t) /\ W.cell? ⟨w.heap.size,1,none⟩ = some (.int .i64 m) /\ W.cell? ⟨w.heap.size,2,none⟩ = some s) /\ W.cell? ⟨w.heap.size + 1,0,none⟩ = some (.int .i64 e) /\
 (W.frozen? ⟨w.heap.size,0,none⟩ = false /\ W.frozen? ⟨w.heap.size,1,none⟩ = false /\ W.frozen? ⟨w.heap.size,2,none⟩ = false) /\ W.frozen? ⟨w.heap.size + 1,0,none⟩ = false /\ W.cell? ⟨T,0,none⟩ = some (.pointer (some ⟨R,0,none⟩)):=by
 have h0:=h.x.cell 0;have h1:=h.x.cell 1;have h2:=h.x.cell 2;have h3:=h.e.cell 0;simp at h0 h1 h2 h3
 exact ⟨⟨h0,h1,h2⟩,h3,⟨h.x.free 0,h.x.free 1,h.x.free 2⟩,h.e.free 0,h.st.cells.1⟩
end
set_option maxHeartbeats 4000000 in
theorem Zn (T R : Nat) (l : List aG) (most floor : Int) (gone : Bool) (S : Nat -> Prop) (a : Option Addr) (len cap : Nat) (zs : List Int) (w : World) (h0 : gG w T R l most floor gone S) (Oa : ∀ k ∈ l,k.sn.ents.length <= 64)
 (hz : BytesAt w a len zs) (hc : a = none -> cap = 0) (hlc : len <= cap) (hl : (len : Int) <= 140737488355000) (hgt : ay (bD zs).1.time) :
 Calls Tryz.prog 77 #[.pointer (some ⟨T,0,none⟩),.slice a len cap] w λe w'=>∃ v,e = .returned (.tuple #[.agg #[.int .i64 (dQ l most floor gone zs).1.tick,.int .i64 (dQ l most floor gone zs).1.time,v],.int .i64 (dQ l most floor gone zs).2]) /\ aK w' w.heap.size v (dQ l most floor gone zs).1.ents /\ Below w.heap.size w w':=by
 have h:=h0.cap
 generalize hS : (λk=>S k /\ k < w.heap.size) = S' at h
 have sS : ∀ k,S' k -> k < w.heap.size:=λk hk=>by rw [← hS] at hk;exact hk.2
 clear hS h0
 have HZ : Hid (dQ l most floor gone zs = if (bD zs).2 ≠ 0 then (dI,(bD zs).2) else
  if rZ l most floor gone (bD zs).1.tick (bD zs).1.base ≠ 0 then (dI,rZ l most floor gone (bD zs).1.tick (bD zs).1.base) else
  ((jv (iY (eD l (bD zs).1.base)) (bD zs).1).1,if (jv (iY (eD l (bD zs).1.base)) (bD zs).1).2 = 0 /\ fI l (jv (iY (eD l (bD zs).1.base)) (bD zs).1).1.tick (jv (iY (eD l (bD zs).1.base)) (bD zs).1).1.time = false then 16 else (jv (iY (eD l (bD zs).1.base)) (bD zs).1).2)):=ah6 rfl
 generalize dQ l most floor gone zs = z at *
 obtain ⟨w0,hw0⟩ : ∃ w0,(w.alloc (.cells #[.int .i64 0,.int .i64 0,.slice none 0 0] 36)).alloc (.cells #[.int .i64 0] 25) = w0:=⟨_,rfl⟩
 have hB0 : Below w.heap.size w w0:=by rw [← hw0];exact (ah7).alloc (by simp) _
 have H0 : Hid (bU w T R l most floor gone S' 0 0 (.slice none 0 0) 0 w0):=ah6 ⟨by rw [← hw0];exact (ak.new _ _ _).alloc _,by
  rw [← hw0]
  have:=ak.new (w.alloc (.cells #[.int .i64 0,.int .i64 0,.slice none 0 0] 36)) #[.int .i64 0] 25
  simpa using this,h.below hB0,hB0,by rw [← hw0];simp,sS⟩
 have rd:=Xh a len cap zs w0 (hz.below hB0) hc hlc hl
 have ap:=λ(k : Option aG) (w : World) (ae : Option Addr) (gB : Nat) (hE : fO w ae (gV k)) (ga : Option Addr) (cap : Nat) (hR : qB w ga (bD zs).1.recs) (hlE : ((gV k).length : Int) <= 140737488355000)=>Uj (uX k) (mX k) ae gB (gV k) (bD zs).1 ga cap hgt w hE hR hlE
 have ME:=ah6 ap;have HGT:=ah6 hgt;have HK:=ah6 Oa;clear hz h hB0 sS ap hgt Oa
 generalize (bD zs).2 = e0 at *
 generalize (bD zs).1 = g at *
 go_enter Tryz.func77,Tryz.ntmps77
 go_wp2_with fail
 clear hw0
 refine rd.mono ?_
 rintro e w1 ⟨v,rfl,hR,hB1⟩
 clear rd
 obtain ⟨ga,uN,rfl,_,_⟩:=hR.recs
 have hH1:=H0.out.below hB1
 obtain ⟨v1,hv1⟩ : ∃ v,w1.alloc (.cells #[.int .i64 0,.int .i64 0,.int .i64 0,.slice none 0 0] 39) = v:=⟨_,rfl⟩
 have BO : Below w1.heap.size w1 v1:=by rw [← hv1];exact ah7
 have bC : ak v1 w1.heap.size #[.int .i64 0,.int .i64 0,.int .i64 0,.slice none 0 0] 39:=by rw [← hv1];exact ak.new _ _ _
 have f0:=bC.free 0;have f1:=bC.free 1;have f2:=bC.free 2;have f3:=bC.free 3;have q0:=bC.cell 0;have q1:=bC.cell 1;have q2:=bC.cell 2;have q3:=bC.cell 3;simp at q0 q1 q2 q3
 have hb4 : Below w1.heap.size w1 ((((v1.setCell ⟨w1.heap.size,0,none⟩ (.int .i64 g.tick)).setCell ⟨w1.heap.size,1,none⟩ (.int .i64 g.time)).setCell ⟨w1.heap.size,2,none⟩ (.int .i64 g.base)).setCell ⟨w1.heap.size,3,none⟩ (.slice ga g.recs.length uN)):=Bo BO (Nat.le_refl _)
 have hG4:=Bn (v0:=.int .i64 g.tick) (v1:=.int .i64 g.time) (v2:=.int .i64 g.base) (v3:=.slice ga g.recs.length uN) bC
 obtain ⟨u0,hu0⟩ : ∃ u,((((v1.setCell ⟨w1.heap.size,0,none⟩ (.int .i64 g.tick)).setCell ⟨w1.heap.size,1,none⟩ (.int .i64 g.time)).setCell ⟨w1.heap.size,2,none⟩ (.int .i64 g.base)).setCell ⟨w1.heap.size,3,none⟩ (.slice ga g.recs.length uN)) = u:=⟨_,rfl⟩
 rw [hu0] at hb4 hG4
 have Zo:=hH1.below hb4
 have QB:=hR.below hb4 (λj e=>(hR.1.lt j e).2)
 have Zp : w.heap.size + 2 <= w1.heap.size:=hH1.sz
 have Zq : w.heap.size + 2 <= w0.heap.size:=H0.out.sz
 obtain ⟨_,p3,_,k3,_⟩:=Zo.cells
 obtain ⟨u1,hu1⟩ : ∃ u,u0.setCell ⟨w.heap.size + 1,0,none⟩ (.int .i64 e0) = u:=⟨_,rfl⟩
 have mU : Only (λk=>k = w.heap.size + 1) u0 u1:=by rw [← hu1];exact Only.setCell (S:=λk=>k = w.heap.size + 1) (p:=⟨w.heap.size + 1,0,none⟩) (Only.refl _ _) (.inl rfl) _
 have H1 : Hid (bU w T R l most floor gone S' 0 0 (.slice none 0 0) e0 u1):=ah6 (by rw [← hu1];exact Zo.wG e0)
 have G1:=ah6 (mU.blk hG4 (by omega))
 have R1:=ah6 (QB.only mU (λj e=>by have:=(hR.1.lt j e).1;omega))
 have hc5:=H1.out.e.cell 0;have g0:=G1.out.cell 0;simp at hc5 g0;have t0:=H1.out.st.cells.1;have HN:=ah6 (And.intro Zp Zq);clear BO bC hR hH1 hB1 hb4 hG4 Zo QB Zp Zq mU H0
 by_cases he0 : e0 = 0
 ·subst he0
  have HZ1 : Hid (z = _):=ah6 (HZ.out.trans (if_neg (by simp)))
  clear HZ
  have gt:=λW h=>J9 R l most floor gone S' g.tick W h
  rw [Kk] at gt
  obtain ⟨sa,sn,sc,hs1⟩:=BM (eD l g.tick)
  rw [hs1] at gt
  have Gb : Hid (rZ l most floor gone g.tick g.base = if eB l g.tick = true then 12 else if iK l most floor gone g.tick = true then 13 else if eB l g.base = false /\ 0 <= g.base then 14 else 0):=ah6 rfl
  generalize rZ l most floor gone g.tick g.base = E3 at *
  generalize eB l g.tick = th at *
  generalize uX (eD l g.tick) = st at *
  generalize mX (eD l g.tick) = sm at *
  clear hs1
  have HI : Hid (gK u1 36 #[.int .i64 0,.int .i64 0,.slice none 0 0] #[.int .i64 st,.int .i64 sm,.slice sa sn sc] [] u1.drew):=ah6 (show Below u1.heap.size u1 u1.drew from below_drewN ah8 1)
  have hE0 : (0 != (0 : Int)) = false:=rfl
  have HB : Hid (gK u1 36 #[.int .i64 0,.int .i64 0,.slice none 0 0] #[.int .i64 st,.int .i64 sm,.slice sa sn sc] [] u1.drew):=ah6 (show Below u1.heap.size u1 u1.drew from below_drewN ah8 1)
  have t0:=H1.out.st.cells.1;have g0:=G1.out.cell 0;simp at g0
  go_wp2_with fail
  apply jQ 12 [10,11] (gK u1 36 #[.int .i64 0,.int .i64 0,.slice none 0 0] #[.int .i64 st,.int .i64 sm,.slice sa sn sc])
  case hm=>kernel_rfl
  case hB=>kernel_rfl
  case hp=>kernel_rfl
  case hI=>exact HB.out
  simp only [List.take_succ_cons,List.take_zero,List.drop_succ_cons,List.drop_zero]
  repeat (first
   | (apply bT;(next=>rfl);(next=>(intro b W hW K hK;have hb:=gK.base hW;have y0:=hb.cell t0;have y1:=hb.cell g0; go_simp;first | exact ⟨hW,hK⟩ | exact hK));(next=>exact ⟨_,HB.out⟩);(try go_simp))
   | (apply bT;(next=>rfl);(next=>(intro b W hW K hK;have hb:=gK.base hW;have y0:=hb.cell t0;have y1:=hb.cell g0; go_simp;first | exact ⟨hW,_,(gt W (H1.out.st.ring.below hb)).mono (λe w'' h=>⟨h.1,gK.below hW h.2⟩),hK⟩ | exact ⟨_,(gt W (H1.out.st.ring.below hb)).mono (λe w'' h=>⟨h.1,gK.below hW h.2⟩),hK⟩));(next=>exact ⟨_,HB.out⟩);(try go_simp)))
  apply dh (s:=λ_=>True)
  case hk=>rfl
  case hne=>exact ⟨undef,trivial⟩
  case hw=>rfl
  case h =>
   intro W hW
   have uD:=ah6 (gK.new hW)
   go_simp
   first | exact uD.out | exact ⟨trivial,uD.out⟩
  intro x1 _
  apply dh (s:=λ_=>True)
  case hk=>rfl
  case hne=>exact ⟨undef,trivial⟩
  case hw=>rfl
  case h =>
   intro W hW
   obtain ⟨hb,bx,rfl,hX,hlx⟩:=hW
   have x0:=hX.cell 0;have x1:=hX.cell 1;have x2:=hX.cell 2;have f0:=hX.free 0;have f1:=hX.free 1;have f2:=hX.free 2;simp at x0 x1 x2
   have uD:=ah6 (show gK u1 36 #[.int .i64 0,.int .i64 0,.slice none 0 0] #[.int .i64 st,.int .i64 sm,.slice sa sn sc] [.pointer (some ⟨bx,0,none⟩),undef] (((W.setCell ⟨bx,0,none⟩ (.int .i64 st)).setCell ⟨bx,1,none⟩ (.int .i64 sm)).setCell ⟨bx,2,none⟩ (.slice sa sn sc)) from ⟨dB hb hlx,bx,rfl,fA hX,hlx⟩)
   clear hb hX
   go_simp
   first | exact uD.out | exact ⟨trivial,uD.out⟩
  intro x2 _
  refine jF ?_
  intro u2 aL
  obtain ⟨hb,b2,rfl,hX,hlx⟩:=aL
  have H2:=ah6 (H1.out.below hb);have G2:=ah6 (G1.out.below hb G1.out.lt)
  have R2:=ah6 (R1.out.below hb (λj e=>(R1.out.1.lt j e).2))
  clear hb hX t0 g0 HB;clear gt
  go_wp2_with fail
  refine (mM th 12 _ (0) u2 H2.out.e).mono ?_
  rintro r u3 ⟨rfl,hE,hO⟩
  have H3:=ah6 (H2.out.refuse hE hO)
  have G3:=ah6 (hO.blk G2.out (by have:=HN.out;omega))
  have R3:=ah6 (R2.out.only hO (λj e=>by have:=(R2.out.1.lt j e).1;have:=HN.out;omega))
  clear hE hO
  obtain ⟨e1,he1⟩ : ∃ x,(if (0 : Int) = 0 /\ th = true then (12 : Int) else 0) = x:=⟨_,rfl⟩
  rw [he1] at H3
  have MK:=ah6 he1;clear he1;have g0:=G3.out.cell 0;simp at g0;have stl:=Xl T R l most floor gone S' g.tick u3 H3.out.st
  generalize iK l most floor gone g.tick = sl at *
  go_wp2_with fail
  refine stl.mono ?_
  rintro e u4 ⟨rfl,hb⟩
  have H4:=ah6 (H3.out.below hb);have G4:=ah6 (G3.out.below hb G3.out.lt)
  have R4:=ah6 (R3.out.below hb (λj e=>(R3.out.1.lt j e).2))
  clear hb stl g0
  go_wp2_with fail
  refine (mM sl 13 _ (e1) u4 H4.out.e).mono ?_
  rintro r u5 ⟨rfl,hE,hO⟩
  have H5:=ah6 (H4.out.refuse hE hO)
  have G5:=ah6 (hO.blk G4.out (by have:=HN.out;omega))
  have R5:=ah6 (R4.out.only hO (λj e=>by have:=(R4.out.1.lt j e).1;have:=HN.out;omega))
  clear hE hO
  obtain ⟨e2,he2⟩ : ∃ x,(if (e1 : Int) = 0 /\ sl = true then (13 : Int) else e1) = x:=⟨_,rfl⟩
  rw [he2] at H5
  have ML:=ah6 he2;clear he2
  have gt:=λW h=>J9 R l most floor gone S' g.base W h
  rw [Kk] at gt
  obtain ⟨ba,bc,hs2,hbe,hbc,hbl,hbS,_⟩:=DZ H5.out.st.ring (λk hk=>D5 hk) HK.out (o:=eD l g.base)
  have sI:=ah6 (And.intro hbe (And.intro hbl hbS))
  rw [hs2] at gt
  have ap:=λW hE ga cap hR=>ME.out (eD l g.base) W ba bc hE ga cap hR (by omega)
  clear hs2 hbe hbc hbl hbS
  unfold iY at HZ1
  generalize eB l g.base = hbv at *
  generalize uX (eD l g.base) = bt at *
  generalize mX (eD l g.base) = bm at *
  generalize aem : gV (eD l g.base) = Dt at *
  clear aem ME HGT
  have HB : Hid (gK u5 36 #[.int .i64 0,.int .i64 0,.slice none 0 0] #[.int .i64 bt,.int .i64 bm,.slice ba Dt.length bc] [] u5.drew):=ah6 (show Below u5.heap.size u5 u5.drew from below_drewN ah8 1)
  have t0:=H5.out.st.cells.1;have g0:=G5.out.cell 2;simp at g0
  go_wp2_with fail
  apply jQ 12 [10,11] (gK u5 36 #[.int .i64 0,.int .i64 0,.slice none 0 0] #[.int .i64 bt,.int .i64 bm,.slice ba Dt.length bc])
  case hm=>kernel_rfl
  case hB=>kernel_rfl
  case hp=>kernel_rfl
  case hI=>exact HB.out
  simp only [List.take_succ_cons,List.take_zero,List.drop_succ_cons,List.drop_zero]
  repeat (first
   | (apply bT;(next=>rfl);(next=>(intro b W hW K hK;have hb:=gK.base hW;have y0:=hb.cell t0;have y1:=hb.cell g0; go_simp;first | exact ⟨hW,hK⟩ | exact hK));(next=>exact ⟨_,HB.out⟩);(try go_simp))
   | (apply bT;(next=>rfl);(next=>(intro b W hW K hK;have hb:=gK.base hW;have y0:=hb.cell t0;have y1:=hb.cell g0; go_simp;first | exact ⟨hW,_,(gt W (H5.out.st.ring.below hb)).mono (λe w'' h=>⟨h.1,gK.below hW h.2⟩),hK⟩ | exact ⟨_,(gt W (H5.out.st.ring.below hb)).mono (λe w'' h=>⟨h.1,gK.below hW h.2⟩),hK⟩));(next=>exact ⟨_,HB.out⟩);(try go_simp)))
  apply dh (s:=λ_=>True)
  case hk=>rfl
  case hne=>exact ⟨undef,trivial⟩
  case hw=>rfl
  case h =>
   intro W hW
   have uD:=ah6 (gK.new hW)
   go_simp
   first | exact uD.out | exact ⟨trivial,uD.out⟩
  intro x1 _
  apply dh (s:=λ_=>True)
  case hk=>rfl
  case hne=>exact ⟨undef,trivial⟩
  case hw=>rfl
  case h =>
   intro W hW
   obtain ⟨hb,bx,rfl,hX,hlx⟩:=hW
   have x0:=hX.cell 0;have x1:=hX.cell 1;have x2:=hX.cell 2;have f0:=hX.free 0;have f1:=hX.free 1;have f2:=hX.free 2;simp at x0 x1 x2
   have uD:=ah6 (show gK u5 36 #[.int .i64 0,.int .i64 0,.slice none 0 0] #[.int .i64 bt,.int .i64 bm,.slice ba Dt.length bc] [.pointer (some ⟨bx,0,none⟩),undef] (((W.setCell ⟨bx,0,none⟩ (.int .i64 bt)).setCell ⟨bx,1,none⟩ (.int .i64 bm)).setCell ⟨bx,2,none⟩ (.slice ba Dt.length bc)) from ⟨dB hb hlx,bx,rfl,fA hX,hlx⟩)
   clear hb hX
   go_simp
   first | exact uD.out | exact ⟨trivial,uD.out⟩
  intro x2 _
  refine jF ?_
  intro u6 aL
  obtain ⟨hb,b6,rfl,hX,hlx⟩:=aL
  have H6:=ah6 (H5.out.below hb);have G6:=ah6 (G5.out.below hb G5.out.lt)
  have R6:=ah6 (R5.out.below hb (λj e=>(R5.out.1.lt j e).2))
  have B6:=ah6 hX;have Zr:=ah6 hlx
  have B56:=ah6 (show Below u5.heap.size u5 u6 from hb)
  clear hb hX t0 g0 HB;clear gt;have Zt:=ah6 (sI.out.1.below B56.out)
  cases hbv
  ·by_cases hb0 : 0 <= g.base
   ·have g2:=G6.out.cell 2
    simp at g2
    go_wp2_with fail
    refine (mM true 14 _ (e2) u6 H6.out.e).mono ?_
    rintro r u7 ⟨rfl,hE,hO⟩
    have H7:=ah6 (H6.out.refuse hE hO)
    have G7:=ah6 (hO.blk G6.out (by have:=HN.out;omega))
    have R7:=ah6 (R6.out.only hO (λj e=>by have:=(R6.out.1.lt j e).1;have:=HN.out;omega))
    have B7:=ah6 (hO.blk B6.out (by have:=Zr.out;have:=H5.out.sz;omega))
    have Rb:=ah6 (fO.only Zt.out hO (λx hx hh=>by have:=H5.out.sS _ (sI.out.2.2 x hx);omega))
    clear hE hO
    obtain ⟨e3,qY⟩ : ∃ x,(if (e2 : Int) = 0 /\ true = true then (14 : Int) else e2) = x:=⟨_,rfl⟩
    rw [qY] at H7
    have G8:=ah6 qY;clear qY
    have uE : Hid (e3 = E3):=ah6 (by rw [Gb.out,← G8.out,← ML.out,← MK.out];cases th <;> cases sl <;> simp [hb0])
    clear Gb MK ML G8
    obtain ⟨⟨x0,x1,x2⟩,ec,⟨f0,f1,f2⟩,fe,t0⟩:=H7.out.cells
    by_cases h3 : e3 = 0
    ·subst h3
     have HZ2:=ah6 (HZ1.out.trans (if_neg (by rw [← uE.out];simp)))
     clear HZ1 uE
     obtain ⟨Rf,Rh,Ri,Rj⟩ : u7.cell? ⟨w1.heap.size,0,none⟩ = some (.int .i64 g.tick) /\ u7.cell? ⟨w1.heap.size,1,none⟩ = some (.int .i64 g.time) /\ u7.cell? ⟨w1.heap.size,2,none⟩ = some (.int .i64 g.base) /\ u7.cell? ⟨w1.heap.size,3,none⟩ = some (.slice ga g.recs.length uN):=by
      have e0:=G7.out.cell 0;have e1:=G7.out.cell 1;have e2:=G7.out.cell 2;have e3:=G7.out.cell 3;simp at e0 e1 e2 e3
      exact ⟨e0,e1,e2,e3⟩
     have k0:=B7.out.cell 0;have k1:=B7.out.cell 1;have k2:=B7.out.cell 2;simp at k0 k1 k2
     have hap : Calls Tryz.prog 117 #[.agg #[.int .i64 bt,.int .i64 bm,.slice ba Dt.length bc],.agg #[.int .i64 g.tick,.int .i64 g.time,.int .i64 g.base,.slice ga g.recs.length uN]] u7 _:=ap u7 Rb.out ga uN (by
      obtain ⟨ga',gc',e,hh,_⟩:=R7.out.recs
      cases e
      exact hh)
     generalize jv ⟨bt,bm,Dt⟩ g = y at *
     go_wp2_with fail
     refine hap.mono ?_
     rintro e u8 ⟨v,rfl,kU,hb⟩
     obtain ⟨va,vc,rfl,_⟩:=kU.slice
     have xS:=H7.out.below hb
     obtain ⟨⟨z0,z1,z2⟩,zc,⟨wC,wD,wE⟩,Rk,_⟩:=xS.cells
     have Zu:=H7.out.sz
     obtain ⟨u9,uF⟩ : ∃ u,((u8.setCell ⟨w.heap.size,0,none⟩ (.int .i64 y.1.tick)).setCell ⟨w.heap.size,1,none⟩ (.int .i64 y.1.time)).setCell ⟨w.heap.size,2,none⟩ (.slice va y.1.ents.length vc) = u:=⟨_,rfl⟩
     have uG:=xS.yF y.1.tick y.1.time (.slice va y.1.ents.length vc)
     have mY:=xS.yH (aK.base kU (show w.heap.size <= u7.heap.size by omega)) y.1.tick y.1.time (.slice va y.1.ents.length vc)
     rw [uF] at uG mY
     obtain ⟨_,yc,_,Rl,_⟩:=uG.cells
     obtain ⟨Rm,BP⟩ : ∃ u,u9.setCell ⟨w.heap.size + 1,0,none⟩ (.int .i64 y.2) = u:=⟨_,rfl⟩
     have oV:=uG.wG y.2;have wH:=uG.yI mY y.2
     rw [BP] at oV wH
     have Rn:=ah6 oV;have Ro:=ah6 wH
     obtain ⟨⟨x0,x1,x2⟩,ec,⟨f0,f1,f2⟩,fe,t0⟩:=oV.cells
     have tm:=tJ T R l most floor gone S' y.1.tick y.1.time (.slice va y.1.ents.length vc) Rm oV.st
     generalize fI l y.1.tick y.1.time = tv at *
     clear hap kU hb xS uG mY oV wH Rf Rh Ri Rj k0 k1 k2 ap
     go_wp2_with fail
     clear uF BP z0 z1 z2 zc wC wD wE Rk yc Rl
     refine tm.mono ?_
     rintro e Rp ⟨rfl,hb⟩
     have BQ:=ah6 (Rn.out.below hb);have G9:=ah6 (aK.below Ro.out hb);clear hb tm x0 x1 x2 ec f0 f1 f2 fe t0
     go_wp2_with fail
     refine (mM (!tv) 16 _ y.2 Rp BQ.out.e).mono ?_
     rintro r He ⟨rfl,hE,hO⟩
     have Hf:=ah6 (BQ.out.refuse hE hO)
     have Rq:=ah6 (aK.only G9.out hO (λj hj hk=>bL G9.out BQ.out.e (by decide) (by rw [hj,hk])))
     clear hE hO
     obtain ⟨e5,wI⟩ : ∃ x,(if (y.2 : Int) = 0 /\ (!tv) = true then (16 : Int) else y.2) = x:=⟨_,rfl⟩
     rw [wI] at Hf
     have HV : Hid (z = (y.1,e5)):=ah6 (by rw [HZ2.out,← wI];cases tv <;> simp)
     clear wI HZ2
     have HI : Hid (bU w T R l most floor gone S' (y.1.tick) (y.1.time) (.slice va y.1.ents.length vc) (e5) He.drew /\ aK He.drew w.heap.size (.slice va y.1.ents.length vc) (y.1.ents)):=ah6 ⟨Hf.out.below (below_drewN ah8 1),aK.below Rq.out (below_drewN ah8 1)⟩
     go_wp2_with fail
     apply gL (I:=(λW=>bU w T R l most floor gone S' (y.1.tick) (y.1.time) (.slice va y.1.ents.length vc) (e5) W /\ aK W w.heap.size (.slice va y.1.ents.length vc) (y.1.ents))) 3
     case hm=>kernel_rfl
     case hB=>kernel_rfl
     case hI=>exact HI.out
     simp only [List.take_succ_cons,List.take_zero,List.drop_succ_cons,List.drop_zero]
     repeat (apply aF;(next=>(intro W hW K hK;obtain ⟨⟨x0,x1,x2⟩,ec,⟨f0,f1,f2⟩,fe,t0⟩:=bU.cells hW.1;have HX:=ah6 (And.intro (bU.yF hW.1 (y.1.tick) (y.1.time) (.slice va y.1.ents.length vc)) (bU.yH hW.1 hW.2 (y.1.tick) (y.1.time) (.slice va y.1.ents.length vc)));go_simp;first | exact ⟨hW,hK⟩ | exact ⟨HX.out,hK⟩ | exact hK));(next=>exact ⟨_,HI.out⟩);(try go_simp))
     refine aV ?_
     intro WZ jR qZ
     obtain ⟨⟨x0,x1,x2⟩,ec,⟨f0,f1,f2⟩,fe,t0⟩:=bU.cells jR
     have HY:=ah6 (bU.wG jR (e5));have EZ:=ah6 (bU.yI jR qZ (e5))
     obtain ⟨⟨y0,y1,y2⟩,yc,_⟩:=bU.cells HY.out
     clear jR qZ
     go_wp2_with fail
     exact bodyPost_ret (v:=.tuple #[.agg #[.int .i64 (y.1.tick),.int .i64 (y.1.time),.slice va y.1.ents.length vc],.int .i64 (e5)]) (by simp [results,Tryz.results77,go_sem,y0,y1,y2,yc,x0,x1,x2,ec]) rfl ⟨_,by rw [HV.out],by rw [HV.out];exact EZ.out,HY.out.b⟩
    ·have h3n : (e3 == 0) = false:=by simpa using h3
     have HV : Hid (z = (dI,e3)):=ah6 (by rw [HZ1.out,← uE.out,if_pos (by simpa using h3)])
     clear HZ1 uE ap;have tm:=tJ T R l most floor gone S' 0 0 (.slice none 0 0) u7 H7.out.st
     generalize fI l 0 0 = tv at *
     go_wp2_with fail
     refine tm.mono ?_
     rintro e u8 ⟨rfl,hb⟩
     have H8:=ah6 (H7.out.below hb);clear hb tm x0 x1 x2 ec f0 f1 f2 fe t0
     go_wp2_with fail
     refine (mM (!tv) 16 _ e3 u8 H8.out.e).mono ?_
     rintro r u9 ⟨rfl,hE,hO⟩
     have H9:=ah6 (H8.out.refuse hE hO);clear hE hO
     rw [if_neg (by simp [h3])] at H9
     have HI : Hid (bU w T R l most floor gone S' (0) (0) (.slice none 0 0) (e3) u9.drew /\ aK u9.drew w.heap.size (.slice none 0 0) ([])):=ah6 ⟨H9.out.below (below_drewN ah8 1),aK.nil _ _⟩
     go_wp2_with fail
     apply gL (I:=(λW=>bU w T R l most floor gone S' (0) (0) (.slice none 0 0) (e3) W /\ aK W w.heap.size (.slice none 0 0) ([]))) 3
     case hm=>kernel_rfl
     case hB=>kernel_rfl
     case hI=>exact HI.out
     simp only [List.take_succ_cons,List.take_zero,List.drop_succ_cons,List.drop_zero]
     repeat (apply aF;(next=>(intro W hW K hK;obtain ⟨⟨x0,x1,x2⟩,ec,⟨f0,f1,f2⟩,fe,t0⟩:=bU.cells hW.1;have HX:=ah6 (And.intro (bU.yF hW.1 (0) (0) (.slice none 0 0)) (bU.yH hW.1 hW.2 (0) (0) (.slice none 0 0)));go_simp;first | exact ⟨hW,hK⟩ | exact ⟨HX.out,hK⟩ | exact hK));(next=>exact ⟨_,HI.out⟩);(try go_simp))
     refine aV ?_
     intro WZ jR qZ
     obtain ⟨⟨x0,x1,x2⟩,ec,⟨f0,f1,f2⟩,fe,t0⟩:=bU.cells jR
     have HY:=ah6 (bU.wG jR (e3));have EZ:=ah6 (bU.yI jR qZ (e3))
     obtain ⟨⟨y0,y1,y2⟩,yc,_⟩:=bU.cells HY.out
     clear jR qZ
     go_wp2_with fail
     exact bodyPost_ret (v:=.tuple #[.agg #[.int .i64 (0),.int .i64 (0),.slice none 0 0],.int .i64 (e3)]) (by simp [results,Tryz.results77,go_sem,y0,y1,y2,yc,x0,x1,x2,ec]) rfl ⟨.slice none 0 0,by rw [HV.out];rfl,by rw [HV.out];exact aK.nil _ _,HY.out.b⟩
   ·have g2:=G6.out.cell 2
    simp at g2
    have hb1 : ¬ g.base ≥ 0:=hb0
    go_wp2_with fail
    refine (mM false 14 _ (e2) u6 H6.out.e).mono ?_
    rintro r u7 ⟨rfl,hE,hO⟩
    have H7:=ah6 (H6.out.refuse hE hO)
    have G7:=ah6 (hO.blk G6.out (by have:=HN.out;omega))
    have R7:=ah6 (R6.out.only hO (λj e=>by have:=(R6.out.1.lt j e).1;have:=HN.out;omega))
    have B7:=ah6 (hO.blk B6.out (by have:=Zr.out;have:=H5.out.sz;omega))
    have Rb:=ah6 (fO.only Zt.out hO (λx hx hh=>by have:=H5.out.sS _ (sI.out.2.2 x hx);omega))
    clear hE hO
    obtain ⟨e3,qY⟩ : ∃ x,(if (e2 : Int) = 0 /\ false = true then (14 : Int) else e2) = x:=⟨_,rfl⟩
    rw [qY] at H7
    have G8:=ah6 qY;clear qY
    have uE : Hid (e3 = E3):=ah6 (by rw [Gb.out,← G8.out,← ML.out,← MK.out];cases th <;> cases sl <;> simp [hb0])
    clear Gb MK ML G8
    obtain ⟨⟨x0,x1,x2⟩,ec,⟨f0,f1,f2⟩,fe,t0⟩:=H7.out.cells
    by_cases h3 : e3 = 0
    ·subst h3
     have HZ2:=ah6 (HZ1.out.trans (if_neg (by rw [← uE.out];simp)))
     clear HZ1 uE
     obtain ⟨Rf,Rh,Ri,Rj⟩ : u7.cell? ⟨w1.heap.size,0,none⟩ = some (.int .i64 g.tick) /\ u7.cell? ⟨w1.heap.size,1,none⟩ = some (.int .i64 g.time) /\ u7.cell? ⟨w1.heap.size,2,none⟩ = some (.int .i64 g.base) /\ u7.cell? ⟨w1.heap.size,3,none⟩ = some (.slice ga g.recs.length uN):=by
      have e0:=G7.out.cell 0;have e1:=G7.out.cell 1;have e2:=G7.out.cell 2;have e3:=G7.out.cell 3;simp at e0 e1 e2 e3
      exact ⟨e0,e1,e2,e3⟩
     have k0:=B7.out.cell 0;have k1:=B7.out.cell 1;have k2:=B7.out.cell 2;simp at k0 k1 k2
     have hap : Calls Tryz.prog 117 #[.agg #[.int .i64 bt,.int .i64 bm,.slice ba Dt.length bc],.agg #[.int .i64 g.tick,.int .i64 g.time,.int .i64 g.base,.slice ga g.recs.length uN]] u7 _:=ap u7 Rb.out ga uN (by
      obtain ⟨ga',gc',e,hh,_⟩:=R7.out.recs
      cases e
      exact hh)
     generalize jv ⟨bt,bm,Dt⟩ g = y at *
     go_wp2_with fail
     refine hap.mono ?_
     rintro e u8 ⟨v,rfl,kU,hb⟩
     obtain ⟨va,vc,rfl,_⟩:=kU.slice
     have xS:=H7.out.below hb
     obtain ⟨⟨z0,z1,z2⟩,zc,⟨wC,wD,wE⟩,Rk,_⟩:=xS.cells
     have Zu:=H7.out.sz
     obtain ⟨u9,uF⟩ : ∃ u,((u8.setCell ⟨w.heap.size,0,none⟩ (.int .i64 y.1.tick)).setCell ⟨w.heap.size,1,none⟩ (.int .i64 y.1.time)).setCell ⟨w.heap.size,2,none⟩ (.slice va y.1.ents.length vc) = u:=⟨_,rfl⟩
     have uG:=xS.yF y.1.tick y.1.time (.slice va y.1.ents.length vc)
     have mY:=xS.yH (aK.base kU (show w.heap.size <= u7.heap.size by omega)) y.1.tick y.1.time (.slice va y.1.ents.length vc)
     rw [uF] at uG mY
     obtain ⟨_,yc,_,Rl,_⟩:=uG.cells
     obtain ⟨Rm,BP⟩ : ∃ u,u9.setCell ⟨w.heap.size + 1,0,none⟩ (.int .i64 y.2) = u:=⟨_,rfl⟩
     have oV:=uG.wG y.2;have wH:=uG.yI mY y.2
     rw [BP] at oV wH
     have Rn:=ah6 oV;have Ro:=ah6 wH
     obtain ⟨⟨x0,x1,x2⟩,ec,⟨f0,f1,f2⟩,fe,t0⟩:=oV.cells
     have tm:=tJ T R l most floor gone S' y.1.tick y.1.time (.slice va y.1.ents.length vc) Rm oV.st
     generalize fI l y.1.tick y.1.time = tv at *
     clear hap kU hb xS uG mY oV wH Rf Rh Ri Rj k0 k1 k2 ap
     go_wp2_with fail
     clear uF BP z0 z1 z2 zc wC wD wE Rk yc Rl
     refine tm.mono ?_
     rintro e Rp ⟨rfl,hb⟩
     have BQ:=ah6 (Rn.out.below hb);have G9:=ah6 (aK.below Ro.out hb);clear hb tm x0 x1 x2 ec f0 f1 f2 fe t0
     go_wp2_with fail
     refine (mM (!tv) 16 _ y.2 Rp BQ.out.e).mono ?_
     rintro r He ⟨rfl,hE,hO⟩
     have Hf:=ah6 (BQ.out.refuse hE hO)
     have Rq:=ah6 (aK.only G9.out hO (λj hj hk=>bL G9.out BQ.out.e (by decide) (by rw [hj,hk])))
     clear hE hO
     obtain ⟨e5,wI⟩ : ∃ x,(if (y.2 : Int) = 0 /\ (!tv) = true then (16 : Int) else y.2) = x:=⟨_,rfl⟩
     rw [wI] at Hf
     have HV : Hid (z = (y.1,e5)):=ah6 (by rw [HZ2.out,← wI];cases tv <;> simp)
     clear wI HZ2
     have HI : Hid (bU w T R l most floor gone S' (y.1.tick) (y.1.time) (.slice va y.1.ents.length vc) (e5) He.drew /\ aK He.drew w.heap.size (.slice va y.1.ents.length vc) (y.1.ents)):=ah6 ⟨Hf.out.below (below_drewN ah8 1),aK.below Rq.out (below_drewN ah8 1)⟩
     go_wp2_with fail
     apply gL (I:=(λW=>bU w T R l most floor gone S' (y.1.tick) (y.1.time) (.slice va y.1.ents.length vc) (e5) W /\ aK W w.heap.size (.slice va y.1.ents.length vc) (y.1.ents))) 3
     case hm=>kernel_rfl
     case hB=>kernel_rfl
     case hI=>exact HI.out
     simp only [List.take_succ_cons,List.take_zero,List.drop_succ_cons,List.drop_zero]
     repeat (apply aF;(next=>(intro W hW K hK;obtain ⟨⟨x0,x1,x2⟩,ec,⟨f0,f1,f2⟩,fe,t0⟩:=bU.cells hW.1;have HX:=ah6 (And.intro (bU.yF hW.1 (y.1.tick) (y.1.time) (.slice va y.1.ents.length vc)) (bU.yH hW.1 hW.2 (y.1.tick) (y.1.time) (.slice va y.1.ents.length vc)));go_simp;first | exact ⟨hW,hK⟩ | exact ⟨HX.out,hK⟩ | exact hK));(next=>exact ⟨_,HI.out⟩);(try go_simp))
     refine aV ?_
     intro WZ jR qZ
     obtain ⟨⟨x0,x1,x2⟩,ec,⟨f0,f1,f2⟩,fe,t0⟩:=bU.cells jR
     have HY:=ah6 (bU.wG jR (e5));have EZ:=ah6 (bU.yI jR qZ (e5))
     obtain ⟨⟨y0,y1,y2⟩,yc,_⟩:=bU.cells HY.out
     clear jR qZ
     go_wp2_with fail
     exact bodyPost_ret (v:=.tuple #[.agg #[.int .i64 (y.1.tick),.int .i64 (y.1.time),.slice va y.1.ents.length vc],.int .i64 (e5)]) (by simp [results,Tryz.results77,go_sem,y0,y1,y2,yc,x0,x1,x2,ec]) rfl ⟨_,by rw [HV.out],by rw [HV.out];exact EZ.out,HY.out.b⟩
    ·have h3n : (e3 == 0) = false:=by simpa using h3
     have HV : Hid (z = (dI,e3)):=ah6 (by rw [HZ1.out,← uE.out,if_pos (by simpa using h3)])
     clear HZ1 uE ap;have tm:=tJ T R l most floor gone S' 0 0 (.slice none 0 0) u7 H7.out.st
     generalize fI l 0 0 = tv at *
     go_wp2_with fail
     refine tm.mono ?_
     rintro e u8 ⟨rfl,hb⟩
     have H8:=ah6 (H7.out.below hb);clear hb tm x0 x1 x2 ec f0 f1 f2 fe t0
     go_wp2_with fail
     refine (mM (!tv) 16 _ e3 u8 H8.out.e).mono ?_
     rintro r u9 ⟨rfl,hE,hO⟩
     have H9:=ah6 (H8.out.refuse hE hO);clear hE hO
     rw [if_neg (by simp [h3])] at H9
     have HI : Hid (bU w T R l most floor gone S' (0) (0) (.slice none 0 0) (e3) u9.drew /\ aK u9.drew w.heap.size (.slice none 0 0) ([])):=ah6 ⟨H9.out.below (below_drewN ah8 1),aK.nil _ _⟩
     go_wp2_with fail
     apply gL (I:=(λW=>bU w T R l most floor gone S' (0) (0) (.slice none 0 0) (e3) W /\ aK W w.heap.size (.slice none 0 0) ([]))) 3
     case hm=>kernel_rfl
     case hB=>kernel_rfl
     case hI=>exact HI.out
     simp only [List.take_succ_cons,List.take_zero,List.drop_succ_cons,List.drop_zero]
     repeat (apply aF;(next=>(intro W hW K hK;obtain ⟨⟨x0,x1,x2⟩,ec,⟨f0,f1,f2⟩,fe,t0⟩:=bU.cells hW.1;have HX:=ah6 (And.intro (bU.yF hW.1 (0) (0) (.slice none 0 0)) (bU.yH hW.1 hW.2 (0) (0) (.slice none 0 0)));go_simp;first | exact ⟨hW,hK⟩ | exact ⟨HX.out,hK⟩ | exact hK));(next=>exact ⟨_,HI.out⟩);(try go_simp))
     refine aV ?_
     intro WZ jR qZ
     obtain ⟨⟨x0,x1,x2⟩,ec,⟨f0,f1,f2⟩,fe,t0⟩:=bU.cells jR
     have HY:=ah6 (bU.wG jR (e3));have EZ:=ah6 (bU.yI jR qZ (e3))
     obtain ⟨⟨y0,y1,y2⟩,yc,_⟩:=bU.cells HY.out
     clear jR qZ
     go_wp2_with fail
     exact bodyPost_ret (v:=.tuple #[.agg #[.int .i64 (0),.int .i64 (0),.slice none 0 0],.int .i64 (e3)]) (by simp [results,Tryz.results77,go_sem,y0,y1,y2,yc,x0,x1,x2,ec]) rfl ⟨.slice none 0 0,by rw [HV.out];rfl,by rw [HV.out];exact aK.nil _ _,HY.out.b⟩
  ·go_wp2_with fail
   refine (mM false 14 _ (e2) u6 H6.out.e).mono ?_
   rintro r u7 ⟨rfl,hE,hO⟩
   have H7:=ah6 (H6.out.refuse hE hO)
   have G7:=ah6 (hO.blk G6.out (by have:=HN.out;omega))
   have R7:=ah6 (R6.out.only hO (λj e=>by have:=(R6.out.1.lt j e).1;have:=HN.out;omega))
   have B7:=ah6 (hO.blk B6.out (by have:=Zr.out;have:=H5.out.sz;omega))
   have Rb:=ah6 (fO.only Zt.out hO (λx hx hh=>by have:=H5.out.sS _ (sI.out.2.2 x hx);omega))
   clear hE hO
   obtain ⟨e3,qY⟩ : ∃ x,(if (e2 : Int) = 0 /\ false = true then (14 : Int) else e2) = x:=⟨_,rfl⟩
   rw [qY] at H7
   have G8:=ah6 qY;clear qY
   have uE : Hid (e3 = E3):=ah6 (by rw [Gb.out,← G8.out,← ML.out,← MK.out];cases th <;> cases sl <;> simp)
   clear Gb MK ML G8
   obtain ⟨⟨x0,x1,x2⟩,ec,⟨f0,f1,f2⟩,fe,t0⟩:=H7.out.cells
   by_cases h3 : e3 = 0
   ·subst h3
    have HZ2:=ah6 (HZ1.out.trans (if_neg (by rw [← uE.out];simp)))
    clear HZ1 uE
    obtain ⟨Rf,Rh,Ri,Rj⟩ : u7.cell? ⟨w1.heap.size,0,none⟩ = some (.int .i64 g.tick) /\ u7.cell? ⟨w1.heap.size,1,none⟩ = some (.int .i64 g.time) /\ u7.cell? ⟨w1.heap.size,2,none⟩ = some (.int .i64 g.base) /\ u7.cell? ⟨w1.heap.size,3,none⟩ = some (.slice ga g.recs.length uN):=by
     have e0:=G7.out.cell 0;have e1:=G7.out.cell 1;have e2:=G7.out.cell 2;have e3:=G7.out.cell 3;simp at e0 e1 e2 e3
     exact ⟨e0,e1,e2,e3⟩
    have k0:=B7.out.cell 0;have k1:=B7.out.cell 1;have k2:=B7.out.cell 2;simp at k0 k1 k2
    have hap : Calls Tryz.prog 117 #[.agg #[.int .i64 bt,.int .i64 bm,.slice ba Dt.length bc],.agg #[.int .i64 g.tick,.int .i64 g.time,.int .i64 g.base,.slice ga g.recs.length uN]] u7 _:=ap u7 Rb.out ga uN (by
     obtain ⟨ga',gc',e,hh,_⟩:=R7.out.recs
     cases e
     exact hh)
    generalize jv ⟨bt,bm,Dt⟩ g = y at *
    go_wp2_with fail
    refine hap.mono ?_
    rintro e u8 ⟨v,rfl,kU,hb⟩
    obtain ⟨va,vc,rfl,_⟩:=kU.slice
    have xS:=H7.out.below hb
    obtain ⟨⟨z0,z1,z2⟩,zc,⟨wC,wD,wE⟩,Rk,_⟩:=xS.cells
    have Zu:=H7.out.sz
    obtain ⟨u9,uF⟩ : ∃ u,((u8.setCell ⟨w.heap.size,0,none⟩ (.int .i64 y.1.tick)).setCell ⟨w.heap.size,1,none⟩ (.int .i64 y.1.time)).setCell ⟨w.heap.size,2,none⟩ (.slice va y.1.ents.length vc) = u:=⟨_,rfl⟩
    have uG:=xS.yF y.1.tick y.1.time (.slice va y.1.ents.length vc)
    have mY:=xS.yH (aK.base kU (show w.heap.size <= u7.heap.size by omega)) y.1.tick y.1.time (.slice va y.1.ents.length vc)
    rw [uF] at uG mY
    obtain ⟨_,yc,_,Rl,_⟩:=uG.cells
    obtain ⟨Rm,BP⟩ : ∃ u,u9.setCell ⟨w.heap.size + 1,0,none⟩ (.int .i64 y.2) = u:=⟨_,rfl⟩
    have oV:=uG.wG y.2;have wH:=uG.yI mY y.2
    rw [BP] at oV wH
    have Rn:=ah6 oV;have Ro:=ah6 wH
    obtain ⟨⟨x0,x1,x2⟩,ec,⟨f0,f1,f2⟩,fe,t0⟩:=oV.cells
    have tm:=tJ T R l most floor gone S' y.1.tick y.1.time (.slice va y.1.ents.length vc) Rm oV.st
    generalize fI l y.1.tick y.1.time = tv at *
    clear hap kU hb xS uG mY oV wH Rf Rh Ri Rj k0 k1 k2 ap
    go_wp2_with fail
    clear uF BP z0 z1 z2 zc wC wD wE Rk yc Rl
    refine tm.mono ?_
    rintro e Rp ⟨rfl,hb⟩
    have BQ:=ah6 (Rn.out.below hb);have G9:=ah6 (aK.below Ro.out hb);clear hb tm x0 x1 x2 ec f0 f1 f2 fe t0
    go_wp2_with fail
    refine (mM (!tv) 16 _ y.2 Rp BQ.out.e).mono ?_
    rintro r He ⟨rfl,hE,hO⟩
    have Hf:=ah6 (BQ.out.refuse hE hO)
    have Rq:=ah6 (aK.only G9.out hO (λj hj hk=>bL G9.out BQ.out.e (by decide) (by rw [hj,hk])))
    clear hE hO
    obtain ⟨e5,wI⟩ : ∃ x,(if (y.2 : Int) = 0 /\ (!tv) = true then (16 : Int) else y.2) = x:=⟨_,rfl⟩
    rw [wI] at Hf
    have HV : Hid (z = (y.1,e5)):=ah6 (by rw [HZ2.out,← wI];cases tv <;> simp)
    clear wI HZ2
    have HI : Hid (bU w T R l most floor gone S' (y.1.tick) (y.1.time) (.slice va y.1.ents.length vc) (e5) He.drew /\ aK He.drew w.heap.size (.slice va y.1.ents.length vc) (y.1.ents)):=ah6 ⟨Hf.out.below (below_drewN ah8 1),aK.below Rq.out (below_drewN ah8 1)⟩
    go_wp2_with fail
    apply gL (I:=(λW=>bU w T R l most floor gone S' (y.1.tick) (y.1.time) (.slice va y.1.ents.length vc) (e5) W /\ aK W w.heap.size (.slice va y.1.ents.length vc) (y.1.ents))) 3
    case hm=>kernel_rfl
    case hB=>kernel_rfl
    case hI=>exact HI.out
    simp only [List.take_succ_cons,List.take_zero,List.drop_succ_cons,List.drop_zero]
    repeat (apply aF;(next=>(intro W hW K hK;obtain ⟨⟨x0,x1,x2⟩,ec,⟨f0,f1,f2⟩,fe,t0⟩:=bU.cells hW.1;have HX:=ah6 (And.intro (bU.yF hW.1 (y.1.tick) (y.1.time) (.slice va y.1.ents.length vc)) (bU.yH hW.1 hW.2 (y.1.tick) (y.1.time) (.slice va y.1.ents.length vc)));go_simp;first | exact ⟨hW,hK⟩ | exact ⟨HX.out,hK⟩ | exact hK));(next=>exact ⟨_,HI.out⟩);(try go_simp))
    refine aV ?_
    intro WZ jR qZ
    obtain ⟨⟨x0,x1,x2⟩,ec,⟨f0,f1,f2⟩,fe,t0⟩:=bU.cells jR
    have HY:=ah6 (bU.wG jR (e5));have EZ:=ah6 (bU.yI jR qZ (e5))
    obtain ⟨⟨y0,y1,y2⟩,yc,_⟩:=bU.cells HY.out
    clear jR qZ
    go_wp2_with fail
    exact bodyPost_ret (v:=.tuple #[.agg #[.int .i64 (y.1.tick),.int .i64 (y.1.time),.slice va y.1.ents.length vc],.int .i64 (e5)]) (by simp [results,Tryz.results77,go_sem,y0,y1,y2,yc,x0,x1,x2,ec]) rfl ⟨_,by rw [HV.out],by rw [HV.out];exact EZ.out,HY.out.b⟩
   ·have h3n : (e3 == 0) = false:=by simpa using h3
    have HV : Hid (z = (dI,e3)):=ah6 (by rw [HZ1.out,← uE.out,if_pos (by simpa using h3)])
    clear HZ1 uE ap;have tm:=tJ T R l most floor gone S' 0 0 (.slice none 0 0) u7 H7.out.st
    generalize fI l 0 0 = tv at *
    go_wp2_with fail
    refine tm.mono ?_
    rintro e u8 ⟨rfl,hb⟩
    have H8:=ah6 (H7.out.below hb);clear hb tm x0 x1 x2 ec f0 f1 f2 fe t0
    go_wp2_with fail
    refine (mM (!tv) 16 _ e3 u8 H8.out.e).mono ?_
    rintro r u9 ⟨rfl,hE,hO⟩
    have H9:=ah6 (H8.out.refuse hE hO);clear hE hO
    rw [if_neg (by simp [h3])] at H9
    have HI : Hid (bU w T R l most floor gone S' (0) (0) (.slice none 0 0) (e3) u9.drew /\ aK u9.drew w.heap.size (.slice none 0 0) ([])):=ah6 ⟨H9.out.below (below_drewN ah8 1),aK.nil _ _⟩
    go_wp2_with fail
    apply gL (I:=(λW=>bU w T R l most floor gone S' (0) (0) (.slice none 0 0) (e3) W /\ aK W w.heap.size (.slice none 0 0) ([]))) 3
    case hm=>kernel_rfl
    case hB=>kernel_rfl
    case hI=>exact HI.out
    simp only [List.take_succ_cons,List.take_zero,List.drop_succ_cons,List.drop_zero]
    repeat (apply aF;(next=>(intro W hW K hK;obtain ⟨⟨x0,x1,x2⟩,ec,⟨f0,f1,f2⟩,fe,t0⟩:=bU.cells hW.1;have HX:=ah6 (And.intro (bU.yF hW.1 (0) (0) (.slice none 0 0)) (bU.yH hW.1 hW.2 (0) (0) (.slice none 0 0)));go_simp;first | exact ⟨hW,hK⟩ | exact ⟨HX.out,hK⟩ | exact hK));(next=>exact ⟨_,HI.out⟩);(try go_simp))
    refine aV ?_
    intro WZ jR qZ
    obtain ⟨⟨x0,x1,x2⟩,ec,⟨f0,f1,f2⟩,fe,t0⟩:=bU.cells jR
    have HY:=ah6 (bU.wG jR (e3));have EZ:=ah6 (bU.yI jR qZ (e3))
    obtain ⟨⟨y0,y1,y2⟩,yc,_⟩:=bU.cells HY.out
    clear jR qZ
    go_wp2_with fail
    exact bodyPost_ret (v:=.tuple #[.agg #[.int .i64 (0),.int .i64 (0),.slice none 0 0],.int .i64 (e3)]) (by simp [results,Tryz.results77,go_sem,y0,y1,y2,yc,x0,x1,x2,ec]) rfl ⟨.slice none 0 0,by rw [HV.out];rfl,by rw [HV.out];exact aK.nil _ _,HY.out.b⟩
 ·have hne : (e0 != 0) = true:=by simpa using he0
  obtain rfl : z = (dI,e0):=by rw [HZ.out,if_pos he0]
  have HI : Hid (bU w T R l most floor gone S' (0) (0) (.slice none 0 0) (e0) u1.drew /\ aK u1.drew w.heap.size (.slice none 0 0) ([])):=ah6 ⟨H1.out.below (below_drewN ah8 1),aK.nil _ _⟩
  go_wp2_with fail
  apply gL (I:=(λW=>bU w T R l most floor gone S' (0) (0) (.slice none 0 0) (e0) W /\ aK W w.heap.size (.slice none 0 0) ([]))) 3
  case hm=>kernel_rfl
  case hB=>kernel_rfl
  case hI=>exact HI.out
  simp only [List.take_succ_cons,List.take_zero,List.drop_succ_cons,List.drop_zero]
  repeat (apply aF;(next=>(intro W hW K hK;obtain ⟨⟨x0,x1,x2⟩,ec,⟨f0,f1,f2⟩,fe,t0⟩:=bU.cells hW.1;have HX:=ah6 (And.intro (bU.yF hW.1 (0) (0) (.slice none 0 0)) (bU.yH hW.1 hW.2 (0) (0) (.slice none 0 0)));go_simp;first | exact ⟨hW,hK⟩ | exact ⟨HX.out,hK⟩ | exact hK));(next=>exact ⟨_,HI.out⟩);(try go_simp))
  refine aV ?_
  intro WZ jR qZ
  obtain ⟨⟨x0,x1,x2⟩,ec,⟨f0,f1,f2⟩,fe,t0⟩:=bU.cells jR
  have HY:=ah6 (bU.wG jR (e0));have EZ:=ah6 (bU.yI jR qZ (e0))
  obtain ⟨⟨y0,y1,y2⟩,yc,_⟩:=bU.cells HY.out
  clear jR qZ
  go_wp2_with fail
  exact bodyPost_ret (v:=.tuple #[.agg #[.int .i64 (0),.int .i64 (0),.slice none 0 0],.int .i64 (e0)]) (by simp [results,Tryz.results77,go_sem,y0,y1,y2,yc,x0,x1,x2,ec]) rfl ⟨.slice none 0 0,rfl,aK.nil _ _,HY.out.b⟩
end Go.Proofs.YtklkooeimkedgaaGreat
namespace Go.Proofs.YtklkooeimkedgaaGreat
open Go.RowKit
set_option maxRecDepth 100000
theorem Xn (T R : Nat) (l : List aG) (most floor : Int) (gone : Bool) (S : Nat -> Prop) (w : World) (h : gG w T R l most floor gone S) :
 Calls Tryz.prog 89 #[.pointer (some ⟨T,0,none⟩)] w λe w'=>e = .returned (.int .i64 (l.length : Nat)) /\ w = w':=by
 have ln:=jC R l most floor gone S w h.ring
 obtain ⟨d0,d1⟩:=h.cells
 clear h
 go_enter Tryz.func89,Tryz.ntmps89
 go_wp2_with fail
 refine ln.mono ?_
 rintro e w1 ⟨rfl,rfl⟩
 clear ln
 go_wp2_with fail
 go_ret
 exact ⟨rfl,rfl⟩
set_option maxHeartbeats 1000000 in
theorem MN (T R : Nat) (l : List aG) (most floor : Int) (gone : Bool) (S : Nat -> Prop) (i : Int) (w : World) (h : gG w T R l most floor gone S) (hk : ∀ k ∈ l,k.sn.ents.length <= 64) :
 Calls Tryz.prog 40 #[.pointer (some ⟨T,0,none⟩),.int .i64 i] w λe w'=>∃ a c,e = .returned (.tuple #[.agg #[.int .i64 (uX (eD l i)),.int .i64 (mX (eD l i)),.slice a (gV (eD l i)).length c],.bool (eB l i)]) /\ aK w' w.heap.size (.slice a (gV (eD l i)).length c) (gV (eD l i)) /\ Below w.heap.size w w':=by
 obtain ⟨w0,hw0⟩ : ∃ w0,w.alloc (.cells #[.int .i64 0,.int .i64 0,.slice none 0 0] 36) = w0:=⟨_,rfl⟩
 have hB0 : Below w.heap.size w w0:=by rw [← hw0];exact ah7
 have HX0 : Hid (ak w0 w.heap.size #[.int .i64 0,.int .i64 0,.slice none 0 0] 36):=ah6 (by rw [← hw0];exact ak.new _ _ _)
 have HZ0 : Hid (w0.heap.size = w.heap.size + 1):=ah6 (by rw [← hw0];simp)
 have h1:=h.below hB0;have HB0:=ah6 hB0;have gt:=J9 R l most floor gone S i w0 h1.ring
 rw [Kk] at gt
 have HM : Hid (∀ k,(eD l i) = some k -> k ∈ l):=ah6 (λk hh=>D5 hh)
 obtain ⟨d0,d1⟩:=h1.cells
 have HS:=ah6 h1;have HK:=ah6 hk;clear h h1 hk hB0
 generalize eB l i = hv at *
 generalize (eD l i) = o at *
 go_enter Tryz.func40,Tryz.ntmps40
 go_wp2_with fail
 clear hw0
 refine gt.mono ?_
 rintro e w1 ⟨rfl,hB⟩
 clear gt d0 d1
 obtain ⟨a1,c1,e1,hE1,hc1,hl1,_⟩:=DZ (HS.out.below hB).ring HM.out HK.out
 rw [e1]
 obtain ⟨t1,ht1⟩ : ∃ t,uX o = t:=⟨_,rfl⟩
 obtain ⟨m1,hm1⟩ : ∃ t,mX o = t:=⟨_,rfl⟩
 rw [ht1,hm1]
 have Rs:=ah6 (And.intro ht1 hm1)
 obtain ⟨v1,hv1⟩ : ∃ v,w1.alloc (.cells #[.int .i64 0,.int .i64 0,.slice none 0 0] 36) = v:=⟨_,rfl⟩
 have hB1 : Below w1.heap.size w1 v1:=by rw [← hv1];exact ah7
 have bC : ak v1 w1.heap.size #[.int .i64 0,.int .i64 0,.slice none 0 0] 36:=by rw [← hv1];exact ak.new _ _ _
 have f0:=bC.free 0;have f1:=bC.free 1;have f2:=bC.free 2;have q0:=bC.cell 0;have q1:=bC.cell 1;have q2:=bC.cell 2;simp at q0 q1 q2;have hX1:=fA (v0:=.int .i64 t1) (v1:=.int .i64 m1) (v2:=.slice a1 (gV o).length c1) bC;have hb1:=dB (v0:=.int .i64 t1) (v1:=.int .i64 m1) (v2:=.slice a1 (gV o).length c1) hB1 (Nat.le_refl _)
 obtain ⟨u1,hu1⟩ : ∃ u,((v1.setCell ⟨w1.heap.size,0,none⟩ (.int .i64 t1)).setCell ⟨w1.heap.size,1,none⟩ (.int .i64 m1)).setCell ⟨w1.heap.size,2,none⟩ (.slice a1 (gV o).length c1) = u:=⟨_,rfl⟩
 rw [hu1] at hX1 hb1
 have zQ : Below w0.heap.size w0 u1:=hB.trans (hb1.mono hB.size)
 have ow:=N7 t1 m1 a1 c1 (gV o) u1 (hE1.below hb1) hc1 (by omega)
 have k0:=hX1.cell 0;have k1:=hX1.cell 1;have k2:=hX1.cell 2;simp at k0 k1 k2;have yD:=ah6 (HX0.out.below zQ HX0.out.lt);have Km:=ah6 (HB0.out.trans (zQ.mono HB0.out.size))
 have hsz : w.heap.size < u1.heap.size:=Nat.lt_of_lt_of_le (by rw [HZ0.out];omega) zQ.size
 have xR:=ah6 hsz;clear hB hE1 hc1 hl1 e1 hB1 bC hX1 hb1 zQ hsz HX0 ht1 hm1
 go_wp2_with fail
 clear hv1 hu1 f0 f1 f2 q0 q1 q2 k0 k1 k2
 refine ow.mono ?_
 rintro e w2 ⟨a2,c2,rfl,hO,hB⟩
 have hX2:=yD.out.below hB yD.out.lt;have f0:=hX2.free 0;have f1:=hX2.free 1;have f2:=hX2.free 2;have q0:=hX2.cell 0;have q1:=hX2.cell 1;have q2:=hX2.cell 2;simp at q0 q1 q2;have aS:=fA (v0:=.int .i64 t1) (v1:=.int .i64 m1) (v2:=.slice a2 (gV o).length c2) hX2
 have HF : Hid (aK (((w2.setCell ⟨w.heap.size,0,none⟩ (.int .i64 t1)).setCell ⟨w.heap.size,1,none⟩ (.int .i64 m1)).setCell ⟨w.heap.size,2,none⟩ (.slice a2 (gV o).length c2)) w.heap.size (.slice a2 (gV o).length c2) (gV o) /\
  Below w.heap.size w (((w2.setCell ⟨w.heap.size,0,none⟩ (.int .i64 t1)).setCell ⟨w.heap.size,1,none⟩ (.int .i64 m1)).setCell ⟨w.heap.size,2,none⟩ (.slice a2 (gV o).length c2))):=ah6
  ⟨(aK.base hO (by have:=xR.out;omega)).only (kT (S:=λk=>k = w.heap.size) (Only.refl _ _) (.inl rfl)) (λj hj hk=>by have:=(hO.lt j hj).1;have:=xR.out;omega),dB (Km.out.trans (hB.mono Km.out.size)) (Nat.le_refl _)⟩
 obtain ⟨u3,hu3⟩ : ∃ u,((w2.setCell ⟨w.heap.size,0,none⟩ (.int .i64 t1)).setCell ⟨w.heap.size,1,none⟩ (.int .i64 m1)).setCell ⟨w.heap.size,2,none⟩ (.slice a2 (gV o).length c2) = u:=⟨_,rfl⟩
 rw [hu3] at HF aS
 have g0:=aS.cell 0;have g1:=aS.cell 1;have g2:=aS.cell 2;simp at g0 g1 g2;clear hO hB hX2 aS ow yD
 go_wp2_with fail
 exact bodyPost_ret (v:=.tuple #[.agg #[.int .i64 t1,.int .i64 m1,.slice a2 (gV o).length c2],.bool hv]) (by simp [results,Tryz.results40,go_sem,g0,g1,g2]) rfl ⟨a2,c2,by rw [Rs.out.1,Rs.out.2],HF.out⟩
theorem Xo {l : List aG} {i : Int} {k : aG} (h : fu l i = some k) : k ∈ l:=by
 unfold fu at h
 split at h
 ·cases h
 ·exact List.mem_of_getElem? h
set_option maxHeartbeats 1000000 in
theorem Zv (T R : Nat) (l : List aG) (most floor : Int) (gone : Bool) (S : Nat -> Prop) (i : Int) (w : World) (h : gG w T R l most floor gone S) (hk : ∀ k ∈ l,k.sn.ents.length <= 64) :
 Calls Tryz.prog 90 #[.pointer (some ⟨T,0,none⟩),.int .i64 i] w λe w'=>∃ a c,e = .returned (.tuple #[.agg #[.int .i64 (uX (fu l i)),.int .i64 (mX (fu l i)),.slice a (gV (fu l i)).length c],.int .i64 (sQ (fu l i))]) /\ aK w' w.heap.size (.slice a (gV (fu l i)).length c) (gV (fu l i)) /\ Below w.heap.size w w':=by
 obtain ⟨w0,hw0⟩ : ∃ w0,w.alloc (.cells #[.int .i64 0,.int .i64 0,.slice none 0 0] 36) = w0:=⟨_,rfl⟩
 have hB0 : Below w.heap.size w w0:=by rw [← hw0];exact ah7
 have HX0 : Hid (ak w0 w.heap.size #[.int .i64 0,.int .i64 0,.slice none 0 0] 36):=ah6 (by rw [← hw0];exact ak.new _ _ _)
 have HZ0 : Hid (w0.heap.size = w.heap.size + 1):=ah6 (by rw [← hw0];simp)
 have h1:=h.below hB0;have HB0:=ah6 hB0;have gt:=N8 R l most floor gone S i w0 h1.ring
 skip
 have HM : Hid (∀ k,(fu l i) = some k -> k ∈ l):=ah6 (λk hh=>Xo hh)
 obtain ⟨d0,d1⟩:=h1.cells
 have HS:=ah6 h1;have HK:=ah6 hk;clear h h1 hk hB0
 generalize sQ (fu l i) = ev at *
 generalize VO (fu l i) = yv at *
 generalize (fu l i) = o at *
 go_enter Tryz.func90,Tryz.ntmps90
 go_wp2_with fail
 clear hw0
 refine gt.mono ?_
 rintro e w1 ⟨rfl,hB⟩
 clear gt d0 d1
 obtain ⟨a1,c1,e1,hE1,hc1,hl1,_⟩:=DZ (HS.out.below hB).ring HM.out HK.out
 rw [e1]
 obtain ⟨t1,ht1⟩ : ∃ t,uX o = t:=⟨_,rfl⟩
 obtain ⟨m1,hm1⟩ : ∃ t,mX o = t:=⟨_,rfl⟩
 rw [ht1,hm1]
 have Rs:=ah6 (And.intro ht1 hm1)
 obtain ⟨v1,hv1⟩ : ∃ v,w1.alloc (.cells #[.int .i64 0,.int .i64 0,.slice none 0 0] 36) = v:=⟨_,rfl⟩
 have hB1 : Below w1.heap.size w1 v1:=by rw [← hv1];exact ah7
 have bC : ak v1 w1.heap.size #[.int .i64 0,.int .i64 0,.slice none 0 0] 36:=by rw [← hv1];exact ak.new _ _ _
 have f0:=bC.free 0;have f1:=bC.free 1;have f2:=bC.free 2;have q0:=bC.cell 0;have q1:=bC.cell 1;have q2:=bC.cell 2;simp at q0 q1 q2;have hX1:=fA (v0:=.int .i64 t1) (v1:=.int .i64 m1) (v2:=.slice a1 (gV o).length c1) bC;have hb1:=dB (v0:=.int .i64 t1) (v1:=.int .i64 m1) (v2:=.slice a1 (gV o).length c1) hB1 (Nat.le_refl _)
 obtain ⟨u1,hu1⟩ : ∃ u,((v1.setCell ⟨w1.heap.size,0,none⟩ (.int .i64 t1)).setCell ⟨w1.heap.size,1,none⟩ (.int .i64 m1)).setCell ⟨w1.heap.size,2,none⟩ (.slice a1 (gV o).length c1) = u:=⟨_,rfl⟩
 rw [hu1] at hX1 hb1
 have zQ : Below w0.heap.size w0 u1:=hB.trans (hb1.mono hB.size)
 have ow:=N7 t1 m1 a1 c1 (gV o) u1 (hE1.below hb1) hc1 (by omega)
 have k0:=hX1.cell 0;have k1:=hX1.cell 1;have k2:=hX1.cell 2;simp at k0 k1 k2;have yD:=ah6 (HX0.out.below zQ HX0.out.lt);have Km:=ah6 (HB0.out.trans (zQ.mono HB0.out.size))
 have hsz : w.heap.size < u1.heap.size:=Nat.lt_of_lt_of_le (by rw [HZ0.out];omega) zQ.size
 have xR:=ah6 hsz;clear hB hE1 hc1 hl1 e1 hB1 bC hX1 hb1 zQ hsz HX0 ht1 hm1
 go_wp2_with fail
 clear hv1 hu1 f0 f1 f2 q0 q1 q2 k0 k1 k2
 refine ow.mono ?_
 rintro e w2 ⟨a2,c2,rfl,hO,hB⟩
 have hX2:=yD.out.below hB yD.out.lt;have f0:=hX2.free 0;have f1:=hX2.free 1;have f2:=hX2.free 2;have q0:=hX2.cell 0;have q1:=hX2.cell 1;have q2:=hX2.cell 2;simp at q0 q1 q2;have aS:=fA (v0:=.int .i64 t1) (v1:=.int .i64 m1) (v2:=.slice a2 (gV o).length c2) hX2
 have HF : Hid (aK (((w2.setCell ⟨w.heap.size,0,none⟩ (.int .i64 t1)).setCell ⟨w.heap.size,1,none⟩ (.int .i64 m1)).setCell ⟨w.heap.size,2,none⟩ (.slice a2 (gV o).length c2)) w.heap.size (.slice a2 (gV o).length c2) (gV o) /\
  Below w.heap.size w (((w2.setCell ⟨w.heap.size,0,none⟩ (.int .i64 t1)).setCell ⟨w.heap.size,1,none⟩ (.int .i64 m1)).setCell ⟨w.heap.size,2,none⟩ (.slice a2 (gV o).length c2))):=ah6
  ⟨(aK.base hO (by have:=xR.out;omega)).only (kT (S:=λk=>k = w.heap.size) (Only.refl _ _) (.inl rfl)) (λj hj hk=>by have:=(hO.lt j hj).1;have:=xR.out;omega),dB (Km.out.trans (hB.mono Km.out.size)) (Nat.le_refl _)⟩
 obtain ⟨u3,hu3⟩ : ∃ u,((w2.setCell ⟨w.heap.size,0,none⟩ (.int .i64 t1)).setCell ⟨w.heap.size,1,none⟩ (.int .i64 m1)).setCell ⟨w.heap.size,2,none⟩ (.slice a2 (gV o).length c2) = u:=⟨_,rfl⟩
 rw [hu3] at HF aS
 have g0:=aS.cell 0;have g1:=aS.cell 1;have g2:=aS.cell 2;simp at g0 g1 g2;clear hO hB hX2 aS ow yD
 go_wp2_with fail
 exact bodyPost_ret (v:=.tuple #[.agg #[.int .i64 t1,.int .i64 m1,.slice a2 (gV o).length c2],.int .i64 ev]) (by simp [results,Tryz.results90,go_sem,g0,g1,g2]) rfl ⟨a2,c2,by rw [Rs.out.1,Rs.out.2],HF.out⟩
end Go.Proofs.YtklkooeimkedgaaGreat
namespace Go.Proofs.YtklkooeimkedgaaGreat
open Go.RowKit
def sU (k : aG) : Int × Sn:=(k.key,k.sn)
def Al (l l' : List aG) : Prop:=l.map sU = l'.map sU
def iR (s : Sn) : aG:=⟨s.tick,s,none,0⟩
theorem Al.len {l l' : List aG} (h : Al l l') : l.length = l'.length:=by
 have:=congrArg List.length h
 simpa using this
theorem Al.nth {l l' : List aG} (h : Al l l') (i : Nat) : (l[i]?).map sU = (l'[i]?).map sU:=by
 have:=congrArg (λm : List (Int × Sn)=>m[i]?) h
 simpa using this
theorem Al.cnt : ∀ {l l' : List aG},Al l l' -> ∀ key,dW l key = dW l' key
 | [],[],_,key=>rfl
 | [],_ :: _,h,key=>by simp [Al] at h
 | _ :: _,[],h,key=>by simp [Al] at h
 | x :: l,y :: l',h,key=>by
   simp only [Al,List.map_cons,List.cons.injEq] at h
   obtain ⟨h1,h2⟩:=h
   have hk : x.key = y.key:=congrArg Prod.fst h1
   have:=Al.cnt (l:=l) (l':=l') h2 key
   unfold dW at *
   by_cases hx : x.key < key
   ·rw [List.takeWhile_cons_of_pos (by simpa using hx),List.takeWhile_cons_of_pos (by simpa [← hk] using hx),List.length_cons,List.length_cons,this]
   ·rw [List.takeWhile_cons_of_neg (by simpa using hx),List.takeWhile_cons_of_neg (by simpa [← hk] using hx)]
theorem Xp {o o' : Option aG} (h : o.map sU = o'.map sU) (key : Int) : o.elim false (λk=>k.key == key) = o'.elim false (λk=>k.key == key):=by
 cases o <;> cases o' <;> simp_all [sU]
theorem Al.has {l l' : List aG} (h : Al l l') (key : Int) : eB l key = eB l' key:=by
 unfold eB
 rw [h.cnt key]
 exact Xp (h.nth _) key
theorem Al.unt {l l' : List aG} (h : Al l l') (key : Int) : d9 l key = d9 l' key:=by
 unfold d9;rw [h.has,h.cnt]
theorem Al.get {l l' : List aG} (h : Al l l') (key : Int) : (eD l key).map sU = (eD l' key).map sU:=by
 unfold eD
 rw [h.has,h.cnt]
 split
 ·exact h.nth _
 ·rfl
theorem Al.at {l l' : List aG} (h : Al l l') (i : Int) : (fu l i).map sU = (fu l' i).map sU:=by
 unfold fu
 split
 ·rfl
 ·exact h.nth _
theorem Uy {o o' : Option aG} (h : o.map sU = o'.map sU) : iY o = iY o':=by
 cases o <;> cases o' <;> simp_all [iY,sU,uX,mX,gV]
theorem CG {o o' : Option aG} (h : o.map sU = o'.map sU) : sQ o = sQ o' /\ mX o = mX o':=by
 cases o <;> cases o' <;> simp_all [sU,sQ,mX]
theorem Al.stale {l l' : List aG} (h : Al l l') (most floor : Int) (gone : Bool) (tick : Int) : iK l most floor gone tick = iK l' most floor gone tick:=by
 unfold iK;rw [h.unt,h.len]
theorem Al.timely {l l' : List aG} (h : Al l l') (tick time : Int) : fI l tick time = fI l' tick time:=by
 unfold fI
 rw [h.unt,(CG (h.at _)).1,(CG (h.at _)).2,(CG (h.at (d9 l' tick))).1,(CG (h.at (d9 l' tick))).2]
theorem Al.snap {l l' : List aG} (h : Al l l') (most floor : Int) (gone : Bool) (zs : List Int) : dQ l most floor gone zs = dQ l' most floor gone zs:=by
 unfold dQ
 rw [show rZ l most floor gone (bD zs).1.tick (bD zs).1.base = rZ l' most floor gone (bD zs).1.tick (bD zs).1.base by unfold rZ;rw [h.has,h.has,h.stale],Uy (h.get (bD zs).1.base),h.timely]
theorem Rx {l : List aG} (h : ∀ k ∈ l,k.key = k.sn.tick) : Al l ((l.map (·.sn)).map iR):=by
 unfold Al
 rw [List.map_map,List.map_map]
 refine List.map_congr_left λk hk=>?_
 simp [sU,iR,h k hk]
def ji (ss : List Sn) (x : Sn) : List Sn:=ss.takeWhile (λs=>decide (s.tick < x.tick)) ++ x :: ss.dropWhile (λs=>decide (s.tick < x.tick))
structure Rg where
 ss : List Sn
 floor : Int
 gone : Bool
def jD (most : Int) (r : Rg) (x : Sn) : Rg :=
 if ((ji r.ss x).length : Int) <= most then ⟨ji r.ss x,r.floor,r.gone⟩ else ⟨(ji r.ss x).drop 1,((ji r.ss x).headD dI).tick,true⟩
def fQ (most : Int) (r : Rg) (zs : List Int) : Sn × Int:=dQ (r.ss.map iR) most r.floor r.gone zs
theorem Ko : ∀ {ss : List Sn} {x : Sn},(∀ s ∈ ss,s.tick < x.tick) -> ji ss x = ss ++ [x]
 | [],x,_=>rfl
 | y :: ss,x,h=>by
   have h1:=Ko (ss:=ss) (x:=x) (λs hs=>h s (List.mem_cons_of_mem _ hs))
   have hy:=h y (List.mem_cons_self ..)
   unfold ji at h1 ⊢
   rw [List.takeWhile_cons_of_pos (by simpa using hy),List.dropWhile_cons_of_pos (by simpa using hy),List.cons_append,h1,List.cons_append]
theorem zR {a : Sn} {g : Gr} (h : (jv a g).2 = 0) : dA g = 0 /\ (jv a g).1.tick = g.tick /\ (jv a g).1.time = g.time:=by
 unfold jv at h ⊢
 split at h
 ·rename_i hh;exact absurd h hh
 ·rename_i hh
  rw [if_neg hh]
  refine ⟨by simpa using hh,?_⟩
  have key : ∀ l,(fC g l).2 = 0 -> (fC g l).1.tick = g.tick /\ (fC g l).1.time = g.time:=by
   intro l hl
   unfold fC at hl ⊢
   cases hx : kS l g.recs with
   | none=>rw [hx] at hl;cases hl
   | some l' =>
     rw [hx] at hl
     simp only at hl ⊢
     split at hl
     ·cases hl
     ·rename_i hy;rw [if_neg hy];exact ⟨rfl,rfl⟩
  split at h
  ·rename_i hb
   rw [if_pos hb]
   split at h
   ·rename_i hc;exact absurd h hc
   ·rename_i hc
    rw [if_neg hc]
    split at h
    ·cases h
    ·rename_i ht
     rw [if_neg ht]
     exact key _ h
  ·rename_i hb
   rw [if_neg hb]
   exact key _ h
end Go.Proofs.YtklkooeimkedgaaGreat
namespace Go.Proofs.YtklkooeimkedgaaGreat
open Go.RowKit
set_option maxRecDepth 100000
theorem gG.apart {w : World} {T R : Nat} {l : List aG} {most floor : Int} {gone : Bool} {S : Nat -> Prop} (h : gG w T R l most floor gone S) : RingAt w R l most floor gone (λk=>S k /\ k ≠ T):=by
 obtain ⟨⟨cs,hcs,hb⟩,⟨v,hp⟩,h3⟩:=h
 refine ⟨v,hp.blk,hp.row,hp.ents,⟨hp.sR,λe=>?_⟩,λj e=>⟨hp.sv j e,λe2=>?_⟩,λk hk j e=>⟨hp.se k hk j e,λe2=>?_⟩,hp.up,hp.len⟩
 ·subst e
  have h1:=hp.blk
  unfold ak at h1 hb
  have h2:=Option.some.inj (h1.symm.trans hb)
  injection h2 with _ h3
  exact absurd h3 (by decide)
 ·subst e2;exact bL hp.row hb (by decide) e
 ·subst e2;exact bL (hp.ents k hk).1 hb (by decide) e
theorem Uz (p m : Value) (cs : List Int) (n : Nat) : (#[p,m] ++ (cs.map (Value.int .i64)).toArray)[2 + n]? = (cs[n]?).map (Value.int .i64):=by
 rw [Array.getElem?_append_right (by simp)]
 simp
theorem UA (p m : Value) (cs : List Int) (n : Nat) (c : Int) : (#[p,m] ++ (cs.map (Value.int .i64)).toArray).setIfInBounds (2 + n) (.int .i64 c) = #[p,m] ++ ((cs.set n c).map (Value.int .i64)).toArray:=by
 apply Array.ext'
 rw [Array.toList_setIfInBounds,Array.toList_append,Array.toList_append,List.map_set,show 2 + n = n + 1 + 1 by omega]
 rfl
theorem gG.count {w : World} {T R : Nat} {l : List aG} {most floor : Int} {gone : Bool} {S : Nat -> Prop} (h : gG w T R l most floor gone S) {e : Int} (he : dN e) :
 ∃ c : Int,w.cell? ⟨T,2 + e.toNat,none⟩ = some (.int .i64 c) /\ w.frozen? ⟨T,2 + e.toNat,none⟩ = false /\ ∀ c',gG (w.setCell ⟨T,2 + e.toNat,none⟩ (.int .i64 c')) T R l most floor gone S:=by
 have ha:=h.apart
 obtain ⟨⟨cs,hcs,hb⟩,_,h3⟩:=h
 obtain ⟨e0,e1⟩:=he
 have hn : e.toNat < cs.length:=by omega
 refine ⟨cs[e.toNat],?_,hb.free _,λc'=>⟨⟨cs.set e.toNat c',by rw [List.length_set];exact hcs,?_⟩,?_,h3⟩⟩
 ·rw [hb.cell,Uz,List.getElem?_eq_getElem hn];rfl
 ·rw [← UA];exact hb.set _ _
 ·exact (ha.only (Only.setCell (S:=λk=>k = T) (p:=⟨T,2 + e.toNat,none⟩) (Only.refl _ _) (.inl rfl) _) (λk hk e=>hk.2 e)).weaken (λk hk=>hk.1)
def UC (l : List aG) (most floor : Int) (gone : Bool) (x : aG) (l' : List aG) (fl : Int) (g : Bool) : Prop:=(⟨l'.map (·.sn),fl,g⟩ : Rg) = jD most ⟨l.map (·.sn),floor,gone⟩ x.sn /\ ∀ k ∈ l',k = x \/ k ∈ l
def Kq (most : Int) (r : Rg) (x : Sn) : Int × Bool:=if ((ji r.ss x).length : Int) <= most then (0,false) else (((ji r.ss x).headD dI).tick,true)
def VP (R : Nat) (l : List aG) (most floor : Int) (gone : Bool) (S : Nat -> Prop) (x : aG) (w : World) : Prop :=
 Calls Tryz.prog 78 #[.pointer (some ⟨R,0,none⟩),.int .i64 x.key,.agg #[.int .i64 x.sn.tick,.int .i64 x.sn.time,fP x]] w λe w'=>∃ (l' : List aG) (fl : Int) (g : Bool),e = .returned (.tuple #[.int .i64 (Kq most ⟨l.map (·.sn),floor,gone⟩ x.sn).1,.bool (Kq most ⟨l.map (·.sn),floor,gone⟩ x.sn).2,.int .i64 0]) /\ RingAt w' R l' most fl g (λk=>S k \/ (w.heap.size <= k /\ k < w'.heap.size)) /\ Only S w w' /\ UC l most floor gone x l' fl g
def Kr (l : List aG) (most floor : Int) (gone : Bool) (sn : Sn) : Prop:=∀ (R : Nat) (S : Nat -> Prop) (x : aG) (w : World),x.sn = sn -> x.key = sn.tick -> RingAt w R l most floor gone S -> aK w 0 (fP x) x.sn.ents -> (∀ e ∈ x.sn.ents,e.Ok) -> (∀ j,(fP x).ownBlock = some j -> S j) -> VP R l most floor gone S x w
def Kt (u1 : World) (S2 : Nat -> Prop) (R : Nat) (l : List aG) (most floor : Int) (gone : Bool) (sn : Sn) (b : List Value) (W : World) : Prop:=Only S2 u1 W /\ match b with
 | []=>Below u1.heap.size u1 W
 | [v]=>Below u1.heap.size u1 W /\ ∃ a c,v = .agg #[.int .i64 sn.tick,.int .i64 sn.time,.slice a sn.ents.length c] /\ aK W u1.heap.size (.slice a sn.ents.length c) sn.ents
 | [v,u]=>∃ (l' : List aG) (fl : Int) (g : Bool) (x : aG),RingAt W R l' most fl g (λk=>S2 k /\ k < W.heap.size) /\ x.sn = sn /\ x.key = sn.tick /\ UC l most floor gone x l' fl g
 | _=>False
theorem Kt.below {u1 : World} {S2 : Nat -> Prop} {R : Nat} {l : List aG} {most floor : Int} {gone : Bool} {sn : Sn} {b : List Value} {W W' : World} (h : Kt u1 S2 R l most floor gone sn b W) (hb : Below W.heap.size W W') : Kt u1 S2 R l most floor gone sn b W':=by
 obtain ⟨h1,h2⟩:=h
 refine ⟨h1.eT hb,?_⟩
 match b,h2 with
 | [],h2=>exact h2.trans (hb.mono h2.size)
 | [v],⟨h2,a,c,e,ho⟩=>exact ⟨h2.trans (hb.mono h2.size),a,c,e,ho.below hb⟩
 | [v,u],⟨l',fl,g,x,hr,q⟩=>exact ⟨l',fl,g,x,(hr.below hb).weaken (λk hk=>⟨hk.1,Nat.lt_of_lt_of_le hk.2 hb.size⟩),q⟩
def aen (l : List aG) (most floor : Int) (gone : Bool) (z : Sn × Int) (l' : List aG) (fl : Int) (g : Bool) : Prop :=
 (z.2 ≠ 0 /\ l' = l /\ fl = floor /\ g = gone) \/ (z.2 = 0 /\ ∃ x : aG,x.sn = z.1 /\ x.key = z.1.tick /\ UC l most floor gone x l' fl g)
set_option maxHeartbeats 4000000 in
theorem Od (T R : Nat) (l : List aG) (most floor : Int) (gone : Bool) (S : Nat -> Prop) (a : Option Addr) (len cap : Nat) (zs : List Int) (w : World) (h0 : gG w T R l most floor gone S) (Oa : ∀ k ∈ l,k.sn.ents.length <= 64)
 (hz : BytesAt w a len zs) (hc : a = none -> cap = 0) (hlc : len <= cap) (hl : (len : Int) <= 140737488355000)
 (Ku : (dQ l most floor gone zs).2 = 0 -> Kr l most floor gone (dQ l most floor gone zs).1) (hok : ∀ e ∈ (dQ l most floor gone zs).1.ents,e.Ok) (hn : (dQ l most floor gone zs).1.ents.length <= 64) (her : dN (dQ l most floor gone zs).2) :
 Calls Tryz.prog 39 #[.pointer (some ⟨T,0,none⟩),.slice a len cap] w λe w'=>e = .returned (.tuple #[.int .i64 (if (dQ l most floor gone zs).2 = 0 then (dQ l most floor gone zs).1.tick else 0),.int .i64 (dQ l most floor gone zs).2]) /\
  (∃ l' fl g,gG w' T R l' most fl g (λk=>S k \/ (w.heap.size <= k /\ k < w'.heap.size)) /\ aen l most floor gone (dQ l most floor gone zs) l' fl g) /\ Only S w w':=by
 have hs:=Zn T R l most floor gone S a len cap zs w h0 Oa hz hc hlc hl (Rw hz.u8);have Kv:=ah6 h0.cap;have VQ:=ah6 hok;have aeo:=ah6 Ku;have VR:=ah6 her;have HN:=ah6 hn;clear Ku hok h0 hz her hn
 generalize dQ l most floor gone zs = z at *
 obtain ⟨tk,htk⟩ : ∃ t : Int,(if z.2 = 0 then z.1.tick else 0) = t:=⟨_,rfl⟩
 rw [htk]
 obtain ⟨⟨tick,time,ents⟩,er⟩:=z
 simp only at *
 have HTK:=ah6 htk;clear htk
 go_enter Tryz.func39,Tryz.ntmps39
 go_wp2_with fail
 refine hs.mono ?_
 rintro e w1 ⟨v,rfl,hO,hB⟩
 clear hs
 obtain ⟨va,vc,rfl,_⟩:=hO.slice
 have hS1:=Kv.out.below hB
 obtain ⟨v1,hv1⟩ : ∃ v,w1.alloc (.cells #[.int .i64 0,.int .i64 0,.slice none 0 0] 36) = v:=⟨_,rfl⟩
 have hB1 : Below w1.heap.size w1 v1:=by rw [← hv1];exact ah7
 have bC : ak v1 w1.heap.size #[.int .i64 0,.int .i64 0,.slice none 0 0] 36:=by rw [← hv1];exact ak.new _ _ _
 have f0:=bC.free 0;have f1:=bC.free 1;have f2:=bC.free 2;have q0:=bC.cell 0;have q1:=bC.cell 1;have q2:=bC.cell 2;simp at q0 q1 q2;have hX1:=fA (v0:=.int .i64 tick) (v1:=.int .i64 time) (v2:=.slice va ents.length vc) bC;have hb1:=dB (v0:=.int .i64 tick) (v1:=.int .i64 time) (v2:=.slice va ents.length vc) hB1 (Nat.le_refl _)
 obtain ⟨u1,hu1⟩ : ∃ u,((v1.setCell ⟨w1.heap.size,0,none⟩ (.int .i64 tick)).setCell ⟨w1.heap.size,1,none⟩ (.int .i64 time)).setCell ⟨w1.heap.size,2,none⟩ (.slice va ents.length vc) = u:=⟨_,rfl⟩
 rw [hu1] at hX1 hb1
 have fq:=ah6 hX1;have fZ:=ah6 (hS1.below hb1);have HB1:=ah6 (hB.trans (hb1.mono hB.size))
 have hE1 : fO u1 va ents /\ (va = none -> vc = 0):=by
  obtain ⟨a',c',e,h1,h2,_⟩:=(aK.below hO hb1).ents VQ.out
  cases e;exact ⟨h1,h2⟩
 have zi:=ah6 hE1
 have xR : Hid (w.heap.size <= w1.heap.size /\ w1.heap.size < u1.heap.size):=ah6 ⟨hB.size,hX1.lt⟩
 clear hO hB hS1 hB1 bC hX1 hb1 hE1
 by_cases her : er = 0
 ·subst her
  obtain rfl : tick = tk:=by have:=HTK.out;simpa using this
  obtain ⟨d0,d1⟩:=fZ.out.cells
  have x0:=fq.out.cell 0;have x1:=fq.out.cell 1;have x2:=fq.out.cell 2;simp at x0 x1 x2
  have HI : Hid (Kt u1 (λk=>(S k /\ k < w.heap.size /\ k ≠ T) \/ u1.heap.size <= k) R l most floor gone ⟨tick,time,ents⟩ [] u1.drew):=ah6 ⟨Only.of_below (below_drewN ah8 1),below_drewN ah8 1⟩
  have HT : Hid (T < w.heap.size):=ah6 Kv.out.sT.2
  have IJ : Hid (∀ b W,Kt u1 (λk=>(S k /\ k < w.heap.size /\ k ≠ T) \/ u1.heap.size <= k) R l most floor gone ⟨tick,time,ents⟩ b W -> W.cell? ⟨T,0,none⟩ = some (.pointer (some ⟨R,0,none⟩)) /\ W.cell? ⟨w1.heap.size,0,none⟩ = some (.int .i64 tick) /\ W.cell? ⟨w1.heap.size,1,none⟩ = some (.int .i64 time) /\ W.cell? ⟨w1.heap.size,2,none⟩ = some (.slice va ents.length vc)):=ah6 (λb W hW=>by
   have hh : ∀ k o,k < u1.heap.size -> ¬ ((S k /\ k < w.heap.size /\ k ≠ T) \/ u1.heap.size <= k) -> W.cell? ⟨k,o,none⟩ = u1.cell? ⟨k,o,none⟩:=λk o h1 h2=>by
    simp only [World.cell?];rw [hW.1.block k h1 h2]
   have a1:=HT.out;have a2:=xR.out
   refine ⟨(hh T 0 (by omega) (by omega)).trans d0,(hh _ 0 (by omega) (by omega)).trans x0,(hh _ 1 (by omega) (by omega)).trans x1,(hh _ 2 (by omega) (by omega)).trans x2⟩)
  obtain ⟨av,bv,hlv⟩ : ∃ av bv,Kq most ⟨l.map (·.sn),floor,gone⟩ ⟨tick,time,ents⟩ = (av,bv):=⟨_,_,rfl⟩
  have HLV:=ah6 hlv;clear hlv
  go_wp2_with fail
  clear hv1 hu1 f0 f1 f2 q0 q1 q2 d0 d1 x0 x1 x2
  apply jQ 13 [7,8] (Kt u1 (λk=>(S k /\ k < w.heap.size /\ k ≠ T) \/ u1.heap.size <= k) R l most floor gone ⟨tick,time,ents⟩)
  case hm=>kernel_rfl
  case hB=>kernel_rfl
  case hp=>kernel_rfl
  case hI=>exact HI.out
  simp only [List.take_succ_cons,List.take_zero,List.drop_succ_cons,List.drop_zero]
  repeat (apply bT;(next=>rfl);(next=>(intro b W hW K hK;obtain ⟨y0,y1,y2,y3⟩:=IJ.out _ _ hW;go_simp;first | exact ⟨hW,hK⟩ | exact hK));(next=>exact ⟨_,HI.out⟩);(try go_simp))
  apply dh (s:=λ_=>True)
  case hk=>rfl
  case hne=>exact ⟨undef,trivial⟩
  case hw=>rfl
  case h =>
   intro W hW
   have hW2 : Below u1.heap.size u1 W:=hW.2
   have ow:=N7 tick time va vc ents W (zi.out.1.below hW2) zi.out.2 (by have:=HN.out;omega)
   have HW:=ah6 hW;clear hW hW2
   go_simp
   refine ow.mono ?_
   rintro e w2 ⟨a2,c2,rfl,hO,hB⟩
   have hAc:=Kt.below HW.out hB
   first | refine ⟨_,rfl,?_⟩ | refine ⟨_,rfl,trivial,?_⟩
   exact ⟨hAc.1,hAc.2,a2,c2,rfl,aK.base hO (Below.size (show Below u1.heap.size u1 W from HW.out.2))⟩
  intro v2 _
  repeat (apply bT;(next=>rfl);(next=>(intro b W hW K hK;obtain ⟨y0,y1,y2,y3⟩:=IJ.out _ _ hW;go_simp;first | exact ⟨hW,hK⟩ | exact hK));(next=>exact ⟨_,HI.out⟩);(try go_simp))
  apply dh (s:=λv=>v = .tuple #[.int .i64 av,.bool bv,.int .i64 0])
  case hk=>rfl
  case hne=>exact ⟨_,rfl⟩
  case hw=>rfl
  case h =>
   intro W hW
   obtain ⟨hO,hb,a2,c2,rfl,kU⟩:=hW
   have hS2:=(fZ.out.below hb).apart.weaken (S':=λk=>((S k /\ k < w.heap.size /\ k ≠ T) \/ u1.heap.size <= k)) (λk hk=>.inl ⟨hk.1.1,hk.1.2,hk.2⟩)
   have ly:=aeo.out trivial R _ ⟨tick,⟨tick,time,ents⟩,a2,c2⟩ W rfl rfl hS2 (aK.base kU (Nat.zero_le _)) VQ.out (λj hj=>.inr (kU.lt j hj).1)
   have HO:=ah6 hO;have hbs:=hb.size;clear hO hb kU hS2
   unfold VP fP at ly
   simp only [HLV.out] at ly
   go_simp
   refine ly.mono ?_
   rintro e w2 ⟨l',fl,g,rfl,hR,hO2,Hr⟩
   first | refine ⟨_,rfl,rfl,?_⟩ | refine ⟨_,rfl,trivial,?_⟩ | refine ⟨_,rfl,?_⟩
   exact ⟨HO.out.trans hO2,l',fl,g,_,hR.cap.weaken (λk hk=>⟨by rcases hk.1 with h | h;exact h;exact .inr (by omega),hk.2⟩),rfl,rfl,Hr⟩
  intro v3 hv3
  obtain rfl:=hv3
  try go_simp
  repeat (apply bT;(next=>rfl);(next=>(intro b W hW K hK;obtain ⟨y0,y1,y2,y3⟩:=IJ.out _ _ hW;go_simp;first | exact ⟨hW,hK⟩ | exact hK));(next=>exact ⟨_,HI.out⟩);(try go_simp))
  refine jF ?_
  intro W hW
  have HK:=ah6 (IJ.out _ W hW)
  obtain ⟨hO,l',fl,g,x,hR,hx1,hx2,Hr⟩:=hW
  have hT:=HT.out;have hsz:=xR.out;have aep:=hO.size
  have hST : gG W T R l' most fl g (λk=>S k \/ (w.heap.size <= k /\ k < W.heap.size)):=by
   obtain ⟨cs,hcs,hb⟩:=fZ.out.blk
   refine ⟨⟨cs,hcs,hO.blk hb (by omega)⟩,hR.weaken (λk hk=>?_),.inl Kv.out.sT.1⟩
   rcases hk.1 with h | h
   ·exact .inl h.1
   ·exact .inr ⟨by omega,hk.2⟩
  have HON : Hid (Only S w W):=ah6 ((Only.of_below (S:=S) HB1.out).aU hO (λi hi h=>by rcases h with h | h;exact h.1;omega))
  have Zw:=ah6 (And.intro hx1 (And.intro hx2 Hr));have HST:=ah6 hST;clear hO hR hx1 hx2 Hr HI hST aep
  obtain ⟨c,hc0,hf0,hset⟩:=HST.out.count dN.zero
  simp at hc0 hf0
  obtain ⟨kt,Zx,kx1,kx2⟩:=HK.out
  go_wp2_with fail
  refine aR 9 (by kernel_rfl) (by kernel_rfl) ?_
  simp only [List.take_succ_cons,List.take_zero,List.drop_succ_cons,List.drop_zero]
  repeat (apply aF;(next=>(intro W hW K hK;have y0:=hW.cell kt;have y1:=hW.cell Zx;have y2:=hW.cell kx1;have y3:=hW.cell kx2;have y4:=hW.cell hc0;go_simp;first | exact ⟨hW,hK⟩ | exact hK));(next=>exact aO.self _);(try go_simp))
  refine aV ?_
  intro WC aL
  have bQ : Below W.heap.size W WC:=aL
  have Ry:=HST.out.below bQ
  obtain ⟨c',hc2,hf2,iO⟩:=Ry.count dN.zero
  simp at hc2 hf2 iO;have kx:=aL.cell Zx;have hc3:=aL.cell hc0;have ahg:=xR.out;have hTl:=HT.out
  have hne1 : ¬ w1.heap.size = T:=by omega
  have hne2 : ¬ T = w1.heap.size:=by omega
  have HF : Hid (∀ v,gG (WC.setCell ⟨T,2,none⟩ (.int .i64 v)) T R l' most fl g (λk=>S k \/ (w.heap.size <= k /\ k < (WC.setCell ⟨T,2,none⟩ (.int .i64 v)).heap.size)) /\ Only S w (WC.setCell ⟨T,2,none⟩ (.int .i64 v))):=ah6 (λv=>⟨(iO v).weaken (λk hk=>by
   rcases hk with h | h
   ·exact .inl h
   ·exact .inr ⟨h.1,by have:=bQ.size;simp [World.setCell];omega⟩),(HON.out.eT bQ).setCell (p:=⟨T,2,none⟩) (.inl Kv.out.sT.1) _⟩)
  clear aL bQ Ry kt Zx kx1 kx2 hc0 hf0 hset HK iO hc2
  go_wp2_with fail
  exact bodyPost_ret (v:=.tuple #[.int .i64 tick,.int .i64 0]) (by simp [results,Tryz.results39,go_sem]) rfl ⟨rfl,⟨l',fl,g,(HF.out _).1,.inr ⟨rfl,x,Zw.out.1,Zw.out.2.1,Zw.out.2.2⟩⟩,(HF.out _).2⟩
 ·have hen : (er == 0) = false:=by simpa using her
  have ahh : (er != 0) = true:=by simpa using her
  obtain ⟨c,hc0,hf0,hset⟩:=fZ.out.count VR.out
  obtain ⟨d0,d1⟩:=fZ.out.cells
  have hb1 : ¬ er < 0:=by have:=VR.out.1;omega
  have hb2 : er < 18:=by have:=VR.out.2;omega
  go_wp2_with fail
  clear hv1 hu1 f0 f1 f2 q0 q1 q2
  refine aR 9 (by kernel_rfl) (by kernel_rfl) ?_
  simp only [List.take_succ_cons,List.take_zero,List.drop_succ_cons,List.drop_zero]
  repeat (apply aF;(next=>(intro W hW K hK;have y0:=hW.cell d0;have y1:=hW.cell d1;have y2:=hW.cell hc0;go_simp;first | exact ⟨hW,hK⟩ | exact hK));(next=>exact aO.self _);(try go_simp))
  refine aV ?_
  intro WC aL
  have bQ : Below u1.heap.size u1 WC:=aL
  have Ry:=fZ.out.below bQ
  obtain ⟨c',hc2,hf2,iO⟩:=Ry.count VR.out
  have hc3:=aL.cell hc0
  have HF : Hid (∀ v,gG (WC.setCell ⟨T,2 + er.toNat,none⟩ (.int .i64 v)) T R l most floor gone (λk=>S k \/ (w.heap.size <= k /\ k < (WC.setCell ⟨T,2 + er.toNat,none⟩ (.int .i64 v)).heap.size)) /\ Only S w (WC.setCell ⟨T,2 + er.toNat,none⟩ (.int .i64 v))):=ah6 (λv=>⟨(iO v).weaken (λk hk=>.inl hk.1),(Only.of_below (HB1.out.trans (bQ.mono HB1.out.size))).setCell (p:=⟨T,2 + er.toNat,none⟩) (.inl Kv.out.sT.1) _⟩)
  have htk : tk = 0:=by rw [← HTK.out,if_neg her]
  subst htk
  have oK:=ah6 her;clear aL bQ Ry d0 d1 hc0 hf0 hset iO hc2 her
  go_wp2_with fail
  exact bodyPost_ret (v:=.tuple #[.int .i64 0,.int .i64 er]) (by simp [results,Tryz.results39,go_sem]) rfl ⟨rfl,⟨l,floor,gone,(HF.out _).1,.inl ⟨oK.out,rfl,rfl,rfl⟩⟩,(HF.out _).2⟩
end Go.Proofs.YtklkooeimkedgaaGreat
namespace Go.Proofs.YtklkooeimkedgaaGreat
open Go.RowKit
theorem vD (E : Nat -> aA) : ∀ (n i : Nat),jI E n i = 0 ↔ ∀ j,i <= j -> j < i + n -> 0 <= (E j).id /\ (E j).id <= 65535 /\ (0 < j -> (E (j - 1)).id < (E j).id)
 | 0,i=>⟨λ_ j h1 h2=>by omega,λ_=>rfl⟩
 | n + 1,i=>by
   unfold jI
   constructor
   ·intro h j h1 h2
    split at h
    ·cases h
    split at h
    ·cases h
    rename_i a b
    by_cases hj : j = i
    ·subst hj;exact ⟨by omega,by omega,λhp=>by omega⟩
    ·exact (vD E n (i + 1)).1 h j (by omega) (by omega)
   ·intro h
    have h0:=h i (Nat.le_refl _) (by omega)
    rw [if_neg (by omega),if_neg (by intro hh;have:=h0.2.2 hh.1;omega)]
    exact (vD E n (i + 1)).2 (λj h1 h2=>h j (by omega) (by omega))
structure oZ (s : Sn) : Prop where
 tick : 0 <= s.tick /\ s.tick <= 4294967295
 time : -2305843009213693952 <= s.time /\ s.time <= 2305843009213693952
 len : s.ents.length <= 64
 ids : ∀ e ∈ s.ents,0 <= e.id /\ e.id <= 65535
 up : s.ents.Pairwise (λa b=>a.id < b.id)
theorem getD_get {es : List aA} {i : Nat} (h : i < es.length) : es.getD i bK = es[i]:=by simp [List.getD,h]
theorem Aj : ∀ {es : List aA},(∀ i,0 < i -> (h : i < es.length) -> (es[i - 1]).id < (es[i]).id) -> es.Pairwise (λa b=>a.id < b.id)
 | [],_=>List.Pairwise.nil
 | [x],_=>List.pairwise_singleton _ _
 | x :: y :: es,h=>by
   have ih:=Aj (es:=y :: es) (λi hi hl=>by
    have:=h (i + 1) (by omega) (by simp at hl ⊢;omega)
    obtain ⟨j,rfl⟩ : ∃ j,i = j + 1:=⟨i - 1,by omega⟩
    simpa using this)
   have hxy : x.id < y.id:=h 1 (by omega) (by simp)
   refine List.pairwise_cons.2 ⟨λz hz=>?_,ih⟩
   rcases List.mem_cons.1 hz with rfl | hz
   ·exact hxy
   ·exact Int.lt_trans hxy ((List.pairwise_cons.1 ih).1 z hz)
theorem jL {s : Sn} : fV s = 0 ↔ oZ s:=by
 unfold fV dw
 constructor
 ·intro h
  split at h
  ·cases h
  split at h
  ·cases h
  rename_i a b
  have h2:=(vD _ _ _).1 h
  refine ⟨by omega,by omega,by omega,λe he=>?_,Aj λi hi hl=>?_⟩
  ·obtain ⟨i,hi,rfl⟩:=List.mem_iff_getElem.1 he
   have:=h2 i (by omega) (by omega)
   rw [getD_get hi] at this
   exact ⟨this.1,this.2.1⟩
  ·have:=(h2 i (by omega) (by omega)).2.2 hi
   rwa [getD_get hl,getD_get (show i - 1 < s.ents.length by omega)] at this
 ·intro h
  rw [if_neg (by have:=h.tick;have:=h.time;omega),if_neg (by have:=h.len;omega)]
  refine (vD _ _ _).2 λj _ hj=>?_
  have hj' : j < s.ents.length:=by omega
  have hi:=h.ids _ (List.getElem_mem hj')
  rw [getD_get hj']
  refine ⟨hi.1,hi.2,λhp=>?_⟩
  rw [getD_get (show j - 1 < s.ents.length by omega)]
  exact List.pairwise_iff_getElem.1 h.up (j - 1) j (by omega) hj' (by omega)
theorem Dv : ∀ (n : Nat) {last : Int} {s : aH},-1 <= last -> last <= 65535 -> aT s.1 -> ∀ r ∈ (gu n last s).1,r.Ok
 | 0,last,s,_,_,_,r,hr=>by simp [gu] at hr
 | n + 1,last,s,h1,h2,h,r,hr=>by
   rw [gu] at hr
   split at hr
   ·simp at hr
   ·rename_i hh
    have hk:=JQ h1 h2 h (by simpa using hh)
    rcases List.mem_cons.1 hr with rfl | hr
    ·exact hk.1
    ·exact Dv n (by omega) (by omega) hk.2.1 r hr
theorem RX {zs : List Int} (h : aT zs) : ∀ r ∈ (bD zs).1.recs,r.Ok:=by
 unfold bD
 split
 ·simp [oI]
 split
 ·simp [oI]
 rename_i x hx
 split
 ·simp [oI]
 ·exact Dv _ (by decide) (by decide) (iT (iT (by
   unfold iH;simp only;split
   ·exact jZ (iT (nP (nP (BU h hx))))
   ·exact jZ (iT (nP (nP (BU h hx)))))))
theorem RY {l l' : List aA} {r : Rec} (h : iX l r = some l') (hc : dJ r = 0) (hl : ∀ e ∈ l,0 <= e.id /\ e.id <= 65535) (hn : (l.map (·.id)).Nodup) : (∀ e ∈ l',0 <= e.id /\ e.id <= 65535) /\ (l'.map (·.id)).Nodup:=by
 have hr : 0 <= r.id /\ r.id <= 65535:=by
  unfold dJ at hc
  split at hc
  ·cases hc
  split at hc
  ·cases hc
  omega
 have put : ∀ e : aA,e.id = r.id -> (∀ x ∈ fF l e,0 <= x.id /\ x.id <= 65535) /\ ((fF l e).map (·.id)).Nodup:=λe he =>
  ⟨λx hx=>by rcases wB hx with h | h;exact hl x h;subst h;omega,zL hn⟩
 unfold iX at h
 cases hf : eX l r.id with
 | some x =>
   rw [hf] at h
   simp only at h
   have hx:=xL hf
   split at h
   ·cases h
   rename_i hk
   split at h
   ·cases h
    exact ⟨λe he=>hl e (List.mem_filter.1 he).1,hn.sublist (List.Sublist.map _ List.filter_sublist)⟩
   ·rename_i hk2
    cases h
    exact put _ (BD hc hx.2 hk hk2)
 | none =>
   rw [hf] at h
   simp only at h
   split at h
   ·cases h;exact put _ rfl
   ·cases h
theorem Ic : ∀ (rs : List Rec) {l l' : List aA},kS l rs = some l' -> (∀ r ∈ rs,dJ r = 0) -> (∀ e ∈ l,0 <= e.id /\ e.id <= 65535) -> (l.map (·.id)).Nodup -> (∀ e ∈ l',0 <= e.id /\ e.id <= 65535) /\ (l'.map (·.id)).Nodup
 | [],l,l',h,_,hl,hn=>by cases h;exact ⟨hl,hn⟩
 | r :: rs,l,l',h,hc,hl,hn=>by
   unfold kS at h
   cases hx : iX l r with
   | none=>rw [hx] at h;cases h
   | some l1 =>
     rw [hx] at h
     have h1:=RY hx (hc r (by simp)) hl hn
     exact Ic rs h (λr hr=>hc r (by simp [hr])) h1.1 h1.2
theorem RZ {es : List aA} : ∀ e ∈ j5 es,e ∈ es:=by
 have : ∀ (es l : List aA),∀ e ∈ es.foldl fF l,e ∈ l \/ e ∈ es:=by
  intro es
  induction es with
  | nil=>intro l e h;exact .inl h
  | cons x es ih =>
    intro l e h
    rcases ih _ e h with h | h
    ·rcases wB h with h | h
     ·exact .inl h
     ·exact .inr (by simp [h])
    ·exact .inr (by simp [h])
 intro e h
 rcases this es [] e h with h | h
 ·simp at h
 ·exact h
theorem Lx (es : List aA) : ((j5 es).map (·.id)).Nodup:=by
 have : ∀ (es l : List aA),(l.map (·.id)).Nodup -> ((es.foldl fF l).map (·.id)).Nodup:=by
  intro es
  induction es with
  | nil=>intro l h;exact h
  | cons x es ih=>intro l h;exact ih _ (zL h)
 exact this es [] (by simp)
theorem UN {a : Sn} {g : Gr} (h : (jv a g).2 = 0) : oZ (jv a g).1:=by
 have ht:=zR h;have hb:=ht.1;have hc:=EU hb
 have hh : ¬ gZ g.tick g.time g.base g.recs.length ≠ 0:=by
  intro hn
  unfold dA at hb
  rw [if_pos hn] at hb
  exact hn hb
 have hh' : gZ g.tick g.time g.base g.recs.length = 0:=Decidable.of_not_not hh
 have hr : 0 <= g.tick /\ g.tick <= 4294967295 /\ -2305843009213693952 <= g.time /\ g.time <= 2305843009213693952:=by
  unfold gZ at hh'
  split at hh'
  ·cases hh'
  ·omega
 have key : ∀ l : List aA,(fC g l).2 = 0 -> (∀ e ∈ l,0 <= e.id /\ e.id <= 65535) -> (l.map (·.id)).Nodup -> oZ (fC g l).1:=by
  intro l hl h1 h2
  unfold fC at hl ⊢
  cases hx : kS l g.recs with
  | none=>rw [hx] at hl;cases hl
  | some l' =>
    rw [hx] at hl
    simp only at hl ⊢
    split at hl
    ·cases hl
    ·rename_i hy
     rw [if_neg hy]
     have h3:=Ic g.recs hx hc h1 h2;have hp:=xM l'
     have hn : ((uM l').map (·.id)).Nodup:=(hp.map (·.id)).nodup_iff.2 h3.2
     refine ⟨⟨hr.1,hr.2.1⟩,⟨hr.2.2.1,hr.2.2.2⟩,by simp only;rw [hp.length_eq];omega,λe he=>h3.1 e (hp.mem_iff.1 he),?_⟩
     have hs:=MB l'
     unfold DT at hs
     have h4 : (uM l').Pairwise (λa b=>a.id ≠ b.id):=List.pairwise_map.1 hn
     exact (List.Pairwise.and hs h4).imp (λ⟨a,b⟩=>by omega)
 unfold jv at h ⊢
 rw [if_neg (by simpa using hb)] at h ⊢
 split at h
 ·rename_i hbs
  rw [if_pos hbs]
  split at h
  ·rename_i hq;exact absurd h hq
  ·rename_i hq
   rw [if_neg hq]
   split at h
   ·cases h
   ·rename_i hq2
    rw [if_neg hq2]
    have ha:=jL.1 (by simpa using hq : fV a = 0)
    exact key _ h (λe he=>ha.ids e (RZ e he)) (Lx _)
 ·rename_i hbs
  rw [if_neg hbs]
  exact key _ h (by simp) (by simp)
theorem UO {a : Sn} {g : Gr} (ha : ∀ e ∈ a.ents,e.Ok) (hg : ∀ r ∈ g.recs,r.Ok) : ∀ e ∈ (jv a g).1.ents,e.Ok:=by
 have key : ∀ l : List aA,(∀ e ∈ l,e.Ok) -> ∀ e ∈ (fC g l).1.ents,e.Ok:=by
  intro l hl
  unfold fC
  cases hx : kS l g.recs with
  | none=>simp [dI]
  | some l' =>
    simp only
    split
    ·simp [dI]
    ·exact λe he=>JY g.recs hx hl hg e ((xM l').mem_iff.1 he)
 unfold jv
 split
 ·simp [dI]
 split
 ·split
  ·simp [dI]
  split
  ·simp [dI]
  ·exact key _ (JZ ha)
 ·exact key _ (by simp)
theorem Fu (E : Nat -> aA) : ∀ n i,dN (jI E n i)
 | 0,_=>dN.zero
 | n + 1,i=>by
   unfold jI
   split
   ·exact ⟨by decide,by decide⟩
   split
   ·exact ⟨by decide,by decide⟩
   ·exact Fu E n _
theorem R8 (s : Sn) : dN (fV s):=by
 unfold fV dw
 split
 ·exact ⟨by decide,by decide⟩
 split
 ·exact ⟨by decide,by decide⟩
 ·exact Fu _ _ _
theorem Oe (r : Rec) : dN (dJ r):=by
 unfold dJ
 split
 ·exact ⟨by decide,by decide⟩
 split
 ·exact ⟨by decide,by decide⟩
 split <;> exact ⟨by decide,by decide⟩
theorem Ie : ∀ (rs : List Rec) (last : Int),dN (lY last rs)
 | [],_=>dN.zero
 | r :: rs,last=>by
   unfold lY
   split
   ·unfold gU
    split
    ·exact Oe r
    split
    ·exact ⟨by decide,by decide⟩
    split <;> exact ⟨by decide,by decide⟩
   ·exact Ie rs _
theorem Og (g : Gr) : dN (dA g):=by
 unfold dA
 split
 ·unfold gZ
  split
  ·exact ⟨by decide,by decide⟩
  split
  ·exact ⟨by decide,by decide⟩
  split <;> exact ⟨by decide,by decide⟩
 ·exact Ie _ _
theorem Xx (a : Sn) (g : Gr) : dN (jv a g).2:=by
 have key : ∀ l,dN (fC g l).2:=by
  intro l
  unfold fC
  split
  ·exact ⟨by decide,by decide⟩
  ·split
   ·exact (show dN 4 from ⟨by decide,by decide⟩)
   ·exact dN.zero
 unfold jv
 split
 ·exact Og g
 split
 ·split
  ·exact R8 a
  split
  ·exact ⟨by decide,by decide⟩
  ·exact key _
 ·exact key _
theorem R9 (l : List aG) (most floor : Int) (gone : Bool) (zs : List Int) : dN (dQ l most floor gone zs).2:=by
 unfold dQ
 split
 ·exact Ux zs
 split
 ·unfold rZ
  split
  ·exact ⟨by decide,by decide⟩
  split
  ·exact ⟨by decide,by decide⟩
  split <;> exact ⟨by decide,by decide⟩
 ·simp only
  split
  ·exact ⟨by decide,by decide⟩
  ·exact Xx _ _
theorem xW {l : List aG} {most floor : Int} {gone : Bool} {zs : List Int} (h : (dQ l most floor gone zs).2 = 0) :
 (bD zs).2 = 0 /\ rZ l most floor gone (bD zs).1.tick (bD zs).1.base = 0 /\ (jv (iY (eD l (bD zs).1.base)) (bD zs).1).2 = 0 /\ (dQ l most floor gone zs).1 = (jv (iY (eD l (bD zs).1.base)) (bD zs).1).1 /\
   fI l (dQ l most floor gone zs).1.tick (dQ l most floor gone zs).1.time = true:=by
 unfold dQ at h ⊢
 split at h
 ·rename_i hh;exact absurd h hh
 rename_i h1
 rw [if_neg h1]
 split at h
 ·rename_i hh;exact absurd h hh
 rename_i h2
 rw [if_neg h2]
 simp only at h ⊢
 refine ⟨by simpa using h1,by simpa using h2,?_⟩
 split at h
 ·cases h
 ·rename_i h3
  refine ⟨h,trivial,?_⟩
  cases ht : fI l (jv (iY (eD l (bD zs).1.base)) (bD zs).1).1.tick (jv (iY (eD l (bD zs).1.base)) (bD zs).1).1.time
  ·exact absurd ⟨h,ht⟩ h3
  ·rfl
theorem Fv {l : List aG} {most floor : Int} {gone : Bool} {zs : List Int} (h : (dQ l most floor gone zs).2 = 0) : oZ (dQ l most floor gone zs).1:=by
 obtain ⟨_,_,h3,h4,_⟩:=xW h
 rw [h4];exact UN h3
theorem Oh {l : List aG} {most floor : Int} {gone : Bool} {zs : List Int} (hz : aT zs) (hl : ∀ k ∈ l,∀ e ∈ k.sn.ents,e.Ok) : ∀ e ∈ (dQ l most floor gone zs).1.ents,e.Ok:=by
 unfold dQ
 split
 ·simp [dI]
 split
 ·simp [dI]
 ·refine UO (λe he=>?_) (RX hz)
  unfold iY at he
  cases hk : eD l (bD zs).1.base with
  | none=>rw [hk] at he;simp [gV] at he
  | some k=>rw [hk] at he;exact hl k (D5 hk) e he
theorem Sb {l : List aG} {most floor : Int} {gone : Bool} {zs : List Int} : (dQ l most floor gone zs).1.ents.length <= 64:=by
 have key : ∀ g l,(fC g l).1.ents.length <= 64:=by
  intro g l
  unfold fC
  split
  ·simp [dI]
  ·split
   ·simp [dI]
   ·simp only;rw [(xM _).length_eq];omega
 unfold dQ
 split
 ·simp [dI]
 split
 ·simp [dI]
 ·simp only
  unfold jv
  split
  ·simp [dI]
  split
  ·split
   ·simp [dI]
   split
   ·simp [dI]
   ·exact key _ _
  ·exact key _ _
end Go.Proofs.YtklkooeimkedgaaGreat
namespace Go.Proofs.YtklkooeimkedgaaGreat
open Go.RowKit
theorem abh : ay 1:=⟨by decide,by decide⟩
theorem abj : ay 2:=⟨by decide,by decide⟩
theorem abk : ay 3:=⟨by decide,by decide⟩
theorem nQ (n : Int) : ay (IntKind.i64.wrap n):=by
 rw [IntKind.wrap_i64];exact ⟨by omega,by omega⟩
theorem Sq {o x : aA} (h : (lK o x).2 = true) : (lK o x).1.id = x.id:=by
 unfold lK at h ⊢
 split at h
 ·cases h
 ·rename_i hh
  rw [if_neg hh]
  unfold Gh
  split <;> rfl
theorem Sr {o x : aA} (hx : x.Ok) : (lK o x).1.Ok:=by
 unfold lK
 split
 ·exact ⟨bA,bA,bA,bA,bA,bA,bA,bA,(show (0:Int) <= 0 /\ (0:Int) <= 65535 by decide)⟩
 ·unfold Gh
  split
  ·exact ⟨abh,hx.id,nQ _,nQ _,nQ _,nQ _,nQ _,nQ _,by simp only;rw [IntKind.wrap_u16];omega⟩
  ·exact ⟨abk,hx.id,hx.px,hx.py,hx.pz,hx.vx,hx.vy,hx.vz,hx.aI⟩
theorem Ou {was : List aA} {out : List Rec} {x : aA} {q : List aA × List Rec} (h : qI was out x = some q) : q.1 = kL was x.id /\ (q.2 = out \/ ∃ r : Rec,q.2 = out ++ [r] /\ r.id = x.id /\ (x.Ok -> r.Ok)):=by
 unfold qI at h
 split at h
 ·split at h
  ·cases h
   exact ⟨rfl,.inr ⟨_,rfl,rfl,λhx=>⟨bA,hx.id,hx.px,hx.py,hx.pz,hx.vx,hx.vy,hx.vz,hx.aI⟩⟩⟩
  ·cases h
 ·split at h
  ·cases h
  ·cases h
   refine ⟨rfl,?_⟩
   simp only
   split
   ·rename_i o _ hh
    exact .inr ⟨_,rfl,Sq hh,λhx=>Sr hx⟩
   ·exact .inl rfl
theorem Ei {l : List aA} {i : Int} {e : aA} (h : e ∈ kL l i) : e ∈ l /\ e.id ≠ i:=by
 unfold kL at h
 have:=List.mem_filter.1 h
 exact ⟨this.1,by simpa [bne] using this.2⟩
theorem FB : ∀ (es : List aA) {was : List aA} {out : List Rec} {q : List aA × List Rec},fT was out es = some q ->
 (was.map (·.id)).Nodup -> (es.map (·.id)).Nodup -> (out.map (·.id)).Nodup -> (∀ r ∈ out,r.Ok) -> (∀ e ∈ es,e.Ok) -> (∀ r ∈ out,r.id ∉ was.map (·.id) /\ r.id ∉ es.map (·.id)) ->
 (q.1.map (·.id)).Nodup /\ (q.2.map (·.id)).Nodup /\ (∀ r ∈ q.2,r.Ok) /\ (∀ r ∈ q.2,r.id ∉ q.1.map (·.id)) /\ (∀ e ∈ q.1,e ∈ was)
 | [],was,out,q,h,h1,h2,h3,h4,h5,h6=>by cases h;exact ⟨h1,h3,h4,λr hr=>(h6 r hr).1,λe he=>he⟩
 | x :: es,was,out,q,h,h1,h2,h3,h4,h5,h6=>by
   rw [fT] at h
   cases ho : qI was out x with
   | none=>rw [ho] at h;cases h
   | some p =>
     rw [ho] at h
     obtain ⟨s1,s2⟩:=Ou ho
     rw [List.map_cons,List.nodup_cons] at h2
     have hw : (p.1.map (·.id)).Nodup:=by rw [s1];exact h1.sublist (List.Sublist.map _ List.filter_sublist)
     have hnx : ∀ r : Rec,r.id ∉ was.map (·.id) -> r.id ∉ p.1.map (·.id):=λr hr hh=>by
      obtain ⟨e,he,hid⟩:=List.mem_map.1 hh
      rw [s1] at he
      exact hr (List.mem_map.2 ⟨e,(Ei he).1,hid⟩)
     have hout : (p.2.map (·.id)).Nodup /\ (∀ r ∈ p.2,r.Ok) /\ ∀ r ∈ p.2,r.id ∉ p.1.map (·.id) /\ r.id ∉ es.map (·.id):=by
      have hold : ∀ r ∈ out,r.id ∉ p.1.map (·.id) /\ r.id ∉ es.map (·.id):=λr hr=>⟨hnx r (h6 r hr).1,λhh=>(h6 r hr).2 (by rw [List.map_cons];exact List.mem_cons_of_mem _ hh)⟩
      rcases s2 with s2 | ⟨r0,s2,hid,hok⟩
      ·rw [s2];exact ⟨h3,h4,hold⟩
      ·rw [s2]
       refine ⟨?_,?_,?_⟩
       ·rw [List.map_append,List.map_singleton]
        refine List.nodup_append.2 ⟨h3,by simp,λa ha b hb=>?_⟩
        simp at hb
        subst hb
        obtain ⟨r,hr,rfl⟩:=List.mem_map.1 ha
        intro e
        exact (h6 r hr).2 (by rw [List.map_cons];rw [e,hid];exact List.mem_cons_self ..)
       ·intro r hr
        rcases List.mem_append.1 hr with hr | hr
        ·exact h4 r hr
        ·simp at hr;subst hr;exact hok (h5 x (List.mem_cons_self ..))
       ·intro r hr
        rcases List.mem_append.1 hr with hr | hr
        ·exact hold r hr
        ·simp at hr;subst hr
         refine ⟨λhh=>?_,by rw [hid];exact h2.1⟩
         obtain ⟨e,he,he2⟩:=List.mem_map.1 hh
         rw [s1] at he
         exact (Ei he).2 (by rw [he2,hid])
     obtain ⟨a1,a2,a3,a4,a5⟩:=FB es h hw h2.2 hout.1 hout.2.1 (λe he=>h5 e (List.mem_cons_of_mem _ he)) hout.2.2
     exact ⟨a1,a2,a3,a4,λe he=>by have:=a5 e he;rw [s1] at this;exact (Ei this).1⟩
def KU (l : List Rec) : List Rec:=l.mergeSort (λa b=>decide (a.id <= b.id))
theorem Ip (l : List Rec) : (KU l).Perm l:=List.mergeSort_perm _ _
theorem XJ (l : List Rec) : (KU l).Pairwise (λa b=>a.id <= b.id):=by
 have:=List.pairwise_mergeSort (le:=λa b : Rec=>decide (a.id <= b.id)) (λa b c h1 h2=>by simp at *;omega) (λa b=>by simp;omega) l
 exact this.imp (λh=>by simpa using h)
theorem zo : ∀ (xs ys : List Rec),xs.Perm ys -> xs.Pairwise (λa b=>a.id <= b.id) -> ys.Pairwise (λa b=>a.id <= b.id) -> (xs.map (·.id)).Nodup -> xs = ys
 | [],ys,hp,_,_,_=>by simpa using hp.symm
 | x :: xs,[],hp,_,_,_=>by simp at hp
 | x :: xs,y :: ys,hp,hx,hy,hn=>by
   have hxy : x = y:=by
    have h1 : x ∈ y :: ys:=hp.subset (List.mem_cons_self ..)
    have h2 : y ∈ x :: xs:=hp.symm.subset (List.mem_cons_self ..)
    rcases List.mem_cons.1 h1 with h1 | h1
    ·exact h1
    rcases List.mem_cons.1 h2 with h2 | h2
    ·exact h2.symm
    have a:=(List.pairwise_cons.1 hy).1 x h1;have b:=(List.pairwise_cons.1 hx).1 y h2
    have e : x.id = y.id:=by omega
    rw [List.map_cons,List.nodup_cons] at hn
    exact absurd (List.mem_map.2 ⟨y,h2,e.symm⟩) hn.1
   subst hxy
   rw [List.map_cons,List.nodup_cons] at hn
   rw [zo xs ys (List.Perm.cons_inv hp) (List.pairwise_cons.1 hx).2 (List.pairwise_cons.1 hy).2 hn.2]
theorem M0 {xs l : List Rec} (hp : xs.Perm l) (hs : xs.Pairwise (λa b=>a.id <= b.id)) (hn : (l.map (·.id)).Nodup) : xs = KU l :=
 zo xs (KU l) (hp.trans (Ip l).symm) hs (XJ l) ((hp.map (·.id)).nodup_iff.2 hn)
def mg (q : List aA × List Rec) : List Rec:=KU (q.2 ++ q.1.map Am)
theorem aak {e : aA} (h : e.Ok) : (Am e).Ok:=⟨abj,h.id,bA,bA,bA,bA,bA,bA,(show (0:Int) <= 0 /\ (0:Int) <= 65535 by decide)⟩
theorem Ov {was es : List aA} {q : List aA × List Rec} (h : fT was [] es = some q) (h1 : (was.map (·.id)).Nodup) (h2 : (es.map (·.id)).Nodup) (h3 : ∀ e ∈ es,e.Ok) (h4 : ∀ e ∈ was,e.Ok) :
 ((q.2 ++ q.1.map Am).map (·.id)).Nodup /\ ∀ r ∈ mg q,r.Ok:=by
 obtain ⟨a1,a2,a3,a4,a5⟩:=FB es h h1 h2 (by simp) (by simp) h3 (by simp)
 constructor
 ·rw [List.map_append,List.map_map]
  have e : (q.1.map (Rec.id ∘ Am)) = q.1.map (·.id):=List.map_congr_left (λ_ _=>rfl)
  rw [e]
  refine List.nodup_append.2 ⟨a2,a1,λa ha b hb hab=>?_⟩
  obtain ⟨r,hr,rfl⟩:=List.mem_map.1 ha
  exact a4 r hr (hab ▸ hb)
 ·intro r hr
  unfold mg at hr
  rcases List.mem_append.1 ((Ip _).mem_iff.1 hr) with hr | hr
  ·exact a3 r hr
  ·obtain ⟨e,he,rfl⟩:=List.mem_map.1 hr
   exact aak (h4 e (a5 e he))
theorem zW {es : List aA} (h : es.Pairwise (λa b=>a.id < b.id)) : (es.map (·.id)).Nodup :=
 List.pairwise_map.2 (h.imp (λh=>by omega))
end Go.Proofs.YtklkooeimkedgaaGreat
namespace Go.Proofs.YtklkooeimkedgaaGreat
open Go.RowKit
set_option maxRecDepth 100000
theorem Ow (tick time : Int) (a : Option Addr) (len cap : Nat) (E : Nat -> aA) (w : World) (h : dx w a len E) :
 Calls Tryz.prog 34 #[bP tick time a len cap] w λe w'=>e = .returned (.int .i64 (dw tick time len E)) /\ Below w.heap.size w w':=by
 by_cases hs : (len : Int) <= 4611686018427387904
 ·exact Dz tick time a len cap E w h hs
 unfold dw
 by_cases h1 : tick < 0
 ·rw [if_pos (by omega)];exact CV tick time a len cap h1 w
 by_cases h2 : 4294967295 < tick
 ·rw [if_pos (by omega)];exact CW tick time a len cap (by omega) w
 by_cases h3 : time < -2305843009213693952
 ·rw [if_pos (by omega)];exact CX tick time a len cap (by omega) w
 by_cases h4 : 2305843009213693952 < time
 ·rw [if_pos (by omega)];exact CY tick time a len cap (by omega) w
 rw [if_neg (by omega),if_pos (show 64 < len by omega)]
 exact CZ tick time a len cap (by omega) (by omega) (by omega) (by omega) (by omega) w
def j6 (s : Sn) : Gr × Int:=if fV s ≠ 0 then (oI,fV s) else match fT [] [] s.ents with
 | none=>(oI,15)
 | some q=>(⟨s.tick,s.time,-1,mg q⟩,0)
theorem Iq {w w1 w2 : World} {M : Nat} (h : Below w.heap.size w w1) (hM : w.heap.size <= M) (ho : Only (λk=>k = M) w1 w2) : Below w.heap.size w w2 :=
 h.trans (ho.below h.size (λk hk=>by omega))
theorem Sv {M : Nat} {was es : List aA} {q : List aA × List Rec} {w1 w2 : World} {base : Nat} {e : Ending} (hq : fT was [] es = some q) (h1 : (was.map (·.id)).Nodup) (h2 : (es.map (·.id)).Nodup) (h3 : ∀ e ∈ es,e.Ok) (h4 : ∀ e ∈ was,e.Ok) (h : KQ (some q) base e w2) : ∃ v,e = .returned (.tuple #[v,.int .i64 0]) /\ gF w2 base v (mg q):=by
 obtain ⟨v,rs,he,hp,hs,ho⟩:=h
 obtain ⟨a1,a2⟩:=Ov hq h1 h2 h3 h4
 have e1 : rs = mg q:=M0 hp hs a1
 subst e1
 exact ⟨v,he,ho,a2⟩
set_option maxHeartbeats 1000000 in
theorem XK (tick time : Int) (a : Option Addr) (cap : Nat) (es : List aA) (w : World) (hE : fO w a es) :
 Calls Tryz.prog 16 #[bP tick time a es.length cap] w λe w'=>∃ v,e = .returned (.tuple #[.agg #[.int .i64 (j6 ⟨tick,time,es⟩).1.tick,.int .i64 (j6 ⟨tick,time,es⟩).1.time,.int .i64 (j6 ⟨tick,time,es⟩).1.base,v],.int .i64 (j6 ⟨tick,time,es⟩).2]) /\ gF w' w.heap.size v (j6 ⟨tick,time,es⟩).1.recs /\ Below w.heap.size w w':=by
 have HZ : Hid (j6 ⟨tick,time,es⟩ = if fV ⟨tick,time,es⟩ ≠ 0 then (oI,fV ⟨tick,time,es⟩) else match fT [] [] es with | none=>(oI,15) | some q=>(⟨tick,time,-1,mg q⟩,0)):=ah6 rfl
 have GX : Hid (fV ⟨tick,time,es⟩ = 0 -> (es.map (·.id)).Nodup /\ es.length <= 1000):=ah6 (λh=>⟨zW (jL.1 h).up,Nat.le_trans (jL.1 h).len (by decide)⟩)
 generalize j6 ⟨tick,time,es⟩ = z at *
 obtain ⟨w0,hw0⟩ : ∃ w0,(w.alloc (.cells #[.int .i64 tick,.int .i64 time,.slice a es.length cap] 36)).alloc (.cells #[.int .i64 0,.int .i64 0,.int .i64 0,.slice none 0 0] 39) = w0:=⟨_,rfl⟩
 have hB0 : Below w.heap.size w w0:=by rw [← hw0];exact (ah7).alloc (by simp) _
 have hX0 : ak w0 w.heap.size #[.int .i64 tick,.int .i64 time,.slice a es.length cap] 36:=by rw [← hw0];exact (ak.new _ _ _).alloc _
 have hG0 : ak w0 (w.heap.size + 1) #[.int .i64 0,.int .i64 0,.int .i64 0,.slice none 0 0] 39:=by
  rw [← hw0]
  have:=ak.new (w.alloc (.cells #[.int .i64 tick,.int .i64 time,.slice a es.length cap] 36)) #[.int .i64 0,.int .i64 0,.int .i64 0,.slice none 0 0] 39
  simpa using this
 have hsz0 : w.heap.size + 2 <= w0.heap.size:=by rw [← hw0];simp
 have ck:=Ow tick time a es.length cap (λi=>es.getD i bK) w0 (hE.below hB0)
 have MU:=ah6 (hE.below hB0);have HB0:=ah6 hB0;have HX0:=ah6 hX0;have HG0:=ah6 hG0;have zf:=ah6 hsz0;have x0:=hX0.cell 0;have x1:=hX0.cell 1;have x2:=hX0.cell 2;simp at x0 x1 x2;clear hE hB0 hX0 hG0 hsz0
 rw [show dw tick time es.length (λi=>es.getD i bK) = fV ⟨tick,time,es⟩ from rfl] at ck
 generalize fV ⟨tick,time,es⟩ = ce at *
 unfold bP at *
 go_enter Tryz.func16,Tryz.ntmps16
 go_wp2_with fail
 clear hw0
 refine ck.mono ?_
 rintro e w1 ⟨rfl,hb⟩
 have HB1:=ah6 (HB0.out.trans (hb.mono HB0.out.size));have fq:=ah6 (HX0.out.below hb HX0.out.lt);have Db:=ah6 (HG0.out.below hb HG0.out.lt);have zi:=ah6 (MU.out.below hb)
 have fZ : Hid (w.heap.size + 2 <= w1.heap.size):=ah6 (Nat.le_trans zf.out hb.size)
 have hx1:=fq.out
 have hs1 : w.heap.size < w1.heap.size:=by have:=fZ.out;omega
 clear ck hb x0 x1 x2;have x0:=hx1.cell 0;have x1:=hx1.cell 1;have x2:=hx1.cell 2;simp at x0 x1 x2;clear hx1
 by_cases hce : ce = 0
 ·subst hce
  have HU : Hid ((es.map (·.id)).Nodup):=ah6 (GX.out rfl).1
  have hl3:=(GX.out rfl).2
  have HZ2 : Hid (z = match fT [] [] es with | none=>(oI,15) | some q=>(⟨tick,time,-1,mg q⟩,0)):=ah6 (by rw [HZ.out,if_neg (by simp)])
  clear HZ GX
  have iQ : Below w1.heap.size w1 (w1.alloc (.map #[] 0)):=ah7
  have tl:=aaf w1.heap.size [] a cap es (w1.alloc (.map #[] 0)) (bY.new w1) (zi.out.below iQ) hl3 (by simp)
  have dR:=ah6 (fq.out.below iQ fq.out.lt);have HG2:=ah6 (Db.out.below iQ Db.out.lt);have HB2:=ah6 (HB1.out.trans (iQ.mono HB1.out.size));have aez:=ah6 zi.out.ok
  cases hz : fT [] [] es with
  | none =>
    have HV : Hid (z = (oI,15)):=ah6 (by rw [HZ2.out,hz])
    rw [hz] at tl
    clear HZ2 hz iQ
    go_wp2_with fail
    refine tl.mono ?_
    rintro e w3 ⟨he,hO⟩
    obtain rfl:=he
    have HB3 : Hid (Below w.heap.size w w3):=ah6 (Iq HB2.out HB1.out.size hO)
    have Mk:=ah6 (hO.blk HG2.out (by have:=fZ.out;omega))
    clear hO tl;have kE:=Mk.out;have f0:=kE.free 0;have f1:=kE.free 1;have f2:=kE.free 2;have f3:=kE.free 3;have z0:=kE.cell 0;have z1:=kE.cell 1;have z2:=kE.cell 2;have z3:=kE.cell 3;simp at z0 z1 z2 z3;have rE:=Bn (v0:=.int .i64 0) (v1:=.int .i64 0) (v2:=.int .i64 0) (v3:=.slice none 0 0) kE
    obtain ⟨u9,uF⟩ : ∃ u,(((w3.setCell ⟨w.heap.size + 1,0,none⟩ (.int .i64 0)).setCell ⟨w.heap.size + 1,1,none⟩ (.int .i64 0)).setCell ⟨w.heap.size + 1,2,none⟩ (.int .i64 0)).setCell ⟨w.heap.size + 1,3,none⟩ (.slice none 0 0) = u:=⟨_,rfl⟩
    have mY : Only (λk=>k = w.heap.size + 1) w3 u9:=by rw [← uF];exact EO (Only.refl _ _) (.inl rfl)
    rw [uF] at rE
    have HF : Hid (gF u9 w.heap.size (.slice none 0 0) [] /\ Below w.heap.size w u9):=ah6 ⟨gF.nil _ _,HB3.out.trans (mY.below HB3.out.size (λk hk=>by omega))⟩
    have g0:=rE.cell 0;have g1:=rE.cell 1;have g2:=rE.cell 2;have g3:=rE.cell 3;simp at g0 g1 g2 g3;clear kE rE mY
    go_wp2_with fail
    exact bodyPost_ret (v:=.tuple #[.agg #[.int .i64 0,.int .i64 0,.int .i64 0,.slice none 0 0],.int .i64 (15)]) (by simp [results,Tryz.results16,go_sem,g0,g1,g2,g3]) rfl ⟨.slice none 0 0,by rw [HV.out];rfl,by rw [HV.out];exact HF.out.1,HF.out.2⟩
  | some q =>
    have HV : Hid (z = (⟨tick,time,-1,mg q⟩,0)):=ah6 (by rw [HZ2.out,hz])
    rw [hz] at tl
    have HQ:=ah6 hz;clear HZ2 hz iQ
    go_wp2_with fail
    refine tl.mono ?_
    rintro e w3 ⟨he,hO⟩
    obtain ⟨v,rfl,hR⟩:=Sv (M:=0) (w1:=w1) HQ.out (by simp) HU.out aez.out (by simp) he
    obtain ⟨ra,rc,rfl,_⟩:=hR.recs
    have HB3 : Hid (Below w.heap.size w w3):=ah6 (Iq HB2.out HB1.out.size hO)
    have Mk:=ah6 (hO.blk HG2.out (by have:=fZ.out;omega))
    have aS:=hO.blk dR.out (by have:=fZ.out;omega)
    have HR3:=ah6 hR;have y0:=aS.cell 0;have y1:=aS.cell 1;simp at y0 y1;clear hO tl hR aS he;have kE:=Mk.out;have f0:=kE.free 0;have f1:=kE.free 1;have f2:=kE.free 2;have f3:=kE.free 3;have z0:=kE.cell 0;have z1:=kE.cell 1;have z2:=kE.cell 2;have z3:=kE.cell 3;simp at z0 z1 z2 z3;have rE:=Bn (v0:=.int .i64 tick) (v1:=.int .i64 time) (v2:=.int .i64 (-1)) (v3:=.slice ra (mg q).length rc) kE
    obtain ⟨u9,uF⟩ : ∃ u,(((w3.setCell ⟨w.heap.size + 1,0,none⟩ (.int .i64 tick)).setCell ⟨w.heap.size + 1,1,none⟩ (.int .i64 time)).setCell ⟨w.heap.size + 1,2,none⟩ (.int .i64 (-1))).setCell ⟨w.heap.size + 1,3,none⟩ (.slice ra (mg q).length rc) = u:=⟨_,rfl⟩
    have mY : Only (λk=>k = w.heap.size + 1) w3 u9:=by rw [← uF];exact EO (Only.refl _ _) (.inl rfl)
    rw [uF] at rE
    have HF : Hid (gF u9 w.heap.size (.slice ra (mg q).length rc) (mg q) /\ Below w.heap.size w u9):=ah6 ⟨(gF.base HR3.out (Nat.le_trans HB1.out.size (by simp))).only mY (λj hj hk=>by have:=(HR3.out.1.lt j hj).1;have:=fZ.out;simp at *;omega),HB3.out.trans (mY.below HB3.out.size (λk hk=>by omega))⟩
    have g0:=rE.cell 0;have g1:=rE.cell 1;have g2:=rE.cell 2;have g3:=rE.cell 3;simp at g0 g1 g2 g3;clear kE rE mY
    go_wp2_with fail
    exact bodyPost_ret (v:=.tuple #[.agg #[.int .i64 tick,.int .i64 time,.int .i64 (-1),.slice ra (mg q).length rc],.int .i64 (0)]) (by simp [results,Tryz.results16,go_sem,g0,g1,g2,g3]) rfl ⟨.slice ra (mg q).length rc,by rw [HV.out],by rw [HV.out];exact HF.out.1,HF.out.2⟩
 ·have HV : Hid (z = (oI,ce)):=ah6 (by rw [HZ.out,if_pos hce])
  have ad8 : (ce != 0) = true:=by simpa using hce
  clear HZ GX hce;have kE:=Db.out;have f0:=kE.free 0;have f1:=kE.free 1;have f2:=kE.free 2;have f3:=kE.free 3;have z0:=kE.cell 0;have z1:=kE.cell 1;have z2:=kE.cell 2;have z3:=kE.cell 3;simp at z0 z1 z2 z3;have rE:=Bn (v0:=.int .i64 0) (v1:=.int .i64 0) (v2:=.int .i64 0) (v3:=.slice none 0 0) kE
  obtain ⟨u9,uF⟩ : ∃ u,(((w1.setCell ⟨w.heap.size + 1,0,none⟩ (.int .i64 0)).setCell ⟨w.heap.size + 1,1,none⟩ (.int .i64 0)).setCell ⟨w.heap.size + 1,2,none⟩ (.int .i64 0)).setCell ⟨w.heap.size + 1,3,none⟩ (.slice none 0 0) = u:=⟨_,rfl⟩
  have mY : Only (λk=>k = w.heap.size + 1) w1 u9:=by rw [← uF];exact EO (Only.refl _ _) (.inl rfl)
  rw [uF] at rE
  have HF : Hid (gF u9 w.heap.size (.slice none 0 0) [] /\ Below w.heap.size w u9):=ah6 ⟨gF.nil _ _,HB1.out.trans (mY.below HB1.out.size (λk hk=>by omega))⟩
  have g0:=rE.cell 0;have g1:=rE.cell 1;have g2:=rE.cell 2;have g3:=rE.cell 3;simp at g0 g1 g2 g3;clear kE rE mY
  go_wp2_with fail
  exact bodyPost_ret (v:=.tuple #[.agg #[.int .i64 0,.int .i64 0,.int .i64 0,.slice none 0 0],.int .i64 (ce)]) (by simp [results,Tryz.results16,go_sem,g0,g1,g2,g3]) rfl ⟨.slice none 0 0,by rw [HV.out];rfl,by rw [HV.out];exact HF.out.1,HF.out.2⟩
end Go.Proofs.YtklkooeimkedgaaGreat
namespace Go.Proofs.YtklkooeimkedgaaGreat
open Go.RowKit
set_option maxRecDepth 100000
structure DiR (w : World) (sa sb : Array Value) (ss : Array Value) (wr : World) : Prop where
 a : ak wr w.heap.size sa 36
 b : ak wr (w.heap.size + 1) sb 36
 g : ak wr (w.heap.size + 2) #[.int .i64 0,.int .i64 0,.int .i64 0,.slice none 0 0] 39
 s : ak wr (w.heap.size + 3) ss 36
 bl : Below w.heap.size w wr
 sz : w.heap.size + 4 <= wr.heap.size
end Go.Proofs.YtklkooeimkedgaaGreat
