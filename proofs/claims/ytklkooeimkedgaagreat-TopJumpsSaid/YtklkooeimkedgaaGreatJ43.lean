/- Parts of the walk of TopJumps: Store2, Store3, Store4. -/
import Derived.Laws.AppendOwnNone
import Derived.Laws.OwnMore
import Derived.Test.YtklkooeimkedgaaGreatJ27
import Derived.Test.YtklkooeimkedgaaGreatJ42
set_option linter.unusedVariables false
set_option linter.unusedSimpArgs false
namespace Go.Proofs.YtklkooeimkedgaaGreat
open Go.RowKit
set_option maxRecDepth 100000
theorem wpList_app_ents {ops : Array Oper} {rest : List Oper} {o : Oper} {a : Act} {Q : Exit → Act → World → Prop} (w : World) (hgd : o.guard = none) (s x : Operand)
  (ho : o.op = .call { callee:=.builtin .append,args:=#[s,x],argTypes:=#[34,34] })
  (base : Nat) (v : Value) (xs : List Ent) (hs : a.eval s = v) (hown : OwnE w base v xs)
  (ao : Option Addr) (c : Nat) (es : List Ent) (hx : a.eval x = .slice ao es.length c) (hz : EntsL w ao es) (hc : ao = none → c = 0)
  (hb : xs.length + es.length ≤ 1000000) (hbase : base ≤ w.heap.size)
  (h : ∀ v' w',OwnE w' base v' (xs ++ es) → w.grownBy w' v.ownBlock → wpList Tryz.prog ops Q rest (a.put o.dst v') w') : wpList Tryz.prog ops Q (o :: rest) a w:=by
 obtain ⟨i0,hi,hz0,hz1,hz2⟩:=info_parts infoEnt
 cases ao with
 | none =>
  obtain rfl:=hc rfl
  have hm : es = []:=by
   rcases hz.2 with hz | ⟨b,off,e,_⟩
   ·exact List.eq_nil_of_length_eq_zero hz
   ·cases e
  subst hm
  refine wpList_append_own_none hgd s x 34 ho base 33 i0 9 Tryz.underlying34 hi v xs.length (xs.flatMap entL) hs hown hx ?_
  have:=h v w (by simpa using hown) (World.grownBy.refl _ _)
  exact this
 | some ad =>
  have hlen : ∀ l : List Ent,(l.flatMap entL).length = l.length * 9:=fun l=>flatEnc_len (fun _=>rfl) l
  refine wpList_append_own w hgd s x 34 ho base 33 i0 (.agg #[.int .i64 0,.int .i64 0,.int .i64 0,.int .i64 0,.int .i64 0,.int .i64 0,.int .i64 0,.int .u16 0,.int .u8 0]) 9 64 Tryz.underlying34 hi hz0 hz1 hz2 rfl (by decide) v xs.length (xs.flatMap entL) hs hown ad es.length c (es.flatMap entL) hx (hlen es) ?_ ?_ (by unfold maxLen;omega) (by omega) hbase ?_
  ·intro j u hj
   have hne : es ≠ []:=by rintro rfl;simp at hj
   obtain ⟨b,off,e,hcell⟩:=hz.own hne
   cases e
   have e : (⟨b,off,none⟩ : Addr).add j = ⟨b,off + j,none⟩:=by unfold Addr.add;split <;> simp_all
   rw [e]
   exact hcell j u hj
  ·intro u hu
   obtain ⟨e,_,he⟩:=List.mem_flatMap.1 hu
   simp [entL] at he
   rcases he with rfl | rfl | rfl | rfl | rfl | rfl | rfl | rfl | rfl <;> rfl
  ·intro v' w' h1 h2 _
   refine h v' w' ?_ h2
   unfold OwnE
   rw [List.length_append,List.flatMap_append]
   exact h1
set_option maxHeartbeats 1000000 in
theorem own_f (tick time : Int) (a : Option Addr) (cap : Nat) (es : List Ent) (w : World) (h : EntsL w a es) (hc : a = none → cap = 0) (hl : es.length ≤ 1000) :
  Calls Tryz.prog 79 #[.agg #[.int .i64 tick,.int .i64 time,.slice a es.length cap]] w fun e w'=>∃ a' c',e = .returned (.agg #[.int .i64 tick,.int .i64 time,.slice a' es.length c']) ∧ OwnE w' w.heap.size (.slice a' es.length c') es ∧ Below w.heap.size w w':=by
 obtain ⟨w1,hw1⟩ : ∃ w1,((w.alloc (.cells #[.int .i64 tick,.int .i64 time,.slice a es.length cap] 36)).alloc (.cells #[.int .i64 0,.int .i64 0,.slice none 0 0] 36)).alloc (.cells #[] 33) = w1:=⟨_,rfl⟩
 have hB1 : Below w.heap.size w w1:=by rw [← hw1];exact (((Below.refl _ _).alloc (Nat.le_refl _) _).alloc (by simp) _).alloc (by simp;omega) _
 have HX : Hid (Blk w1 w.heap.size #[.int .i64 tick,.int .i64 time,.slice a es.length cap] 36):=Lib.hid (by rw [← hw1];exact ((Blk.new _ _ _).alloc _).alloc _)
 have HY : Hid (Blk w1 (w.heap.size + 1) #[.int .i64 0,.int .i64 0,.slice none 0 0] 36):=Lib.hid (by
  rw [← hw1]
  have:=(Blk.new (w.alloc (.cells #[.int .i64 tick,.int .i64 time,.slice a es.length cap] 36)) #[.int .i64 0,.int .i64 0,.slice none 0 0] 36).alloc (.cells #[] 33)
  simpa using this)
 have HO : Hid (OwnE w1 w.heap.size (.slice (some ⟨w.heap.size + 2,0,none⟩) 0 0) []):=Lib.hid (by
  refine ⟨rfl,.inr ⟨w.heap.size + 2,0,#[],rfl,by omega,?_,Nat.le_refl _,by unfold maxLen;omega,rfl,rfl⟩⟩
  rw [← hw1]
  have:=Blk.new ((w.alloc (.cells #[.int .i64 tick,.int .i64 time,.slice a es.length cap] 36)).alloc (.cells #[.int .i64 0,.int .i64 0,.slice none 0 0] 36)) #[] 33
  unfold Blk at this
  simpa using this)
 have HE:=Lib.hid (h.below hB1)
 have HB:=Lib.hid hB1
 have c0:=HX.out.cell 0
 have c1:=HX.out.cell 1
 have c2:=HX.out.cell 2
 simp at c0 c1 c2
 clear h hB1
 go_enter Tryz.func79,Tryz.ntmps79
 go_wp2_with (at_builtin;refine wpList_app_ents w1 rfl (.tmp 3) (.tmp 5) rfl w.heap.size _ [] rfl HO.out a cap es rfl HE.out hc (by simp;omega) HB.out.size ?_)
 intro v' w' hO hg
 clear hw1 c0 c1 c2
 obtain ⟨a',c',rfl,_⟩:=hO.slice
 have hX:=HX.out.grown hg (by simp [Value.ownBlock] <;> omega)
 have hY:=HY.out.grown hg (by simp [Value.ownBlock] <;> omega)
 have hB2 : Below w.heap.size w w':=HB.out.grown hg HB.out.size (fun k hk=>by simp [Value.ownBlock] at hk;omega)
 have nX : (Value.slice a' es.length c').ownBlock ≠ some w.heap.size:=ownsApart hO hX (by decide)
 have nY : (Value.slice a' es.length c').ownBlock ≠ some (w.heap.size + 1):=ownsApart hO hY (by decide)
 have p2:=hX.cell 2
 have q2:=hX.free 2
 simp at p2
 have hX2:=hX.set 2 (.slice a' es.length c')
 simp at hX2
 have hY2 : Blk (w'.setCell ⟨w.heap.size,2,none⟩ (.slice a' es.length c')) (w.heap.size + 1) #[.int .i64 0,.int .i64 0,.slice none 0 0] 36:=hY.far (p:=⟨w.heap.size,2,none⟩) (by simp) (.slice a' es.length c')
 have r0:=hX2.cell 0
 have r1:=hX2.cell 1
 have r2:=hX2.cell 2
 have y0:=hY2.cell 0
 have y1:=hY2.cell 1
 have y2:=hY2.cell 2
 have z0:=hY2.free 0
 have z1:=hY2.free 1
 have z2:=hY2.free 2
 simp at r0 r1 r2 y0 y1 y2 z0 z1 z2
 have HF : Hid (OwnE ((((w'.setCell ⟨w.heap.size,2,none⟩ (.slice a' es.length c')).setCell ⟨w.heap.size + 1,0,none⟩ (.int .i64 tick)).setCell ⟨w.heap.size + 1,1,none⟩ (.int .i64 time)).setCell ⟨w.heap.size + 1,2,none⟩ (.slice a' es.length c')) w.heap.size (.slice a' es.length c') es ∧ Below w.heap.size w ((((w'.setCell ⟨w.heap.size,2,none⟩ (.slice a' es.length c')).setCell ⟨w.heap.size + 1,0,none⟩ (.int .i64 tick)).setCell ⟨w.heap.size + 1,1,none⟩ (.int .i64 time)).setCell ⟨w.heap.size + 1,2,none⟩ (.slice a' es.length c'))):=Lib.hid (by
  have ho1 : Only (fun k=>k = w.heap.size ∨ k = w.heap.size + 1) w' ((((w'.setCell ⟨w.heap.size,2,none⟩ (.slice a' es.length c')).setCell ⟨w.heap.size + 1,0,none⟩ (.int .i64 tick)).setCell ⟨w.heap.size + 1,1,none⟩ (.int .i64 time)).setCell ⟨w.heap.size + 1,2,none⟩ (.slice a' es.length c')) :=
   only3 (Only.setCell (S:=fun k=>k = w.heap.size ∨ k = w.heap.size + 1) (p:=⟨w.heap.size,2,none⟩) (Only.refl _ _) (.inl (.inl rfl)) _) (.inl (.inr rfl))
  refine ⟨hO.only ho1 (fun j hj hk=>?_),hB2.trans (ho1.below hB2.size (fun k hk=>by omega))⟩
  rcases hk with rfl | rfl
  ·exact nX hj
  ·exact nY hj)
 clear hX hY hB2 nX nY hX2 hY2 hO hg
 go_wp2_with fail
 exact bodyPost_ret (v:=.agg #[.int .i64 tick,.int .i64 time,.slice a' es.length c']) (by simp [results,Tryz.results79,go_sem,r0,r1,r2,y0,y1,y2]) rfl ⟨a',c',rfl,HF.out⟩
set_option maxHeartbeats 1000000 in
theorem snap1_f (is : Bool) (why : Int) (E : Nat) (e : Int) (w : World) (h : Blk w E #[.int .i64 e] 25) :
  Calls Tryz.prog 115 #[.bool is,.int .i64 why,.pointer (some ⟨E,0,none⟩)] w fun r w'=>r = .returned (.tuple #[]) ∧ Blk w' E #[.int .i64 (if e = 0 ∧ is = true then why else e)] 25 ∧ Only (fun k=>k = E) w w':=by
 have c0:=h.cell 0
 have f0:=h.free 0
 simp at c0
 have HB:=Lib.hid h
 clear h
 by_cases he : e = 0
 ·subst he
  cases is
  ·have HV : Hid ((if (0 : Int) = 0 ∧ false = true then why else 0) = 0):=Lib.hid (by simp)
   generalize (if (0 : Int) = 0 ∧ false = true then why else 0) = v at *
   go_enter Tryz.func115,Tryz.ntmps115
   go_wp2_with fail
   exact bodyPost_end (v:=.tuple #[]) (by simp [results,Tryz.results115,go_sem]) rfl ⟨rfl,by rw [HV.out];exact HB.out,Only.refl _ _⟩
  ·have HV : Hid ((if (0 : Int) = 0 ∧ true = true then why else 0) = why):=Lib.hid (by simp)
   generalize (if (0 : Int) = 0 ∧ true = true then why else 0) = v at *
   have HB2:=Lib.hid (show Blk (w.setCell ⟨E,0,none⟩ (.int .i64 why)) E #[.int .i64 why] 25 by simpa using HB.out.set 0 (.int .i64 why))
   have HO:=Lib.hid (Only.setCell (S:=fun k=>k = E) (p:=⟨E,0,none⟩) (Only.refl _ w) (.inl rfl) (.int .i64 why))
   go_enter Tryz.func115,Tryz.ntmps115
   go_wp2_with fail
   exact bodyPost_end (v:=.tuple #[]) (by simp [results,Tryz.results115,go_sem]) rfl ⟨rfl,by rw [HV.out];exact HB2.out,HO.out⟩
 ·have HV : Hid ((if e = 0 ∧ is = true then why else e) = e):=Lib.hid (by rw [if_neg (fun h=>he h.1)])
  generalize (if e = 0 ∧ is = true then why else e) = v at *
  go_enter Tryz.func115,Tryz.ntmps115
  go_wp2_with fail
  exact bodyPost_end (v:=.tuple #[]) (by simp [results,Tryz.results115,go_sem]) rfl ⟨rfl,by rw [HV.out];exact HB.out,Only.refl _ _⟩
def staleF (l : List Kpt) (most floor : Int) (gone : Bool) (tick : Int) : Bool:=(gone && decide (tick ≤ floor)) || (decide ((l.length : Int) = most) && decide (untK l tick = 0))
set_option maxHeartbeats 1000000 in
theorem stale_f (T R : Nat) (l : List Kpt) (most floor : Int) (gone : Bool) (S : Nat → Prop) (tick : Int) (w : World) (h : StAt w T R l most floor gone S) :
  Calls Tryz.prog 116 #[.pointer (some ⟨T,0,none⟩),.int .i64 tick] w fun e w'=>e = .returned (.bool (staleF l most floor gone tick)) ∧ Below w.heap.size w w':=by
 have fl:=rgfloor_f R l most floor gone S w h.ring
 obtain ⟨d0,d1⟩:=h.cells
 have HS:=Lib.hid h
 have HV : Hid (staleF l most floor gone tick = ((gone && decide (tick ≤ floor)) || (decide ((l.length : Int) = most) && decide (untK l tick = 0)))):=Lib.hid rfl
 generalize staleF l most floor gone tick = sv at *
 clear h
 cases gone
 ·by_cases hm : (l.length : Int) = most
  ·have hm' : ((l.length : Int) == most) = true:=by simpa using hm
   by_cases hu : untK l tick = 0
   ·have hu1 : ((untK l tick : Nat) : Int) = 0:=by omega
    obtain rfl : sv = true:=by rw [HV.out];simp [decide_eq_true_eq,hm,hu]
    clear HV
    go_enter Tryz.func116,Tryz.ntmps116
    go_wp2_with fail
    refine fl.mono ?_
    rintro e w1 ⟨rfl,hB1⟩
    have HB1:=Lib.hid hB1
    have HS2:=Lib.hid (HS.out.below hB1)
    obtain ⟨d0,d1⟩:=HS2.out.cells
    clear fl hB1
    go_wp2_with fail
    refine wp_region_calm 27 (by kernel_rfl) (by kernel_rfl) ?_
    simp only [List.take_succ_cons,List.take_zero,List.drop_succ_cons,List.drop_zero]
    repeat (first | (apply wpCalm_step;(next=>(intro W hW K hK;have y0:=hW.cell d0;have y1:=hW.cell d1;go_simp;first | exact ⟨hW,hK⟩ | exact hK));(next=>exact CalmI.self _);(try go_simp)) | (apply wpCalm_step;(next=>(intro W hW K hK;go_simp;first | exact ⟨_,hW.of_eq (rglen_f R l most floor false S W (HS2.out.ring.below hW)),hK⟩ | exact ⟨hW,_,hW.of_eq (rglen_f R l most floor false S W (HS2.out.ring.below hW)),hK⟩));(next=>exact CalmI.self _);(try go_simp)) | (apply wpCalm_step;(next=>(intro W hW K hK;go_simp;first | exact ⟨_,hW.call (runtil_f R l most floor false S tick W (HS2.out.ring.below hW)),hK⟩ | exact ⟨hW,_,hW.call (runtil_f R l most floor false S tick W (HS2.out.ring.below hW)),hK⟩));(next=>exact CalmI.self _);(try go_simp)))
    refine wpCalm_nil ?_
    intro WC hWC
    have HC:=Lib.hid (HB1.out.trans (Below.mono hWC HB1.out.size))
    clear hWC d0 d1
    go_wp2_with fail
    exact bodyPost_ret (v:=.bool true) (by simp [results,Tryz.results116,go_sem,hu]) rfl ⟨rfl,HC.out⟩
   ·have hu1 : ¬ ((untK l tick : Nat) : Int) = 0:=by omega
    obtain rfl : sv = false:=by rw [HV.out];simp [decide_eq_true_eq,hm,hu]
    clear HV
    go_enter Tryz.func116,Tryz.ntmps116
    go_wp2_with fail
    refine fl.mono ?_
    rintro e w1 ⟨rfl,hB1⟩
    have HB1:=Lib.hid hB1
    have HS2:=Lib.hid (HS.out.below hB1)
    obtain ⟨d0,d1⟩:=HS2.out.cells
    clear fl hB1
    go_wp2_with fail
    refine wp_region_calm 27 (by kernel_rfl) (by kernel_rfl) ?_
    simp only [List.take_succ_cons,List.take_zero,List.drop_succ_cons,List.drop_zero]
    repeat (first | (apply wpCalm_step;(next=>(intro W hW K hK;have y0:=hW.cell d0;have y1:=hW.cell d1;go_simp;first | exact ⟨hW,hK⟩ | exact hK));(next=>exact CalmI.self _);(try go_simp)) | (apply wpCalm_step;(next=>(intro W hW K hK;go_simp;first | exact ⟨_,hW.of_eq (rglen_f R l most floor false S W (HS2.out.ring.below hW)),hK⟩ | exact ⟨hW,_,hW.of_eq (rglen_f R l most floor false S W (HS2.out.ring.below hW)),hK⟩));(next=>exact CalmI.self _);(try go_simp)) | (apply wpCalm_step;(next=>(intro W hW K hK;go_simp;first | exact ⟨_,hW.call (runtil_f R l most floor false S tick W (HS2.out.ring.below hW)),hK⟩ | exact ⟨hW,_,hW.call (runtil_f R l most floor false S tick W (HS2.out.ring.below hW)),hK⟩));(next=>exact CalmI.self _);(try go_simp)))
    refine wpCalm_nil ?_
    intro WC hWC
    have HC:=Lib.hid (HB1.out.trans (Below.mono hWC HB1.out.size))
    clear hWC d0 d1
    go_wp2_with fail
    exact bodyPost_ret (v:=.bool false) (by simp [results,Tryz.results116,go_sem,hu]) rfl ⟨rfl,HC.out⟩
  ·obtain rfl : sv = false:=by rw [HV.out];simp [decide_eq_true_eq,hm]
   clear HV
   go_enter Tryz.func116,Tryz.ntmps116
   go_wp2_with fail
   refine fl.mono ?_
   rintro e w1 ⟨rfl,hB1⟩
   have HB1:=Lib.hid hB1
   have HS2:=Lib.hid (HS.out.below hB1)
   obtain ⟨d0,d1⟩:=HS2.out.cells
   clear fl hB1
   go_wp2_with fail
   refine wp_region_calm 27 (by kernel_rfl) (by kernel_rfl) ?_
   simp only [List.take_succ_cons,List.take_zero,List.drop_succ_cons,List.drop_zero]
   repeat (first | (apply wpCalm_step;(next=>(intro W hW K hK;have y0:=hW.cell d0;have y1:=hW.cell d1;go_simp;first | exact ⟨hW,hK⟩ | exact hK));(next=>exact CalmI.self _);(try go_simp)) | (apply wpCalm_step;(next=>(intro W hW K hK;go_simp;first | exact ⟨_,hW.of_eq (rglen_f R l most floor false S W (HS2.out.ring.below hW)),hK⟩ | exact ⟨hW,_,hW.of_eq (rglen_f R l most floor false S W (HS2.out.ring.below hW)),hK⟩));(next=>exact CalmI.self _);(try go_simp)) | (apply wpCalm_step;(next=>(intro W hW K hK;go_simp;first | exact ⟨_,hW.call (runtil_f R l most floor false S tick W (HS2.out.ring.below hW)),hK⟩ | exact ⟨hW,_,hW.call (runtil_f R l most floor false S tick W (HS2.out.ring.below hW)),hK⟩));(next=>exact CalmI.self _);(try go_simp)))
   refine wpCalm_nil ?_
   intro WC hWC
   have HC:=Lib.hid (HB1.out.trans (Below.mono hWC HB1.out.size))
   clear hWC d0 d1
   go_wp2_with fail
   exact bodyPost_ret (v:=.bool false) (by simp [results,Tryz.results116,go_sem]) rfl ⟨rfl,HC.out⟩
 ·by_cases hg : tick ≤ floor
  ·obtain rfl : sv = true:=by rw [HV.out];simp [hg]
   clear HV
   go_enter Tryz.func116,Tryz.ntmps116
   go_wp2_with fail
   refine fl.mono ?_
   rintro e w1 ⟨rfl,hB1⟩
   have HB1:=Lib.hid hB1
   have HS2:=Lib.hid (HS.out.below hB1)
   obtain ⟨d0,d1⟩:=HS2.out.cells
   clear fl hB1
   go_wp2_with fail
   refine wp_region_calm 27 (by kernel_rfl) (by kernel_rfl) ?_
   simp only [List.take_succ_cons,List.take_zero,List.drop_succ_cons,List.drop_zero]
   repeat (first | (apply wpCalm_step;(next=>(intro W hW K hK;have y0:=hW.cell d0;have y1:=hW.cell d1;go_simp;first | exact ⟨hW,hK⟩ | exact hK));(next=>exact CalmI.self _);(try go_simp)) | (apply wpCalm_step;(next=>(intro W hW K hK;go_simp;first | exact ⟨_,hW.of_eq (rglen_f R l most floor true S W (HS2.out.ring.below hW)),hK⟩ | exact ⟨hW,_,hW.of_eq (rglen_f R l most floor true S W (HS2.out.ring.below hW)),hK⟩));(next=>exact CalmI.self _);(try go_simp)) | (apply wpCalm_step;(next=>(intro W hW K hK;go_simp;first | exact ⟨_,hW.call (runtil_f R l most floor true S tick W (HS2.out.ring.below hW)),hK⟩ | exact ⟨hW,_,hW.call (runtil_f R l most floor true S tick W (HS2.out.ring.below hW)),hK⟩));(next=>exact CalmI.self _);(try go_simp)))
   refine wpCalm_nil ?_
   intro WC hWC
   have HC:=Lib.hid (HB1.out.trans (Below.mono hWC HB1.out.size))
   clear hWC d0 d1
   go_wp2_with fail
   exact bodyPost_ret (v:=.bool true) (by simp [results,Tryz.results116,go_sem]) rfl ⟨rfl,HC.out⟩
  ·by_cases hm : (l.length : Int) = most
   ·have hm' : ((l.length : Int) == most) = true:=by simpa using hm
    by_cases hu : untK l tick = 0
    ·have hu1 : ((untK l tick : Nat) : Int) = 0:=by omega
     obtain rfl : sv = true:=by rw [HV.out];simp [hg,hm,hu]
     clear HV
     go_enter Tryz.func116,Tryz.ntmps116
     go_wp2_with fail
     refine fl.mono ?_
     rintro e w1 ⟨rfl,hB1⟩
     have HB1:=Lib.hid hB1
     have HS2:=Lib.hid (HS.out.below hB1)
     obtain ⟨d0,d1⟩:=HS2.out.cells
     clear fl hB1
     go_wp2_with fail
     refine wp_region_calm 27 (by kernel_rfl) (by kernel_rfl) ?_
     simp only [List.take_succ_cons,List.take_zero,List.drop_succ_cons,List.drop_zero]
     repeat (first | (apply wpCalm_step;(next=>(intro W hW K hK;have y0:=hW.cell d0;have y1:=hW.cell d1;go_simp;first | exact ⟨hW,hK⟩ | exact hK));(next=>exact CalmI.self _);(try go_simp)) | (apply wpCalm_step;(next=>(intro W hW K hK;go_simp;first | exact ⟨_,hW.of_eq (rglen_f R l most floor true S W (HS2.out.ring.below hW)),hK⟩ | exact ⟨hW,_,hW.of_eq (rglen_f R l most floor true S W (HS2.out.ring.below hW)),hK⟩));(next=>exact CalmI.self _);(try go_simp)) | (apply wpCalm_step;(next=>(intro W hW K hK;go_simp;first | exact ⟨_,hW.call (runtil_f R l most floor true S tick W (HS2.out.ring.below hW)),hK⟩ | exact ⟨hW,_,hW.call (runtil_f R l most floor true S tick W (HS2.out.ring.below hW)),hK⟩));(next=>exact CalmI.self _);(try go_simp)))
     refine wpCalm_nil ?_
     intro WC hWC
     have HC:=Lib.hid (HB1.out.trans (Below.mono hWC HB1.out.size))
     clear hWC d0 d1
     go_wp2_with fail
     exact bodyPost_ret (v:=.bool true) (by simp [results,Tryz.results116,go_sem,hg,hu]) rfl ⟨rfl,HC.out⟩
    ·have hu1 : ¬ ((untK l tick : Nat) : Int) = 0:=by omega
     obtain rfl : sv = false:=by rw [HV.out];simp [hg,hm,hu]
     clear HV
     go_enter Tryz.func116,Tryz.ntmps116
     go_wp2_with fail
     refine fl.mono ?_
     rintro e w1 ⟨rfl,hB1⟩
     have HB1:=Lib.hid hB1
     have HS2:=Lib.hid (HS.out.below hB1)
     obtain ⟨d0,d1⟩:=HS2.out.cells
     clear fl hB1
     go_wp2_with fail
     refine wp_region_calm 27 (by kernel_rfl) (by kernel_rfl) ?_
     simp only [List.take_succ_cons,List.take_zero,List.drop_succ_cons,List.drop_zero]
     repeat (first | (apply wpCalm_step;(next=>(intro W hW K hK;have y0:=hW.cell d0;have y1:=hW.cell d1;go_simp;first | exact ⟨hW,hK⟩ | exact hK));(next=>exact CalmI.self _);(try go_simp)) | (apply wpCalm_step;(next=>(intro W hW K hK;go_simp;first | exact ⟨_,hW.of_eq (rglen_f R l most floor true S W (HS2.out.ring.below hW)),hK⟩ | exact ⟨hW,_,hW.of_eq (rglen_f R l most floor true S W (HS2.out.ring.below hW)),hK⟩));(next=>exact CalmI.self _);(try go_simp)) | (apply wpCalm_step;(next=>(intro W hW K hK;go_simp;first | exact ⟨_,hW.call (runtil_f R l most floor true S tick W (HS2.out.ring.below hW)),hK⟩ | exact ⟨hW,_,hW.call (runtil_f R l most floor true S tick W (HS2.out.ring.below hW)),hK⟩));(next=>exact CalmI.self _);(try go_simp)))
     refine wpCalm_nil ?_
     intro WC hWC
     have HC:=Lib.hid (HB1.out.trans (Below.mono hWC HB1.out.size))
     clear hWC d0 d1
     go_wp2_with fail
     exact bodyPost_ret (v:=.bool false) (by simp [results,Tryz.results116,go_sem,hg,hu]) rfl ⟨rfl,HC.out⟩
   ·obtain rfl : sv = false:=by rw [HV.out];simp [hg,hm]
    clear HV
    go_enter Tryz.func116,Tryz.ntmps116
    go_wp2_with fail
    refine fl.mono ?_
    rintro e w1 ⟨rfl,hB1⟩
    have HB1:=Lib.hid hB1
    have HS2:=Lib.hid (HS.out.below hB1)
    obtain ⟨d0,d1⟩:=HS2.out.cells
    clear fl hB1
    go_wp2_with fail
    refine wp_region_calm 27 (by kernel_rfl) (by kernel_rfl) ?_
    simp only [List.take_succ_cons,List.take_zero,List.drop_succ_cons,List.drop_zero]
    repeat (first | (apply wpCalm_step;(next=>(intro W hW K hK;have y0:=hW.cell d0;have y1:=hW.cell d1;go_simp;first | exact ⟨hW,hK⟩ | exact hK));(next=>exact CalmI.self _);(try go_simp)) | (apply wpCalm_step;(next=>(intro W hW K hK;go_simp;first | exact ⟨_,hW.of_eq (rglen_f R l most floor true S W (HS2.out.ring.below hW)),hK⟩ | exact ⟨hW,_,hW.of_eq (rglen_f R l most floor true S W (HS2.out.ring.below hW)),hK⟩));(next=>exact CalmI.self _);(try go_simp)) | (apply wpCalm_step;(next=>(intro W hW K hK;go_simp;first | exact ⟨_,hW.call (runtil_f R l most floor true S tick W (HS2.out.ring.below hW)),hK⟩ | exact ⟨hW,_,hW.call (runtil_f R l most floor true S tick W (HS2.out.ring.below hW)),hK⟩));(next=>exact CalmI.self _);(try go_simp)))
    refine wpCalm_nil ?_
    intro WC hWC
    have HC:=Lib.hid (HB1.out.trans (Below.mono hWC HB1.out.size))
    clear hWC d0 d1
    go_wp2_with fail
    exact bodyPost_ret (v:=.bool false) (by simp [results,Tryz.results116,go_sem,hg]) rfl ⟨rfl,HC.out⟩
end Go.Proofs.YtklkooeimkedgaaGreat
namespace Go.Proofs.YtklkooeimkedgaaGreat
open Go.RowKit
set_option maxRecDepth 100000
def atK (l : List Kpt) (i : Int) : Option Kpt:=if i < 0 then none else l[i.toNat]?
def snT : Option Kpt → Int | none=>0 | some k=>k.sn.tick
def snM : Option Kpt → Int | none=>0 | some k=>k.sn.time
def snS : Option Kpt → Value | none=>.slice none 0 0 | some k=>kpS k
def snE : Option Kpt → List Ent | none=>[] | some k=>k.sn.ents
def atY : Option Kpt → Int | none=>0 | some k=>k.key
def atE : Option Kpt → Int | none=>3 | some _=>0
theorem snS_slice (o : Option Kpt) : ∃ a n c,snS o = .slice a n c:=by cases o <;> exact ⟨_,_,_,rfl⟩
theorem snV_eq (o : Option Kpt) : snV o = .agg #[.int .i64 (snT o),.int .i64 (snM o),snS o]:=by cases o <;> rfl
theorem rat_f (R : Nat) (l : List Kpt) (most floor : Int) (gone : Bool) (S : Nat → Prop) (i : Int) (w : World) (h : RingAt w R l most floor gone S) :
  Calls Tryz.prog 131 #[.pointer (some ⟨R,0,none⟩),.int .i64 i] w fun e w'=>e = .returned (.tuple #[.int .i64 (atY (atK l i)),.agg #[.int .i64 (snT (atK l i)),.int .i64 (snM (atK l i)),snS (atK l i)],.int .i64 (atE (atK l i))]) ∧ Below w.heap.size w w':=by
 by_cases hi : i < 0 ∨ (l.length : Int) ≤ i
 ·have e : atK l i = none:=by
   unfold atK
   split
   ·rfl
   ·exact List.getElem?_eq_none (by omega)
  rw [e]
  exact rat_bad R l most floor gone S i w h hi
 ·obtain ⟨x,hx⟩ : ∃ x,l[i.toNat]? = some x:=⟨_,List.getElem?_eq_getElem (by omega)⟩
  have e : atK l i = some x:=by
   unfold atK
   rw [if_neg (by omega)];exact hx
  rw [e]
  have:=rat_ok R l most floor gone S i.toNat x w h hx
  rw [show ((i.toNat : Nat) : Int) = i by omega] at this
  exact this
def timelyF (l : List Kpt) (tick time : Int) : Bool :=
 (decide (atE (atK l (untK l tick - 1)) ≠ 0) || decide (snM (atK l (untK l tick - 1)) < time)) && (decide (atE (atK l (untK l tick)) ≠ 0) || decide (time < snM (atK l (untK l tick))))
theorem untK_le (l : List Kpt) (key : Int) : untK l key ≤ l.length:=by
 unfold untK
 split
 ·rename_i h
  obtain ⟨x,hx,_⟩:=hasK_some h
  exact (List.getElem?_eq_some_iff.1 hx).1
 ·exact cntK_le l key
set_option maxHeartbeats 1000000 in
theorem timely_f (T R : Nat) (l : List Kpt) (most floor : Int) (gone : Bool) (S : Nat → Prop) (tick time : Int) (s : Value) (w : World) (h : StAt w T R l most floor gone S) :
  Calls Tryz.prog 118 #[.pointer (some ⟨T,0,none⟩),.agg #[.int .i64 tick,.int .i64 time,s]] w fun e w'=>e = .returned (.bool (timelyF l tick time)) ∧ Below w.heap.size w w':=by
 have un:=fun w h=>runtil_f R l most floor gone S tick w h
 have a1:=fun w h=>rat_f R l most floor gone S (untK l tick - 1) w h
 have a2:=fun w h=>rat_f R l most floor gone S (untK l tick) w h
 have HV : Hid (timelyF l tick time = ((decide (atE (atK l (untK l tick - 1)) ≠ 0) || decide (snM (atK l (untK l tick - 1)) < time)) && (decide (atE (atK l (untK l tick)) ≠ 0) || decide (time < snM (atK l (untK l tick)))))):=Lib.hid rfl
 have hle:=untK_le l tick
 have hl64 : (l.length : Int) ≤ 64:=by obtain ⟨v,hp⟩:=h.ring;exact hp.len
 obtain ⟨a1a,a1n,a1c,hs1⟩:=snS_slice (atK l (untK l tick - 1))
 obtain ⟨a2a,a2n,a2c,hs2⟩:=snS_slice (atK l (untK l tick))
 rw [hs1] at a1
 rw [hs2] at a2
 clear hs1 hs2
 generalize timelyF l tick time = sv at *
 generalize atE (atK l (untK l tick - 1)) = e1 at *
 generalize snM (atK l (untK l tick - 1)) = m1 at *
 generalize snT (atK l (untK l tick - 1)) = t1 at *
 generalize atY (atK l (untK l tick - 1)) = k1 at *
 generalize atE (atK l (untK l tick)) = e2 at *
 generalize snM (atK l (untK l tick)) = m2 at *
 generalize snT (atK l (untK l tick)) = t2 at *
 generalize atY (atK l (untK l tick)) = k2 at *
 generalize untK l tick = n at *
 have hw : wrap64 ((n : Int) - 1) = (n : Int) - 1:=by unfold wrap64;omega
 obtain ⟨w0,hw0⟩ : ∃ w0,w.alloc (.cells #[.int .i64 tick,.int .i64 time,s] 36) = w0:=⟨_,rfl⟩
 have HB0 : Hid (Below w.heap.size w w0):=Lib.hid (by rw [← hw0];exact (Below.refl _ _).alloc (Nat.le_refl _) _)
 have HX0 : Hid (Blk w0 w.heap.size #[.int .i64 tick,.int .i64 time,s] 36):=Lib.hid (by rw [← hw0];exact Blk.new _ _ _)
 have HS0:=Lib.hid (h.below HB0.out)
 obtain ⟨d0,d1⟩:=HS0.out.cells
 have x0:=HX0.out.cell 0
 simp at x0
 clear h hle hl64
 go_enter Tryz.func118,Tryz.ntmps118
 go_wp2_with fail
 clear hw0
 refine wp_region_calm 6 (by kernel_rfl) (by kernel_rfl) ?_
 simp only [List.take_succ_cons,List.take_zero,List.drop_succ_cons,List.drop_zero]
 repeat (apply wpCalm_step;(next=>(intro W hW K hK;have y0:=hW.cell d0;have y1:=hW.cell d1;have y2:=hW.cell x0;go_simp;first | exact ⟨hW,hK⟩ | exact hK));(next=>exact CalmI.self _);(try go_simp))
 refine wpCalm_nil ?_
 intro W0 hW0
 have hWB0 : Below w0.heap.size w0 W0:=hW0
 have HBC0:=Lib.hid (HB0.out.trans (hWB0.mono HB0.out.size))
 have HSC0:=Lib.hid (HS0.out.below hWB0)
 have HXC0:=Lib.hid (HX0.out.below hWB0 HX0.out.lt)
 clear hW0 hWB0 d0 d1 x0
 go_wp2_with fail
 refine (un W0 HSC0.out.ring).mono ?_
 rintro e WC ⟨rfl,hWB⟩
 have HBC:=Lib.hid (HBC0.out.trans (hWB.mono HBC0.out.size))
 have HSC:=Lib.hid (HSC0.out.below hWB)
 have HXC:=Lib.hid (HXC0.out.below hWB HXC0.out.lt)
 clear hWB un
 obtain ⟨d0,d1⟩:=HSC.out.cells
 go_wp2_with fail
 refine (a1 WC HSC.out.ring).mono ?_
 rintro e w1 ⟨rfl,hB⟩
 obtain ⟨v1,hv1⟩ : ∃ v,w1.alloc (.cells #[.int .i64 0,.int .i64 0,.slice none 0 0] 36) = v:=⟨_,rfl⟩
 have hBv : Below WC.heap.size WC v1:=by rw [← hv1];exact hB.alloc hB.size _
 have hXv : Blk v1 w1.heap.size #[.int .i64 0,.int .i64 0,.slice none 0 0] 36:=by rw [← hv1];exact Blk.new _ _ _
 have f0:=hXv.free 0
 have f1:=hXv.free 1
 have f2:=hXv.free 2
 have q0:=hXv.cell 0
 have q1:=hXv.cell 1
 have q2:=hXv.cell 2
 simp at q0 q1 q2
 have hsz : WC.heap.size ≤ w1.heap.size:=hB.size
 have HX1:=Lib.hid (blk3 (v0:=.int .i64 t1) (v1:=.int .i64 m1) (v2:=.slice a1a a1n a1c) hXv)
 have HB1:=Lib.hid (below3 (v0:=.int .i64 t1) (v1:=.int .i64 m1) (v2:=.slice a1a a1n a1c) hBv hsz)
 obtain ⟨u1,hu1⟩ : ∃ u,((v1.setCell ⟨w1.heap.size,0,none⟩ (.int .i64 t1)).setCell ⟨w1.heap.size,1,none⟩ (.int .i64 m1)).setCell ⟨w1.heap.size,2,none⟩ (.slice a1a a1n a1c) = u:=⟨_,rfl⟩
 rw [hu1] at HX1 HB1
 clear hB hBv hXv hsz d0 d1 a1
 have HS1:=Lib.hid (HSC.out.below HB1.out)
 have HC1:=Lib.hid (HBC.out.trans (HB1.out.mono HBC.out.size))
 obtain ⟨d0,d1⟩:=HS1.out.cells
 have HX01:=Lib.hid (HXC.out.below HB1.out HXC.out.lt)
 go_wp2_with fail
 clear hv1 hu1 f0 f1 f2 q0 q1 q2
 refine (a2 u1 HS1.out.ring).mono ?_
 rintro e w2 ⟨rfl,hB⟩
 obtain ⟨v2,hv2⟩ : ∃ v,w2.alloc (.cells #[.int .i64 0,.int .i64 0,.slice none 0 0] 36) = v:=⟨_,rfl⟩
 have hBv : Below u1.heap.size u1 v2:=by rw [← hv2];exact hB.alloc hB.size _
 have hXv : Blk v2 w2.heap.size #[.int .i64 0,.int .i64 0,.slice none 0 0] 36:=by rw [← hv2];exact Blk.new _ _ _
 have f0:=hXv.free 0
 have f1:=hXv.free 1
 have f2:=hXv.free 2
 have q0:=hXv.cell 0
 have q1:=hXv.cell 1
 have q2:=hXv.cell 2
 simp at q0 q1 q2
 have hsz : u1.heap.size ≤ w2.heap.size:=hB.size
 have HX2:=Lib.hid (blk3 (v0:=.int .i64 t2) (v1:=.int .i64 m2) (v2:=.slice a2a a2n a2c) hXv)
 have HB2:=Lib.hid (below3 (v0:=.int .i64 t2) (v1:=.int .i64 m2) (v2:=.slice a2a a2n a2c) hBv hsz)
 obtain ⟨u2,hu2⟩ : ∃ u,((v2.setCell ⟨w2.heap.size,0,none⟩ (.int .i64 t2)).setCell ⟨w2.heap.size,1,none⟩ (.int .i64 m2)).setCell ⟨w2.heap.size,2,none⟩ (.slice a2a a2n a2c) = u:=⟨_,rfl⟩
 rw [hu2] at HX2 HB2
 clear hB hBv hXv hsz d0 d1 a2
 have HS2:=Lib.hid (HS1.out.below HB2.out)
 have HC2:=Lib.hid (HC1.out.trans (HB2.out.mono HC1.out.size))
 obtain ⟨d0,d1⟩:=HS2.out.cells
 have HX02:=Lib.hid (HX01.out.below HB2.out HX01.out.lt)
 have HX12:=Lib.hid (HX1.out.below HB2.out HX1.out.lt)
 have r0:=HX02.out.cell 1
 have r1:=HX12.out.cell 1
 have r2:=HX2.out.cell 1
 simp at r0 r1 r2
 clear d0 d1
 by_cases z1 : e1 = 0
 ·by_cases z2 : e2 = 0
  ·by_cases y1 : m1 < time
   ·by_cases y2 : time < m2
    ·have n1 : (e1 != 0) = false:=by simp [z1]
     have n2 : (e2 != 0) = false:=by simp [z2]
     obtain rfl : sv = true:=by rw [HV.out];simp [z1,z2,y1,y2] <;> omega
     clear z1 z2 HV
     go_wp2_with fail
     exact bodyPost_ret (v:=.bool true) (by simp [results,Tryz.results118,go_sem,y1,y2]) rfl ⟨rfl,HC2.out⟩
    ·have n1 : (e1 != 0) = false:=by simp [z1]
     have n2 : (e2 != 0) = false:=by simp [z2]
     obtain rfl : sv = false:=by rw [HV.out];simp [z1,z2,y1,y2] <;> omega
     clear z1 z2 HV
     go_wp2_with fail
     exact bodyPost_ret (v:=.bool false) (by simp [results,Tryz.results118,go_sem,y1,y2]) rfl ⟨rfl,HC2.out⟩
   ·by_cases y2 : time < m2
    ·have n1 : (e1 != 0) = false:=by simp [z1]
     have n2 : (e2 != 0) = false:=by simp [z2]
     obtain rfl : sv = false:=by rw [HV.out];simp [z1,z2,y1,y2] <;> omega
     clear z1 z2 HV
     go_wp2_with fail
     exact bodyPost_ret (v:=.bool false) (by simp [results,Tryz.results118,go_sem,y1,y2]) rfl ⟨rfl,HC2.out⟩
    ·have n1 : (e1 != 0) = false:=by simp [z1]
     have n2 : (e2 != 0) = false:=by simp [z2]
     obtain rfl : sv = false:=by rw [HV.out];simp [z1,z2,y1,y2] <;> omega
     clear z1 z2 HV
     go_wp2_with fail
     exact bodyPost_ret (v:=.bool false) (by simp [results,Tryz.results118,go_sem,y1,y2]) rfl ⟨rfl,HC2.out⟩
  ·by_cases y1 : m1 < time
   ·by_cases y2 : time < m2
    ·have n1 : (e1 != 0) = false:=by simp [z1]
     have n2 : (e2 != 0) = true:=by simp [z2]
     obtain rfl : sv = true:=by rw [HV.out];simp [z1,z2,y1,y2] <;> omega
     clear z1 z2 HV
     go_wp2_with fail
     exact bodyPost_ret (v:=.bool true) (by simp [results,Tryz.results118,go_sem,y1,y2]) rfl ⟨rfl,HC2.out⟩
    ·have n1 : (e1 != 0) = false:=by simp [z1]
     have n2 : (e2 != 0) = true:=by simp [z2]
     obtain rfl : sv = true:=by rw [HV.out];simp [z1,z2,y1,y2] <;> omega
     clear z1 z2 HV
     go_wp2_with fail
     exact bodyPost_ret (v:=.bool true) (by simp [results,Tryz.results118,go_sem,y1,y2]) rfl ⟨rfl,HC2.out⟩
   ·by_cases y2 : time < m2
    ·have n1 : (e1 != 0) = false:=by simp [z1]
     have n2 : (e2 != 0) = true:=by simp [z2]
     obtain rfl : sv = false:=by rw [HV.out];simp [z1,z2,y1,y2] <;> omega
     clear z1 z2 HV
     go_wp2_with fail
     exact bodyPost_ret (v:=.bool false) (by simp [results,Tryz.results118,go_sem,y1,y2]) rfl ⟨rfl,HC2.out⟩
    ·have n1 : (e1 != 0) = false:=by simp [z1]
     have n2 : (e2 != 0) = true:=by simp [z2]
     obtain rfl : sv = false:=by rw [HV.out];simp [z1,z2,y1,y2] <;> omega
     clear z1 z2 HV
     go_wp2_with fail
     exact bodyPost_ret (v:=.bool false) (by simp [results,Tryz.results118,go_sem,y1,y2]) rfl ⟨rfl,HC2.out⟩
 ·by_cases z2 : e2 = 0
  ·by_cases y1 : m1 < time
   ·by_cases y2 : time < m2
    ·have n1 : (e1 != 0) = true:=by simp [z1]
     have n2 : (e2 != 0) = false:=by simp [z2]
     obtain rfl : sv = true:=by rw [HV.out];simp [z1,z2,y1,y2] <;> omega
     clear z1 z2 HV
     go_wp2_with fail
     exact bodyPost_ret (v:=.bool true) (by simp [results,Tryz.results118,go_sem,y1,y2]) rfl ⟨rfl,HC2.out⟩
    ·have n1 : (e1 != 0) = true:=by simp [z1]
     have n2 : (e2 != 0) = false:=by simp [z2]
     obtain rfl : sv = false:=by rw [HV.out];simp [z1,z2,y1,y2] <;> omega
     clear z1 z2 HV
     go_wp2_with fail
     exact bodyPost_ret (v:=.bool false) (by simp [results,Tryz.results118,go_sem,y1,y2]) rfl ⟨rfl,HC2.out⟩
   ·by_cases y2 : time < m2
    ·have n1 : (e1 != 0) = true:=by simp [z1]
     have n2 : (e2 != 0) = false:=by simp [z2]
     obtain rfl : sv = true:=by rw [HV.out];simp [z1,z2,y1,y2] <;> omega
     clear z1 z2 HV
     go_wp2_with fail
     exact bodyPost_ret (v:=.bool true) (by simp [results,Tryz.results118,go_sem,y1,y2]) rfl ⟨rfl,HC2.out⟩
    ·have n1 : (e1 != 0) = true:=by simp [z1]
     have n2 : (e2 != 0) = false:=by simp [z2]
     obtain rfl : sv = false:=by rw [HV.out];simp [z1,z2,y1,y2] <;> omega
     clear z1 z2 HV
     go_wp2_with fail
     exact bodyPost_ret (v:=.bool false) (by simp [results,Tryz.results118,go_sem,y1,y2]) rfl ⟨rfl,HC2.out⟩
  ·by_cases y1 : m1 < time
   ·by_cases y2 : time < m2
    ·have n1 : (e1 != 0) = true:=by simp [z1]
     have n2 : (e2 != 0) = true:=by simp [z2]
     obtain rfl : sv = true:=by rw [HV.out];simp [z1,z2,y1,y2] <;> omega
     clear z1 z2 HV
     go_wp2_with fail
     exact bodyPost_ret (v:=.bool true) (by simp [results,Tryz.results118,go_sem,y1,y2]) rfl ⟨rfl,HC2.out⟩
    ·have n1 : (e1 != 0) = true:=by simp [z1]
     have n2 : (e2 != 0) = true:=by simp [z2]
     obtain rfl : sv = true:=by rw [HV.out];simp [z1,z2,y1,y2] <;> omega
     clear z1 z2 HV
     go_wp2_with fail
     exact bodyPost_ret (v:=.bool true) (by simp [results,Tryz.results118,go_sem,y1,y2]) rfl ⟨rfl,HC2.out⟩
   ·by_cases y2 : time < m2
    ·have n1 : (e1 != 0) = true:=by simp [z1]
     have n2 : (e2 != 0) = true:=by simp [z2]
     obtain rfl : sv = true:=by rw [HV.out];simp [z1,z2,y1,y2] <;> omega
     clear z1 z2 HV
     go_wp2_with fail
     exact bodyPost_ret (v:=.bool true) (by simp [results,Tryz.results118,go_sem,y1,y2]) rfl ⟨rfl,HC2.out⟩
    ·have n1 : (e1 != 0) = true:=by simp [z1]
     have n2 : (e2 != 0) = true:=by simp [z2]
     obtain rfl : sv = true:=by rw [HV.out];simp [z1,z2,y1,y2] <;> omega
     clear z1 z2 HV
     go_wp2_with fail
     exact bodyPost_ret (v:=.bool true) (by simp [results,Tryz.results118,go_sem,y1,y2]) rfl ⟨rfl,HC2.out⟩
end Go.Proofs.YtklkooeimkedgaaGreat
namespace Go.Proofs.YtklkooeimkedgaaGreat
open Go.RowKit
set_option maxRecDepth 100000
theorem RingP.cap {w : World} {R : Nat} {l : List Kpt} {most floor : Int} {gone : Bool} {S : Nat → Prop} {v : Value} (h : RingP w R l most floor gone S v) : RingP w R l most floor gone (fun k=>S k ∧ k < w.heap.size) v :=
 ⟨h.blk,h.row,h.ents,⟨h.sR,h.blk.lt⟩,fun j e=>⟨h.sv j e,(h.row.lt j e).2⟩,fun k hk j e=>⟨h.se k hk j e,((h.ents k hk).1.lt j e).2⟩,h.up,h.len⟩
theorem RingAt.cap {w : World} {R : Nat} {l : List Kpt} {most floor : Int} {gone : Bool} {S : Nat → Prop} (h : RingAt w R l most floor gone S) : RingAt w R l most floor gone (fun k=>S k ∧ k < w.heap.size):=by
 obtain ⟨v,h⟩:=h;exact ⟨v,h.cap⟩
theorem StAt.cap {w : World} {T R : Nat} {l : List Kpt} {most floor : Int} {gone : Bool} {S : Nat → Prop} (h : StAt w T R l most floor gone S) : StAt w T R l most floor gone (fun k=>S k ∧ k < w.heap.size):=by
 obtain ⟨⟨cs,hcs,hb⟩,h2,h3⟩:=h
 exact ⟨⟨cs,hcs,hb⟩,h2.cap,⟨h3,hb.lt⟩⟩
theorem StAt.weaken {w : World} {T R : Nat} {l : List Kpt} {most floor : Int} {gone : Bool} {S S' : Nat → Prop} (h : StAt w T R l most floor gone S) (hs : ∀ k,S k → S' k) : StAt w T R l most floor gone S' :=
 ⟨h.blk,h.ring.weaken hs,hs _ h.sT⟩
theorem snS_ents {w : World} {R : Nat} {l : List Kpt} {most floor : Int} {gone : Bool} {S : Nat → Prop} (h : RingAt w R l most floor gone S) {o : Option Kpt} (ho : ∀ k,o = some k → k ∈ l) (hk : ∀ k ∈ l,k.sn.ents.length ≤ 64) :
  ∃ a c,snS o = .slice a (snE o).length c ∧ EntsL w a (snE o) ∧ (a = none → c = 0) ∧ (snE o).length ≤ 64 ∧ (∀ x,a = some x → S x.block) ∧ (snE o).length ≤ c:=by
 obtain ⟨v,hP⟩:=h
 cases o with
 | none =>
  refine ⟨none,0,rfl,?_,fun _=>rfl,by simp [snE],(fun x hx=>by cases hx),Nat.le_refl _⟩
  obtain ⟨a,c,e,h1,_⟩:=(OwnE.nil w 0).ents (by simp)
  cases e
  exact h1
 | some k =>
  have hm:=ho k rfl
  obtain ⟨a,c,e,h1,h2,h3,_⟩:=(hP.ents k hm).1.ents (hP.ents k hm).2
  refine ⟨a,c,e,h1,h2,hk k hm,fun x hx=>?_,h3⟩
  have hs:=hP.se k hm
  have hr:=(hP.ents k hm).1
  obtain ⟨_,⟨e2,_⟩ | ⟨g,cap,cur,e2,_⟩⟩:=hr
  ·rw [show kpS k = Value.slice a k.sn.ents.length c from e] at e2
   injection e2 with e3
   subst e3;cases hx
  ·rw [show kpS k = Value.slice a k.sn.ents.length c from e] at e2
   injection e2 with e3
   subst e3;cases hx
   exact hs _ (by rw [show kpS k = Value.slice (some ⟨g,0,none⟩) k.sn.ents.length c from e];rfl)
theorem getK_mem {l : List Kpt} {key : Int} {k : Kpt} (h : getK l key = some k) : k ∈ l:=by
 unfold getK at h
 split at h
 ·exact List.mem_of_getElem? h
 ·cases h
def BoxI (w1 : World) (t : TypeId) (z u : Array Value) : List Value → World → Prop
 | [],W=>Below w1.heap.size w1 W
 | [v],W=>Below w1.heap.size w1 W ∧ ∃ b,v = .pointer (some ⟨b,0,none⟩) ∧ Blk W b z t ∧ w1.heap.size ≤ b
 | [v,_],W=>Below w1.heap.size w1 W ∧ ∃ b,v = .pointer (some ⟨b,0,none⟩) ∧ Blk W b u t ∧ w1.heap.size ≤ b
 | _,_=>False
theorem BoxI.base {w1 : World} {t : TypeId} {z u : Array Value} : ∀ {b : List Value} {W : World},BoxI w1 t z u b W → CalmI w1 W
 | [],_,h=>h
 | [_],_,h=>h.1
 | [_,_],_,h=>h.1
 | _ :: _ :: _ :: _,_,h=>h.elim
theorem BoxI.below {w1 : World} {t : TypeId} {z u : Array Value} : ∀ {b : List Value} {W W' : World},BoxI w1 t z u b W → Below W.heap.size W W' → BoxI w1 t z u b W'
 | [],_,_,h,hb=>Below.trans h (hb.mono (Below.size h))
 | [_],_,_,⟨h,b,e,hB,hl⟩,hb=>⟨Below.trans h (hb.mono (Below.size h)),b,e,hB.below hb hB.lt,hl⟩
 | [_,_],_,_,⟨h,b,e,hB,hl⟩,hb=>⟨Below.trans h (hb.mono (Below.size h)),b,e,hB.below hb hB.lt,hl⟩
 | _ :: _ :: _ :: _,_,_,h,_=>h.elim
theorem BoxI.new {w1 : World} {t : TypeId} {z u : Array Value} {W : World} (h : BoxI w1 t z u [] W) : BoxI w1 t z u [.pointer (some ⟨W.heap.size,0,none⟩)] (W.alloc (.cells z t)) :=
 ⟨Below.alloc h (Below.size h) _,_,rfl,Blk.new _ _ _,Below.size h⟩
def baseSn (o : Option Kpt) : Sn:=⟨snT o,snM o,snE o⟩
theorem EntsL.only {w w' : World} {a : Option Addr} {es : List Ent} {S : Nat → Prop} (h : EntsL w a es) (ho : Only S w w') (hS : ∀ x,a = some x → ¬ S x.block) : EntsL w' a es:=by
 obtain ⟨h1,h2⟩:=h
 refine ⟨h1,?_⟩
 rcases h2 with h2 | ⟨b,off,e,hl,hc⟩
 ·exact .inl h2
 ·refine .inr ⟨b,off,e,Nat.lt_of_lt_of_le hl ho.size,fun i hi=>?_⟩
  have hh : ∀ o,w'.cell? ⟨b,o,none⟩ = w.cell? ⟨b,o,none⟩:=fun o=>by
   simp only [World.cell?];rw [ho.block b hl (hS _ e)]
  have:=hc i hi
  unfold EntCells at this ⊢
  simp only [hh];exact this
def snpE (l : List Kpt) (most floor : Int) (gone : Bool) (tick base : Int) : Int :=
 if hasK l tick = true then 12 else if staleF l most floor gone tick = true then 13 else if hasK l base = false ∧ 0 ≤ base then 14 else 0
def snapF (l : List Kpt) (most floor : Int) (gone : Bool) (zs : List Int) : Sn × Int :=
 if (grRd zs).2 ≠ 0 then (sn0,(grRd zs).2) else
 if snpE l most floor gone (grRd zs).1.tick (grRd zs).1.base ≠ 0 then (sn0,snpE l most floor gone (grRd zs).1.tick (grRd zs).1.base) else
 ((apF (baseSn (getK l (grRd zs).1.base)) (grRd zs).1).1,if (apF (baseSn (getK l (grRd zs).1.base)) (grRd zs).1).2 = 0 ∧ timelyF l (apF (baseSn (getK l (grRd zs).1.base)) (grRd zs).1).1.tick (apF (baseSn (getK l (grRd zs).1.base)) (grRd zs).1).1.time = false then 16 else (apF (baseSn (getK l (grRd zs).1.base)) (grRd zs).1).2)
structure SnR (w : World) (T R : Nat) (l : List Kpt) (most floor : Int) (gone : Bool) (S : Nat → Prop) (t m : Int) (s : Value) (e : Int) (W : World) : Prop where
 x : Blk W w.heap.size #[.int .i64 t,.int .i64 m,s] 36
 e : Blk W (w.heap.size + 1) #[.int .i64 e] 25
 st : StAt W T R l most floor gone S
 b : Below w.heap.size w W
 sz : w.heap.size + 2 ≤ W.heap.size
 sS : ∀ k,S k → k < w.heap.size
section
variable {w W W' : World} {T R : Nat} {l : List Kpt} {most floor : Int} {gone : Bool} {S : Nat → Prop} {t m e : Int} {s : Value}
theorem SnR.below (h : SnR w T R l most floor gone S t m s e W) (hb : Below W.heap.size W W') : SnR w T R l most floor gone S t m s e W' :=
 ⟨h.x.below hb h.x.lt,h.e.below hb h.e.lt,h.st.below hb,h.b.trans (hb.mono h.b.size),Nat.le_trans h.sz hb.size,h.sS⟩
theorem SnR.refuse (h : SnR w T R l most floor gone S t m s e W) {e' : Int} (he : Blk W' (w.heap.size + 1) #[.int .i64 e'] 25) (ho : Only (fun k=>k = w.heap.size + 1) W W') : SnR w T R l most floor gone S t m s e' W' :=
 ⟨ho.blk h.x (by omega),he,h.st.only ho (fun k hk hh=>by have:=h.sS k hk;omega),h.b.trans (ho.below h.b.size (fun k hk=>by omega)),Nat.le_trans h.sz ho.size,h.sS⟩
theorem SnR.setX (h : SnR w T R l most floor gone S t m s e W) (t' m' : Int) (s' : Value) :
  SnR w T R l most floor gone S t' m' s' e (((W.setCell ⟨w.heap.size,0,none⟩ (.int .i64 t')).setCell ⟨w.heap.size,1,none⟩ (.int .i64 m')).setCell ⟨w.heap.size,2,none⟩ s'):=by
 have h3 : Only (fun k=>k = w.heap.size) W (((W.setCell ⟨w.heap.size,0,none⟩ (.int .i64 t')).setCell ⟨w.heap.size,1,none⟩ (.int .i64 m')).setCell ⟨w.heap.size,2,none⟩ s'):=only3 (Only.refl _ _) (.inl rfl)
 exact ⟨blk3 h.x,h3.blk h.e (by omega),h.st.only h3 (fun k hk hh=>by have:=h.sS k hk;omega),h.b.trans (h3.below h.b.size (fun k hk=>by omega)),Nat.le_trans h.sz h3.size,h.sS⟩
theorem SnR.setE (h : SnR w T R l most floor gone S t m s e W) (e' : Int) : SnR w T R l most floor gone S t m s e' (W.setCell ⟨w.heap.size + 1,0,none⟩ (.int .i64 e')) :=
 h.refuse (by simpa using h.e.set 0 (.int .i64 e')) (Only.setCell (S:=fun k=>k = w.heap.size + 1) (p:=⟨w.heap.size + 1,0,none⟩) (Only.refl _ _) (.inl rfl) _)
theorem SnR.ownX (h : SnR w T R l most floor gone S t m s e W) {base : Nat} {v : Value} {es : List Ent} (ho : OwnE W base v es) (t' m' : Int) (s' : Value) : OwnE (((W.setCell ⟨w.heap.size,0,none⟩ (.int .i64 t')).setCell ⟨w.heap.size,1,none⟩ (.int .i64 m')).setCell ⟨w.heap.size,2,none⟩ s') base v es :=
 ho.only (only3 (S:=fun k=>k = w.heap.size) (Only.refl _ _) (.inl rfl)) (fun j hj hk=>ownsApart ho h.x (by decide) (by rw [hj,hk]))
theorem SnR.ownE (h : SnR w T R l most floor gone S t m s e W) {base : Nat} {v : Value} {es : List Ent} (ho : OwnE W base v es) (e' : Int) : OwnE (W.setCell ⟨w.heap.size + 1,0,none⟩ (.int .i64 e')) base v es :=
 ho.only (Only.setCell (S:=fun k=>k = w.heap.size + 1) (p:=⟨w.heap.size + 1,0,none⟩) (Only.refl _ _) (.inl rfl) _) (fun j hj hk=>ownsApart ho h.e (by decide) (by rw [hj,hk]))
theorem SnR.cells (h : SnR w T R l most floor gone S t m s e W) : (W.cell? ⟨w.heap.size,0,none⟩ = some (.int .i64 t) ∧ W.cell? ⟨w.heap.size,1,none⟩ = some (.int .i64 m) ∧ W.cell? ⟨w.heap.size,2,none⟩ = some s) ∧ W.cell? ⟨w.heap.size + 1,0,none⟩ = some (.int .i64 e) ∧
  (W.frozen? ⟨w.heap.size,0,none⟩ = false ∧ W.frozen? ⟨w.heap.size,1,none⟩ = false ∧ W.frozen? ⟨w.heap.size,2,none⟩ = false) ∧ W.frozen? ⟨w.heap.size + 1,0,none⟩ = false ∧ W.cell? ⟨T,0,none⟩ = some (.pointer (some ⟨R,0,none⟩)):=by
 have h0:=h.x.cell 0
 have h1:=h.x.cell 1
 have h2:=h.x.cell 2
 have h3:=h.e.cell 0
 simp at h0 h1 h2 h3
 exact ⟨⟨h0,h1,h2⟩,h3,⟨h.x.free 0,h.x.free 1,h.x.free 2⟩,h.e.free 0,h.st.cells.1⟩
end
set_option maxHeartbeats 4000000 in
theorem snap_f (T R : Nat) (l : List Kpt) (most floor : Int) (gone : Bool) (S : Nat → Prop) (a : Option Addr) (len cap : Nat) (zs : List Int) (w : World) (h0 : StAt w T R l most floor gone S) (hk64 : ∀ k ∈ l,k.sn.ents.length ≤ 64)
  (hz : BytesAt w a len zs) (hc : a = none → cap = 0) (hlc : len ≤ cap) (hl : (len : Int) ≤ 140737488355000) (hgt : I64 (grRd zs).1.time) :
  Calls Tryz.prog 77 #[.pointer (some ⟨T,0,none⟩),.slice a len cap] w fun e w'=>∃ v,e = .returned (.tuple #[.agg #[.int .i64 (snapF l most floor gone zs).1.tick,.int .i64 (snapF l most floor gone zs).1.time,v],.int .i64 (snapF l most floor gone zs).2]) ∧ OwnE w' w.heap.size v (snapF l most floor gone zs).1.ents ∧ Below w.heap.size w w':=by
 have h:=h0.cap
 generalize hS : (fun k=>S k ∧ k < w.heap.size) = S' at h
 have sS : ∀ k,S' k → k < w.heap.size:=fun k hk=>by rw [← hS] at hk;exact hk.2
 clear hS h0
 have HZ : Hid (snapF l most floor gone zs = if (grRd zs).2 ≠ 0 then (sn0,(grRd zs).2) else
  if snpE l most floor gone (grRd zs).1.tick (grRd zs).1.base ≠ 0 then (sn0,snpE l most floor gone (grRd zs).1.tick (grRd zs).1.base) else
  ((apF (baseSn (getK l (grRd zs).1.base)) (grRd zs).1).1,if (apF (baseSn (getK l (grRd zs).1.base)) (grRd zs).1).2 = 0 ∧ timelyF l (apF (baseSn (getK l (grRd zs).1.base)) (grRd zs).1).1.tick (apF (baseSn (getK l (grRd zs).1.base)) (grRd zs).1).1.time = false then 16 else (apF (baseSn (getK l (grRd zs).1.base)) (grRd zs).1).2)):=Lib.hid rfl
 generalize snapF l most floor gone zs = z at *
 obtain ⟨w0,hw0⟩ : ∃ w0,(w.alloc (.cells #[.int .i64 0,.int .i64 0,.slice none 0 0] 36)).alloc (.cells #[.int .i64 0] 25) = w0:=⟨_,rfl⟩
 have hB0 : Below w.heap.size w w0:=by rw [← hw0];exact ((Below.refl _ _).alloc (Nat.le_refl _) _).alloc (by simp) _
 have H0 : Hid (SnR w T R l most floor gone S' 0 0 (.slice none 0 0) 0 w0):=Lib.hid ⟨by rw [← hw0];exact (Blk.new _ _ _).alloc _,by
  rw [← hw0]
  have:=Blk.new (w.alloc (.cells #[.int .i64 0,.int .i64 0,.slice none 0 0] 36)) #[.int .i64 0] 25
  simpa using this,h.below hB0,hB0,by rw [← hw0];simp,sS⟩
 have rd:=gread_f a len cap zs w0 (hz.below hB0) hc hlc hl
 have ap:=fun (k : Option Kpt) (w : World) (ae : Option Addr) (ecap : Nat) (hE : EntsL w ae (snE k)) (ga : Option Addr) (cap : Nat) (hR : RecsAt w ga (grRd zs).1.recs) (hlE : ((snE k).length : Int) ≤ 140737488355000)=>dapply_f (snT k) (snM k) ae ecap (snE k) (grRd zs).1 ga cap hgt w hE hR hlE
 have HAP:=Lib.hid ap
 have HGT:=Lib.hid hgt
 have HK:=Lib.hid hk64
 clear hz h hB0 sS ap hgt hk64
 generalize (grRd zs).2 = e0 at *
 generalize (grRd zs).1 = g at *
 go_enter Tryz.func77,Tryz.ntmps77
 go_wp2_with fail
 clear hw0
 refine rd.mono ?_
 rintro e w1 ⟨v,rfl,hR,hB1⟩
 clear rd
 obtain ⟨ga,gcap,rfl,_,_⟩:=hR.recs
 have hH1:=H0.out.below hB1
 obtain ⟨v1,hv1⟩ : ∃ v,w1.alloc (.cells #[.int .i64 0,.int .i64 0,.int .i64 0,.slice none 0 0] 39) = v:=⟨_,rfl⟩
 have hBv : Below w1.heap.size w1 v1:=by rw [← hv1];exact (Below.refl _ _).alloc (Nat.le_refl _) _
 have hXv : Blk v1 w1.heap.size #[.int .i64 0,.int .i64 0,.int .i64 0,.slice none 0 0] 39:=by rw [← hv1];exact Blk.new _ _ _
 have f0:=hXv.free 0
 have f1:=hXv.free 1
 have f2:=hXv.free 2
 have f3:=hXv.free 3
 have q0:=hXv.cell 0
 have q1:=hXv.cell 1
 have q2:=hXv.cell 2
 have q3:=hXv.cell 3
 simp at q0 q1 q2 q3
 have hb4 : Below w1.heap.size w1 ((((v1.setCell ⟨w1.heap.size,0,none⟩ (.int .i64 g.tick)).setCell ⟨w1.heap.size,1,none⟩ (.int .i64 g.time)).setCell ⟨w1.heap.size,2,none⟩ (.int .i64 g.base)).setCell ⟨w1.heap.size,3,none⟩ (.slice ga g.recs.length gcap)):=below4 hBv (Nat.le_refl _)
 have hG4:=blk4 (v0:=.int .i64 g.tick) (v1:=.int .i64 g.time) (v2:=.int .i64 g.base) (v3:=.slice ga g.recs.length gcap) hXv
 obtain ⟨u0,hu0⟩ : ∃ u,((((v1.setCell ⟨w1.heap.size,0,none⟩ (.int .i64 g.tick)).setCell ⟨w1.heap.size,1,none⟩ (.int .i64 g.time)).setCell ⟨w1.heap.size,2,none⟩ (.int .i64 g.base)).setCell ⟨w1.heap.size,3,none⟩ (.slice ga g.recs.length gcap)) = u:=⟨_,rfl⟩
 rw [hu0] at hb4 hG4
 have hH4:=hH1.below hb4
 have hR4:=hR.below hb4 (fun j e=>(hR.1.lt j e).2)
 have hszG : w.heap.size + 2 ≤ w1.heap.size:=hH1.sz
 have hw0s : w.heap.size + 2 ≤ w0.heap.size:=H0.out.sz
 obtain ⟨_,p3,_,k3,_⟩:=hH4.cells
 obtain ⟨u1,hu1⟩ : ∃ u,u0.setCell ⟨w.heap.size + 1,0,none⟩ (.int .i64 e0) = u:=⟨_,rfl⟩
 have hO1 : Only (fun k=>k = w.heap.size + 1) u0 u1:=by rw [← hu1];exact Only.setCell (S:=fun k=>k = w.heap.size + 1) (p:=⟨w.heap.size + 1,0,none⟩) (Only.refl _ _) (.inl rfl) _
 have H1 : Hid (SnR w T R l most floor gone S' 0 0 (.slice none 0 0) e0 u1):=Lib.hid (by rw [← hu1];exact hH4.setE e0)
 have G1:=Lib.hid (hO1.blk hG4 (by omega))
 have R1:=Lib.hid (hR4.only hO1 (fun j e=>by have:=(hR.1.lt j e).1;omega))
 have hc5:=H1.out.e.cell 0
 have g0:=G1.out.cell 0
 simp at hc5 g0
 have t0:=H1.out.st.cells.1
 have HN:=Lib.hid (And.intro hszG hw0s)
 clear hBv hXv hR hH1 hB1 hb4 hG4 hH4 hR4 hszG hw0s hO1 H0
 by_cases he0 : e0 = 0
 ·subst he0
  have HZ1 : Hid (z = _):=Lib.hid (HZ.out.trans (if_neg (by simp)))
  clear HZ
  have gt:=fun W h=>rget_f R l most floor gone S' g.tick W h
  rw [snV_eq] at gt
  obtain ⟨sa,sn,sc,hs1⟩:=snS_slice (getK l g.tick)
  rw [hs1] at gt
  have HSNP : Hid (snpE l most floor gone g.tick g.base = if hasK l g.tick = true then 12 else if staleF l most floor gone g.tick = true then 13 else if hasK l g.base = false ∧ 0 ≤ g.base then 14 else 0):=Lib.hid rfl
  generalize snpE l most floor gone g.tick g.base = E3 at *
  generalize hasK l g.tick = th at *
  generalize snT (getK l g.tick) = st at *
  generalize snM (getK l g.tick) = sm at *
  clear hs1
  have HI : Hid (BoxI u1 36 #[.int .i64 0,.int .i64 0,.slice none 0 0] #[.int .i64 st,.int .i64 sm,.slice sa sn sc] [] u1.drew):=Lib.hid (show Below u1.heap.size u1 u1.drew from below_drewN (Below.refl _ _) 1)
  have hE0 : (0 != (0 : Int)) = false:=rfl
  have HB : Hid (BoxI u1 36 #[.int .i64 0,.int .i64 0,.slice none 0 0] #[.int .i64 st,.int .i64 sm,.slice sa sn sc] [] u1.drew):=Lib.hid (show Below u1.heap.size u1 u1.drew from below_drewN (Below.refl _ _) 1)
  have t0:=H1.out.st.cells.1
  have g0:=G1.out.cell 0
  simp at g0
  go_wp2_with fail
  apply wp_region_chain 12 [10,11] (BoxI u1 36 #[.int .i64 0,.int .i64 0,.slice none 0 0] #[.int .i64 st,.int .i64 sm,.slice sa sn sc])
  case hm=>kernel_rfl
  case hB=>kernel_rfl
  case hp=>kernel_rfl
  case hI=>exact HB.out
  simp only [List.take_succ_cons,List.take_zero,List.drop_succ_cons,List.drop_zero]
  repeat (first
   | (apply wpChain_fix;(next=>rfl);(next=>(intro b W hW K hK;have hb:=BoxI.base hW;have y0:=hb.cell t0;have y1:=hb.cell g0; go_simp;first | exact ⟨hW,hK⟩ | exact hK));(next=>exact ⟨_,HB.out⟩);(try go_simp))
   | (apply wpChain_fix;(next=>rfl);(next=>(intro b W hW K hK;have hb:=BoxI.base hW;have y0:=hb.cell t0;have y1:=hb.cell g0; go_simp;first | exact ⟨hW,_,(gt W (H1.out.st.ring.below hb)).mono (fun e w'' h=>⟨h.1,BoxI.below hW h.2⟩),hK⟩ | exact ⟨_,(gt W (H1.out.st.ring.below hb)).mono (fun e w'' h=>⟨h.1,BoxI.below hW h.2⟩),hK⟩));(next=>exact ⟨_,HB.out⟩);(try go_simp)))
  apply wpChain_one (s:=fun _=>True)
  case hk=>rfl
  case hne=>exact ⟨undef,trivial⟩
  case hw=>rfl
  case h =>
   intro W hW
   have HN2:=Lib.hid (BoxI.new hW)
   go_simp
   first | exact HN2.out | exact ⟨trivial,HN2.out⟩
  intro x1 _
  apply wpChain_one (s:=fun _=>True)
  case hk=>rfl
  case hne=>exact ⟨undef,trivial⟩
  case hw=>rfl
  case h =>
   intro W hW
   obtain ⟨hb,bx,rfl,hX,hlx⟩:=hW
   have x0:=hX.cell 0
   have x1:=hX.cell 1
   have x2:=hX.cell 2
   have f0:=hX.free 0
   have f1:=hX.free 1
   have f2:=hX.free 2
   simp at x0 x1 x2
   have HN2:=Lib.hid (show BoxI u1 36 #[.int .i64 0,.int .i64 0,.slice none 0 0] #[.int .i64 st,.int .i64 sm,.slice sa sn sc] [.pointer (some ⟨bx,0,none⟩),undef] (((W.setCell ⟨bx,0,none⟩ (.int .i64 st)).setCell ⟨bx,1,none⟩ (.int .i64 sm)).setCell ⟨bx,2,none⟩ (.slice sa sn sc)) from ⟨below3 hb hlx,bx,rfl,blk3 hX,hlx⟩)
   clear hb hX
   go_simp
   first | exact HN2.out | exact ⟨trivial,HN2.out⟩
  intro x2 _
  refine wpChain_nil ?_
  intro u2 hWC
  obtain ⟨hb,b2,rfl,hX,hlx⟩:=hWC
  have H2:=Lib.hid (H1.out.below hb)
  have G2:=Lib.hid (G1.out.below hb G1.out.lt)
  have R2:=Lib.hid (R1.out.below hb (fun j e=>(R1.out.1.lt j e).2))
  clear hb hX t0 g0 HB
  clear gt
  go_wp2_with fail
  refine (snap1_f th 12 _ (0) u2 H2.out.e).mono ?_
  rintro r u3 ⟨rfl,hE,hO⟩
  have H3:=Lib.hid (H2.out.refuse hE hO)
  have G3:=Lib.hid (hO.blk G2.out (by have:=HN.out;omega))
  have R3:=Lib.hid (R2.out.only hO (fun j e=>by have:=(R2.out.1.lt j e).1;have:=HN.out;omega))
  clear hE hO
  obtain ⟨e1,he1⟩ : ∃ x,(if (0 : Int) = 0 ∧ th = true then (12 : Int) else 0) = x:=⟨_,rfl⟩
  rw [he1] at H3
  have Ke1:=Lib.hid he1
  clear he1
  have g0:=G3.out.cell 0
  simp at g0
  have stl:=stale_f T R l most floor gone S' g.tick u3 H3.out.st
  generalize staleF l most floor gone g.tick = sl at *
  go_wp2_with fail
  refine stl.mono ?_
  rintro e u4 ⟨rfl,hb⟩
  have H4:=Lib.hid (H3.out.below hb)
  have G4:=Lib.hid (G3.out.below hb G3.out.lt)
  have R4:=Lib.hid (R3.out.below hb (fun j e=>(R3.out.1.lt j e).2))
  clear hb stl g0
  go_wp2_with fail
  refine (snap1_f sl 13 _ (e1) u4 H4.out.e).mono ?_
  rintro r u5 ⟨rfl,hE,hO⟩
  have H5:=Lib.hid (H4.out.refuse hE hO)
  have G5:=Lib.hid (hO.blk G4.out (by have:=HN.out;omega))
  have R5:=Lib.hid (R4.out.only hO (fun j e=>by have:=(R4.out.1.lt j e).1;have:=HN.out;omega))
  clear hE hO
  obtain ⟨e2,he2⟩ : ∃ x,(if (e1 : Int) = 0 ∧ sl = true then (13 : Int) else e1) = x:=⟨_,rfl⟩
  rw [he2] at H5
  have Ke2:=Lib.hid he2
  clear he2
  have gt:=fun W h=>rget_f R l most floor gone S' g.base W h
  rw [snV_eq] at gt
  obtain ⟨ba,bc,hs2,hbe,hbc,hbl,hbS,_⟩:=snS_ents H5.out.st.ring (fun k hk=>getK_mem hk) HK.out (o:=getK l g.base)
  have HBE:=Lib.hid (And.intro hbe (And.intro hbl hbS))
  rw [hs2] at gt
  have ap:=fun W hE ga cap hR=>HAP.out (getK l g.base) W ba bc hE ga cap hR (by omega)
  clear hs2 hbe hbc hbl hbS
  unfold baseSn at HZ1
  generalize hasK l g.base = hbv at *
  generalize snT (getK l g.base) = bt at *
  generalize snM (getK l g.base) = bm at *
  generalize hbes : snE (getK l g.base) = bes at *
  clear hbes HAP HGT
  have HB : Hid (BoxI u5 36 #[.int .i64 0,.int .i64 0,.slice none 0 0] #[.int .i64 bt,.int .i64 bm,.slice ba bes.length bc] [] u5.drew):=Lib.hid (show Below u5.heap.size u5 u5.drew from below_drewN (Below.refl _ _) 1)
  have t0:=H5.out.st.cells.1
  have g0:=G5.out.cell 2
  simp at g0
  go_wp2_with fail
  apply wp_region_chain 12 [10,11] (BoxI u5 36 #[.int .i64 0,.int .i64 0,.slice none 0 0] #[.int .i64 bt,.int .i64 bm,.slice ba bes.length bc])
  case hm=>kernel_rfl
  case hB=>kernel_rfl
  case hp=>kernel_rfl
  case hI=>exact HB.out
  simp only [List.take_succ_cons,List.take_zero,List.drop_succ_cons,List.drop_zero]
  repeat (first
   | (apply wpChain_fix;(next=>rfl);(next=>(intro b W hW K hK;have hb:=BoxI.base hW;have y0:=hb.cell t0;have y1:=hb.cell g0; go_simp;first | exact ⟨hW,hK⟩ | exact hK));(next=>exact ⟨_,HB.out⟩);(try go_simp))
   | (apply wpChain_fix;(next=>rfl);(next=>(intro b W hW K hK;have hb:=BoxI.base hW;have y0:=hb.cell t0;have y1:=hb.cell g0; go_simp;first | exact ⟨hW,_,(gt W (H5.out.st.ring.below hb)).mono (fun e w'' h=>⟨h.1,BoxI.below hW h.2⟩),hK⟩ | exact ⟨_,(gt W (H5.out.st.ring.below hb)).mono (fun e w'' h=>⟨h.1,BoxI.below hW h.2⟩),hK⟩));(next=>exact ⟨_,HB.out⟩);(try go_simp)))
  apply wpChain_one (s:=fun _=>True)
  case hk=>rfl
  case hne=>exact ⟨undef,trivial⟩
  case hw=>rfl
  case h =>
   intro W hW
   have HN2:=Lib.hid (BoxI.new hW)
   go_simp
   first | exact HN2.out | exact ⟨trivial,HN2.out⟩
  intro x1 _
  apply wpChain_one (s:=fun _=>True)
  case hk=>rfl
  case hne=>exact ⟨undef,trivial⟩
  case hw=>rfl
  case h =>
   intro W hW
   obtain ⟨hb,bx,rfl,hX,hlx⟩:=hW
   have x0:=hX.cell 0
   have x1:=hX.cell 1
   have x2:=hX.cell 2
   have f0:=hX.free 0
   have f1:=hX.free 1
   have f2:=hX.free 2
   simp at x0 x1 x2
   have HN2:=Lib.hid (show BoxI u5 36 #[.int .i64 0,.int .i64 0,.slice none 0 0] #[.int .i64 bt,.int .i64 bm,.slice ba bes.length bc] [.pointer (some ⟨bx,0,none⟩),undef] (((W.setCell ⟨bx,0,none⟩ (.int .i64 bt)).setCell ⟨bx,1,none⟩ (.int .i64 bm)).setCell ⟨bx,2,none⟩ (.slice ba bes.length bc)) from ⟨below3 hb hlx,bx,rfl,blk3 hX,hlx⟩)
   clear hb hX
   go_simp
   first | exact HN2.out | exact ⟨trivial,HN2.out⟩
  intro x2 _
  refine wpChain_nil ?_
  intro u6 hWC
  obtain ⟨hb,b6,rfl,hX,hlx⟩:=hWC
  have H6:=Lib.hid (H5.out.below hb)
  have G6:=Lib.hid (G5.out.below hb G5.out.lt)
  have R6:=Lib.hid (R5.out.below hb (fun j e=>(R5.out.1.lt j e).2))
  have B6:=Lib.hid hX
  have BL6:=Lib.hid hlx
  have B56:=Lib.hid (show Below u5.heap.size u5 u6 from hb)
  clear hb hX t0 g0 HB
  clear gt
  have BE6:=Lib.hid (HBE.out.1.below B56.out)
  cases hbv
  ·by_cases hb0 : 0 ≤ g.base
   ·have g2:=G6.out.cell 2
    simp at g2
    go_wp2_with fail
    refine (snap1_f true 14 _ (e2) u6 H6.out.e).mono ?_
    rintro r u7 ⟨rfl,hE,hO⟩
    have H7:=Lib.hid (H6.out.refuse hE hO)
    have G7:=Lib.hid (hO.blk G6.out (by have:=HN.out;omega))
    have R7:=Lib.hid (R6.out.only hO (fun j e=>by have:=(R6.out.1.lt j e).1;have:=HN.out;omega))
    have B7:=Lib.hid (hO.blk B6.out (by have:=BL6.out;have:=H5.out.sz;omega))
    have BE7:=Lib.hid (EntsL.only BE6.out hO (fun x hx hh=>by have:=H5.out.sS _ (HBE.out.2.2 x hx);omega))
    clear hE hO
    obtain ⟨e3,he3⟩ : ∃ x,(if (e2 : Int) = 0 ∧ true = true then (14 : Int) else e2) = x:=⟨_,rfl⟩
    rw [he3] at H7
    have Ke3:=Lib.hid he3
    clear he3
    have HE3 : Hid (e3 = E3):=Lib.hid (by rw [HSNP.out,← Ke3.out,← Ke2.out,← Ke1.out];cases th <;> cases sl <;> simp [hb0])
    clear HSNP Ke1 Ke2 Ke3
    obtain ⟨⟨x0,x1,x2⟩,ec,⟨f0,f1,f2⟩,fe,t0⟩:=H7.out.cells
    by_cases h3 : e3 = 0
    ·subst h3
     have HZ2:=Lib.hid (HZ1.out.trans (if_neg (by rw [← HE3.out];simp)))
     clear HZ1 HE3
     obtain ⟨gb0,gb1,gb2,gb3⟩ : u7.cell? ⟨w1.heap.size,0,none⟩ = some (.int .i64 g.tick) ∧ u7.cell? ⟨w1.heap.size,1,none⟩ = some (.int .i64 g.time) ∧ u7.cell? ⟨w1.heap.size,2,none⟩ = some (.int .i64 g.base) ∧ u7.cell? ⟨w1.heap.size,3,none⟩ = some (.slice ga g.recs.length gcap):=by
      have e0:=G7.out.cell 0
      have e1:=G7.out.cell 1
      have e2:=G7.out.cell 2
      have e3:=G7.out.cell 3
      simp at e0 e1 e2 e3
      exact ⟨e0,e1,e2,e3⟩
     have k0:=B7.out.cell 0
     have k1:=B7.out.cell 1
     have k2:=B7.out.cell 2
     simp at k0 k1 k2
     have hap : Calls Tryz.prog 117 #[.agg #[.int .i64 bt,.int .i64 bm,.slice ba bes.length bc],.agg #[.int .i64 g.tick,.int .i64 g.time,.int .i64 g.base,.slice ga g.recs.length gcap]] u7 _:=ap u7 BE7.out ga gcap (by
      obtain ⟨ga',gc',e,hh,_⟩:=R7.out.recs
      cases e
      exact hh)
     generalize apF ⟨bt,bm,bes⟩ g = y at *
     go_wp2_with fail
     refine hap.mono ?_
     rintro e u8 ⟨v,rfl,hOw,hb⟩
     obtain ⟨va,vc,rfl,_⟩:=hOw.slice
     have hH8:=H7.out.below hb
     obtain ⟨⟨z0,z1,z2⟩,zc,⟨zf0,zf1,zf2⟩,zfe,_⟩:=hH8.cells
     have hsz8:=H7.out.sz
     obtain ⟨u9,hu9⟩ : ∃ u,((u8.setCell ⟨w.heap.size,0,none⟩ (.int .i64 y.1.tick)).setCell ⟨w.heap.size,1,none⟩ (.int .i64 y.1.time)).setCell ⟨w.heap.size,2,none⟩ (.slice va y.1.ents.length vc) = u:=⟨_,rfl⟩
     have hH9:=hH8.setX y.1.tick y.1.time (.slice va y.1.ents.length vc)
     have hO9:=hH8.ownX (OwnE.base hOw (show w.heap.size ≤ u7.heap.size by omega)) y.1.tick y.1.time (.slice va y.1.ents.length vc)
     rw [hu9] at hH9 hO9
     obtain ⟨_,yc,_,yfe,_⟩:=hH9.cells
     obtain ⟨u10,hu10⟩ : ∃ u,u9.setCell ⟨w.heap.size + 1,0,none⟩ (.int .i64 y.2) = u:=⟨_,rfl⟩
     have hH10:=hH9.setE y.2
     have hO10:=hH9.ownE hO9 y.2
     rw [hu10] at hH10 hO10
     have H10:=Lib.hid hH10
     have O10:=Lib.hid hO10
     obtain ⟨⟨x0,x1,x2⟩,ec,⟨f0,f1,f2⟩,fe,t0⟩:=hH10.cells
     have tm:=timely_f T R l most floor gone S' y.1.tick y.1.time (.slice va y.1.ents.length vc) u10 hH10.st
     generalize timelyF l y.1.tick y.1.time = tv at *
     clear hap hOw hb hH8 hH9 hO9 hH10 hO10 gb0 gb1 gb2 gb3 k0 k1 k2 ap
     go_wp2_with fail
     clear hu9 hu10 z0 z1 z2 zc zf0 zf1 zf2 zfe yc yfe
     refine tm.mono ?_
     rintro e u11 ⟨rfl,hb⟩
     have H11:=Lib.hid (H10.out.below hb)
     have O11:=Lib.hid (OwnE.below O10.out hb)
     clear hb tm x0 x1 x2 ec f0 f1 f2 fe t0
     go_wp2_with fail
     refine (snap1_f (!tv) 16 _ y.2 u11 H11.out.e).mono ?_
     rintro r u12 ⟨rfl,hE,hO⟩
     have H12:=Lib.hid (H11.out.refuse hE hO)
     have O12:=Lib.hid (OwnE.only O11.out hO (fun j hj hk=>ownsApart O11.out H11.out.e (by decide) (by rw [hj,hk])))
     clear hE hO
     obtain ⟨e5,he5⟩ : ∃ x,(if (y.2 : Int) = 0 ∧ (!tv) = true then (16 : Int) else y.2) = x:=⟨_,rfl⟩
     rw [he5] at H12
     have HV : Hid (z = (y.1,e5)):=Lib.hid (by rw [HZ2.out,← he5];cases tv <;> simp)
     clear he5 HZ2
     have HI : Hid (SnR w T R l most floor gone S' (y.1.tick) (y.1.time) (.slice va y.1.ents.length vc) (e5) u12.drew ∧ OwnE u12.drew w.heap.size (.slice va y.1.ents.length vc) (y.1.ents)):=Lib.hid ⟨H12.out.below (below_drewN (Below.refl _ _) 1),OwnE.below O12.out (below_drewN (Below.refl _ _) 1)⟩
     go_wp2_with fail
     apply wp_region_calmI (I:=(fun W=>SnR w T R l most floor gone S' (y.1.tick) (y.1.time) (.slice va y.1.ents.length vc) (e5) W ∧ OwnE W w.heap.size (.slice va y.1.ents.length vc) (y.1.ents))) 3
     case hm=>kernel_rfl
     case hB=>kernel_rfl
     case hI=>exact HI.out
     simp only [List.take_succ_cons,List.take_zero,List.drop_succ_cons,List.drop_zero]
     repeat (apply wpCalm_step;(next=>(intro W hW K hK;obtain ⟨⟨x0,x1,x2⟩,ec,⟨f0,f1,f2⟩,fe,t0⟩:=SnR.cells hW.1;have HX:=Lib.hid (And.intro (SnR.setX hW.1 (y.1.tick) (y.1.time) (.slice va y.1.ents.length vc)) (SnR.ownX hW.1 hW.2 (y.1.tick) (y.1.time) (.slice va y.1.ents.length vc)));go_simp;first | exact ⟨hW,hK⟩ | exact ⟨HX.out,hK⟩ | exact hK));(next=>exact ⟨_,HI.out⟩);(try go_simp))
     refine wpCalm_nil ?_
     intro WZ hWZ hWO
     obtain ⟨⟨x0,x1,x2⟩,ec,⟨f0,f1,f2⟩,fe,t0⟩:=SnR.cells hWZ
     have HY:=Lib.hid (SnR.setE hWZ (e5))
     have HYO:=Lib.hid (SnR.ownE hWZ hWO (e5))
     obtain ⟨⟨y0,y1,y2⟩,yc,_⟩:=SnR.cells HY.out
     clear hWZ hWO
     go_wp2_with fail
     exact bodyPost_ret (v:=.tuple #[.agg #[.int .i64 (y.1.tick),.int .i64 (y.1.time),.slice va y.1.ents.length vc],.int .i64 (e5)]) (by simp [results,Tryz.results77,go_sem,y0,y1,y2,yc,x0,x1,x2,ec]) rfl ⟨_,by rw [HV.out],by rw [HV.out];exact HYO.out,HY.out.b⟩
    ·have h3n : (e3 == 0) = false:=by simpa using h3
     have HV : Hid (z = (sn0,e3)):=Lib.hid (by rw [HZ1.out,← HE3.out,if_pos (by simpa using h3)])
     clear HZ1 HE3 ap
     have tm:=timely_f T R l most floor gone S' 0 0 (.slice none 0 0) u7 H7.out.st
     generalize timelyF l 0 0 = tv at *
     go_wp2_with fail
     refine tm.mono ?_
     rintro e u8 ⟨rfl,hb⟩
     have H8:=Lib.hid (H7.out.below hb)
     clear hb tm x0 x1 x2 ec f0 f1 f2 fe t0
     go_wp2_with fail
     refine (snap1_f (!tv) 16 _ e3 u8 H8.out.e).mono ?_
     rintro r u9 ⟨rfl,hE,hO⟩
     have H9:=Lib.hid (H8.out.refuse hE hO)
     clear hE hO
     rw [if_neg (by simp [h3])] at H9
     have HI : Hid (SnR w T R l most floor gone S' (0) (0) (.slice none 0 0) (e3) u9.drew ∧ OwnE u9.drew w.heap.size (.slice none 0 0) ([])):=Lib.hid ⟨H9.out.below (below_drewN (Below.refl _ _) 1),OwnE.nil _ _⟩
     go_wp2_with fail
     apply wp_region_calmI (I:=(fun W=>SnR w T R l most floor gone S' (0) (0) (.slice none 0 0) (e3) W ∧ OwnE W w.heap.size (.slice none 0 0) ([]))) 3
     case hm=>kernel_rfl
     case hB=>kernel_rfl
     case hI=>exact HI.out
     simp only [List.take_succ_cons,List.take_zero,List.drop_succ_cons,List.drop_zero]
     repeat (apply wpCalm_step;(next=>(intro W hW K hK;obtain ⟨⟨x0,x1,x2⟩,ec,⟨f0,f1,f2⟩,fe,t0⟩:=SnR.cells hW.1;have HX:=Lib.hid (And.intro (SnR.setX hW.1 (0) (0) (.slice none 0 0)) (SnR.ownX hW.1 hW.2 (0) (0) (.slice none 0 0)));go_simp;first | exact ⟨hW,hK⟩ | exact ⟨HX.out,hK⟩ | exact hK));(next=>exact ⟨_,HI.out⟩);(try go_simp))
     refine wpCalm_nil ?_
     intro WZ hWZ hWO
     obtain ⟨⟨x0,x1,x2⟩,ec,⟨f0,f1,f2⟩,fe,t0⟩:=SnR.cells hWZ
     have HY:=Lib.hid (SnR.setE hWZ (e3))
     have HYO:=Lib.hid (SnR.ownE hWZ hWO (e3))
     obtain ⟨⟨y0,y1,y2⟩,yc,_⟩:=SnR.cells HY.out
     clear hWZ hWO
     go_wp2_with fail
     exact bodyPost_ret (v:=.tuple #[.agg #[.int .i64 (0),.int .i64 (0),.slice none 0 0],.int .i64 (e3)]) (by simp [results,Tryz.results77,go_sem,y0,y1,y2,yc,x0,x1,x2,ec]) rfl ⟨.slice none 0 0,by rw [HV.out];rfl,by rw [HV.out];exact OwnE.nil _ _,HY.out.b⟩
   ·have g2:=G6.out.cell 2
    simp at g2
    have hb1 : ¬ g.base ≥ 0:=hb0
    go_wp2_with fail
    refine (snap1_f false 14 _ (e2) u6 H6.out.e).mono ?_
    rintro r u7 ⟨rfl,hE,hO⟩
    have H7:=Lib.hid (H6.out.refuse hE hO)
    have G7:=Lib.hid (hO.blk G6.out (by have:=HN.out;omega))
    have R7:=Lib.hid (R6.out.only hO (fun j e=>by have:=(R6.out.1.lt j e).1;have:=HN.out;omega))
    have B7:=Lib.hid (hO.blk B6.out (by have:=BL6.out;have:=H5.out.sz;omega))
    have BE7:=Lib.hid (EntsL.only BE6.out hO (fun x hx hh=>by have:=H5.out.sS _ (HBE.out.2.2 x hx);omega))
    clear hE hO
    obtain ⟨e3,he3⟩ : ∃ x,(if (e2 : Int) = 0 ∧ false = true then (14 : Int) else e2) = x:=⟨_,rfl⟩
    rw [he3] at H7
    have Ke3:=Lib.hid he3
    clear he3
    have HE3 : Hid (e3 = E3):=Lib.hid (by rw [HSNP.out,← Ke3.out,← Ke2.out,← Ke1.out];cases th <;> cases sl <;> simp [hb0])
    clear HSNP Ke1 Ke2 Ke3
    obtain ⟨⟨x0,x1,x2⟩,ec,⟨f0,f1,f2⟩,fe,t0⟩:=H7.out.cells
    by_cases h3 : e3 = 0
    ·subst h3
     have HZ2:=Lib.hid (HZ1.out.trans (if_neg (by rw [← HE3.out];simp)))
     clear HZ1 HE3
     obtain ⟨gb0,gb1,gb2,gb3⟩ : u7.cell? ⟨w1.heap.size,0,none⟩ = some (.int .i64 g.tick) ∧ u7.cell? ⟨w1.heap.size,1,none⟩ = some (.int .i64 g.time) ∧ u7.cell? ⟨w1.heap.size,2,none⟩ = some (.int .i64 g.base) ∧ u7.cell? ⟨w1.heap.size,3,none⟩ = some (.slice ga g.recs.length gcap):=by
      have e0:=G7.out.cell 0
      have e1:=G7.out.cell 1
      have e2:=G7.out.cell 2
      have e3:=G7.out.cell 3
      simp at e0 e1 e2 e3
      exact ⟨e0,e1,e2,e3⟩
     have k0:=B7.out.cell 0
     have k1:=B7.out.cell 1
     have k2:=B7.out.cell 2
     simp at k0 k1 k2
     have hap : Calls Tryz.prog 117 #[.agg #[.int .i64 bt,.int .i64 bm,.slice ba bes.length bc],.agg #[.int .i64 g.tick,.int .i64 g.time,.int .i64 g.base,.slice ga g.recs.length gcap]] u7 _:=ap u7 BE7.out ga gcap (by
      obtain ⟨ga',gc',e,hh,_⟩:=R7.out.recs
      cases e
      exact hh)
     generalize apF ⟨bt,bm,bes⟩ g = y at *
     go_wp2_with fail
     refine hap.mono ?_
     rintro e u8 ⟨v,rfl,hOw,hb⟩
     obtain ⟨va,vc,rfl,_⟩:=hOw.slice
     have hH8:=H7.out.below hb
     obtain ⟨⟨z0,z1,z2⟩,zc,⟨zf0,zf1,zf2⟩,zfe,_⟩:=hH8.cells
     have hsz8:=H7.out.sz
     obtain ⟨u9,hu9⟩ : ∃ u,((u8.setCell ⟨w.heap.size,0,none⟩ (.int .i64 y.1.tick)).setCell ⟨w.heap.size,1,none⟩ (.int .i64 y.1.time)).setCell ⟨w.heap.size,2,none⟩ (.slice va y.1.ents.length vc) = u:=⟨_,rfl⟩
     have hH9:=hH8.setX y.1.tick y.1.time (.slice va y.1.ents.length vc)
     have hO9:=hH8.ownX (OwnE.base hOw (show w.heap.size ≤ u7.heap.size by omega)) y.1.tick y.1.time (.slice va y.1.ents.length vc)
     rw [hu9] at hH9 hO9
     obtain ⟨_,yc,_,yfe,_⟩:=hH9.cells
     obtain ⟨u10,hu10⟩ : ∃ u,u9.setCell ⟨w.heap.size + 1,0,none⟩ (.int .i64 y.2) = u:=⟨_,rfl⟩
     have hH10:=hH9.setE y.2
     have hO10:=hH9.ownE hO9 y.2
     rw [hu10] at hH10 hO10
     have H10:=Lib.hid hH10
     have O10:=Lib.hid hO10
     obtain ⟨⟨x0,x1,x2⟩,ec,⟨f0,f1,f2⟩,fe,t0⟩:=hH10.cells
     have tm:=timely_f T R l most floor gone S' y.1.tick y.1.time (.slice va y.1.ents.length vc) u10 hH10.st
     generalize timelyF l y.1.tick y.1.time = tv at *
     clear hap hOw hb hH8 hH9 hO9 hH10 hO10 gb0 gb1 gb2 gb3 k0 k1 k2 ap
     go_wp2_with fail
     clear hu9 hu10 z0 z1 z2 zc zf0 zf1 zf2 zfe yc yfe
     refine tm.mono ?_
     rintro e u11 ⟨rfl,hb⟩
     have H11:=Lib.hid (H10.out.below hb)
     have O11:=Lib.hid (OwnE.below O10.out hb)
     clear hb tm x0 x1 x2 ec f0 f1 f2 fe t0
     go_wp2_with fail
     refine (snap1_f (!tv) 16 _ y.2 u11 H11.out.e).mono ?_
     rintro r u12 ⟨rfl,hE,hO⟩
     have H12:=Lib.hid (H11.out.refuse hE hO)
     have O12:=Lib.hid (OwnE.only O11.out hO (fun j hj hk=>ownsApart O11.out H11.out.e (by decide) (by rw [hj,hk])))
     clear hE hO
     obtain ⟨e5,he5⟩ : ∃ x,(if (y.2 : Int) = 0 ∧ (!tv) = true then (16 : Int) else y.2) = x:=⟨_,rfl⟩
     rw [he5] at H12
     have HV : Hid (z = (y.1,e5)):=Lib.hid (by rw [HZ2.out,← he5];cases tv <;> simp)
     clear he5 HZ2
     have HI : Hid (SnR w T R l most floor gone S' (y.1.tick) (y.1.time) (.slice va y.1.ents.length vc) (e5) u12.drew ∧ OwnE u12.drew w.heap.size (.slice va y.1.ents.length vc) (y.1.ents)):=Lib.hid ⟨H12.out.below (below_drewN (Below.refl _ _) 1),OwnE.below O12.out (below_drewN (Below.refl _ _) 1)⟩
     go_wp2_with fail
     apply wp_region_calmI (I:=(fun W=>SnR w T R l most floor gone S' (y.1.tick) (y.1.time) (.slice va y.1.ents.length vc) (e5) W ∧ OwnE W w.heap.size (.slice va y.1.ents.length vc) (y.1.ents))) 3
     case hm=>kernel_rfl
     case hB=>kernel_rfl
     case hI=>exact HI.out
     simp only [List.take_succ_cons,List.take_zero,List.drop_succ_cons,List.drop_zero]
     repeat (apply wpCalm_step;(next=>(intro W hW K hK;obtain ⟨⟨x0,x1,x2⟩,ec,⟨f0,f1,f2⟩,fe,t0⟩:=SnR.cells hW.1;have HX:=Lib.hid (And.intro (SnR.setX hW.1 (y.1.tick) (y.1.time) (.slice va y.1.ents.length vc)) (SnR.ownX hW.1 hW.2 (y.1.tick) (y.1.time) (.slice va y.1.ents.length vc)));go_simp;first | exact ⟨hW,hK⟩ | exact ⟨HX.out,hK⟩ | exact hK));(next=>exact ⟨_,HI.out⟩);(try go_simp))
     refine wpCalm_nil ?_
     intro WZ hWZ hWO
     obtain ⟨⟨x0,x1,x2⟩,ec,⟨f0,f1,f2⟩,fe,t0⟩:=SnR.cells hWZ
     have HY:=Lib.hid (SnR.setE hWZ (e5))
     have HYO:=Lib.hid (SnR.ownE hWZ hWO (e5))
     obtain ⟨⟨y0,y1,y2⟩,yc,_⟩:=SnR.cells HY.out
     clear hWZ hWO
     go_wp2_with fail
     exact bodyPost_ret (v:=.tuple #[.agg #[.int .i64 (y.1.tick),.int .i64 (y.1.time),.slice va y.1.ents.length vc],.int .i64 (e5)]) (by simp [results,Tryz.results77,go_sem,y0,y1,y2,yc,x0,x1,x2,ec]) rfl ⟨_,by rw [HV.out],by rw [HV.out];exact HYO.out,HY.out.b⟩
    ·have h3n : (e3 == 0) = false:=by simpa using h3
     have HV : Hid (z = (sn0,e3)):=Lib.hid (by rw [HZ1.out,← HE3.out,if_pos (by simpa using h3)])
     clear HZ1 HE3 ap
     have tm:=timely_f T R l most floor gone S' 0 0 (.slice none 0 0) u7 H7.out.st
     generalize timelyF l 0 0 = tv at *
     go_wp2_with fail
     refine tm.mono ?_
     rintro e u8 ⟨rfl,hb⟩
     have H8:=Lib.hid (H7.out.below hb)
     clear hb tm x0 x1 x2 ec f0 f1 f2 fe t0
     go_wp2_with fail
     refine (snap1_f (!tv) 16 _ e3 u8 H8.out.e).mono ?_
     rintro r u9 ⟨rfl,hE,hO⟩
     have H9:=Lib.hid (H8.out.refuse hE hO)
     clear hE hO
     rw [if_neg (by simp [h3])] at H9
     have HI : Hid (SnR w T R l most floor gone S' (0) (0) (.slice none 0 0) (e3) u9.drew ∧ OwnE u9.drew w.heap.size (.slice none 0 0) ([])):=Lib.hid ⟨H9.out.below (below_drewN (Below.refl _ _) 1),OwnE.nil _ _⟩
     go_wp2_with fail
     apply wp_region_calmI (I:=(fun W=>SnR w T R l most floor gone S' (0) (0) (.slice none 0 0) (e3) W ∧ OwnE W w.heap.size (.slice none 0 0) ([]))) 3
     case hm=>kernel_rfl
     case hB=>kernel_rfl
     case hI=>exact HI.out
     simp only [List.take_succ_cons,List.take_zero,List.drop_succ_cons,List.drop_zero]
     repeat (apply wpCalm_step;(next=>(intro W hW K hK;obtain ⟨⟨x0,x1,x2⟩,ec,⟨f0,f1,f2⟩,fe,t0⟩:=SnR.cells hW.1;have HX:=Lib.hid (And.intro (SnR.setX hW.1 (0) (0) (.slice none 0 0)) (SnR.ownX hW.1 hW.2 (0) (0) (.slice none 0 0)));go_simp;first | exact ⟨hW,hK⟩ | exact ⟨HX.out,hK⟩ | exact hK));(next=>exact ⟨_,HI.out⟩);(try go_simp))
     refine wpCalm_nil ?_
     intro WZ hWZ hWO
     obtain ⟨⟨x0,x1,x2⟩,ec,⟨f0,f1,f2⟩,fe,t0⟩:=SnR.cells hWZ
     have HY:=Lib.hid (SnR.setE hWZ (e3))
     have HYO:=Lib.hid (SnR.ownE hWZ hWO (e3))
     obtain ⟨⟨y0,y1,y2⟩,yc,_⟩:=SnR.cells HY.out
     clear hWZ hWO
     go_wp2_with fail
     exact bodyPost_ret (v:=.tuple #[.agg #[.int .i64 (0),.int .i64 (0),.slice none 0 0],.int .i64 (e3)]) (by simp [results,Tryz.results77,go_sem,y0,y1,y2,yc,x0,x1,x2,ec]) rfl ⟨.slice none 0 0,by rw [HV.out];rfl,by rw [HV.out];exact OwnE.nil _ _,HY.out.b⟩
  ·go_wp2_with fail
   refine (snap1_f false 14 _ (e2) u6 H6.out.e).mono ?_
   rintro r u7 ⟨rfl,hE,hO⟩
   have H7:=Lib.hid (H6.out.refuse hE hO)
   have G7:=Lib.hid (hO.blk G6.out (by have:=HN.out;omega))
   have R7:=Lib.hid (R6.out.only hO (fun j e=>by have:=(R6.out.1.lt j e).1;have:=HN.out;omega))
   have B7:=Lib.hid (hO.blk B6.out (by have:=BL6.out;have:=H5.out.sz;omega))
   have BE7:=Lib.hid (EntsL.only BE6.out hO (fun x hx hh=>by have:=H5.out.sS _ (HBE.out.2.2 x hx);omega))
   clear hE hO
   obtain ⟨e3,he3⟩ : ∃ x,(if (e2 : Int) = 0 ∧ false = true then (14 : Int) else e2) = x:=⟨_,rfl⟩
   rw [he3] at H7
   have Ke3:=Lib.hid he3
   clear he3
   have HE3 : Hid (e3 = E3):=Lib.hid (by rw [HSNP.out,← Ke3.out,← Ke2.out,← Ke1.out];cases th <;> cases sl <;> simp)
   clear HSNP Ke1 Ke2 Ke3
   obtain ⟨⟨x0,x1,x2⟩,ec,⟨f0,f1,f2⟩,fe,t0⟩:=H7.out.cells
   by_cases h3 : e3 = 0
   ·subst h3
    have HZ2:=Lib.hid (HZ1.out.trans (if_neg (by rw [← HE3.out];simp)))
    clear HZ1 HE3
    obtain ⟨gb0,gb1,gb2,gb3⟩ : u7.cell? ⟨w1.heap.size,0,none⟩ = some (.int .i64 g.tick) ∧ u7.cell? ⟨w1.heap.size,1,none⟩ = some (.int .i64 g.time) ∧ u7.cell? ⟨w1.heap.size,2,none⟩ = some (.int .i64 g.base) ∧ u7.cell? ⟨w1.heap.size,3,none⟩ = some (.slice ga g.recs.length gcap):=by
     have e0:=G7.out.cell 0
     have e1:=G7.out.cell 1
     have e2:=G7.out.cell 2
     have e3:=G7.out.cell 3
     simp at e0 e1 e2 e3
     exact ⟨e0,e1,e2,e3⟩
    have k0:=B7.out.cell 0
    have k1:=B7.out.cell 1
    have k2:=B7.out.cell 2
    simp at k0 k1 k2
    have hap : Calls Tryz.prog 117 #[.agg #[.int .i64 bt,.int .i64 bm,.slice ba bes.length bc],.agg #[.int .i64 g.tick,.int .i64 g.time,.int .i64 g.base,.slice ga g.recs.length gcap]] u7 _:=ap u7 BE7.out ga gcap (by
     obtain ⟨ga',gc',e,hh,_⟩:=R7.out.recs
     cases e
     exact hh)
    generalize apF ⟨bt,bm,bes⟩ g = y at *
    go_wp2_with fail
    refine hap.mono ?_
    rintro e u8 ⟨v,rfl,hOw,hb⟩
    obtain ⟨va,vc,rfl,_⟩:=hOw.slice
    have hH8:=H7.out.below hb
    obtain ⟨⟨z0,z1,z2⟩,zc,⟨zf0,zf1,zf2⟩,zfe,_⟩:=hH8.cells
    have hsz8:=H7.out.sz
    obtain ⟨u9,hu9⟩ : ∃ u,((u8.setCell ⟨w.heap.size,0,none⟩ (.int .i64 y.1.tick)).setCell ⟨w.heap.size,1,none⟩ (.int .i64 y.1.time)).setCell ⟨w.heap.size,2,none⟩ (.slice va y.1.ents.length vc) = u:=⟨_,rfl⟩
    have hH9:=hH8.setX y.1.tick y.1.time (.slice va y.1.ents.length vc)
    have hO9:=hH8.ownX (OwnE.base hOw (show w.heap.size ≤ u7.heap.size by omega)) y.1.tick y.1.time (.slice va y.1.ents.length vc)
    rw [hu9] at hH9 hO9
    obtain ⟨_,yc,_,yfe,_⟩:=hH9.cells
    obtain ⟨u10,hu10⟩ : ∃ u,u9.setCell ⟨w.heap.size + 1,0,none⟩ (.int .i64 y.2) = u:=⟨_,rfl⟩
    have hH10:=hH9.setE y.2
    have hO10:=hH9.ownE hO9 y.2
    rw [hu10] at hH10 hO10
    have H10:=Lib.hid hH10
    have O10:=Lib.hid hO10
    obtain ⟨⟨x0,x1,x2⟩,ec,⟨f0,f1,f2⟩,fe,t0⟩:=hH10.cells
    have tm:=timely_f T R l most floor gone S' y.1.tick y.1.time (.slice va y.1.ents.length vc) u10 hH10.st
    generalize timelyF l y.1.tick y.1.time = tv at *
    clear hap hOw hb hH8 hH9 hO9 hH10 hO10 gb0 gb1 gb2 gb3 k0 k1 k2 ap
    go_wp2_with fail
    clear hu9 hu10 z0 z1 z2 zc zf0 zf1 zf2 zfe yc yfe
    refine tm.mono ?_
    rintro e u11 ⟨rfl,hb⟩
    have H11:=Lib.hid (H10.out.below hb)
    have O11:=Lib.hid (OwnE.below O10.out hb)
    clear hb tm x0 x1 x2 ec f0 f1 f2 fe t0
    go_wp2_with fail
    refine (snap1_f (!tv) 16 _ y.2 u11 H11.out.e).mono ?_
    rintro r u12 ⟨rfl,hE,hO⟩
    have H12:=Lib.hid (H11.out.refuse hE hO)
    have O12:=Lib.hid (OwnE.only O11.out hO (fun j hj hk=>ownsApart O11.out H11.out.e (by decide) (by rw [hj,hk])))
    clear hE hO
    obtain ⟨e5,he5⟩ : ∃ x,(if (y.2 : Int) = 0 ∧ (!tv) = true then (16 : Int) else y.2) = x:=⟨_,rfl⟩
    rw [he5] at H12
    have HV : Hid (z = (y.1,e5)):=Lib.hid (by rw [HZ2.out,← he5];cases tv <;> simp)
    clear he5 HZ2
    have HI : Hid (SnR w T R l most floor gone S' (y.1.tick) (y.1.time) (.slice va y.1.ents.length vc) (e5) u12.drew ∧ OwnE u12.drew w.heap.size (.slice va y.1.ents.length vc) (y.1.ents)):=Lib.hid ⟨H12.out.below (below_drewN (Below.refl _ _) 1),OwnE.below O12.out (below_drewN (Below.refl _ _) 1)⟩
    go_wp2_with fail
    apply wp_region_calmI (I:=(fun W=>SnR w T R l most floor gone S' (y.1.tick) (y.1.time) (.slice va y.1.ents.length vc) (e5) W ∧ OwnE W w.heap.size (.slice va y.1.ents.length vc) (y.1.ents))) 3
    case hm=>kernel_rfl
    case hB=>kernel_rfl
    case hI=>exact HI.out
    simp only [List.take_succ_cons,List.take_zero,List.drop_succ_cons,List.drop_zero]
    repeat (apply wpCalm_step;(next=>(intro W hW K hK;obtain ⟨⟨x0,x1,x2⟩,ec,⟨f0,f1,f2⟩,fe,t0⟩:=SnR.cells hW.1;have HX:=Lib.hid (And.intro (SnR.setX hW.1 (y.1.tick) (y.1.time) (.slice va y.1.ents.length vc)) (SnR.ownX hW.1 hW.2 (y.1.tick) (y.1.time) (.slice va y.1.ents.length vc)));go_simp;first | exact ⟨hW,hK⟩ | exact ⟨HX.out,hK⟩ | exact hK));(next=>exact ⟨_,HI.out⟩);(try go_simp))
    refine wpCalm_nil ?_
    intro WZ hWZ hWO
    obtain ⟨⟨x0,x1,x2⟩,ec,⟨f0,f1,f2⟩,fe,t0⟩:=SnR.cells hWZ
    have HY:=Lib.hid (SnR.setE hWZ (e5))
    have HYO:=Lib.hid (SnR.ownE hWZ hWO (e5))
    obtain ⟨⟨y0,y1,y2⟩,yc,_⟩:=SnR.cells HY.out
    clear hWZ hWO
    go_wp2_with fail
    exact bodyPost_ret (v:=.tuple #[.agg #[.int .i64 (y.1.tick),.int .i64 (y.1.time),.slice va y.1.ents.length vc],.int .i64 (e5)]) (by simp [results,Tryz.results77,go_sem,y0,y1,y2,yc,x0,x1,x2,ec]) rfl ⟨_,by rw [HV.out],by rw [HV.out];exact HYO.out,HY.out.b⟩
   ·have h3n : (e3 == 0) = false:=by simpa using h3
    have HV : Hid (z = (sn0,e3)):=Lib.hid (by rw [HZ1.out,← HE3.out,if_pos (by simpa using h3)])
    clear HZ1 HE3 ap
    have tm:=timely_f T R l most floor gone S' 0 0 (.slice none 0 0) u7 H7.out.st
    generalize timelyF l 0 0 = tv at *
    go_wp2_with fail
    refine tm.mono ?_
    rintro e u8 ⟨rfl,hb⟩
    have H8:=Lib.hid (H7.out.below hb)
    clear hb tm x0 x1 x2 ec f0 f1 f2 fe t0
    go_wp2_with fail
    refine (snap1_f (!tv) 16 _ e3 u8 H8.out.e).mono ?_
    rintro r u9 ⟨rfl,hE,hO⟩
    have H9:=Lib.hid (H8.out.refuse hE hO)
    clear hE hO
    rw [if_neg (by simp [h3])] at H9
    have HI : Hid (SnR w T R l most floor gone S' (0) (0) (.slice none 0 0) (e3) u9.drew ∧ OwnE u9.drew w.heap.size (.slice none 0 0) ([])):=Lib.hid ⟨H9.out.below (below_drewN (Below.refl _ _) 1),OwnE.nil _ _⟩
    go_wp2_with fail
    apply wp_region_calmI (I:=(fun W=>SnR w T R l most floor gone S' (0) (0) (.slice none 0 0) (e3) W ∧ OwnE W w.heap.size (.slice none 0 0) ([]))) 3
    case hm=>kernel_rfl
    case hB=>kernel_rfl
    case hI=>exact HI.out
    simp only [List.take_succ_cons,List.take_zero,List.drop_succ_cons,List.drop_zero]
    repeat (apply wpCalm_step;(next=>(intro W hW K hK;obtain ⟨⟨x0,x1,x2⟩,ec,⟨f0,f1,f2⟩,fe,t0⟩:=SnR.cells hW.1;have HX:=Lib.hid (And.intro (SnR.setX hW.1 (0) (0) (.slice none 0 0)) (SnR.ownX hW.1 hW.2 (0) (0) (.slice none 0 0)));go_simp;first | exact ⟨hW,hK⟩ | exact ⟨HX.out,hK⟩ | exact hK));(next=>exact ⟨_,HI.out⟩);(try go_simp))
    refine wpCalm_nil ?_
    intro WZ hWZ hWO
    obtain ⟨⟨x0,x1,x2⟩,ec,⟨f0,f1,f2⟩,fe,t0⟩:=SnR.cells hWZ
    have HY:=Lib.hid (SnR.setE hWZ (e3))
    have HYO:=Lib.hid (SnR.ownE hWZ hWO (e3))
    obtain ⟨⟨y0,y1,y2⟩,yc,_⟩:=SnR.cells HY.out
    clear hWZ hWO
    go_wp2_with fail
    exact bodyPost_ret (v:=.tuple #[.agg #[.int .i64 (0),.int .i64 (0),.slice none 0 0],.int .i64 (e3)]) (by simp [results,Tryz.results77,go_sem,y0,y1,y2,yc,x0,x1,x2,ec]) rfl ⟨.slice none 0 0,by rw [HV.out];rfl,by rw [HV.out];exact OwnE.nil _ _,HY.out.b⟩
 ·have hne : (e0 != 0) = true:=by simpa using he0
  obtain rfl : z = (sn0,e0):=by rw [HZ.out,if_pos he0]
  have HI : Hid (SnR w T R l most floor gone S' (0) (0) (.slice none 0 0) (e0) u1.drew ∧ OwnE u1.drew w.heap.size (.slice none 0 0) ([])):=Lib.hid ⟨H1.out.below (below_drewN (Below.refl _ _) 1),OwnE.nil _ _⟩
  go_wp2_with fail
  apply wp_region_calmI (I:=(fun W=>SnR w T R l most floor gone S' (0) (0) (.slice none 0 0) (e0) W ∧ OwnE W w.heap.size (.slice none 0 0) ([]))) 3
  case hm=>kernel_rfl
  case hB=>kernel_rfl
  case hI=>exact HI.out
  simp only [List.take_succ_cons,List.take_zero,List.drop_succ_cons,List.drop_zero]
  repeat (apply wpCalm_step;(next=>(intro W hW K hK;obtain ⟨⟨x0,x1,x2⟩,ec,⟨f0,f1,f2⟩,fe,t0⟩:=SnR.cells hW.1;have HX:=Lib.hid (And.intro (SnR.setX hW.1 (0) (0) (.slice none 0 0)) (SnR.ownX hW.1 hW.2 (0) (0) (.slice none 0 0)));go_simp;first | exact ⟨hW,hK⟩ | exact ⟨HX.out,hK⟩ | exact hK));(next=>exact ⟨_,HI.out⟩);(try go_simp))
  refine wpCalm_nil ?_
  intro WZ hWZ hWO
  obtain ⟨⟨x0,x1,x2⟩,ec,⟨f0,f1,f2⟩,fe,t0⟩:=SnR.cells hWZ
  have HY:=Lib.hid (SnR.setE hWZ (e0))
  have HYO:=Lib.hid (SnR.ownE hWZ hWO (e0))
  obtain ⟨⟨y0,y1,y2⟩,yc,_⟩:=SnR.cells HY.out
  clear hWZ hWO
  go_wp2_with fail
  exact bodyPost_ret (v:=.tuple #[.agg #[.int .i64 (0),.int .i64 (0),.slice none 0 0],.int .i64 (e0)]) (by simp [results,Tryz.results77,go_sem,y0,y1,y2,yc,x0,x1,x2,ec]) rfl ⟨.slice none 0 0,rfl,OwnE.nil _ _,HY.out.b⟩
end Go.Proofs.YtklkooeimkedgaaGreat
