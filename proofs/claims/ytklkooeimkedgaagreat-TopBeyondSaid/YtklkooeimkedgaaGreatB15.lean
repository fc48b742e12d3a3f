/- Walk of TopBeyond. -/
import Derived.Test.YtklkooeimkedgaaGreatB13
import Derived.Test.YtklkooeimkedgaaGreatB14
set_option linter.unusedVariables false
set_option linter.unusedSimpArgs false
namespace Go.Proofs.YtklkooeimkedgaaGreat
open Go.RowKit
set_option maxRecDepth 8000
theorem YV (a b c : Bool) (w : World) :
 Calls Tryz.prog 61 #[t3 a b c] w λe w'=>e = .returned (.bool (a && b && c)) /\ w' = w.alloc (.cells #[.bool a,.bool b,.bool c] 121):=by
 cases a <;> cases b <;> cases c
 all_goals
  go_enter Tryz.func61,Tryz.ntmps61
  go_wp2
  go_ret
  exact ⟨rfl,rfl⟩
def vQ (a0 a1 a2 b0 b1 b2 d : Int) : Bool:=decide (0 <= d) && (kP a0 b0 d && kP a1 b1 d && kP a2 b2 d)
set_option maxHeartbeats 1000000 in
theorem Xw (a0 a1 a2 b0 b1 b2 d : Int) (h0 : ay a0) (h1 : ay a1) (h2 : ay a2) (k0 : ay b0) (k1 : ay b1) (k2 : ay b2) (hd : ay d) (w : World) :
 Calls Tryz.prog 31 #[v3 a0 a1 a2,v3 b0 b1 b2,.int .i64 d] w λe w'=>e = .returned (.bool (vQ a0 a1 a2 b0 b1 b2 d)) /\ Below w.heap.size w w':=by
 by_cases d0 : 0 <= d
 ·have HE : Hid (vQ a0 a1 a2 b0 b1 b2 d = (kP a0 b0 d && kP a1 b1 d && kP a2 b2 d)):=aiS (by unfold vQ;rw [decide_eq_true d0,Bool.true_and])
  have c:=λbd w h=>NA a0 a1 a2 b0 b1 b2 d h0 h1 h2 k0 k1 k2 d0 hd.2 bd w h
  generalize kP a0 b0 d = r0 at *
  generalize kP a1 b1 d = r1 at *
  generalize kP a2 b2 d = r2 at *
  have e:=YV r0 r1 r2;have q:=(ak.new ((w.alloc (.cells #[.int .i64 a0,.int .i64 a1,.int .i64 a2] 22)).alloc (.cells #[.int .i64 b0,.int .i64 b1,.int .i64 b2] 22)) #[.int .i64 d] 2).cell 0;simp at q;have c:=c _ _ q;clear h0 h1 h2 k0 k1 k2 hd q
  go_enter Tryz.func31,Tryz.ntmps31
  go_wp2_with fail
  refine c.mono ?_;rintro e w1 ⟨rfl,hb⟩
  have HB : Hid (Below w.heap.size w w1):=aiS (Below.trans (by (repeat (first | exact Below.refl _ _ | assumption | (refine Below.drew ?_) | (refine below_drewN ?_ _) | (refine Below.alloc ?_ (by simp <;> omega) _) | (refine Below.setCell ?_ (by simp <;> omega) _)))) (hb.mono (by simp <;> omega)))
  clear hb c
  go_wp2_with fail
  refine (e _).mono ?_;rintro e w' ⟨rfl,rfl⟩
  go_wp2
  go_ret
  exact ⟨by rw [HE.out];rfl,HB.out.alloc HB.out.size _⟩
 ·have HE : Hid (vQ a0 a1 a2 b0 b1 b2 d = false):=aiS (by unfold vQ;rw [decide_eq_false d0,Bool.false_and])
  clear h0 h1 h2 k0 k1 k2 hd
  go_enter Tryz.func31,Tryz.ntmps31
  go_wp2
  go_ret
  exact ⟨by rw [HE.out];rfl,by (repeat (first | exact Below.refl _ _ | assumption | (refine Below.drew ?_) | (refine below_drewN ?_ _) | (refine Below.alloc ?_ (by simp <;> omega) _) | (refine Below.setCell ?_ (by simp <;> omega) _)))⟩
theorem Qi (num den : Int) (h : iJ num den = false) (w : World) :
 Calls Tryz.prog 251 #[.int .i64 num,.int .i64 den] w λe w'=>e = .returned (.tuple #[.int .i64 0,.int .i64 3]) /\ w = w':=by
 have hc:=FP num den
 rw [show qN num den = 3 by unfold qN;rw [h];rfl] at hc
 clear h
 go_enter Tryz.func251,Tryz.ntmps251
 go_wp2_with fail
 refine (hc _).mono ?_;rintro e w' ⟨rfl,rfl⟩
 go_wp2
 go_ret2
 exact ⟨rfl,rfl⟩
theorem acO (a0 a1 a2 b0 b1 b2 num den : Int) (h : iJ num den = false) (w : World) :
 Calls Tryz.prog 256 #[v3 a0 a1 a2,v3 b0 b1 b2,.int .i64 num,.int .i64 den] w λe w'=>e = .returned (.tuple #[v3 0 0 0,.int .i64 3]) /\ Below w.heap.size w w':=by
 have c:=Qi num den h;clear h
 go_enter Tryz.func256,Tryz.ntmps256
 go_wp2_with fail
 refine (c _).mono ?_;rintro e w' ⟨rfl,rfl⟩
 go_wp2
 exact bodyPost_ret (v:=.tuple #[v3 0 0 0,.int .i64 3]) (by simp [results,Tryz.results256,go_sem]) rfl ⟨rfl,by (repeat (first | exact Below.refl _ _ | assumption | (refine Below.drew ?_) | (refine below_drewN ?_ _) | (refine Below.alloc ?_ (by simp <;> omega) _) | (refine Below.setCell ?_ (by simp <;> omega) _)))⟩
set_option maxHeartbeats 1000000 in
theorem Xx (a0 a1 a2 b0 b1 b2 num den : Int) (h0 : ay a0) (h1 : ay a1) (h2 : ay a2) (k0 : ay b0) (k1 : ay b1) (k2 : ay b2) (h : iJ num den = true) (w : World) :
 Calls Tryz.prog 256 #[v3 a0 a1 a2,v3 b0 b1 b2,.int .i64 num,.int .i64 den] w λe w'=>e = .returned (.tuple #[v3 (cO a0 b0 num den) (cO a1 b1 num den) (cO a2 b2 num den),.int .i64 0]) /\ Below w.heap.size w w':=by
 have c:=LU num den h
 have d:=λbn bd w hn hd=>Nu a0 a1 a2 b0 b1 b2 num den h0 h1 h2 k0 k1 k2 h bn bd w hn hd
 generalize cO a0 b0 num den = r0 at *
 generalize cO a1 b1 num den = r1 at *
 generalize cO a2 b2 num den = r2 at *
 clear h0 h1 h2 k0 k1 k2 h
 go_enter Tryz.func256,Tryz.ntmps256
 go_wp2_with fail
 refine (c _).mono ?_;rintro e w' ⟨rfl,k,rfl⟩
 go_wp2_with fail
 refine (d (w.heap.size + 1 + 1) (w.heap.size + 1 + 1 + 1) _ (by simp [go_sem]) (by simp [go_sem])).mono ?_;rintro e w1 ⟨rfl,hb⟩
 have R:=((ak.new _ _ _).draws k).below hb (by simp)
 have hB : Below w.heap.size w w1:=Below.trans (by (repeat (first | exact Below.refl _ _ | assumption | (refine Below.drew ?_) | (refine below_drewN ?_ _) | (refine Below.alloc ?_ (by simp <;> omega) _) | (refine Below.setCell ?_ (by simp <;> omega) _)))) (hb.mono (by simp <;> omega))
 clear hb
 have q0:=R.cell 0;have q1:=R.cell 1;have q2:=R.cell 2;have f0:=R.free 0;have f1:=R.free 1;have f2:=R.free 2
 simp at q0 q1 q2 f0 f1 f2
 go_wp2
 exact bodyPost_ret (v:=.tuple #[v3 r0 r1 r2,.int .i64 0]) (by simp [results,Tryz.results256,go_sem, *]) rfl ⟨rfl,by (repeat (first | exact Below.refl _ _ | assumption | (refine Below.drew ?_) | (refine below_drewN ?_ _) | (refine Below.alloc ?_ (by simp <;> omega) _) | (refine Below.setCell ?_ (by simp <;> omega) _)))⟩
end Go.Proofs.YtklkooeimkedgaaGreat
