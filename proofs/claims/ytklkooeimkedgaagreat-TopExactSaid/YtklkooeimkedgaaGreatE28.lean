/- Walk of TopExact. -/
import Derived.Test.YtklkooeimkedgaaGreatE26
import Derived.Test.YtklkooeimkedgaaGreatE27
set_option linter.unusedVariables false
set_option linter.unusedSimpArgs false
namespace Go.Proofs.YtklkooeimkedgaaGreat
open Go.RowKit
set_option maxRecDepth 8000
theorem PS (num den : Int) (h : iL num den = false) (w : World) :
 Calls Tryz.prog 251 #[.int .i64 num,.int .i64 den] w λe w'=>e = .returned (.tuple #[.int .i64 0,.int .i64 3]) /\ w = w':=by
 have hc:=FJ num den
 rw [show qJ num den = 3 by unfold qJ;rw [h];rfl] at hc
 clear h
 go_enter Tryz.func251,Tryz.ntmps251
 go_wp2_with fail
 refine (hc _).mono ?_;rintro e w' ⟨rfl,rfl⟩
 go_wp2
 go_ret2
 exact ⟨rfl,rfl⟩
theorem abX (a0 a1 a2 b0 b1 b2 num den : Int) (h : iL num den = false) (w : World) :
 Calls Tryz.prog 256 #[v3 a0 a1 a2,v3 b0 b1 b2,.int .i64 num,.int .i64 den] w λe w'=>e = .returned (.tuple #[v3 0 0 0,.int .i64 3]) /\ Below w.heap.size w w':=by
 have c:=PS num den h;clear h
 go_enter Tryz.func256,Tryz.ntmps256
 go_wp2_with fail
 refine (c _).mono ?_;rintro e w' ⟨rfl,rfl⟩
 go_wp2
 exact bodyPost_ret (v:=.tuple #[v3 0 0 0,.int .i64 3]) (by simp [results,Tryz.results256,go_sem]) rfl ⟨rfl,by (repeat (first | exact Below.refl _ _ | assumption | (refine Below.drew ?_) | (refine below_drewN ?_ _) | (refine Below.alloc ?_ (by simp <;> omega) _) | (refine Below.setCell ?_ (by simp <;> omega) _)))⟩
set_option maxHeartbeats 1000000 in
theorem WQ (a0 a1 a2 b0 b1 b2 num den : Int) (h0 : ay a0) (h1 : ay a1) (h2 : ay a2) (k0 : ay b0) (k1 : ay b1) (k2 : ay b2) (h : iL num den = true) (w : World) :
 Calls Tryz.prog 256 #[v3 a0 a1 a2,v3 b0 b1 b2,.int .i64 num,.int .i64 den] w λe w'=>e = .returned (.tuple #[v3 (cK a0 b0 num den) (cK a1 b1 num den) (cK a2 b2 num den),.int .i64 0]) /\ Below w.heap.size w w':=by
 have c:=LJ num den h
 have d:=λbn bd w hn hd=>Nj a0 a1 a2 b0 b1 b2 num den h0 h1 h2 k0 k1 k2 h bn bd w hn hd
 generalize cK a0 b0 num den = r0 at *
 generalize cK a1 b1 num den = r1 at *
 generalize cK a2 b2 num den = r2 at *
 clear h0 h1 h2 k0 k1 k2 h
 go_enter Tryz.func256,Tryz.ntmps256
 go_wp2_with fail
 refine (c _).mono ?_;rintro e w' ⟨rfl,k,rfl⟩
 go_wp2_with fail
 refine (d (w.heap.size + 1 + 1) (w.heap.size + 1 + 1 + 1) _ (by simp [go_sem]) (by simp [go_sem])).mono ?_;rintro e w1 ⟨rfl,hb⟩
 have R:=((ak.new _ _ _).draws k).below hb (by simp)
 have hB : Below w.heap.size w w1:=Below.trans (by (repeat (first | exact Below.refl _ _ | assumption | (refine Below.drew ?_) | (refine below_drewN ?_ _) | (refine Below.alloc ?_ (by simp <;> omega) _) | (refine Below.setCell ?_ (by simp <;> omega) _)))) (hb.mono (by simp <;> omega))
 clear hb
 have q0:=R.cell 0;have q1:=R.cell 1;have q2:=R.cell 2;have f0:=R.free 0;have f1:=R.free 1;have f2:=R.free 2
 simp at q0 q1 q2 f0 f1 f2
 go_wp2
 exact bodyPost_ret (v:=.tuple #[v3 r0 r1 r2,.int .i64 0]) (by simp [results,Tryz.results256,go_sem, *]) rfl ⟨rfl,by (repeat (first | exact Below.refl _ _ | assumption | (refine Below.drew ?_) | (refine below_drewN ?_ _) | (refine Below.alloc ?_ (by simp <;> omega) _) | (refine Below.setCell ?_ (by simp <;> omega) _)))⟩
end Go.Proofs.YtklkooeimkedgaaGreat
