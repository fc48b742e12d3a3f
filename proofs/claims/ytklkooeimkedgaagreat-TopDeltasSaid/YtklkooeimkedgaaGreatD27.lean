/- Walk of TopDeltas. -/
import Derived.Test.YtklkooeimkedgaaGreatD25
import Derived.Test.YtklkooeimkedgaaGreatD26
set_option linter.unusedVariables false
set_option linter.unusedSimpArgs false
namespace Go.Proofs.YtklkooeimkedgaaGreat
open Go.RowKit
set_option maxRecDepth 8000
theorem Rq (num den : Int) (h : jg num den = false) (w : World) :
 Calls Tryz.prog 251 #[.int .i64 num,.int .i64 den] w λe w'=>e = .returned (.tuple #[.int .i64 0,.int .i64 3]) /\ w = w':=by
 have hc:=Gy num den
 rw [show rG num den = 3 by unfold rG;rw [h];rfl] at hc
 clear h
 go_enter Tryz.func251,Tryz.ntmps251
 go_wp2_with fail
 refine (hc _).mono ?_;rintro e w' ⟨rfl,rfl⟩
 go_wp2
 go_ret2
 exact ⟨rfl,rfl⟩
theorem adE (a0 a1 a2 b0 b1 b2 num den : Int) (h : jg num den = false) (w : World) :
 Calls Tryz.prog 256 #[v3 a0 a1 a2,v3 b0 b1 b2,.int .i64 num,.int .i64 den] w λe w'=>e = .returned (.tuple #[v3 0 0 0,.int .i64 3]) /\ Below w.heap.size w w':=by
 have c:=Rq num den h;clear h
 go_enter Tryz.func256,Tryz.ntmps256
 go_wp2_with fail
 refine (c _).mono ?_;rintro e w' ⟨rfl,rfl⟩
 go_wp2
 exact bodyPost_ret (v:=.tuple #[v3 0 0 0,.int .i64 3]) (by simp [results,Tryz.results256,go_sem]) rfl ⟨rfl,by (repeat (first | exact Below.refl _ _ | assumption | (refine Below.drew ?_) | (refine below_drewN ?_ _) | (refine Below.alloc ?_ (by simp <;> omega) _) | (refine Below.setCell ?_ (by simp <;> omega) _)))⟩
set_option maxHeartbeats 1000000 in
theorem YD (a0 a1 a2 b0 b1 b2 num den : Int) (h0 : aA a0) (h1 : aA a1) (h2 : aA a2) (k0 : aA b0) (k1 : aA b1) (k2 : aA b2) (h : jg num den = true) (w : World) :
 Calls Tryz.prog 256 #[v3 a0 a1 a2,v3 b0 b1 b2,.int .i64 num,.int .i64 den] w λe w'=>e = .returned (.tuple #[v3 (dx a0 b0 num den) (dx a1 b1 num den) (dx a2 b2 num den),.int .i64 0]) /\ Below w.heap.size w w':=by
 have c:=Nk num den h
 have d:=λbn bd w hn hd=>OY a0 a1 a2 b0 b1 b2 num den h0 h1 h2 k0 k1 k2 h bn bd w hn hd
 generalize dx a0 b0 num den = r0 at *
 generalize dx a1 b1 num den = r1 at *
 generalize dx a2 b2 num den = r2 at *
 clear h0 h1 h2 k0 k1 k2 h
 go_enter Tryz.func256,Tryz.ntmps256
 go_wp2_with fail
 refine (c _).mono ?_;rintro e w' ⟨rfl,k,rfl⟩
 go_wp2_with fail
 refine (d (w.heap.size + 1 + 1) (w.heap.size + 1 + 1 + 1) _ (by simp [go_sem]) (by simp [go_sem])).mono ?_;rintro e w1 ⟨rfl,hb⟩
 have R:=((ak.new _ _ _).draws k).below hb (by simp)
 have hB : Below w.heap.size w w1:=Below.trans (by (repeat (first | exact Below.refl _ _ | assumption | (refine Below.drew ?_) | (refine below_drewN ?_ _) | (refine Below.alloc ?_ (by simp <;> omega) _) | (refine Below.setCell ?_ (by simp <;> omega) _)))) (hb.mono (by simp <;> omega))
 clear hb
 have q0:=R.cell 0;have q1:=R.cell 1;have q2:=R.cell 2;have f0:=R.free 0;have f1:=R.free 1;have f2:=R.free 2
 simp at q0 q1 q2 f0 f1 f2
 go_wp2
 exact bodyPost_ret (v:=.tuple #[v3 r0 r1 r2,.int .i64 0]) (by simp [results,Tryz.results256,go_sem, *]) rfl ⟨rfl,by (repeat (first | exact Below.refl _ _ | assumption | (refine Below.drew ?_) | (refine below_drewN ?_ _) | (refine Below.alloc ?_ (by simp <;> omega) _) | (refine Below.setCell ?_ (by simp <;> omega) _)))⟩
end Go.Proofs.YtklkooeimkedgaaGreat
