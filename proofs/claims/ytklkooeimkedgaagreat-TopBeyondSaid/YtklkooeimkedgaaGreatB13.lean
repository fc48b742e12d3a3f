/- Walk of TopBeyond. -/
import Derived.BigQuiet
import Derived.Deep.QuietTactic
import Derived.Test.YtklkooeimkedgaaGreatB2
import Derived.Test.YtklkooeimkedgaaGreatB8
import Derived.Test.YtklkooeimkedgaaGreatB12
set_option linter.unusedVariables false
set_option linter.unusedSimpArgs false
namespace Go.Proofs.YtklkooeimkedgaaGreat
open Go.RowKit
set_option maxRecDepth 8000
theorem YU (a0 a1 a2 b0 b1 b2 : Int) (h0 : ay a0) (h1 : ay a1) (h2 : ay a2) (k0 : ay b0) (k1 : ay b1) (k2 : ay b2) (w : World) :
 Calls Tryz.prog 133 #[v3 a0 a1 a2,v3 b0 b1 b2] w λe w'=>e = .returned (v3 (aU a0 b0) (aU a1 b1) (aU a2 b2)) /\ Below w.heap.size w w':=by
 have c:=PV a0 a1 a2 b0 b1 b2 h0 h1 h2 k0 k1 k2;clear h0 h1 h2 k0 k1 k2
 generalize aU a0 b0 = r0 at *
 generalize aU a1 b1 = r1 at *
 generalize aU a2 b2 = r2 at *
 go_enter Tryz.func133,Tryz.ntmps133
 go_wp2_with fail
 refine (c _).mono ?_;rintro e w1 ⟨rfl,hb⟩
 have R:=(ak.new _ _ _).below hb (by simp)
 have hB : Below w.heap.size w w1:=Below.trans (by (repeat (first | exact Below.refl _ _ | assumption | (refine Below.drew ?_) | (refine below_drewN ?_ _) | (refine Below.alloc ?_ (by simp <;> omega) _) | (refine Below.setCell ?_ (by simp <;> omega) _)))) (hb.mono (by simp <;> omega))
 clear hb
 have q0:=R.cell 0;have q1:=R.cell 1;have q2:=R.cell 2;have f0:=R.free 0;have f1:=R.free 1;have f2:=R.free 2
 simp at q0 q1 q2 f0 f1 f2
 go_wp2
 exact bodyPost_ret (v:=v3 r0 r1 r2) (by simp [results,Tryz.results133,go_sem, *]) rfl ⟨rfl,by (repeat (first | exact Below.refl _ _ | assumption | (refine Below.drew ?_) | (refine below_drewN ?_ _) | (refine Below.alloc ?_ (by simp <;> omega) _) | (refine Below.setCell ?_ (by simp <;> omega) _)))⟩
theorem Ua (a0 a1 a2 k : Int) (h0 : ay a0) (h1 : ay a1) (h2 : ay a2) (hk : ay k) (w : World) :
 Calls Tryz.prog 134 #[v3 a0 a1 a2,.int .i64 k] w λe w'=>e = .returned (v3 (aN a0 k) (aN a1 k) (aN a2 k)) /\ Below w.heap.size w w':=by
 have c:=PW a0 a1 a2 k k k h0 h1 h2 hk hk hk;clear h0 h1 h2 hk
 generalize aN a0 k = r0 at *
 generalize aN a1 k = r1 at *
 generalize aN a2 k = r2 at *
 go_enter Tryz.func134,Tryz.ntmps134
 go_wp2_with fail
 refine (c _).mono ?_;rintro e w1 ⟨rfl,hb⟩
 have R:=(ak.new _ _ _).below hb (by simp)
 have hB : Below w.heap.size w w1:=Below.trans (by (repeat (first | exact Below.refl _ _ | assumption | (refine Below.drew ?_) | (refine below_drewN ?_ _) | (refine Below.alloc ?_ (by simp <;> omega) _) | (refine Below.setCell ?_ (by simp <;> omega) _)))) (hb.mono (by simp <;> omega))
 clear hb
 have q0:=R.cell 0;have q1:=R.cell 1;have q2:=R.cell 2;have f0:=R.free 0;have f1:=R.free 1;have f2:=R.free 2
 simp at q0 q1 q2 f0 f1 f2
 go_wp2
 exact bodyPost_ret (v:=v3 r0 r1 r2) (by simp [results,Tryz.results134,go_sem, *]) rfl ⟨rfl,by (repeat (first | exact Below.refl _ _ | assumption | (refine Below.drew ?_) | (refine below_drewN ?_ _) | (refine Below.alloc ?_ (by simp <;> omega) _) | (refine Below.setCell ?_ (by simp <;> omega) _)))⟩
abbrev cB (w : World) (b : Nat) (x y z : Int) : Prop:=ak w b #[.int .i64 x,.int .i64 y,.int .i64 z] 22
theorem bH {w : World} {b : Nat} {x y z : Int} (h : cB w b x y z) : w.cell? ⟨b,0,none⟩ = some (.int .i64 x) /\ w.cell? ⟨b,1,none⟩ = some (.int .i64 y) /\ w.cell? ⟨b,2,none⟩ = some (.int .i64 z):=by
 have h0:=h.cell 0;have h1:=h.cell 1;have h2:=h.cell 2
 simp at h0 h1 h2
 exact ⟨h0,h1,h2⟩
theorem sZ {w : World} {b : Nat} {x y z : Int} (h : cB w b x y z) : w.frozen? ⟨b,0,none⟩ = false /\ w.frozen? ⟨b,1,none⟩ = false /\ w.frozen? ⟨b,2,none⟩ = false:=⟨h.free 0,h.free 1,h.free 2⟩
set_option maxHeartbeats 1000000 in
theorem NC (a0 a1 a2 v0 v1 v2 t : Int) (h0 : ay a0) (h1 : ay a1) (h2 : ay a2) (k0 : ay v0) (k1 : ay v1) (k2 : ay v2) (ht : ay t) (w : World) :
 Calls Tryz.prog 95 #[v3 a0 a1 a2,v3 v0 v1 v2,.int .i64 t] w λe w'=>e = .returned (v3 (aU a0 (aN v0 t)) (aU a1 (aN v1 t)) (aU a2 (aN v2 t))) /\ Below w.heap.size w w':=by
 have c:=Ua v0 v1 v2 t k0 k1 k2 ht;have d:=YU a0 a1 a2 (aN v0 t) (aN v1 t) (aN v2 t) h0 h1 h2 (lQ _ _) (lQ _ _) (lQ _ _);clear h0 h1 h2 k0 k1 k2 ht
 generalize aU a0 (aN v0 t) = r0 at *
 generalize aU a1 (aN v1 t) = r1 at *
 generalize aU a2 (aN v2 t) = r2 at *
 generalize aN v0 t = m0 at *
 generalize aN v1 t = m1 at *
 generalize aN v2 t = m2 at *
 have BA : ∀ w1,Below (w.heap.size + 1 + 1 + 1) (((w.alloc (.cells #[.int .i64 a0,.int .i64 a1,.int .i64 a2] 22)).alloc (.cells #[.int .i64 v0,.int .i64 v1,.int .i64 v2] 22)).alloc (.cells #[.int .i64 0,.int .i64 0,.int .i64 0] 22)) w1 -> cB w1 w.heap.size a0 a1 a2:=λw1 hb =>
  (((ak.new w #[.int .i64 a0,.int .i64 a1,.int .i64 a2] 22).alloc (.cells #[.int .i64 v0,.int .i64 v1,.int .i64 v2] 22)).alloc (.cells #[.int .i64 0,.int .i64 0,.int .i64 0] 22)).below hb (by omega)
 have BR : ∀ w1,Below (w.heap.size + 1 + 1 + 1) (((w.alloc (.cells #[.int .i64 a0,.int .i64 a1,.int .i64 a2] 22)).alloc (.cells #[.int .i64 v0,.int .i64 v1,.int .i64 v2] 22)).alloc (.cells #[.int .i64 0,.int .i64 0,.int .i64 0] 22)) w1 -> cB w1 (w.heap.size + 1 + 1) 0 0 0:=λw1 hb=>by
  have:=(ak.new ((w.alloc (.cells #[.int .i64 a0,.int .i64 a1,.int .i64 a2] 22)).alloc (.cells #[.int .i64 v0,.int .i64 v1,.int .i64 v2] 22)) #[.int .i64 0,.int .i64 0,.int .i64 0] 22).below hb (by simp)
  simpa using this
 have BB : ∀ w1,Below (w.heap.size + 1 + 1 + 1) (((w.alloc (.cells #[.int .i64 a0,.int .i64 a1,.int .i64 a2] 22)).alloc (.cells #[.int .i64 v0,.int .i64 v1,.int .i64 v2] 22)).alloc (.cells #[.int .i64 0,.int .i64 0,.int .i64 0] 22)) w1 -> Below w.heap.size w w1:=λw1 hb =>
  Below.trans (by (repeat (first | exact Below.refl _ _ | assumption | (refine Below.drew ?_) | (refine below_drewN ?_ _) | (refine Below.alloc ?_ (by simp <;> omega) _) | (refine Below.setCell ?_ (by simp <;> omega) _)))) (hb.mono (by omega))
 have HA:=aiS BA;have HR:=aiS BR;have HB:=aiS BB
 clear BA BR BB
 go_enter Tryz.func95,Tryz.ntmps95
 go_wp2_with fail
 go_region_with (first
  | (go_at_call 134;refine (c _).mono ?_;rintro e w1 ⟨rfl,hb⟩;have HB1:=aiS (show Below (w.heap.size + 1 + 1 + 1) (((w.alloc (.cells #[.int .i64 a0,.int .i64 a1,.int .i64 a2] 22)).alloc (.cells #[.int .i64 v0,.int .i64 v1,.int .i64 v2] 22)).alloc (.cells #[.int .i64 0,.int .i64 0,.int .i64 0] 22)) w1 from Below.trans (by (repeat (first | exact Below.refl _ _ | assumption | (refine Below.drew ?_) | (refine below_drewN ?_ _) | (refine Below.alloc ?_ (by simp <;> omega) _) | (refine Below.setCell ?_ (by simp <;> omega) _)))) (hb.mono (by simp <;> omega)));obtain ⟨L6,L8,L9⟩:=bH (HA.out _ HB1.out);clear hb)
  | (go_at_call 133;refine (d _).mono ?_;rintro e w2 ⟨rfl,hb⟩;have HB2:=aiS (show Below (w.heap.size + 1 + 1 + 1) (((w.alloc (.cells #[.int .i64 a0,.int .i64 a1,.int .i64 a2] 22)).alloc (.cells #[.int .i64 v0,.int .i64 v1,.int .i64 v2] 22)).alloc (.cells #[.int .i64 0,.int .i64 0,.int .i64 0] 22)) w2 from HB1.out.trans (hb.mono (by have:=HB1.out.size;simp at this;omega)));obtain ⟨qr0,qr1,qr2⟩:=bH (HR.out _ HB2.out);obtain ⟨fr0,fr1,xu⟩:=sZ (HR.out _ HB2.out);have HB3:=HB.out _ HB2.out;clear hb))
 all_goals go_wp2
 all_goals exact bodyPost_ret (v:=v3 r0 r1 r2) (by simp [results,Tryz.results95,go_sem, *]) rfl ⟨rfl,by (repeat (first | exact Below.refl _ _ | assumption | (refine Below.drew ?_) | (refine below_drewN ?_ _) | (refine Below.alloc ?_ (by simp <;> omega) _) | (refine Below.setCell ?_ (by simp <;> omega) _)))⟩
end Go.Proofs.YtklkooeimkedgaaGreat
