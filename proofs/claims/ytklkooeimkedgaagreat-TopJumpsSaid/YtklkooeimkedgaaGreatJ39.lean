/- Parts of the walk of TopJumps: RDiff. -/
import Derived.Test.YtklkooeimkedgaaGreatJ27
import Derived.Test.YtklkooeimkedgaaGreatJ33
import Derived.Test.YtklkooeimkedgaaGreatJ34
set_option linter.unusedVariables false
set_option linter.unusedSimpArgs false
namespace Go.Proofs.YtklkooeimkedgaaGreat
open Go.RowKit
set_option maxRecDepth 100000
theorem below9r {w0 w : World} {b : Nat} {v0 v1 v2 v3 v4 v5 v6 v7 v8 : Value} (h : Below w0.heap.size w0 w) (hb : w0.heap.size ≤ b) : Below w0.heap.size w0 (((((((((w.setCell ⟨b,0,none⟩ v0).setCell ⟨b,1,none⟩ v1).setCell ⟨b,2,none⟩ v2).setCell ⟨b,3,none⟩ v3).setCell ⟨b,4,none⟩ v4).setCell ⟨b,5,none⟩ v5).setCell ⟨b,6,none⟩ v6).setCell ⟨b,7,none⟩ v7).setCell ⟨b,8,none⟩ v8) :=
 (only9 (S:=fun _=>False) (Only.of_below h) (.inr hb)).below (Nat.le_refl _) (fun _ h=>h.elim)
def sameE (a b : Ent) : Bool:=a.id == b.id && (a.px == b.px && a.py == b.py && a.pz == b.pz) && (a.vx == b.vx && a.vy == b.vy && a.vz == b.vz) && a.ang == b.ang && a.gen == b.gen
def recDiff (a b : Ent) : Rec :=
 if a.gen = b.gen then ⟨1,b.id,IntKind.i64.wrap (b.px - a.px),IntKind.i64.wrap (b.py - a.py),IntKind.i64.wrap (b.pz - a.pz),IntKind.i64.wrap (b.vx - a.vx),IntKind.i64.wrap (b.vy - a.vy),IntKind.i64.wrap (b.vz - a.vz),IntKind.u16.wrap (b.ang - a.ang)⟩
 else ⟨3,b.id,b.px,b.py,b.pz,b.vx,b.vy,b.vz,b.ang⟩
def rec00 : Rec:=⟨0,0,0,0,0,0,0,0,0⟩
def recDif (a b : Ent) : Rec × Bool:=if sameE a b = true then (rec00,false) else (recDiff a b,true)
def DfRel (w : World) (X Y P : Nat) (ea eb : Array Value) (old : Array Value) (cells : List (Array Value)) (k : Nat) (wr : World) : Prop :=
 ∃ q,cells[k]? = some q ∧ Blk wr X q 147 ∧ Blk wr Y old 147 ∧ Blk wr P #[.pointer (some ⟨Y,2,none⟩),.pointer (some ⟨Y,3,none⟩),.pointer (some ⟨Y,4,none⟩),.pointer (some ⟨Y,5,none⟩),.pointer (some ⟨Y,6,none⟩),.pointer (some ⟨Y,7,none⟩)] 197 ∧
  Blk wr w.heap.size ea 33 ∧ Blk wr (w.heap.size + 1) eb 33 ∧ Blk wr (w.heap.size + 2) #[.int .i64 0,.int .i64 0,.int .i64 0,.int .i64 0,.int .i64 0,.int .i64 0,.int .i64 0,.int .i64 0,.int .u16 0] 147 ∧ Below w.heap.size w wr
set_option maxHeartbeats 4000000 in
theorem recdif_f (a b : Ent) (w : World) :
  Calls Tryz.prog 70 #[entV a,entV b] w fun e w'=>e = .returned (.tuple #[recV (recDif a b).1,.bool (recDif a b).2]) ∧ Below w.heap.size w w':=by
 have HZ : Hid (recDif a b = if sameE a b = true then (rec00,false) else (if a.gen = b.gen then ⟨1,b.id,IntKind.i64.wrap (b.px - a.px),IntKind.i64.wrap (b.py - a.py),IntKind.i64.wrap (b.pz - a.pz),IntKind.i64.wrap (b.vx - a.vx),IntKind.i64.wrap (b.vy - a.vy),IntKind.i64.wrap (b.vz - a.vz),IntKind.u16.wrap (b.ang - a.ang)⟩ else ⟨3,b.id,b.px,b.py,b.pz,b.vx,b.vy,b.vz,b.ang⟩,true)):=Lib.hid rfl
 generalize recDif a b = z at *
 have HS : Hid (sameE a b = (a.id == b.id && (a.px == b.px && a.py == b.py && a.pz == b.pz) && (a.vx == b.vx && a.vy == b.vy && a.vz == b.vz) && a.ang == b.ang && a.gen == b.gen)):=Lib.hid rfl
 generalize hsm : sameE a b = sm at *
 obtain ⟨ai,a1,a2,a3,a4,a5,a6,aa,ag⟩:=a
 obtain ⟨bi,b1,b2,b3,b4,b5,b6,ba,bg⟩:=b
 unfold entV
 simp only at *
 have hEq : ∀ W : World,(Op.equalIn 10000 33 (.agg #[.int .i64 ai,.int .i64 a1,.int .i64 a2,.int .i64 a3,.int .i64 a4,.int .i64 a5,.int .i64 a6,.int .u16 aa,.int .u8 ag]) (.agg #[.int .i64 bi,.int .i64 b1,.int .i64 b2,.int .i64 b3,.int .i64 b4,.int .i64 b5,.int .i64 b6,.int .u16 ba,.int .u8 bg])).run Tryz.prog W = .ok sm W:=fun W=>by
  rw [eq_ent,HS.out]
 clear hsm HS
 obtain ⟨w0,hw0⟩ : ∃ w0,(((w.alloc (.cells #[.int .i64 ai,.int .i64 a1,.int .i64 a2,.int .i64 a3,.int .i64 a4,.int .i64 a5,.int .i64 a6,.int .u16 aa,.int .u8 ag] 33)).alloc (.cells #[.int .i64 bi,.int .i64 b1,.int .i64 b2,.int .i64 b3,.int .i64 b4,.int .i64 b5,.int .i64 b6,.int .u16 ba,.int .u8 bg] 33)).alloc (.cells #[.int .i64 0,.int .i64 0,.int .i64 0,.int .i64 0,.int .i64 0,.int .i64 0,.int .i64 0,.int .i64 0,.int .u16 0] 147)) = w0:=⟨_,rfl⟩
 have hA0 : Blk w0 w.heap.size #[.int .i64 ai,.int .i64 a1,.int .i64 a2,.int .i64 a3,.int .i64 a4,.int .i64 a5,.int .i64 a6,.int .u16 aa,.int .u8 ag] 33:=by rw [← hw0];exact ((Blk.new _ _ _).alloc _).alloc _
 have hE0 : Blk w0 (w.heap.size + 1) #[.int .i64 bi,.int .i64 b1,.int .i64 b2,.int .i64 b3,.int .i64 b4,.int .i64 b5,.int .i64 b6,.int .u16 ba,.int .u8 bg] 33:=by
  rw [← hw0]
  have:=(Blk.new (w.alloc (.cells #[.int .i64 ai,.int .i64 a1,.int .i64 a2,.int .i64 a3,.int .i64 a4,.int .i64 a5,.int .i64 a6,.int .u16 aa,.int .u8 ag] 33)) #[.int .i64 bi,.int .i64 b1,.int .i64 b2,.int .i64 b3,.int .i64 b4,.int .i64 b5,.int .i64 b6,.int .u16 ba,.int .u8 bg] 33).alloc (.cells #[.int .i64 0,.int .i64 0,.int .i64 0,.int .i64 0,.int .i64 0,.int .i64 0,.int .i64 0,.int .i64 0,.int .u16 0] 147)
  simpa using this
 have hZ0 : Blk w0 (w.heap.size + 2) #[.int .i64 0,.int .i64 0,.int .i64 0,.int .i64 0,.int .i64 0,.int .i64 0,.int .i64 0,.int .i64 0,.int .u16 0] 147:=by
  rw [← hw0]
  have:=Blk.new ((w.alloc (.cells #[.int .i64 ai,.int .i64 a1,.int .i64 a2,.int .i64 a3,.int .i64 a4,.int .i64 a5,.int .i64 a6,.int .u16 aa,.int .u8 ag] 33)).alloc (.cells #[.int .i64 bi,.int .i64 b1,.int .i64 b2,.int .i64 b3,.int .i64 b4,.int .i64 b5,.int .i64 b6,.int .u16 ba,.int .u8 bg] 33)) #[.int .i64 0,.int .i64 0,.int .i64 0,.int .i64 0,.int .i64 0,.int .i64 0,.int .i64 0,.int .i64 0,.int .u16 0] 147
  simpa using this
 have hB0 : Below w.heap.size w w0:=by rw [← hw0];exact (((Below.refl _ _).alloc (Nat.le_refl _) _).alloc (by simp) _).alloc (by simp;omega) _
 have hs0 : w0.heap.size = w.heap.size + 3:=by rw [← hw0];simp
 have HA0:=Lib.hid hA0
 have HE0:=Lib.hid hE0
 have HZ0:=Lib.hid hZ0
 have HB0:=Lib.hid hB0
 have HS0:=Lib.hid hs0
 have c0:=hA0.cell 0
 have c1:=hA0.cell 1
 have c2:=hA0.cell 2
 have c3:=hA0.cell 3
 have c4:=hA0.cell 4
 have c5:=hA0.cell 5
 have c6:=hA0.cell 6
 have c7:=hA0.cell 7
 have c8:=hA0.cell 8
 simp at c0 c1 c2 c3 c4 c5 c6 c7 c8
 have d0:=hE0.cell 0
 have d1:=hE0.cell 1
 have d2:=hE0.cell 2
 have d3:=hE0.cell 3
 have d4:=hE0.cell 4
 have d5:=hE0.cell 5
 have d6:=hE0.cell 6
 have d7:=hE0.cell 7
 have d8:=hE0.cell 8
 simp at d0 d1 d2 d3 d4 d5 d6 d7 d8
 have z0:=hZ0.cell 0
 have z1:=hZ0.cell 1
 have z2:=hZ0.cell 2
 have z3:=hZ0.cell 3
 have z4:=hZ0.cell 4
 have z5:=hZ0.cell 5
 have z6:=hZ0.cell 6
 have z7:=hZ0.cell 7
 have z8:=hZ0.cell 8
 have y0:=hZ0.free 0
 have y1:=hZ0.free 1
 have y2:=hZ0.free 2
 have y3:=hZ0.free 3
 have y4:=hZ0.free 4
 have y5:=hZ0.free 5
 have y6:=hZ0.free 6
 have y7:=hZ0.free 7
 have y8:=hZ0.free 8
 simp at z0 z1 z2 z3 z4 z5 z6 z7 z8
 clear hA0 hE0 hZ0 hB0 hs0
 cases sm
 ·have HV : Hid (z = (if ag = bg then ⟨1,bi,IntKind.i64.wrap (b1 - a1),IntKind.i64.wrap (b2 - a2),IntKind.i64.wrap (b3 - a3),IntKind.i64.wrap (b4 - a4),IntKind.i64.wrap (b5 - a5),IntKind.i64.wrap (b6 - a6),IntKind.u16.wrap (ba - aa)⟩ else ⟨3,bi,b1,b2,b3,b4,b5,b6,ba⟩,true)):=Lib.hid (by rw [HZ.out,if_neg (by decide)])
  clear HZ
  by_cases hg : ag = bg
  ·have HV2 : Hid (z = (⟨1,bi,IntKind.i64.wrap (b1 - a1),IntKind.i64.wrap (b2 - a2),IntKind.i64.wrap (b3 - a3),IntKind.i64.wrap (b4 - a4),IntKind.i64.wrap (b5 - a5),IntKind.i64.wrap (b6 - a6),IntKind.u16.wrap (ba - aa)⟩,true)):=Lib.hid (by rw [HV.out,if_pos hg])
   clear HV
   have hg2 : (ag == bg) = true:=by simpa using hg
   clear hg
   obtain ⟨n1,hn1⟩ : ∃ x,IntKind.i64.wrap (b1 - a1) = x:=⟨_,rfl⟩
   have hm1 : wrap64 (b1 - a1) = n1:=by rw [← hn1];exact (IntWalk.i64_left _).symm
   obtain ⟨n2,hn2⟩ : ∃ x,IntKind.i64.wrap (b2 - a2) = x:=⟨_,rfl⟩
   have hm2 : wrap64 (b2 - a2) = n2:=by rw [← hn2];exact (IntWalk.i64_left _).symm
   obtain ⟨n3,hn3⟩ : ∃ x,IntKind.i64.wrap (b3 - a3) = x:=⟨_,rfl⟩
   have hm3 : wrap64 (b3 - a3) = n3:=by rw [← hn3];exact (IntWalk.i64_left _).symm
   obtain ⟨n4,hn4⟩ : ∃ x,IntKind.i64.wrap (b4 - a4) = x:=⟨_,rfl⟩
   have hm4 : wrap64 (b4 - a4) = n4:=by rw [← hn4];exact (IntWalk.i64_left _).symm
   obtain ⟨n5,hn5⟩ : ∃ x,IntKind.i64.wrap (b5 - a5) = x:=⟨_,rfl⟩
   have hm5 : wrap64 (b5 - a5) = n5:=by rw [← hn5];exact (IntWalk.i64_left _).symm
   obtain ⟨n6,hn6⟩ : ∃ x,IntKind.i64.wrap (b6 - a6) = x:=⟨_,rfl⟩
   have hm6 : wrap64 (b6 - a6) = n6:=by rw [← hn6];exact (IntWalk.i64_left _).symm
   obtain ⟨n7,hn7⟩ : ∃ x,IntKind.u16.wrap (ba - aa) = x:=⟨_,rfl⟩
   rw [hn1,hn2,hn3,hn4,hn5,hn6,hn7] at HV2
   have HN:=Lib.hid (And.intro hn1 (And.intro hn2 (And.intro hn3 (And.intro hn4 (And.intro hn5 hn6)))))
   have HN7:=Lib.hid hn7
   clear hn1 hn2 hn3 hn4 hn5 hn6 hn7 hm1 hm2 hm3 hm4 hm5 hm6
   obtain ⟨v0,hv0⟩ : ∃ v,w0.alloc (.cells #[.int .i64 3,.int .i64 bi,.int .i64 b1,.int .i64 b2,.int .i64 b3,.int .i64 b4,.int .i64 b5,.int .i64 b6,.int .u16 ba] 147) = v:=⟨_,rfl⟩
   have hXA : Blk v0 w0.heap.size #[.int .i64 3,.int .i64 bi,.int .i64 b1,.int .i64 b2,.int .i64 b3,.int .i64 b4,.int .i64 b5,.int .i64 b6,.int .u16 ba] 147:=by rw [← hv0];exact Blk.new _ _ _
   have hAA : Blk v0 w.heap.size #[.int .i64 ai,.int .i64 a1,.int .i64 a2,.int .i64 a3,.int .i64 a4,.int .i64 a5,.int .i64 a6,.int .u16 aa,.int .u8 ag] 33:=by rw [← hv0];exact HA0.out.alloc _
   have hEE : Blk v0 (w.heap.size + 1) #[.int .i64 bi,.int .i64 b1,.int .i64 b2,.int .i64 b3,.int .i64 b4,.int .i64 b5,.int .i64 b6,.int .u16 ba,.int .u8 bg] 33:=by rw [← hv0];exact HE0.out.alloc _
   have hZZ : Blk v0 (w.heap.size + 2) #[.int .i64 0,.int .i64 0,.int .i64 0,.int .i64 0,.int .i64 0,.int .i64 0,.int .i64 0,.int .i64 0,.int .u16 0] 147:=by rw [← hv0];exact HZ0.out.alloc _
   have hBB : Below w.heap.size w v0:=by rw [← hv0];exact HB0.out.alloc HB0.out.size _
   have hsX : w.heap.size + 3 ≤ w0.heap.size:=by rw [HS0.out];exact Nat.le_refl _
   have hsv : v0.heap.size = w0.heap.size + 1:=by rw [← hv0];simp
   have c0:=hAA.cell 0
   have c1:=hAA.cell 1
   have c2:=hAA.cell 2
   have c3:=hAA.cell 3
   have c4:=hAA.cell 4
   have c5:=hAA.cell 5
   have c6:=hAA.cell 6
   have c7:=hAA.cell 7
   have c8:=hAA.cell 8
   simp at c0 c1 c2 c3 c4 c5 c6 c7 c8
   have d0:=hEE.cell 0
   have d1:=hEE.cell 1
   have d2:=hEE.cell 2
   have d3:=hEE.cell 3
   have d4:=hEE.cell 4
   have d5:=hEE.cell 5
   have d6:=hEE.cell 6
   have d7:=hEE.cell 7
   have d8:=hEE.cell 8
   simp at d0 d1 d2 d3 d4 d5 d6 d7 d8
   have q0:=hXA.cell 0
   have q1:=hXA.cell 1
   have q2:=hXA.cell 2
   have q3:=hXA.cell 3
   have q4:=hXA.cell 4
   have q5:=hXA.cell 5
   have q6:=hXA.cell 6
   have q7:=hXA.cell 7
   have q8:=hXA.cell 8
   have f0:=hXA.free 0
   have f1:=hXA.free 1
   have f2:=hXA.free 2
   have f3:=hXA.free 3
   have f4:=hXA.free 4
   have f5:=hXA.free 5
   have f6:=hXA.free 6
   have f7:=hXA.free 7
   have f8:=hXA.free 8
   simp at q0 q1 q2 q3 q4 q5 q6 q7 q8
   obtain ⟨v1,hv1⟩ : ∃ v,v0.setCell ⟨w0.heap.size,0,none⟩ (.int .i64 1) = v:=⟨_,rfl⟩
   have hX1 : Blk v1 w0.heap.size #[.int .i64 1,.int .i64 bi,.int .i64 b1,.int .i64 b2,.int .i64 b3,.int .i64 b4,.int .i64 b5,.int .i64 b6,.int .u16 ba] 147:=by rw [← hv1];simpa using hXA.set 0 (.int .i64 1)
   have hA1 : Blk v1 w.heap.size #[.int .i64 ai,.int .i64 a1,.int .i64 a2,.int .i64 a3,.int .i64 a4,.int .i64 a5,.int .i64 a6,.int .u16 aa,.int .u8 ag] 33:=by rw [← hv1];exact hAA.far (by show w.heap.size ≠ w0.heap.size;omega) _
   have hE1 : Blk v1 (w.heap.size + 1) #[.int .i64 bi,.int .i64 b1,.int .i64 b2,.int .i64 b3,.int .i64 b4,.int .i64 b5,.int .i64 b6,.int .u16 ba,.int .u8 bg] 33:=by rw [← hv1];exact hEE.far (by show w.heap.size + 1 ≠ w0.heap.size;omega) _
   have hZ1 : Blk v1 (w.heap.size + 2) #[.int .i64 0,.int .i64 0,.int .i64 0,.int .i64 0,.int .i64 0,.int .i64 0,.int .i64 0,.int .i64 0,.int .u16 0] 147:=by rw [← hv1];exact hZZ.far (by show w.heap.size + 2 ≠ w0.heap.size;omega) _
   have hB1 : Below w.heap.size w v1:=by rw [← hv1];exact hBB.setCell (by show w.heap.size ≤ w0.heap.size;omega) _
   have hs1 : v1.heap.size = w0.heap.size + 1:=by rw [← hv1];simpa [World.setCell] using hsv
   have ca1:=hA1.cell 1
   have ca2:=hA1.cell 2
   have ca3:=hA1.cell 3
   have ca4:=hA1.cell 4
   have ca5:=hA1.cell 5
   have ca6:=hA1.cell 6
   simp at ca1 ca2 ca3 ca4 ca5 ca6
   have HX1:=Lib.hid hX1
   have HA1:=Lib.hid hA1
   have HE1:=Lib.hid hE1
   have HZ1:=Lib.hid hZ1
   have HB1:=Lib.hid hB1
   have HSV:=Lib.hid (And.intro hsX hs1)
   have nf:=fun X w=>nums_f X w
   unfold ptrs at nf
   clear hXA hAA hEE hZZ hBB hX1 hA1 hE1 hZ1 hB1 HA0 HE0 HZ0 HB0 hsX hs1 hsv HS0
   go_enter Tryz.func70,Tryz.ntmps70
   go_wp2_with fail
   refine (nf _ _).mono ?_
   rintro e w3 ⟨rfl,hb3⟩
   obtain ⟨v2,hv2⟩ : ∃ v,v1.alloc (.cells #[.int .i64 0,.int .i64 0,.int .i64 a1,.int .i64 a2,.int .i64 a3,.int .i64 a4,.int .i64 a5,.int .i64 a6,.int .u16 0] 147) = v:=⟨_,rfl⟩
   have HY2:=Lib.hid (Blk.new v1 #[.int .i64 0,.int .i64 0,.int .i64 a1,.int .i64 a2,.int .i64 a3,.int .i64 a4,.int .i64 a5,.int .i64 a6,.int .u16 0] 147)
   have HX2:=Lib.hid (HX1.out.alloc (.cells #[.int .i64 0,.int .i64 0,.int .i64 a1,.int .i64 a2,.int .i64 a3,.int .i64 a4,.int .i64 a5,.int .i64 a6,.int .u16 0] 147))
   have HA2:=Lib.hid (HA1.out.alloc (.cells #[.int .i64 0,.int .i64 0,.int .i64 a1,.int .i64 a2,.int .i64 a3,.int .i64 a4,.int .i64 a5,.int .i64 a6,.int .u16 0] 147))
   have HE2:=Lib.hid (HE1.out.alloc (.cells #[.int .i64 0,.int .i64 0,.int .i64 a1,.int .i64 a2,.int .i64 a3,.int .i64 a4,.int .i64 a5,.int .i64 a6,.int .u16 0] 147))
   have HZ2:=Lib.hid (HZ1.out.alloc (.cells #[.int .i64 0,.int .i64 0,.int .i64 a1,.int .i64 a2,.int .i64 a3,.int .i64 a4,.int .i64 a5,.int .i64 a6,.int .u16 0] 147))
   have HB2:=Lib.hid (HB1.out.alloc HB1.out.size (.cells #[.int .i64 0,.int .i64 0,.int .i64 a1,.int .i64 a2,.int .i64 a3,.int .i64 a4,.int .i64 a5,.int .i64 a6,.int .u16 0] 147))
   rw [hv2] at HX2 HA2 HE2 HZ2 HB2 HY2 hb3
   clear hv2
   have hX3:=HX2.out.below hb3 HX2.out.lt
   have hY3:=HY2.out.below hb3 HY2.out.lt
   have hA3:=HA2.out.below hb3 HA2.out.lt
   have hE3:=HE2.out.below hb3 HE2.out.lt
   have hZ3:=HZ2.out.below hb3 HZ2.out.lt
   have hB3:=HB2.out.trans (hb3.mono HB2.out.size)
   obtain ⟨v4,hv4⟩ : ∃ v,w3.alloc (.cells #[.pointer (some ⟨v1.heap.size,2,none⟩),.pointer (some ⟨v1.heap.size,3,none⟩),.pointer (some ⟨v1.heap.size,4,none⟩),.pointer (some ⟨v1.heap.size,5,none⟩),.pointer (some ⟨v1.heap.size,6,none⟩),.pointer (some ⟨v1.heap.size,7,none⟩)] 197) = v:=⟨_,rfl⟩
   have hP4 : Blk v4 w3.heap.size #[.pointer (some ⟨v1.heap.size,2,none⟩),.pointer (some ⟨v1.heap.size,3,none⟩),.pointer (some ⟨v1.heap.size,4,none⟩),.pointer (some ⟨v1.heap.size,5,none⟩),.pointer (some ⟨v1.heap.size,6,none⟩),.pointer (some ⟨v1.heap.size,7,none⟩)] 197:=by rw [← hv4];exact Blk.new _ _ _
   have hs4 : v2.heap.size ≤ w3.heap.size:=hb3.size
   have hX4:=hX3.alloc (.cells #[.pointer (some ⟨v1.heap.size,2,none⟩),.pointer (some ⟨v1.heap.size,3,none⟩),.pointer (some ⟨v1.heap.size,4,none⟩),.pointer (some ⟨v1.heap.size,5,none⟩),.pointer (some ⟨v1.heap.size,6,none⟩),.pointer (some ⟨v1.heap.size,7,none⟩)] 197)
   have hY4:=hY3.alloc (.cells #[.pointer (some ⟨v1.heap.size,2,none⟩),.pointer (some ⟨v1.heap.size,3,none⟩),.pointer (some ⟨v1.heap.size,4,none⟩),.pointer (some ⟨v1.heap.size,5,none⟩),.pointer (some ⟨v1.heap.size,6,none⟩),.pointer (some ⟨v1.heap.size,7,none⟩)] 197)
   have hA4:=hA3.alloc (.cells #[.pointer (some ⟨v1.heap.size,2,none⟩),.pointer (some ⟨v1.heap.size,3,none⟩),.pointer (some ⟨v1.heap.size,4,none⟩),.pointer (some ⟨v1.heap.size,5,none⟩),.pointer (some ⟨v1.heap.size,6,none⟩),.pointer (some ⟨v1.heap.size,7,none⟩)] 197)
   have hE4:=hE3.alloc (.cells #[.pointer (some ⟨v1.heap.size,2,none⟩),.pointer (some ⟨v1.heap.size,3,none⟩),.pointer (some ⟨v1.heap.size,4,none⟩),.pointer (some ⟨v1.heap.size,5,none⟩),.pointer (some ⟨v1.heap.size,6,none⟩),.pointer (some ⟨v1.heap.size,7,none⟩)] 197)
   have hZ4:=hZ3.alloc (.cells #[.pointer (some ⟨v1.heap.size,2,none⟩),.pointer (some ⟨v1.heap.size,3,none⟩),.pointer (some ⟨v1.heap.size,4,none⟩),.pointer (some ⟨v1.heap.size,5,none⟩),.pointer (some ⟨v1.heap.size,6,none⟩),.pointer (some ⟨v1.heap.size,7,none⟩)] 197)
   have hB4:=hB3.alloc hB3.size (.cells #[.pointer (some ⟨v1.heap.size,2,none⟩),.pointer (some ⟨v1.heap.size,3,none⟩),.pointer (some ⟨v1.heap.size,4,none⟩),.pointer (some ⟨v1.heap.size,5,none⟩),.pointer (some ⟨v1.heap.size,6,none⟩),.pointer (some ⟨v1.heap.size,7,none⟩)] 197)
   rw [hv4] at hX4 hY4 hA4 hE4 hZ4 hB4
   have HP4:=Lib.hid hP4
   have HX4:=Lib.hid hX4
   have HY4:=Lib.hid hY4
   have HA4:=Lib.hid hA4
   have HE4:=Lib.hid hE4
   have HZ4:=Lib.hid hZ4
   have HB4:=Lib.hid hB4
   have HLY : Hid (v1.heap.size < v2.heap.size):=Lib.hid HY2.out.lt
   clear hb3 hX3 hY3 hA3 hE3 hZ3 hB3 hP4 hX4 hY4 hA4 hE4 hZ4 hB4 HX2 HY2 HA2 HE2 HZ2 HB2
   go_wp2_with fail
   refine (nf _ _).mono ?_
   rintro e w5 ⟨rfl,hb5⟩
   obtain ⟨cl,hcl⟩ : ∃ c : List (Array Value),c = [#[.int .i64 1,.int .i64 bi,.int .i64 b1,.int .i64 b2,.int .i64 b3,.int .i64 b4,.int .i64 b5,.int .i64 b6,.int .u16 ba],#[.int .i64 1,.int .i64 bi,.int .i64 n1,.int .i64 b2,.int .i64 b3,.int .i64 b4,.int .i64 b5,.int .i64 b6,.int .u16 ba],#[.int .i64 1,.int .i64 bi,.int .i64 n1,.int .i64 n2,.int .i64 b3,.int .i64 b4,.int .i64 b5,.int .i64 b6,.int .u16 ba],#[.int .i64 1,.int .i64 bi,.int .i64 n1,.int .i64 n2,.int .i64 n3,.int .i64 b4,.int .i64 b5,.int .i64 b6,.int .u16 ba],#[.int .i64 1,.int .i64 bi,.int .i64 n1,.int .i64 n2,.int .i64 n3,.int .i64 n4,.int .i64 b5,.int .i64 b6,.int .u16 ba],#[.int .i64 1,.int .i64 bi,.int .i64 n1,.int .i64 n2,.int .i64 n3,.int .i64 n4,.int .i64 n5,.int .i64 b6,.int .u16 ba],#[.int .i64 1,.int .i64 bi,.int .i64 n1,.int .i64 n2,.int .i64 n3,.int .i64 n4,.int .i64 n5,.int .i64 n6,.int .u16 ba]]:=⟨_,rfl⟩
   have HCL:=Lib.hid hcl
   have HST : Hid (DfRel w w0.heap.size v1.heap.size w3.heap.size #[.int .i64 ai,.int .i64 a1,.int .i64 a2,.int .i64 a3,.int .i64 a4,.int .i64 a5,.int .i64 a6,.int .u16 aa,.int .u8 ag] #[.int .i64 bi,.int .i64 b1,.int .i64 b2,.int .i64 b3,.int .i64 b4,.int .i64 b5,.int .i64 b6,.int .u16 ba,.int .u8 bg] #[.int .i64 0,.int .i64 0,.int .i64 a1,.int .i64 a2,.int .i64 a3,.int .i64 a4,.int .i64 a5,.int .i64 a6,.int .u16 0] cl 0 w5):=Lib.hid ⟨_,by rw [hcl];rfl,HX4.out.below hb5 HX4.out.lt,HY4.out.below hb5 HY4.out.lt,HP4.out.below hb5 HP4.out.lt,HA4.out.below hb5 HA4.out.lt,HE4.out.below hb5 HE4.out.lt,HZ4.out.below hb5 HZ4.out.lt,HB4.out.trans (hb5.mono HB4.out.size)⟩
   have HNE : Hid (w.heap.size + 3 ≤ w0.heap.size ∧ w0.heap.size < v1.heap.size ∧ v1.heap.size < w3.heap.size):=Lib.hid ⟨HSV.out.1,by rw [HSV.out.2];omega,by have:=HLY.out;omega⟩
   clear hb5 hcl HX4 HY4 HP4 HA4 HE4 HZ4 HB4 HSV HLY hs4 nf
   generalize w0.heap.size = X at *
   generalize v1.heap.size = Y at *
   generalize w3.heap.size = P at *
   go_wp2_with fail
   go_loopw [37] (fun i wr=>∃ k : Nat,k ≤ 6 ∧ i = .int .i64 k ∧ DfRel w X Y P #[.int .i64 ai,.int .i64 a1,.int .i64 a2,.int .i64 a3,.int .i64 a4,.int .i64 a5,.int .i64 a6,.int .u16 aa,.int .u8 ag] #[.int .i64 bi,.int .i64 b1,.int .i64 b2,.int .i64 b3,.int .i64 b4,.int .i64 b5,.int .i64 b6,.int .u16 ba,.int .u8 bg] #[.int .i64 0,.int .i64 0,.int .i64 a1,.int .i64 a2,.int .i64 a3,.int .i64 a4,.int .i64 a5,.int .i64 a6,.int .u16 0] cl k wr) (fun i _=>6 - (intOf i).toNat)
   case atStart=>exact ⟨0,by omega,rfl,HST.out⟩
   case round =>
    rename_i wr
    obtain ⟨k,hk,rfl,q,hq,hX,hY,hP,hA,hE,hZ,hB⟩:=hrel
    rw [HCL.out] at hq
    obtain ⟨nXa,nXY,nYP⟩:=HNE.out
    rcases (show k = 0 ∨ k = 1 ∨ k = 2 ∨ k = 3 ∨ k = 4 ∨ k = 5 ∨ k = 6 by omega) with rfl | rfl | rfl | rfl | rfl | rfl | rfl
    ·cases hq
     have x0:=hX.cell 2
     have o0:=hY.cell 2
     have p0:=hP.cell 0
     simp at x0 o0 p0
     have HX:=Lib.hid hX
     have HY:=Lib.hid hY
     have HP:=Lib.hid hP
     have HA:=Lib.hid hA
     have HE:=Lib.hid hE
     have HZ:=Lib.hid hZ
     have HB:=Lib.hid hB
     have hn:=HN.out.1
     clear hX hY hP hA hE hZ hB
     go_wp2_with fail
     refine wp_region_calm 10 (by kernel_rfl) (by kernel_rfl) ?_
     simp only [List.take_succ_cons,List.take_zero,List.drop_succ_cons,List.drop_zero]
     repeat (apply wpCalm_step;(next=>(intro W hW K hK;have y0:=hW.cell x0;have y1:=hW.cell o0;have y2:=hW.cell p0;go_simp;first | exact ⟨hW,hK⟩ | exact hK));(next=>exact CalmI.self _);(try go_simp))
     refine wpCalm_nil ?_
     intro WC hWC
     have hWB : Below wr.heap.size wr WC:=hWC
     have hX1:=HX.out.below hWB HX.out.lt
     have f0:=hX1.free 2
     have x1:=hX1.cell 2
     simp at x1
     have HS2 : Hid (DfRel w X Y P #[.int .i64 ai,.int .i64 a1,.int .i64 a2,.int .i64 a3,.int .i64 a4,.int .i64 a5,.int .i64 a6,.int .u16 aa,.int .u8 ag] #[.int .i64 bi,.int .i64 b1,.int .i64 b2,.int .i64 b3,.int .i64 b4,.int .i64 b5,.int .i64 b6,.int .u16 ba,.int .u8 bg] #[.int .i64 0,.int .i64 0,.int .i64 a1,.int .i64 a2,.int .i64 a3,.int .i64 a4,.int .i64 a5,.int .i64 a6,.int .u16 0] cl 1 (WC.setCell ⟨X,2,none⟩ (.int .i64 n1))):=Lib.hid ⟨_,by rw [HCL.out];rfl,by simpa using hX1.set 2 (.int .i64 n1),(HY.out.below hWB HY.out.lt).far (by show Y ≠ X;omega) _,(HP.out.below hWB HP.out.lt).far (by show P ≠ X;omega) _,(HA.out.below hWB HA.out.lt).far (by show w.heap.size ≠ X;omega) _,(HE.out.below hWB HE.out.lt).far (by show w.heap.size + 1 ≠ X;omega) _,(HZ.out.below hWB HZ.out.lt).far (by show w.heap.size + 2 ≠ X;omega) _,(HB.out.trans (hWB.mono HB.out.size)).setCell (by show w.heap.size ≤ X;omega) _⟩
     clear hWC hWB hX1 x0 o0 p0 HX HY HP HA HE HZ HB
     go_wp2
     go_roundw
     case rel=>exact ⟨1,by omega,by first | rfl | go_num,HS2.out⟩
     case measure=>simp [intOf]
    ·cases hq
     have x0:=hX.cell 3
     have o0:=hY.cell 3
     have p0:=hP.cell 1
     simp at x0 o0 p0
     have HX:=Lib.hid hX
     have HY:=Lib.hid hY
     have HP:=Lib.hid hP
     have HA:=Lib.hid hA
     have HE:=Lib.hid hE
     have HZ:=Lib.hid hZ
     have HB:=Lib.hid hB
     have hn:=HN.out.2.1
     clear hX hY hP hA hE hZ hB
     go_wp2_with fail
     refine wp_region_calm 10 (by kernel_rfl) (by kernel_rfl) ?_
     simp only [List.take_succ_cons,List.take_zero,List.drop_succ_cons,List.drop_zero]
     repeat (apply wpCalm_step;(next=>(intro W hW K hK;have y0:=hW.cell x0;have y1:=hW.cell o0;have y2:=hW.cell p0;go_simp;first | exact ⟨hW,hK⟩ | exact hK));(next=>exact CalmI.self _);(try go_simp))
     refine wpCalm_nil ?_
     intro WC hWC
     have hWB : Below wr.heap.size wr WC:=hWC
     have hX1:=HX.out.below hWB HX.out.lt
     have f0:=hX1.free 3
     have x1:=hX1.cell 3
     simp at x1
     have HS2 : Hid (DfRel w X Y P #[.int .i64 ai,.int .i64 a1,.int .i64 a2,.int .i64 a3,.int .i64 a4,.int .i64 a5,.int .i64 a6,.int .u16 aa,.int .u8 ag] #[.int .i64 bi,.int .i64 b1,.int .i64 b2,.int .i64 b3,.int .i64 b4,.int .i64 b5,.int .i64 b6,.int .u16 ba,.int .u8 bg] #[.int .i64 0,.int .i64 0,.int .i64 a1,.int .i64 a2,.int .i64 a3,.int .i64 a4,.int .i64 a5,.int .i64 a6,.int .u16 0] cl 2 (WC.setCell ⟨X,3,none⟩ (.int .i64 n2))):=Lib.hid ⟨_,by rw [HCL.out];rfl,by simpa using hX1.set 3 (.int .i64 n2),(HY.out.below hWB HY.out.lt).far (by show Y ≠ X;omega) _,(HP.out.below hWB HP.out.lt).far (by show P ≠ X;omega) _,(HA.out.below hWB HA.out.lt).far (by show w.heap.size ≠ X;omega) _,(HE.out.below hWB HE.out.lt).far (by show w.heap.size + 1 ≠ X;omega) _,(HZ.out.below hWB HZ.out.lt).far (by show w.heap.size + 2 ≠ X;omega) _,(HB.out.trans (hWB.mono HB.out.size)).setCell (by show w.heap.size ≤ X;omega) _⟩
     clear hWC hWB hX1 x0 o0 p0 HX HY HP HA HE HZ HB
     go_wp2
     go_roundw
     case rel=>exact ⟨2,by omega,by first | rfl | go_num,HS2.out⟩
     case measure=>simp [intOf]
    ·cases hq
     have x0:=hX.cell 4
     have o0:=hY.cell 4
     have p0:=hP.cell 2
     simp at x0 o0 p0
     have HX:=Lib.hid hX
     have HY:=Lib.hid hY
     have HP:=Lib.hid hP
     have HA:=Lib.hid hA
     have HE:=Lib.hid hE
     have HZ:=Lib.hid hZ
     have HB:=Lib.hid hB
     have hn:=HN.out.2.2.1
     clear hX hY hP hA hE hZ hB
     go_wp2_with fail
     refine wp_region_calm 10 (by kernel_rfl) (by kernel_rfl) ?_
     simp only [List.take_succ_cons,List.take_zero,List.drop_succ_cons,List.drop_zero]
     repeat (apply wpCalm_step;(next=>(intro W hW K hK;have y0:=hW.cell x0;have y1:=hW.cell o0;have y2:=hW.cell p0;go_simp;first | exact ⟨hW,hK⟩ | exact hK));(next=>exact CalmI.self _);(try go_simp))
     refine wpCalm_nil ?_
     intro WC hWC
     have hWB : Below wr.heap.size wr WC:=hWC
     have hX1:=HX.out.below hWB HX.out.lt
     have f0:=hX1.free 4
     have x1:=hX1.cell 4
     simp at x1
     have HS2 : Hid (DfRel w X Y P #[.int .i64 ai,.int .i64 a1,.int .i64 a2,.int .i64 a3,.int .i64 a4,.int .i64 a5,.int .i64 a6,.int .u16 aa,.int .u8 ag] #[.int .i64 bi,.int .i64 b1,.int .i64 b2,.int .i64 b3,.int .i64 b4,.int .i64 b5,.int .i64 b6,.int .u16 ba,.int .u8 bg] #[.int .i64 0,.int .i64 0,.int .i64 a1,.int .i64 a2,.int .i64 a3,.int .i64 a4,.int .i64 a5,.int .i64 a6,.int .u16 0] cl 3 (WC.setCell ⟨X,4,none⟩ (.int .i64 n3))):=Lib.hid ⟨_,by rw [HCL.out];rfl,by simpa using hX1.set 4 (.int .i64 n3),(HY.out.below hWB HY.out.lt).far (by show Y ≠ X;omega) _,(HP.out.below hWB HP.out.lt).far (by show P ≠ X;omega) _,(HA.out.below hWB HA.out.lt).far (by show w.heap.size ≠ X;omega) _,(HE.out.below hWB HE.out.lt).far (by show w.heap.size + 1 ≠ X;omega) _,(HZ.out.below hWB HZ.out.lt).far (by show w.heap.size + 2 ≠ X;omega) _,(HB.out.trans (hWB.mono HB.out.size)).setCell (by show w.heap.size ≤ X;omega) _⟩
     clear hWC hWB hX1 x0 o0 p0 HX HY HP HA HE HZ HB
     go_wp2
     go_roundw
     case rel=>exact ⟨3,by omega,by first | rfl | go_num,HS2.out⟩
     case measure=>simp [intOf]
    ·cases hq
     have x0:=hX.cell 5
     have o0:=hY.cell 5
     have p0:=hP.cell 3
     simp at x0 o0 p0
     have HX:=Lib.hid hX
     have HY:=Lib.hid hY
     have HP:=Lib.hid hP
     have HA:=Lib.hid hA
     have HE:=Lib.hid hE
     have HZ:=Lib.hid hZ
     have HB:=Lib.hid hB
     have hn:=HN.out.2.2.2.1
     clear hX hY hP hA hE hZ hB
     go_wp2_with fail
     refine wp_region_calm 10 (by kernel_rfl) (by kernel_rfl) ?_
     simp only [List.take_succ_cons,List.take_zero,List.drop_succ_cons,List.drop_zero]
     repeat (apply wpCalm_step;(next=>(intro W hW K hK;have y0:=hW.cell x0;have y1:=hW.cell o0;have y2:=hW.cell p0;go_simp;first | exact ⟨hW,hK⟩ | exact hK));(next=>exact CalmI.self _);(try go_simp))
     refine wpCalm_nil ?_
     intro WC hWC
     have hWB : Below wr.heap.size wr WC:=hWC
     have hX1:=HX.out.below hWB HX.out.lt
     have f0:=hX1.free 5
     have x1:=hX1.cell 5
     simp at x1
     have HS2 : Hid (DfRel w X Y P #[.int .i64 ai,.int .i64 a1,.int .i64 a2,.int .i64 a3,.int .i64 a4,.int .i64 a5,.int .i64 a6,.int .u16 aa,.int .u8 ag] #[.int .i64 bi,.int .i64 b1,.int .i64 b2,.int .i64 b3,.int .i64 b4,.int .i64 b5,.int .i64 b6,.int .u16 ba,.int .u8 bg] #[.int .i64 0,.int .i64 0,.int .i64 a1,.int .i64 a2,.int .i64 a3,.int .i64 a4,.int .i64 a5,.int .i64 a6,.int .u16 0] cl 4 (WC.setCell ⟨X,5,none⟩ (.int .i64 n4))):=Lib.hid ⟨_,by rw [HCL.out];rfl,by simpa using hX1.set 5 (.int .i64 n4),(HY.out.below hWB HY.out.lt).far (by show Y ≠ X;omega) _,(HP.out.below hWB HP.out.lt).far (by show P ≠ X;omega) _,(HA.out.below hWB HA.out.lt).far (by show w.heap.size ≠ X;omega) _,(HE.out.below hWB HE.out.lt).far (by show w.heap.size + 1 ≠ X;omega) _,(HZ.out.below hWB HZ.out.lt).far (by show w.heap.size + 2 ≠ X;omega) _,(HB.out.trans (hWB.mono HB.out.size)).setCell (by show w.heap.size ≤ X;omega) _⟩
     clear hWC hWB hX1 x0 o0 p0 HX HY HP HA HE HZ HB
     go_wp2
     go_roundw
     case rel=>exact ⟨4,by omega,by first | rfl | go_num,HS2.out⟩
     case measure=>simp [intOf]
    ·cases hq
     have x0:=hX.cell 6
     have o0:=hY.cell 6
     have p0:=hP.cell 4
     simp at x0 o0 p0
     have HX:=Lib.hid hX
     have HY:=Lib.hid hY
     have HP:=Lib.hid hP
     have HA:=Lib.hid hA
     have HE:=Lib.hid hE
     have HZ:=Lib.hid hZ
     have HB:=Lib.hid hB
     have hn:=HN.out.2.2.2.2.1
     clear hX hY hP hA hE hZ hB
     go_wp2_with fail
     refine wp_region_calm 10 (by kernel_rfl) (by kernel_rfl) ?_
     simp only [List.take_succ_cons,List.take_zero,List.drop_succ_cons,List.drop_zero]
     repeat (apply wpCalm_step;(next=>(intro W hW K hK;have y0:=hW.cell x0;have y1:=hW.cell o0;have y2:=hW.cell p0;go_simp;first | exact ⟨hW,hK⟩ | exact hK));(next=>exact CalmI.self _);(try go_simp))
     refine wpCalm_nil ?_
     intro WC hWC
     have hWB : Below wr.heap.size wr WC:=hWC
     have hX1:=HX.out.below hWB HX.out.lt
     have f0:=hX1.free 6
     have x1:=hX1.cell 6
     simp at x1
     have HS2 : Hid (DfRel w X Y P #[.int .i64 ai,.int .i64 a1,.int .i64 a2,.int .i64 a3,.int .i64 a4,.int .i64 a5,.int .i64 a6,.int .u16 aa,.int .u8 ag] #[.int .i64 bi,.int .i64 b1,.int .i64 b2,.int .i64 b3,.int .i64 b4,.int .i64 b5,.int .i64 b6,.int .u16 ba,.int .u8 bg] #[.int .i64 0,.int .i64 0,.int .i64 a1,.int .i64 a2,.int .i64 a3,.int .i64 a4,.int .i64 a5,.int .i64 a6,.int .u16 0] cl 5 (WC.setCell ⟨X,6,none⟩ (.int .i64 n5))):=Lib.hid ⟨_,by rw [HCL.out];rfl,by simpa using hX1.set 6 (.int .i64 n5),(HY.out.below hWB HY.out.lt).far (by show Y ≠ X;omega) _,(HP.out.below hWB HP.out.lt).far (by show P ≠ X;omega) _,(HA.out.below hWB HA.out.lt).far (by show w.heap.size ≠ X;omega) _,(HE.out.below hWB HE.out.lt).far (by show w.heap.size + 1 ≠ X;omega) _,(HZ.out.below hWB HZ.out.lt).far (by show w.heap.size + 2 ≠ X;omega) _,(HB.out.trans (hWB.mono HB.out.size)).setCell (by show w.heap.size ≤ X;omega) _⟩
     clear hWC hWB hX1 x0 o0 p0 HX HY HP HA HE HZ HB
     go_wp2
     go_roundw
     case rel=>exact ⟨5,by omega,by first | rfl | go_num,HS2.out⟩
     case measure=>simp [intOf]
    ·cases hq
     have x0:=hX.cell 7
     have o0:=hY.cell 7
     have p0:=hP.cell 5
     simp at x0 o0 p0
     have HX:=Lib.hid hX
     have HY:=Lib.hid hY
     have HP:=Lib.hid hP
     have HA:=Lib.hid hA
     have HE:=Lib.hid hE
     have HZ:=Lib.hid hZ
     have HB:=Lib.hid hB
     have hn:=HN.out.2.2.2.2.2
     clear hX hY hP hA hE hZ hB
     go_wp2_with fail
     refine wp_region_calm 10 (by kernel_rfl) (by kernel_rfl) ?_
     simp only [List.take_succ_cons,List.take_zero,List.drop_succ_cons,List.drop_zero]
     repeat (apply wpCalm_step;(next=>(intro W hW K hK;have y0:=hW.cell x0;have y1:=hW.cell o0;have y2:=hW.cell p0;go_simp;first | exact ⟨hW,hK⟩ | exact hK));(next=>exact CalmI.self _);(try go_simp))
     refine wpCalm_nil ?_
     intro WC hWC
     have hWB : Below wr.heap.size wr WC:=hWC
     have hX1:=HX.out.below hWB HX.out.lt
     have f0:=hX1.free 7
     have x1:=hX1.cell 7
     simp at x1
     have HS2 : Hid (DfRel w X Y P #[.int .i64 ai,.int .i64 a1,.int .i64 a2,.int .i64 a3,.int .i64 a4,.int .i64 a5,.int .i64 a6,.int .u16 aa,.int .u8 ag] #[.int .i64 bi,.int .i64 b1,.int .i64 b2,.int .i64 b3,.int .i64 b4,.int .i64 b5,.int .i64 b6,.int .u16 ba,.int .u8 bg] #[.int .i64 0,.int .i64 0,.int .i64 a1,.int .i64 a2,.int .i64 a3,.int .i64 a4,.int .i64 a5,.int .i64 a6,.int .u16 0] cl 6 (WC.setCell ⟨X,7,none⟩ (.int .i64 n6))):=Lib.hid ⟨_,by rw [HCL.out];rfl,by simpa using hX1.set 7 (.int .i64 n6),(HY.out.below hWB HY.out.lt).far (by show Y ≠ X;omega) _,(HP.out.below hWB HP.out.lt).far (by show P ≠ X;omega) _,(HA.out.below hWB HA.out.lt).far (by show w.heap.size ≠ X;omega) _,(HE.out.below hWB HE.out.lt).far (by show w.heap.size + 1 ≠ X;omega) _,(HZ.out.below hWB HZ.out.lt).far (by show w.heap.size + 2 ≠ X;omega) _,(HB.out.trans (hWB.mono HB.out.size)).setCell (by show w.heap.size ≤ X;omega) _⟩
     clear hWC hWB hX1 x0 o0 p0 HX HY HP HA HE HZ HB
     go_wp2
     go_roundw
     case rel=>exact ⟨6,by omega,by first | rfl | go_num,HS2.out⟩
     case measure=>simp [intOf]
    ·cases hq
     have x0:=hX.cell 0
     have x1:=hX.cell 1
     have x2:=hX.cell 2
     have x3:=hX.cell 3
     have x4:=hX.cell 4
     have x5:=hX.cell 5
     have x6:=hX.cell 6
     have x7:=hX.cell 7
     have x8:=hX.cell 8
     simp at x0 x1 x2 x3 x4 x5 x6 x7 x8
     have a7:=hA.cell 7
     have g7:=hX.free 8
     simp at a7
     have hn7:=HN7.out
     have hX2:=hX.set 8 (.int .u16 n7)
     have HZ2:=Lib.hid (hZ.far (p:=⟨X,8,none⟩) (by show w.heap.size + 2 ≠ X;omega) (.int .u16 n7))
     have HB2:=Lib.hid (hB.setCell (p:=⟨X,8,none⟩) (by show w.heap.size ≤ X;omega) (.int .u16 n7))
     have hZ2:=HZ2.out
     simp at hX2
     have e0:=hX2.cell 0
     have e1:=hX2.cell 1
     have e2:=hX2.cell 2
     have e3:=hX2.cell 3
     have e4:=hX2.cell 4
     have e5:=hX2.cell 5
     have e6:=hX2.cell 6
     have e7:=hX2.cell 7
     have e8:=hX2.cell 8
     simp at e0 e1 e2 e3 e4 e5 e6 e7 e8
     have z0:=hZ2.cell 0
     have z1:=hZ2.cell 1
     have z2:=hZ2.cell 2
     have z3:=hZ2.cell 3
     have z4:=hZ2.cell 4
     have z5:=hZ2.cell 5
     have z6:=hZ2.cell 6
     have z7:=hZ2.cell 7
     have z8:=hZ2.cell 8
     have y0:=hZ2.free 0
     have y1:=hZ2.free 1
     have y2:=hZ2.free 2
     have y3:=hZ2.free 3
     have y4:=hZ2.free 4
     have y5:=hZ2.free 5
     have y6:=hZ2.free 6
     have y7:=hZ2.free 7
     have y8:=hZ2.free 8
     simp at z0 z1 z2 z3 z4 z5 z6 z7 z8
     clear hX hX2 hY hP hA hE hZ hB hZ2
     go_wp2
     exact bodyPost_ret (v:=.tuple #[.agg #[.int .i64 1,.int .i64 bi,.int .i64 n1,.int .i64 n2,.int .i64 n3,.int .i64 n4,.int .i64 n5,.int .i64 n6,.int .u16 n7],.bool true])
      (by
        have hh:=blk9 (v0:=.int .i64 1) (v1:=.int .i64 bi) (v2:=.int .i64 n1) (v3:=.int .i64 n2) (v4:=.int .i64 n3) (v5:=.int .i64 n4) (v6:=.int .i64 n5) (v7:=.int .i64 n6) (v8:=.int .u16 n7) HZ2.out
        have g0:=hh.cell 0
        have g1:=hh.cell 1
        have g2:=hh.cell 2
        have g3:=hh.cell 3
        have g4:=hh.cell 4
        have g5:=hh.cell 5
        have g6:=hh.cell 6
        have g7:=hh.cell 7
        have g8:=hh.cell 8
        simp at g0 g1 g2 g3 g4 g5 g6 g7 g8
        simp [results,Tryz.results70,go_sem,g0,g1,g2,g3,g4,g5,g6,g7,g8]) rfl
      ⟨by rw [HV2.out];rfl,below9r HB2.out (by omega)⟩
  ·have hg2 : (ag == bg) = false:=by simpa using hg
   have HV2 : Hid (z = (⟨3,bi,b1,b2,b3,b4,b5,b6,ba⟩,true)):=Lib.hid (by rw [HV.out,if_neg hg])
   clear HV
   obtain ⟨v0,hv0⟩ : ∃ v,w0.alloc (.cells #[.int .i64 3,.int .i64 bi,.int .i64 b1,.int .i64 b2,.int .i64 b3,.int .i64 b4,.int .i64 b5,.int .i64 b6,.int .u16 ba] 147) = v:=⟨_,rfl⟩
   have hXA : Blk v0 w0.heap.size #[.int .i64 3,.int .i64 bi,.int .i64 b1,.int .i64 b2,.int .i64 b3,.int .i64 b4,.int .i64 b5,.int .i64 b6,.int .u16 ba] 147:=by rw [← hv0];exact Blk.new _ _ _
   have hAA : Blk v0 w.heap.size #[.int .i64 ai,.int .i64 a1,.int .i64 a2,.int .i64 a3,.int .i64 a4,.int .i64 a5,.int .i64 a6,.int .u16 aa,.int .u8 ag] 33:=by rw [← hv0];exact HA0.out.alloc _
   have hEE : Blk v0 (w.heap.size + 1) #[.int .i64 bi,.int .i64 b1,.int .i64 b2,.int .i64 b3,.int .i64 b4,.int .i64 b5,.int .i64 b6,.int .u16 ba,.int .u8 bg] 33:=by rw [← hv0];exact HE0.out.alloc _
   have hZZ : Blk v0 (w.heap.size + 2) #[.int .i64 0,.int .i64 0,.int .i64 0,.int .i64 0,.int .i64 0,.int .i64 0,.int .i64 0,.int .i64 0,.int .u16 0] 147:=by rw [← hv0];exact HZ0.out.alloc _
   have hBB : Below w.heap.size w v0:=by rw [← hv0];exact HB0.out.alloc HB0.out.size _
   have hsX : w.heap.size + 3 ≤ w0.heap.size:=by rw [HS0.out];exact Nat.le_refl _
   have hsv : v0.heap.size = w0.heap.size + 1:=by rw [← hv0];simp
   have c0:=hAA.cell 0
   have c1:=hAA.cell 1
   have c2:=hAA.cell 2
   have c3:=hAA.cell 3
   have c4:=hAA.cell 4
   have c5:=hAA.cell 5
   have c6:=hAA.cell 6
   have c7:=hAA.cell 7
   have c8:=hAA.cell 8
   simp at c0 c1 c2 c3 c4 c5 c6 c7 c8
   have d0:=hEE.cell 0
   have d1:=hEE.cell 1
   have d2:=hEE.cell 2
   have d3:=hEE.cell 3
   have d4:=hEE.cell 4
   have d5:=hEE.cell 5
   have d6:=hEE.cell 6
   have d7:=hEE.cell 7
   have d8:=hEE.cell 8
   simp at d0 d1 d2 d3 d4 d5 d6 d7 d8
   have q0:=hXA.cell 0
   have q1:=hXA.cell 1
   have q2:=hXA.cell 2
   have q3:=hXA.cell 3
   have q4:=hXA.cell 4
   have q5:=hXA.cell 5
   have q6:=hXA.cell 6
   have q7:=hXA.cell 7
   have q8:=hXA.cell 8
   simp at q0 q1 q2 q3 q4 q5 q6 q7 q8
   have z0:=hZZ.cell 0
   have z1:=hZZ.cell 1
   have z2:=hZZ.cell 2
   have z3:=hZZ.cell 3
   have z4:=hZZ.cell 4
   have z5:=hZZ.cell 5
   have z6:=hZZ.cell 6
   have z7:=hZZ.cell 7
   have z8:=hZZ.cell 8
   have y0:=hZZ.free 0
   have y1:=hZZ.free 1
   have y2:=hZZ.free 2
   have y3:=hZZ.free 3
   have y4:=hZZ.free 4
   have y5:=hZZ.free 5
   have y6:=hZZ.free 6
   have y7:=hZZ.free 7
   have y8:=hZZ.free 8
   simp at z0 z1 z2 z3 z4 z5 z6 z7 z8
   have HZ1:=Lib.hid hZZ
   have HB1:=Lib.hid hBB
   clear hXA hAA hEE hZZ hBB HA0 HE0 HZ0 HB0 hsX hsv HS0
   go_enter Tryz.func70,Tryz.ntmps70
   go_wp2
   exact bodyPost_ret (v:=.tuple #[.agg #[.int .i64 3,.int .i64 bi,.int .i64 b1,.int .i64 b2,.int .i64 b3,.int .i64 b4,.int .i64 b5,.int .i64 b6,.int .u16 ba],.bool true])
    (by
      have hh:=blk9 (v0:=.int .i64 3) (v1:=.int .i64 bi) (v2:=.int .i64 b1) (v3:=.int .i64 b2) (v4:=.int .i64 b3) (v5:=.int .i64 b4) (v6:=.int .i64 b5) (v7:=.int .i64 b6) (v8:=.int .u16 ba) HZ1.out
      have g0:=hh.cell 0
      have g1:=hh.cell 1
      have g2:=hh.cell 2
      have g3:=hh.cell 3
      have g4:=hh.cell 4
      have g5:=hh.cell 5
      have g6:=hh.cell 6
      have g7:=hh.cell 7
      have g8:=hh.cell 8
      simp at g0 g1 g2 g3 g4 g5 g6 g7 g8
      simp [results,Tryz.results70,go_sem,g0,g1,g2,g3,g4,g5,g6,g7,g8]) rfl
    ⟨by rw [HV2.out];rfl,below9r HB1.out (by omega)⟩
 ·have HV : Hid (z = (rec00,false)):=Lib.hid (by rw [HZ.out,if_pos rfl])
  clear HZ
  go_enter Tryz.func70,Tryz.ntmps70
  go_wp2
  exact bodyPost_ret (v:=.tuple #[.agg #[.int .i64 0,.int .i64 0,.int .i64 0,.int .i64 0,.int .i64 0,.int .i64 0,.int .i64 0,.int .i64 0,.int .u16 0],.bool false])
   (by
     have hh:=blk9 (v0:=.int .i64 0) (v1:=.int .i64 0) (v2:=.int .i64 0) (v3:=.int .i64 0) (v4:=.int .i64 0) (v5:=.int .i64 0) (v6:=.int .i64 0) (v7:=.int .i64 0) (v8:=.int .u16 0) HZ0.out
     have g0:=hh.cell 0
     have g1:=hh.cell 1
     have g2:=hh.cell 2
     have g3:=hh.cell 3
     have g4:=hh.cell 4
     have g5:=hh.cell 5
     have g6:=hh.cell 6
     have g7:=hh.cell 7
     have g8:=hh.cell 8
     simp at g0 g1 g2 g3 g4 g5 g6 g7 g8
     simp [results,Tryz.results70,go_sem,g0,g1,g2,g3,g4,g5,g6,g7,g8]) rfl
   ⟨by rw [HV.out];rfl,below9r HB0.out (by omega)⟩
end Go.Proofs.YtklkooeimkedgaaGreat
