/- Parts of the walk of TopJumps: Rec10, Rec6, Gram1. -/
import Derived.Test.YtklkooeimkedgaaGreatJ27
import Derived.Test.YtklkooeimkedgaaGreatJ34
set_option linter.unusedVariables false
set_option linter.unusedSimpArgs false
namespace Go.Proofs.YtklkooeimkedgaaGreat
open Go.RowKit
set_option maxRecDepth 8000
def Rd9 (R B0 X A : Nat) (s s1 : RdSt) (cs : Array Value) (w : World) (b : Bool) (W : World) : Prop :=
 RdAt W R B0 (bif b then s1 else s) ∧ Blk W X cs 147 ∧ Blk W A #[.int .i64 0,.int .i64 0,.int .i64 0,.int .i64 0,.int .i64 0,.int .i64 0,.int .i64 0,.int .i64 0,.int .u16 0] 147 ∧ Only (· = R) w W
set_option maxHeartbeats 4000000 in
theorem rread_ok {B0 : Nat} (R : Nat) (s : RdSt) (last : Int) (h1 : -1 ≤ last) (h2 : last < 65535) (w : World) (h : RdAt w R B0 s) (hB0 : B0 ≤ w.heap.size) :
  Calls Tryz.prog 197 #[.pointer (some ⟨R,0,none⟩),.int .i64 last] w fun e w'=>e = .returned (.tuple #[recV (recRd last s).1,.int .i64 (recRd last s).2.1]) ∧ RdAt w' R B0 (recRd last s).2.2 ∧ Only (· = R) w w':=by
 have ru:=fun w h=>ruint_f (B0:=B0) R s (65535 - (last + 1)) w h
 have ub:=rdUint_le (most:=65535 - (last + 1)) h.u8 (by omega)
 obtain ⟨q,HQ⟩ : ∃ q,Hid (recAll last s = q):=⟨_,Lib.hid rfl⟩
 have HE : Hid (recRd last s = if q.2.2 ≠ 0 then (rec0,q.2.2,q.2) else (q.1,0,q.2)):=Lib.hid (by unfold recRd;rw [if_neg (by omega),HQ.out])
 have HQ2 : Hid (q = rdKind (rdByte (rdUint (65535 - (last + 1)) s).2).1 ⟨(rdByte (rdUint (65535 - (last + 1)) s).2).1,last + 1 + (rdUint (65535 - (last + 1)) s).1,0,0,0,0,0,0,0⟩ (rdByte (rdUint (65535 - (last + 1)) s).2).2):=Lib.hid (by rw [← HQ.out];rfl)
 clear HQ
 have rb:=fun w h=>rbyte_f (B0:=B0) R (rdUint (65535 - (last + 1)) s).2 w h
 have kb : AllU8 (rdUint (65535 - (last + 1)) s).2.1 → U8 (rdByte (rdUint (65535 - (last + 1)) s).2).1:=fun h=>rdByte_u8 h
 generalize rdUint (65535 - (last + 1)) s = q1 at *
 generalize rdByte q1.2 = q2 at *
 generalize recRd last s = z at *
 obtain ⟨u,s1⟩:=q1
 obtain ⟨k,s2⟩:=q2
 simp only at *
 have l1 : ¬ last < -1:=by omega
 have l2 : ¬ 65535 < last:=by omega
 have l3 : (last == 65535) = false:=by simp;omega
 have w1 : wrap64 (last + 1) = last + 1:=by unfold wrap64;omega
 have w2 : IntKind.i64.wrap (65535 - (last + 1)) = 65535 - (last + 1):=by rw [IntKind.wrap_i64];omega
 have w3 : IntKind.u64.wrap (65535 - (last + 1)) = 65535 - (last + 1):=wraps_u64 _ (by omega) (by omega)
 have w4 : IntKind.i64.wrap u = u:=by rw [IntKind.wrap_i64];omega
 have w5 : wrap64 (last + 1 + u) = last + 1 + u:=by unfold wrap64;omega
 have w6 : wrap64 u = u:=by unfold wrap64;omega
 have hne : ¬ w.heap.size = R:=by have:=h.lt;omega
 have hne2 : ¬ w.heap.size + 1 = R:=by have:=h.lt;omega
 have HNE:=Lib.hid hne
 have HNE2:=Lib.hid hne2
 have er:=fun s w h=>rerr_f (B0:=B0) R s w h
 have fl:=fun w h=>rfail_f (B0:=B0) R s2 11 (by decide) w h
 have hW0 : Hid (Rd9 R B0 (w.heap.size + 1) w.heap.size s s1 #[.int .i64 0,.int .i64 (last + 1),.int .i64 0,.int .i64 0,.int .i64 0,.int .i64 0,.int .i64 0,.int .i64 0,.int .u16 0] w false ((w.alloc (.cells #[.int .i64 0,.int .i64 0,.int .i64 0,.int .i64 0,.int .i64 0,.int .i64 0,.int .i64 0,.int .i64 0,.int .u16 0] 147)).alloc (.cells #[.int .i64 0,.int .i64 (last + 1),.int .i64 0,.int .i64 0,.int .i64 0,.int .i64 0,.int .i64 0,.int .i64 0,.int .u16 0] 147)).drew):=Lib.hid (by
  refine ⟨?_,?_,?_,?_⟩
  ·exact h.below (below_drewN (((Below.refl _ _).alloc (Nat.le_refl _) _).alloc (by simp) _) 1)
  ·have:=Blk.new (w.alloc (.cells #[.int .i64 0,.int .i64 0,.int .i64 0,.int .i64 0,.int .i64 0,.int .i64 0,.int .i64 0,.int .i64 0,.int .u16 0] 147)) #[.int .i64 0,.int .i64 (last + 1),.int .i64 0,.int .i64 0,.int .i64 0,.int .i64 0,.int .i64 0,.int .i64 0,.int .u16 0] 147
   rw [show (w.alloc (.cells #[.int .i64 0,.int .i64 0,.int .i64 0,.int .i64 0,.int .i64 0,.int .i64 0,.int .i64 0,.int .i64 0,.int .u16 0] 147)).heap.size = w.heap.size + 1 by simp] at this
   exact this
  ·exact (Blk.new w #[.int .i64 0,.int .i64 0,.int .i64 0,.int .i64 0,.int .i64 0,.int .i64 0,.int .i64 0,.int .i64 0,.int .u16 0] 147).alloc _
  ·exact (((Only.refl (· = R) w).alloc _).alloc _).draws 1)
 have HB0X : B0 ≤ w.heap.size + 1:=by omega
 have kk:=fun W=>kinds_f W
 have RA:=fun (r : Rec) W h hX=>rdall_f (B0:=B0) R (w.heap.size + 1) s2 r W h hX HB0X hne2
 have RS:=fun W h hX=>rdsome_f (B0:=B0) R (w.heap.size + 1) s2 1 (last + 1 + u) W h hX HB0X hne2
 have RN:=fun W=>kn2_f R (w.heap.size + 1) W
 unfold recV rec0 at *
 unfold fnV at kk
 clear h
 go_enter Tryz.func197,Tryz.ntmps197
 go_wp2_with fail
 refine wp_region_once 9 7 (Rd9 R B0 (w.heap.size + 1) w.heap.size s s1 #[.int .i64 0,.int .i64 (last + 1),.int .i64 0,.int .i64 0,.int .i64 0,.int .i64 0,.int .i64 0,.int .i64 0,.int .u16 0] w) (by kernel_rfl) (by kernel_rfl) (by decide) hW0.out ?_
 simp only [List.take_succ_cons,List.take_zero,List.drop_succ_cons,List.drop_zero]
 repeat (apply wpOnce_step;(next=>rfl);(next=>(intro b W hW K hK;obtain ⟨hR,hX,hA,hO⟩:=hW;have y1:=hX.cell 1;simp at y1;go_simp;first | exact ⟨⟨hR,hX,hA,hO⟩,hK⟩ | exact hK));(next=>exact ⟨_,hW0.out⟩);(try go_simp))
 (apply wpOnce_one;(next=>rfl);(next=>(intro W hW K hK;obtain ⟨hR,hX,hA,hO⟩:=hW;go_simp;exact ⟨_,(ru W hR).mono (fun e w'' hh=>⟨hh.1,hh.2.1,hh.2.2.blk hX hne2,hh.2.2.blk hA hne,hO.trans hh.2.2⟩),hK⟩));(try go_simp))
 repeat (apply wpOnce_step;(next=>rfl);(next=>(intro b W hW K hK;obtain ⟨hR,hX,hA,hO⟩:=hW;have y1:=hX.cell 1;simp at y1;go_simp;first | exact ⟨⟨hR,hX,hA,hO⟩,hK⟩ | exact hK));(next=>exact ⟨_,hW0.out⟩);(try go_simp))
 refine wpOnce_nil ?_
 intro WC hWC
 obtain ⟨hR,hX,hA,hO⟩:=hWC
 have c1:=hX.cell 1
 have f1:=hX.free 1
 simp at c1
 have HX:=Lib.hid (hX.set 1 (.int .i64 (last + 1 + u)))
 have HR:=Lib.hid (hR.setFar (p:=⟨w.heap.size + 1,1,none⟩) (Ne.symm hne2) HB0X (.int .i64 (last + 1 + u)))
 have HA:=Lib.hid (hA.far (p:=⟨w.heap.size + 1,1,none⟩) (by simp) (.int .i64 (last + 1 + u)))
 have HO:=Lib.hid (hO.setCell (p:=⟨w.heap.size + 1,1,none⟩) (.inr (Nat.le_succ _)) (.int .i64 (last + 1 + u)))
 clear hR hX hA hO hW0 ru
 go_wp2_with fail
 have rb1:=rb _ HR.out
 have k8:=kb HR.out.u8
 have w7 : wrap64 k = k:=by unfold wrap64;unfold U8 at k8;omega
 clear rb kb
 refine rb1.mono ?_;rintro e w2 ⟨rfl,hR2,hO2⟩
 have hX2:=hO2.blk HX.out hne2
 have c0:=hX2.cell 0
 have f0:=hX2.free 0
 simp at c0
 have HX3 : Hid (Blk (w2.setCell ⟨w.heap.size + 1,0,none⟩ (.int .i64 k)) (w.heap.size + 1) (recA ⟨k,last + 1 + u,0,0,0,0,0,0,0⟩) 147):=Lib.hid (by simpa [recA] using hX2.set 0 (.int .i64 k))
 have HR3:=Lib.hid (hR2.setFar (p:=⟨w.heap.size + 1,0,none⟩) (Ne.symm hne2) HB0X (.int .i64 k))
 have HA3:=Lib.hid ((hO2.blk HA.out hne).far (p:=⟨w.heap.size + 1,0,none⟩) (by simp) (.int .i64 k))
 have HO3:=Lib.hid ((HO.out.trans hO2).setCell (p:=⟨w.heap.size + 1,0,none⟩) (.inr (Nat.le_succ _)) (.int .i64 k))
 clear hX2 hR2 hO2 HX HR HA HO rb1 c1 f1
 go_wp2_with fail
 refine (kk _).mono ?_;rintro e w3 ⟨rfl,hb3⟩
 have hX4:=HX3.out.below hb3 HX3.out.lt
 have HR4:=Lib.hid (HR3.out.below hb3)
 have HA4:=Lib.hid (HA3.out.below hb3 HA3.out.lt)
 have HO4:=Lib.hid (HO3.out.then_below hb3)
 have c0':=hX4.cell 0
 simp at c0'
 have HX4:=Lib.hid hX4
 have hX5:=hX4.alloc (.cells #[.func (.func 154) #[] #[],.func (.func 155) #[] #[],.func (.func 156) #[] #[],.func (.func 157) #[] #[],.func (.func 152) #[] #[],.func (.func 153) #[] #[],.func (.func 154) #[] #[],.func (.func 155) #[] #[]] 210)
 have HR5:=Lib.hid (HR4.out.below ((Below.refl _ _).alloc (Nat.le_refl _) (.cells #[.func (.func 154) #[] #[],.func (.func 155) #[] #[],.func (.func 156) #[] #[],.func (.func 157) #[] #[],.func (.func 152) #[] #[],.func (.func 153) #[] #[],.func (.func 154) #[] #[],.func (.func 155) #[] #[]] 210)))
 have HA5:=Lib.hid (HA4.out.alloc (.cells #[.func (.func 154) #[] #[],.func (.func 155) #[] #[],.func (.func 156) #[] #[],.func (.func 157) #[] #[],.func (.func 152) #[] #[],.func (.func 153) #[] #[],.func (.func 154) #[] #[],.func (.func 155) #[] #[]] 210))
 have HO5:=Lib.hid (HO4.out.alloc (.cells #[.func (.func 154) #[] #[],.func (.func 155) #[] #[],.func (.func 156) #[] #[],.func (.func 157) #[] #[],.func (.func 152) #[] #[],.func (.func 153) #[] #[],.func (.func 154) #[] #[],.func (.func 155) #[] #[]] 210))
 have d0:=hX5.cell 0
 simp at d0
 have HX5:=Lib.hid hX5
 clear hb3 HX3 HR3 HA3 HO3 HX4 HR4 HA4 HO4 c0 f0 hX4 hX5 c0' kk
 have hkz : Tryz.prog.types[209].size = 2:=by kernel_rfl
 have hkk : k = 0 ∨ k = 1 ∨ k = 2 ∨ k = 3 ∨ 4 ≤ k:=by unfold U8 at k8;omega
 have K8:=Lib.hid k8
 clear k8
 rcases hkk with rfl | rfl | rfl | rfl | hk4
 ·have hq : q = rdAll ⟨0,last + 1 + u,0,0,0,0,0,0,0⟩ s2:=by rw [HQ2.out];unfold rdKind;rw [if_pos (.inl rfl)]
  have ra:=RA _ _ HR5.out HX5.out
  go_wp2_with fail
  refine ra.mono ?_;rintro e w5 ⟨rfl,hR6,hX6,hO6⟩
  rw [← hq] at hR6 hX6
  clear ra hq
  have HA6:=Lib.hid (hO6.blk HA5.out (by omega))
  have HO6:=Lib.hid (HO5.out.trans_new hO6 (fun i hi hk=>by omega))
  have HR6:=Lib.hid hR6
  have HX6:=Lib.hid hX6
  clear hR6 hX6 hO6 HR5 HX5 HA5 HO5 d0 RA RS RN fl
  have e1:=er _ _ HR6.out
  go_wp2_with fail
  refine e1.mono ?_;rintro e w6 ⟨rfl,rfl⟩
  have hA6:=HA6.out
  have hX6:=HX6.out
  unfold recA at hX6
  have c0:=hA6.cell 0
  have f0:=hA6.free 0
  have x0:=hX6.cell 0
  have c1:=hA6.cell 1
  have f1:=hA6.free 1
  have x1:=hX6.cell 1
  have c2:=hA6.cell 2
  have f2:=hA6.free 2
  have x2:=hX6.cell 2
  have c3:=hA6.cell 3
  have f3:=hA6.free 3
  have x3:=hX6.cell 3
  have c4:=hA6.cell 4
  have f4:=hA6.free 4
  have x4:=hX6.cell 4
  have c5:=hA6.cell 5
  have f5:=hA6.free 5
  have x5:=hX6.cell 5
  have c6:=hA6.cell 6
  have f6:=hA6.free 6
  have x6:=hX6.cell 6
  have c7:=hA6.cell 7
  have f7:=hA6.free 7
  have x7:=hX6.cell 7
  have c8:=hA6.cell 8
  have f8:=hA6.free 8
  have x8:=hX6.cell 8
  simp at c0 c1 c2 c3 c4 c5 c6 c7 c8 x0 x1 x2 x3 x4 x5 x6 x7 x8
  clear e1 hA6 hX6 er HX6
  by_cases hqe : q.2.2 = 0
  ·have HZ : Hid (z = (q.1,0,q.2)):=Lib.hid (by rw [HE.out,if_neg (by simpa using hqe)])
   clear HE HQ2
   go_wp2
   exact bodyPost_ret (v:=.tuple #[.agg #[.int .i64 q.1.kind,.int .i64 q.1.id,.int .i64 q.1.px,.int .i64 q.1.py,.int .i64 q.1.pz,.int .i64 q.1.vx,.int .i64 q.1.vy,.int .i64 q.1.vz,.int .u16 q.1.ang],.int .i64 0])
    (by
      have hh:=blk9 (v0:=.int .i64 q.1.kind) (v1:=.int .i64 q.1.id) (v2:=.int .i64 q.1.px) (v3:=.int .i64 q.1.py) (v4:=.int .i64 q.1.pz) (v5:=.int .i64 q.1.vx) (v6:=.int .i64 q.1.vy) (v7:=.int .i64 q.1.vz) (v8:=.int .u16 q.1.ang) HA6.out
      have g0:=hh.cell 0
      have g1:=hh.cell 1
      have g2:=hh.cell 2
      have g3:=hh.cell 3
      have g4:=hh.cell 4
      have g5:=hh.cell 5
      have g6:=hh.cell 6
      have g7:=hh.cell 7
      have g8:=hh.cell 8
      simp at g0 g1 g2 g3 g4 g5 g6 g7 g8
      simp [results,Tryz.results197,go_sem,g0,g1,g2,g3,g4,g5,g6,g7,g8]) rfl
    ⟨by rw [HZ.out],by rw [HZ.out];exact rdAt9 HR6.out (Ne.symm HNE.out) hB0,only9 HO6.out (.inr (Nat.le_refl _))⟩
  ·have HZ : Hid (z = (⟨0,0,0,0,0,0,0,0,0⟩,q.2.2,q.2)):=Lib.hid (by rw [HE.out,if_pos hqe])
   have hqe2 : (q.2.2 != 0) = true:=by simpa using hqe
   clear HE HQ2
   go_wp2
   exact bodyPost_ret (v:=.tuple #[.agg #[.int .i64 0,.int .i64 0,.int .i64 0,.int .i64 0,.int .i64 0,.int .i64 0,.int .i64 0,.int .i64 0,.int .u16 0],.int .i64 q.2.2])
    (by
      have hh:=blk9 (v0:=.int .i64 0) (v1:=.int .i64 0) (v2:=.int .i64 0) (v3:=.int .i64 0) (v4:=.int .i64 0) (v5:=.int .i64 0) (v6:=.int .i64 0) (v7:=.int .i64 0) (v8:=.int .u16 0) HA6.out
      have g0:=hh.cell 0
      have g1:=hh.cell 1
      have g2:=hh.cell 2
      have g3:=hh.cell 3
      have g4:=hh.cell 4
      have g5:=hh.cell 5
      have g6:=hh.cell 6
      have g7:=hh.cell 7
      have g8:=hh.cell 8
      simp at g0 g1 g2 g3 g4 g5 g6 g7 g8
      simp [results,Tryz.results197,go_sem,g0,g1,g2,g3,g4,g5,g6,g7,g8]) rfl
    ⟨by rw [HZ.out],by rw [HZ.out];exact rdAt9 HR6.out (Ne.symm HNE.out) hB0,only9 HO6.out (.inr (Nat.le_refl _))⟩
 ·have hq : q = rdSome ⟨1,last + 1 + u,0,0,0,0,0,0,0⟩ s2:=by rw [HQ2.out];unfold rdKind;rw [if_neg (by decide),if_pos rfl]
  have ra:=RS _ HR5.out HX5.out
  go_wp2_with fail
  refine ra.mono ?_;rintro e w5 ⟨rfl,hR6,hX6,hO6⟩
  rw [← hq] at hR6 hX6
  clear ra hq
  have HA6:=Lib.hid (hO6.blk HA5.out (by omega))
  have HO6:=Lib.hid (HO5.out.trans_new hO6 (fun i hi hk=>by omega))
  have HR6:=Lib.hid hR6
  have HX6:=Lib.hid hX6
  clear hR6 hX6 hO6 HR5 HX5 HA5 HO5 d0 RA RS RN fl
  have e1:=er _ _ HR6.out
  go_wp2_with fail
  refine e1.mono ?_;rintro e w6 ⟨rfl,rfl⟩
  have hA6:=HA6.out
  have hX6:=HX6.out
  unfold recA at hX6
  have c0:=hA6.cell 0
  have f0:=hA6.free 0
  have x0:=hX6.cell 0
  have c1:=hA6.cell 1
  have f1:=hA6.free 1
  have x1:=hX6.cell 1
  have c2:=hA6.cell 2
  have f2:=hA6.free 2
  have x2:=hX6.cell 2
  have c3:=hA6.cell 3
  have f3:=hA6.free 3
  have x3:=hX6.cell 3
  have c4:=hA6.cell 4
  have f4:=hA6.free 4
  have x4:=hX6.cell 4
  have c5:=hA6.cell 5
  have f5:=hA6.free 5
  have x5:=hX6.cell 5
  have c6:=hA6.cell 6
  have f6:=hA6.free 6
  have x6:=hX6.cell 6
  have c7:=hA6.cell 7
  have f7:=hA6.free 7
  have x7:=hX6.cell 7
  have c8:=hA6.cell 8
  have f8:=hA6.free 8
  have x8:=hX6.cell 8
  simp at c0 c1 c2 c3 c4 c5 c6 c7 c8 x0 x1 x2 x3 x4 x5 x6 x7 x8
  clear e1 hA6 hX6 er HX6
  by_cases hqe : q.2.2 = 0
  ·have HZ : Hid (z = (q.1,0,q.2)):=Lib.hid (by rw [HE.out,if_neg (by simpa using hqe)])
   clear HE HQ2
   go_wp2
   exact bodyPost_ret (v:=.tuple #[.agg #[.int .i64 q.1.kind,.int .i64 q.1.id,.int .i64 q.1.px,.int .i64 q.1.py,.int .i64 q.1.pz,.int .i64 q.1.vx,.int .i64 q.1.vy,.int .i64 q.1.vz,.int .u16 q.1.ang],.int .i64 0])
    (by
      have hh:=blk9 (v0:=.int .i64 q.1.kind) (v1:=.int .i64 q.1.id) (v2:=.int .i64 q.1.px) (v3:=.int .i64 q.1.py) (v4:=.int .i64 q.1.pz) (v5:=.int .i64 q.1.vx) (v6:=.int .i64 q.1.vy) (v7:=.int .i64 q.1.vz) (v8:=.int .u16 q.1.ang) HA6.out
      have g0:=hh.cell 0
      have g1:=hh.cell 1
      have g2:=hh.cell 2
      have g3:=hh.cell 3
      have g4:=hh.cell 4
      have g5:=hh.cell 5
      have g6:=hh.cell 6
      have g7:=hh.cell 7
      have g8:=hh.cell 8
      simp at g0 g1 g2 g3 g4 g5 g6 g7 g8
      simp [results,Tryz.results197,go_sem,g0,g1,g2,g3,g4,g5,g6,g7,g8]) rfl
    ⟨by rw [HZ.out],by rw [HZ.out];exact rdAt9 HR6.out (Ne.symm HNE.out) hB0,only9 HO6.out (.inr (Nat.le_refl _))⟩
  ·have HZ : Hid (z = (⟨0,0,0,0,0,0,0,0,0⟩,q.2.2,q.2)):=Lib.hid (by rw [HE.out,if_pos hqe])
   have hqe2 : (q.2.2 != 0) = true:=by simpa using hqe
   clear HE HQ2
   go_wp2
   exact bodyPost_ret (v:=.tuple #[.agg #[.int .i64 0,.int .i64 0,.int .i64 0,.int .i64 0,.int .i64 0,.int .i64 0,.int .i64 0,.int .i64 0,.int .u16 0],.int .i64 q.2.2])
    (by
      have hh:=blk9 (v0:=.int .i64 0) (v1:=.int .i64 0) (v2:=.int .i64 0) (v3:=.int .i64 0) (v4:=.int .i64 0) (v5:=.int .i64 0) (v6:=.int .i64 0) (v7:=.int .i64 0) (v8:=.int .u16 0) HA6.out
      have g0:=hh.cell 0
      have g1:=hh.cell 1
      have g2:=hh.cell 2
      have g3:=hh.cell 3
      have g4:=hh.cell 4
      have g5:=hh.cell 5
      have g6:=hh.cell 6
      have g7:=hh.cell 7
      have g8:=hh.cell 8
      simp at g0 g1 g2 g3 g4 g5 g6 g7 g8
      simp [results,Tryz.results197,go_sem,g0,g1,g2,g3,g4,g5,g6,g7,g8]) rfl
    ⟨by rw [HZ.out],by rw [HZ.out];exact rdAt9 HR6.out (Ne.symm HNE.out) hB0,only9 HO6.out (.inr (Nat.le_refl _))⟩
 ·have hq : q = (⟨2,last + 1 + u,0,0,0,0,0,0,0⟩,s2):=by rw [HQ2.out];unfold rdKind;rw [if_neg (by decide),if_neg (by decide),if_pos rfl]
  have ra:=fun W=>RN W
  have hR6:=HR5.out
  rw [show s2 = q.2 by rw [hq]] at hR6
  have hX6:=HX5.out
  rw [show (⟨2,last + 1 + u,0,0,0,0,0,0,0⟩ : Rec) = q.1 by rw [hq]] at hX6
  have hO6:=Only.refl (fun k=>k = R ∨ k = w.heap.size + 1) (w3.alloc (.cells #[.func (.func 154) #[] #[],.func (.func 155) #[] #[],.func (.func 156) #[] #[],.func (.func 157) #[] #[],.func (.func 152) #[] #[],.func (.func 153) #[] #[],.func (.func 154) #[] #[],.func (.func 155) #[] #[]] 210))
  go_wp2_with fail
  refine (ra _).mono ?_;rintro e w5 ⟨rfl,rfl⟩
  clear ra hq
  have HA6:=Lib.hid (hO6.blk HA5.out (by omega))
  have HO6:=Lib.hid (HO5.out.trans_new hO6 (fun i hi hk=>by omega))
  have HR6:=Lib.hid hR6
  have HX6:=Lib.hid hX6
  clear hR6 hX6 hO6 HR5 HX5 HA5 HO5 d0 RA RS RN fl
  have e1:=er _ _ HR6.out
  go_wp2_with fail
  refine e1.mono ?_;rintro e w6 ⟨rfl,rfl⟩
  have hA6:=HA6.out
  have hX6:=HX6.out
  unfold recA at hX6
  have c0:=hA6.cell 0
  have f0:=hA6.free 0
  have x0:=hX6.cell 0
  have c1:=hA6.cell 1
  have f1:=hA6.free 1
  have x1:=hX6.cell 1
  have c2:=hA6.cell 2
  have f2:=hA6.free 2
  have x2:=hX6.cell 2
  have c3:=hA6.cell 3
  have f3:=hA6.free 3
  have x3:=hX6.cell 3
  have c4:=hA6.cell 4
  have f4:=hA6.free 4
  have x4:=hX6.cell 4
  have c5:=hA6.cell 5
  have f5:=hA6.free 5
  have x5:=hX6.cell 5
  have c6:=hA6.cell 6
  have f6:=hA6.free 6
  have x6:=hX6.cell 6
  have c7:=hA6.cell 7
  have f7:=hA6.free 7
  have x7:=hX6.cell 7
  have c8:=hA6.cell 8
  have f8:=hA6.free 8
  have x8:=hX6.cell 8
  simp at c0 c1 c2 c3 c4 c5 c6 c7 c8 x0 x1 x2 x3 x4 x5 x6 x7 x8
  clear e1 hA6 hX6 er HX6
  by_cases hqe : q.2.2 = 0
  ·have HZ : Hid (z = (q.1,0,q.2)):=Lib.hid (by rw [HE.out,if_neg (by simpa using hqe)])
   clear HE HQ2
   go_wp2
   exact bodyPost_ret (v:=.tuple #[.agg #[.int .i64 q.1.kind,.int .i64 q.1.id,.int .i64 q.1.px,.int .i64 q.1.py,.int .i64 q.1.pz,.int .i64 q.1.vx,.int .i64 q.1.vy,.int .i64 q.1.vz,.int .u16 q.1.ang],.int .i64 0])
    (by
      have hh:=blk9 (v0:=.int .i64 q.1.kind) (v1:=.int .i64 q.1.id) (v2:=.int .i64 q.1.px) (v3:=.int .i64 q.1.py) (v4:=.int .i64 q.1.pz) (v5:=.int .i64 q.1.vx) (v6:=.int .i64 q.1.vy) (v7:=.int .i64 q.1.vz) (v8:=.int .u16 q.1.ang) HA6.out
      have g0:=hh.cell 0
      have g1:=hh.cell 1
      have g2:=hh.cell 2
      have g3:=hh.cell 3
      have g4:=hh.cell 4
      have g5:=hh.cell 5
      have g6:=hh.cell 6
      have g7:=hh.cell 7
      have g8:=hh.cell 8
      simp at g0 g1 g2 g3 g4 g5 g6 g7 g8
      simp [results,Tryz.results197,go_sem,g0,g1,g2,g3,g4,g5,g6,g7,g8]) rfl
    ⟨by rw [HZ.out],by rw [HZ.out];exact rdAt9 HR6.out (Ne.symm HNE.out) hB0,only9 HO6.out (.inr (Nat.le_refl _))⟩
  ·have HZ : Hid (z = (⟨0,0,0,0,0,0,0,0,0⟩,q.2.2,q.2)):=Lib.hid (by rw [HE.out,if_pos hqe])
   have hqe2 : (q.2.2 != 0) = true:=by simpa using hqe
   clear HE HQ2
   go_wp2
   exact bodyPost_ret (v:=.tuple #[.agg #[.int .i64 0,.int .i64 0,.int .i64 0,.int .i64 0,.int .i64 0,.int .i64 0,.int .i64 0,.int .i64 0,.int .u16 0],.int .i64 q.2.2])
    (by
      have hh:=blk9 (v0:=.int .i64 0) (v1:=.int .i64 0) (v2:=.int .i64 0) (v3:=.int .i64 0) (v4:=.int .i64 0) (v5:=.int .i64 0) (v6:=.int .i64 0) (v7:=.int .i64 0) (v8:=.int .u16 0) HA6.out
      have g0:=hh.cell 0
      have g1:=hh.cell 1
      have g2:=hh.cell 2
      have g3:=hh.cell 3
      have g4:=hh.cell 4
      have g5:=hh.cell 5
      have g6:=hh.cell 6
      have g7:=hh.cell 7
      have g8:=hh.cell 8
      simp at g0 g1 g2 g3 g4 g5 g6 g7 g8
      simp [results,Tryz.results197,go_sem,g0,g1,g2,g3,g4,g5,g6,g7,g8]) rfl
    ⟨by rw [HZ.out],by rw [HZ.out];exact rdAt9 HR6.out (Ne.symm HNE.out) hB0,only9 HO6.out (.inr (Nat.le_refl _))⟩
 ·have hq : q = rdAll ⟨3,last + 1 + u,0,0,0,0,0,0,0⟩ s2:=by rw [HQ2.out];unfold rdKind;rw [if_pos (.inr rfl)]
  have ra:=RA _ _ HR5.out HX5.out
  go_wp2_with fail
  refine ra.mono ?_;rintro e w5 ⟨rfl,hR6,hX6,hO6⟩
  rw [← hq] at hR6 hX6
  clear ra hq
  have HA6:=Lib.hid (hO6.blk HA5.out (by omega))
  have HO6:=Lib.hid (HO5.out.trans_new hO6 (fun i hi hk=>by omega))
  have HR6:=Lib.hid hR6
  have HX6:=Lib.hid hX6
  clear hR6 hX6 hO6 HR5 HX5 HA5 HO5 d0 RA RS RN fl
  have e1:=er _ _ HR6.out
  go_wp2_with fail
  refine e1.mono ?_;rintro e w6 ⟨rfl,rfl⟩
  have hA6:=HA6.out
  have hX6:=HX6.out
  unfold recA at hX6
  have c0:=hA6.cell 0
  have f0:=hA6.free 0
  have x0:=hX6.cell 0
  have c1:=hA6.cell 1
  have f1:=hA6.free 1
  have x1:=hX6.cell 1
  have c2:=hA6.cell 2
  have f2:=hA6.free 2
  have x2:=hX6.cell 2
  have c3:=hA6.cell 3
  have f3:=hA6.free 3
  have x3:=hX6.cell 3
  have c4:=hA6.cell 4
  have f4:=hA6.free 4
  have x4:=hX6.cell 4
  have c5:=hA6.cell 5
  have f5:=hA6.free 5
  have x5:=hX6.cell 5
  have c6:=hA6.cell 6
  have f6:=hA6.free 6
  have x6:=hX6.cell 6
  have c7:=hA6.cell 7
  have f7:=hA6.free 7
  have x7:=hX6.cell 7
  have c8:=hA6.cell 8
  have f8:=hA6.free 8
  have x8:=hX6.cell 8
  simp at c0 c1 c2 c3 c4 c5 c6 c7 c8 x0 x1 x2 x3 x4 x5 x6 x7 x8
  clear e1 hA6 hX6 er HX6
  by_cases hqe : q.2.2 = 0
  ·have HZ : Hid (z = (q.1,0,q.2)):=Lib.hid (by rw [HE.out,if_neg (by simpa using hqe)])
   clear HE HQ2
   go_wp2
   exact bodyPost_ret (v:=.tuple #[.agg #[.int .i64 q.1.kind,.int .i64 q.1.id,.int .i64 q.1.px,.int .i64 q.1.py,.int .i64 q.1.pz,.int .i64 q.1.vx,.int .i64 q.1.vy,.int .i64 q.1.vz,.int .u16 q.1.ang],.int .i64 0])
    (by
      have hh:=blk9 (v0:=.int .i64 q.1.kind) (v1:=.int .i64 q.1.id) (v2:=.int .i64 q.1.px) (v3:=.int .i64 q.1.py) (v4:=.int .i64 q.1.pz) (v5:=.int .i64 q.1.vx) (v6:=.int .i64 q.1.vy) (v7:=.int .i64 q.1.vz) (v8:=.int .u16 q.1.ang) HA6.out
      have g0:=hh.cell 0
      have g1:=hh.cell 1
      have g2:=hh.cell 2
      have g3:=hh.cell 3
      have g4:=hh.cell 4
      have g5:=hh.cell 5
      have g6:=hh.cell 6
      have g7:=hh.cell 7
      have g8:=hh.cell 8
      simp at g0 g1 g2 g3 g4 g5 g6 g7 g8
      simp [results,Tryz.results197,go_sem,g0,g1,g2,g3,g4,g5,g6,g7,g8]) rfl
    ⟨by rw [HZ.out],by rw [HZ.out];exact rdAt9 HR6.out (Ne.symm HNE.out) hB0,only9 HO6.out (.inr (Nat.le_refl _))⟩
  ·have HZ : Hid (z = (⟨0,0,0,0,0,0,0,0,0⟩,q.2.2,q.2)):=Lib.hid (by rw [HE.out,if_pos hqe])
   have hqe2 : (q.2.2 != 0) = true:=by simpa using hqe
   clear HE HQ2
   go_wp2
   exact bodyPost_ret (v:=.tuple #[.agg #[.int .i64 0,.int .i64 0,.int .i64 0,.int .i64 0,.int .i64 0,.int .i64 0,.int .i64 0,.int .i64 0,.int .u16 0],.int .i64 q.2.2])
    (by
      have hh:=blk9 (v0:=.int .i64 0) (v1:=.int .i64 0) (v2:=.int .i64 0) (v3:=.int .i64 0) (v4:=.int .i64 0) (v5:=.int .i64 0) (v6:=.int .i64 0) (v7:=.int .i64 0) (v8:=.int .u16 0) HA6.out
      have g0:=hh.cell 0
      have g1:=hh.cell 1
      have g2:=hh.cell 2
      have g3:=hh.cell 3
      have g4:=hh.cell 4
      have g5:=hh.cell 5
      have g6:=hh.cell 6
      have g7:=hh.cell 7
      have g8:=hh.cell 8
      simp at g0 g1 g2 g3 g4 g5 g6 g7 g8
      simp [results,Tryz.results197,go_sem,g0,g1,g2,g3,g4,g5,g6,g7,g8]) rfl
    ⟨by rw [HZ.out],by rw [HZ.out];exact rdAt9 HR6.out (Ne.symm HNE.out) hB0,only9 HO6.out (.inr (Nat.le_refl _))⟩
 ·have hq : q = (⟨k,last + 1 + u,0,0,0,0,0,0,0⟩,rdFail 11 s2):=by rw [HQ2.out];unfold rdKind;rw [if_neg (by omega),if_neg (by omega),if_neg (by omega)]
  have ra:=fl _ HR5.out
  have hk5 : ¬ k < 4:=by omega
  go_wp2_with fail
  refine ra.mono ?_;rintro e w5 ⟨rfl,hR6,hO6'⟩
  have hX6 : Blk w5 (w.heap.size + 1) (recA q.1) 147:=by rw [hq];exact hO6'.blk HX5.out hne2
  have hR6' : RdAt w5 R B0 q.2:=by rw [hq];exact hR6
  have hO6:=hO6'.weaken (T:=fun k=>k = R ∨ k = w.heap.size + 1) (fun k _ hk=>.inl hk)
  clear ra hq hR6 hO6'
  have hR6:=hR6'
  clear hR6'
  have HA6:=Lib.hid (hO6.blk HA5.out (by omega))
  have HO6:=Lib.hid (HO5.out.trans_new hO6 (fun i hi hk=>by omega))
  have HR6:=Lib.hid hR6
  have HX6:=Lib.hid hX6
  clear hR6 hX6 hO6 HR5 HX5 HA5 HO5 d0 RA RS RN fl
  have e1:=er _ _ HR6.out
  go_wp2_with fail
  refine e1.mono ?_;rintro e w6 ⟨rfl,rfl⟩
  have hA6:=HA6.out
  have hX6:=HX6.out
  unfold recA at hX6
  have c0:=hA6.cell 0
  have f0:=hA6.free 0
  have x0:=hX6.cell 0
  have c1:=hA6.cell 1
  have f1:=hA6.free 1
  have x1:=hX6.cell 1
  have c2:=hA6.cell 2
  have f2:=hA6.free 2
  have x2:=hX6.cell 2
  have c3:=hA6.cell 3
  have f3:=hA6.free 3
  have x3:=hX6.cell 3
  have c4:=hA6.cell 4
  have f4:=hA6.free 4
  have x4:=hX6.cell 4
  have c5:=hA6.cell 5
  have f5:=hA6.free 5
  have x5:=hX6.cell 5
  have c6:=hA6.cell 6
  have f6:=hA6.free 6
  have x6:=hX6.cell 6
  have c7:=hA6.cell 7
  have f7:=hA6.free 7
  have x7:=hX6.cell 7
  have c8:=hA6.cell 8
  have f8:=hA6.free 8
  have x8:=hX6.cell 8
  simp at c0 c1 c2 c3 c4 c5 c6 c7 c8 x0 x1 x2 x3 x4 x5 x6 x7 x8
  clear e1 hA6 hX6 er HX6
  by_cases hqe : q.2.2 = 0
  ·have HZ : Hid (z = (q.1,0,q.2)):=Lib.hid (by rw [HE.out,if_neg (by simpa using hqe)])
   clear HE HQ2
   go_wp2
   exact bodyPost_ret (v:=.tuple #[.agg #[.int .i64 q.1.kind,.int .i64 q.1.id,.int .i64 q.1.px,.int .i64 q.1.py,.int .i64 q.1.pz,.int .i64 q.1.vx,.int .i64 q.1.vy,.int .i64 q.1.vz,.int .u16 q.1.ang],.int .i64 0])
    (by
      have hh:=blk9 (v0:=.int .i64 q.1.kind) (v1:=.int .i64 q.1.id) (v2:=.int .i64 q.1.px) (v3:=.int .i64 q.1.py) (v4:=.int .i64 q.1.pz) (v5:=.int .i64 q.1.vx) (v6:=.int .i64 q.1.vy) (v7:=.int .i64 q.1.vz) (v8:=.int .u16 q.1.ang) HA6.out
      have g0:=hh.cell 0
      have g1:=hh.cell 1
      have g2:=hh.cell 2
      have g3:=hh.cell 3
      have g4:=hh.cell 4
      have g5:=hh.cell 5
      have g6:=hh.cell 6
      have g7:=hh.cell 7
      have g8:=hh.cell 8
      simp at g0 g1 g2 g3 g4 g5 g6 g7 g8
      simp [results,Tryz.results197,go_sem,g0,g1,g2,g3,g4,g5,g6,g7,g8]) rfl
    ⟨by rw [HZ.out],by rw [HZ.out];exact rdAt9 HR6.out (Ne.symm HNE.out) hB0,only9 HO6.out (.inr (Nat.le_refl _))⟩
  ·have HZ : Hid (z = (⟨0,0,0,0,0,0,0,0,0⟩,q.2.2,q.2)):=Lib.hid (by rw [HE.out,if_pos hqe])
   have hqe2 : (q.2.2 != 0) = true:=by simpa using hqe
   clear HE HQ2
   go_wp2
   exact bodyPost_ret (v:=.tuple #[.agg #[.int .i64 0,.int .i64 0,.int .i64 0,.int .i64 0,.int .i64 0,.int .i64 0,.int .i64 0,.int .i64 0,.int .u16 0],.int .i64 q.2.2])
    (by
      have hh:=blk9 (v0:=.int .i64 0) (v1:=.int .i64 0) (v2:=.int .i64 0) (v3:=.int .i64 0) (v4:=.int .i64 0) (v5:=.int .i64 0) (v6:=.int .i64 0) (v7:=.int .i64 0) (v8:=.int .u16 0) HA6.out
      have g0:=hh.cell 0
      have g1:=hh.cell 1
      have g2:=hh.cell 2
      have g3:=hh.cell 3
      have g4:=hh.cell 4
      have g5:=hh.cell 5
      have g6:=hh.cell 6
      have g7:=hh.cell 7
      have g8:=hh.cell 8
      simp at g0 g1 g2 g3 g4 g5 g6 g7 g8
      simp [results,Tryz.results197,go_sem,g0,g1,g2,g3,g4,g5,g6,g7,g8]) rfl
    ⟨by rw [HZ.out],by rw [HZ.out];exact rdAt9 HR6.out (Ne.symm HNE.out) hB0,only9 HO6.out (.inr (Nat.le_refl _))⟩
theorem rread_f {B0 : Nat} (R : Nat) (s : RdSt) (last : Int) (h1 : -1 ≤ last) (h2 : last ≤ 65535) (w : World) (h : RdAt w R B0 s) (hB0 : B0 ≤ w.heap.size) :
  Calls Tryz.prog 197 #[.pointer (some ⟨R,0,none⟩),.int .i64 last] w fun e w'=>e = .returned (.tuple #[recV (recRd last s).1,.int .i64 (recRd last s).2.1]) ∧ RdAt w' R B0 (recRd last s).2.2 ∧ Only (· = R) w w':=by
 by_cases hl : last = 65535
 ·exact rec_last R s last hl w h hB0
 ·exact rread_ok R s last h1 (by omega) w h hB0
set_option maxRecDepth 8000
theorem kn1_f (v : Value) (X : Nat) (w : World) : Calls Tryz.prog 152 #[v, .pointer (some ⟨X, 0, none⟩)] w fun e w' => e = .returned v ∧ w = w' := by
  go_enter Tryz.func152, Tryz.ntmps152
  go_wp2
  go_ret
  exact ⟨rfl, rfl⟩
def ownSpec (base : Nat) (ys : List Int) : Spec := ⟨fun _ => True, fun v W => OwnB W base v ys, ⟨undef, trivial⟩, fun _ _ _ h hb => h.below hb⟩
def bytesSpec (ys : List Int) : Spec := ⟨fun _ => True, fun v W => ∃ g, v = .slice (some ⟨g, 0, none⟩) ys.length ys.length ∧ BytesAt W (some ⟨g, 0, none⟩) ys.length ys, ⟨undef, trivial⟩, fun _ _ _ ⟨g, e, h⟩ hb => ⟨g, e, h.below hb⟩⟩
set_option maxHeartbeats 1000000 in
theorem rwr_ok (r : Rec) (hr : r.Ok) (last : Int) (w : World) (h : recWrE r last = 0) :
    Calls Tryz.prog 75 #[recV r, .int .i64 last] w fun e w' => ∃ v, e = .returned (.tuple #[v, .int .i64 0]) ∧ OwnB w' w.heap.size v (recWrB r last) ∧ Below w.heap.size w w' := by
  have ck := fun w => rchk_f r w
  have WA := fun v zs X base w => writeAll_f v zs X r hr base w
  have WM := fun v zs X base w => writeSome_f v zs X r hr base w
  obtain ⟨hc0, hl0, hid0, k0, k3, i0, i1⟩ := recWrE_ok h
  have hl1 : ¬ last < -1 := by omega
  have hl2 : ¬ 65535 < last := by omega
  have hid : ¬ r.id ≤ last := by omega
  rw [hc0] at ck
  clear h hc0
  obtain ⟨k, id, px, py, pz, vx, vy, vz, an⟩ := r
  unfold recV at *
  simp only at *
  have hB0 : Hid (Below w.heap.size w (w.alloc (.cells #[.int .i64 k, .int .i64 id, .int .i64 px, .int .i64 py, .int .i64 pz, .int .i64 vx, .int .i64 vy, .int .i64 vz, .int .u16 an] 147))) := Lib.hid ((Below.refl _ _).alloc (Nat.le_refl _) _)
  have HBODY : Hid (recBody ⟨k, id, px, py, pz, vx, vy, vz, an⟩ = if k = 2 then [] else if k = 1 then someB ⟨k, id, px, py, pz, vx, vy, vz, an⟩ else nb (recNums ⟨k, id, px, py, pz, vx, vy, vz, an⟩) ++ vputF an) := Lib.hid (by unfold recBody; rfl)
  have HWB : Hid (recWrB ⟨k, id, px, py, pz, vx, vy, vz, an⟩ last = vputF (id - last - 1) ++ [k] ++ recBody ⟨k, id, px, py, pz, vx, vy, vz, an⟩) := Lib.hid rfl
  generalize recWrB ⟨k, id, px, py, pz, vx, vy, vz, an⟩ last = wb at *
  generalize recBody ⟨k, id, px, py, pz, vx, vy, vz, an⟩ = rb at *
  have hu : U64 (id - last - 1) := ⟨by omega, by omega⟩
  have pt := fun w => vput_f (id - last - 1) hu w
  have hln := vsize_le hu
  rw [← vputF_len] at hln
  have hw1 : wrap64 (id - last) = id - last := by unfold wrap64; omega
  have hw2 : wrap64 (id - last - 1) = id - last - 1 := by unfold wrap64; omega
  have hw5 : IntKind.i64.wrap (id - last) = id - last := by rw [IntKind.wrap_i64]; omega
  have hw6 : IntKind.i64.wrap (id - last - 1) = id - last - 1 := by rw [IntKind.wrap_i64]; omega
  have hw3 : IntKind.u64.wrap (id - last - 1) = id - last - 1 := wraps_u64 _ (by omega) (by omega)
  have hw4 : IntKind.u8.wrap k = k := wraps_u8 _ (by omega) (by omega)
  generalize hys : vputF (id - last - 1) = ys at *
  have HYS := Lib.hid hys
  clear hys
  go_enter Tryz.func75, Tryz.ntmps75
  go_wp2_with fail
  refine (ck _).mono ?_; rintro e w1 ⟨rfl, hb1⟩
  have HB1 := Lib.hid (hB0.out.trans (hb1.mono (by simp)))
  have hX1 := (Blk.new w #[.int .i64 k, .int .i64 id, .int .i64 px, .int .i64 py, .int .i64 pz, .int .i64 vx, .int .i64 vy, .int .i64 vz, .int .u16 an] 147).below hb1 (by simp)
  have HX := Lib.hid hX1
  have hs1 : w.heap.size + 1 ≤ w1.heap.size := hX1.lt
  have c0 := hX1.cell 0
  have c1 := hX1.cell 1
  simp at c0 c1
  clear hb1 ck hX1 hB0
  go_wp2_with fail
  apply wp_region_loose 11
  case hm => kernel_rfl
  case hB => kernel_rfl
  simp only [List.take_succ_cons, List.take_zero, List.drop_succ_cons, List.drop_zero]
  repeat (apply wpLoose_fix; (next => (intro W hW K hK; have y0 := hW.cell c0; have y1 := hW.cell c1; go_simp; first | exact ⟨Below.refl _ _, hK⟩ | exact hK)); (try go_simp))
  apply wpLoose_new (s := ownSpec (w.heap.size + 1) ys) rfl
  · intro W hW
    have p1 := pt W
    go_simp
    refine p1.mono ?_; rintro e w' ⟨v, rfl, ho, hb⟩
    exact ⟨v, rfl, hb, trivial, ho.base (Nat.le_trans hs1 (Below.size hW))⟩
  intro v1 _
  repeat (apply wpLoose_fix; (next => (intro W hW K hK; have y0 := hW.cell c0; have y1 := hW.cell c1; go_simp; first | exact ⟨Below.refl _ _, hK⟩ | exact hK)); (try go_simp))
  apply wpLoose_new (s := bytesSpec [k]) rfl
  · intro W hW
    go_simp
    exact ⟨(Below.refl _ _).alloc (Nat.le_refl _) _, trivial, _, rfl, ints_new W [k] (AllU8.one ⟨by omega, by omega⟩)⟩
  intro v2 _
  refine wpLoose_nil ?_
  intro WC hWC hC
  obtain ⟨ho1, g, rfl, hb2⟩ := hC
  have hyl : ys.length + 1 ≤ 140737488355328 := by omega
  simp only [List.length_singleton] at hb2 ⊢
  have HO1 : Hid (OwnB WC (w.heap.size + 1) v1 ys) := Lib.hid ho1
  have HB2 := Lib.hid (HB1.out.trans (Below.mono hWC HB1.out.size))
  have HX2 := Lib.hid (HX.out.below hWC HX.out.lt)
  have hs2 : w.heap.size + 1 ≤ WC.heap.size := Nat.le_trans hs1 (Below.size hWC)
  clear ho1 hWC HB1 HX pt c0 c1
  go_wp2_with (at_builtin; refine wpList_app_bytes _ rfl (.tmp 31) (.tmp 35) rfl (w.heap.size + 1) _ ys rfl HO1.out (some ⟨g, 0, none⟩) 1 1 [k] rfl hb2 (by intro h; cases h) hyl (by omega) ?_)
  intro v3 w3 ho3 hg3
  have hBB : Below (w.heap.size + 1) WC w3 := (Below.refl _ _).grown hg3 (by omega) (fun j e => (HO1.out.lt j e).1)
  have HB3 := Lib.hid (HB2.out.trans (hBB.mono (Nat.le_succ _)))
  have hX3 := HX2.out.below hBB (Nat.lt_succ_self _)
  have hs3 : w.heap.size + 1 ≤ w3.heap.size := hX3.lt
  have HX3 := Lib.hid hX3
  have HO3 := Lib.hid ho3
  have c0 := hX3.cell 0
  simp at c0
  have wa := fun W => WA v3 (ys ++ [k]) w.heap.size (w.heap.size + 1) W
  have wm := fun W => WM v3 (ys ++ [k]) w.heap.size (w.heap.size + 1) W
  have n1 : ∀ W, _ := fun W => kn1_f v3 w.heap.size W
  have kk := fun W => kinds_f W
  unfold fnV at kk
  have HLEN : Hid (((ys ++ [k]).length : Int) ≤ 140737488354000) := Lib.hid (by simp; omega)
  generalize hzs : ys ++ [k] = zs at *
  have HZS := Lib.hid hzs
  clear ho3 hg3 hBB hb2 HO1 HB2 HX2 hX3 hzs WA WM hyl hw1 hw2 hw3 hw4 hw5 hw6 hu hln
  have hkk : k = 0 ∨ k = 1 ∨ k = 2 ∨ k = 3 := by omega
  clear k0 k3
  rcases hkk with rfl | rfl | rfl | rfl
  all_goals
    go_wp2_with fail
    have hkz : Tryz.prog.types[209].size = 2 := by kernel_rfl
    apply wp_region_loose 6
    case hm => kernel_rfl
    case hB => kernel_rfl
    simp only [List.take_succ_cons, List.take_zero, List.drop_succ_cons, List.drop_zero]
    (apply wpLoose_fix; (next => (intro W hW K hK; go_simp; first | exact ⟨Below.refl _ _, _, (kk W).mono (fun _ _ h => h), hK⟩ | exact ⟨_, (kk W).mono (fun _ _ h => h), hK⟩)); (try go_simp))
    repeat (apply wpLoose_fix; (next => (intro W hW K hK; have y0 := hW.cell c0; go_simp; first | exact ⟨Below.refl _ _, hK⟩ | exact hK)); (try go_simp))
    refine wpLoose_nil ?_
    intro WD hWD _
    have HO4 := Lib.hid (HO3.out.below hWD)
    have HX4 := Lib.hid (HX3.out.below hWD HX3.out.lt)
    have HB4 := Lib.hid (HB3.out.trans (Below.mono hWD HB3.out.size))
    have hs4 : w.heap.size + 1 ≤ WD.heap.size := Nat.le_trans hs3 (Below.size hWD)
    have wa1 := wa WD HO4.out (by simpa [recA] using HX4.out) (Nat.lt_succ_self _) HLEN.out hs4
    have wm1 := wm WD HO4.out (by simpa [recA] using HX4.out) (Nat.lt_succ_self _) HLEN.out hs4
    clear hWD HX3 HO3 HB3 wa wm kk c0
    go_wp2_with fail
    first
    | (refine wa1.mono ?_; rintro e w5 ⟨v5, rfl, ho5, hb5⟩)
    | (refine wm1.mono ?_; rintro e w5 ⟨v5, rfl, ho5, hb5⟩)
    | (refine (n1 _).mono ?_; rintro e w5 ⟨rfl, rfl⟩
       have ho5 : OwnB WD (w.heap.size + 1) v3 (zs ++ []) := by rw [List.append_nil]; exact HO4.out
       have hb5 : Below (w.heap.size + 1) WD WD := Below.refl _ _)
    have HB5 := Lib.hid (HB4.out.trans (hb5.mono (Nat.le_succ _)))
    have HO5 := Lib.hid (ho5.base (base' := w.heap.size) (Nat.le_succ _))
    clear ho5 hb5 wa1 wm1 HX4 HO4 HB4
    go_wp2
    refine bodyPost_ret (v := .tuple #[_, .int .i64 0]) (by simp [results, Tryz.results75, go_sem]; rfl) rfl ⟨_, rfl, ?_, HB5.out⟩
    rw [HWB.out, HBODY.out]
    first
    | (rw [if_pos rfl]; exact HO5.out)
    | (rw [if_pos trivial]; exact HO5.out)
    | (rw [if_neg (by decide), if_pos rfl]; exact HO5.out)
    | (rw [if_neg (by decide), if_pos trivial]; exact HO5.out)
    | (rw [if_neg (by decide), if_neg (by decide), ← List.append_assoc]; exact HO5.out)
set_option maxRecDepth 8000
theorem gtimely_f (t : Int) (w : World) : Calls Tryz.prog 108 #[.int .i64 t] w fun e w'=>e = .returned (.bool (decide (timelyB t))) ∧ w = w':=by
 have e : decide (timelyB t) = (decide (-2305843009213693952 ≤ t) && decide (t ≤ 2305843009213693952)):=by
  rw [← Bool.decide_and];exact decide_eq_decide.2 Iff.rfl
 rw [e]
 by_cases h1 : -2305843009213693952 ≤ t
 ·by_cases h2 : t ≤ 2305843009213693952
  ·go_enter Tryz.func108,Tryz.ntmps108
   go_wp2
   go_ret
   exact ⟨by simp [h1,h2],rfl⟩
  ·go_enter Tryz.func108,Tryz.ntmps108
   go_wp2
   go_ret
   exact ⟨by simp [h1,h2],rfl⟩
 ·go_enter Tryz.func108,Tryz.ntmps108
  go_wp2
  go_ret
  exact ⟨by simp [h1];omega,rfl⟩
def grV (tick time base : Int) (a : Option Addr) (len cap : Nat) : Value:=.agg #[.int .i64 tick,.int .i64 time,.int .i64 base,.slice a len cap]
set_option maxHeartbeats 1000000 in
theorem ghead_bad (tick time base : Int) (a : Option Addr) (len cap : Nat) (w : World) (h : grHdE tick time base len ≠ 0) :
  Calls Tryz.prog 74 #[grV tick time base a len cap] w fun e w'=>e = .returned (.tuple #[.slice none 0 0,.int .i64 (grHdE tick time base len)]) ∧ Below w.heap.size w w':=by
 have HE : Hid (grHdE tick time base len = if tick < 0 ∨ 4294967295 < tick ∨ time < -2305843009213693952 ∨ 2305843009213693952 < time ∨ base < -1 then 3 else if tick ≤ base then 10 else if 128 < len then 8 else 0):=Lib.hid rfl
 have tm:=fun w=>gtimely_f time w
 have HB : Hid (Below w.heap.size w (w.alloc (.cells #[.int .i64 tick,.int .i64 time,.int .i64 base,.slice a len cap] 39))):=Lib.hid ((Below.refl _ _).alloc (Nat.le_refl _) _)
 generalize grHdE tick time base len = er at *
 unfold grV
 by_cases h1 : tick < 0 ∨ 4294967295 < tick ∨ time < -2305843009213693952 ∨ 2305843009213693952 < time ∨ base < -1
 ·have HV : Hid (er = 3):=Lib.hid (by rw [HE.out,if_pos h1])
  clear HE h
  by_cases a1 : tick < 0
  ·go_enter Tryz.func74,Tryz.ntmps74
   go_wp2
   exact bodyPost_ret (v:=.tuple #[.slice none 0 0,.int .i64 3]) (by simp [results,Tryz.results74,go_sem]) rfl ⟨by rw [HV.out],HB.out⟩
  by_cases a2 : 4294967295 < tick
  ·go_enter Tryz.func74,Tryz.ntmps74
   go_wp2
   exact bodyPost_ret (v:=.tuple #[.slice none 0 0,.int .i64 3]) (by simp [results,Tryz.results74,go_sem]) rfl ⟨by rw [HV.out],HB.out⟩
  by_cases a3 : timelyB time
  ·have a4 : base < -1:=by unfold timelyB at a3;omega
   rw [decide_eq_true a3] at tm
   clear a3 h1
   go_enter Tryz.func74,Tryz.ntmps74
   go_wp2_with fail
   refine (tm _).mono ?_;rintro e w1 ⟨rfl,rfl⟩
   go_wp2
   exact bodyPost_ret (v:=.tuple #[.slice none 0 0,.int .i64 3]) (by simp [results,Tryz.results74,go_sem]) rfl ⟨by rw [HV.out],HB.out⟩
  ·rw [decide_eq_false a3] at tm
   clear a3 h1
   go_enter Tryz.func74,Tryz.ntmps74
   go_wp2_with fail
   refine (tm _).mono ?_;rintro e w1 ⟨rfl,rfl⟩
   go_wp2
   exact bodyPost_ret (v:=.tuple #[.slice none 0 0,.int .i64 3]) (by simp [results,Tryz.results74,go_sem]) rfl ⟨by rw [HV.out],HB.out⟩
 ·have a1 : ¬ tick < 0:=by omega
  have a2 : ¬ 4294967295 < tick:=by omega
  have a3 : timelyB time:=⟨by omega,by omega⟩
  have a4 : ¬ base < -1:=by omega
  rw [decide_eq_true a3] at tm
  by_cases h2 : tick ≤ base
  ·have HV : Hid (er = 10):=Lib.hid (by rw [HE.out,if_neg h1,if_pos h2])
   clear HE h h1 a3
   go_enter Tryz.func74,Tryz.ntmps74
   go_wp2_with fail
   refine (tm _).mono ?_;rintro e w1 ⟨rfl,rfl⟩
   go_wp2
   exact bodyPost_ret (v:=.tuple #[.slice none 0 0,.int .i64 10]) (by simp [results,Tryz.results74,go_sem]) rfl ⟨by rw [HV.out],HB.out⟩
  ·have h3 : (128 : Int) < len:=by
    rcases Nat.lt_or_ge 128 len with hh | hh
    ·omega
    ·exfalso;apply h;rw [HE.out,if_neg h1,if_neg h2,if_neg (by omega)]
   have HV : Hid (er = 8):=Lib.hid (by rw [HE.out,if_neg h1,if_neg h2,if_pos (by omega)])
   clear HE h h1 a3
   go_enter Tryz.func74,Tryz.ntmps74
   go_wp2_with fail
   refine (tm _).mono ?_;rintro e w1 ⟨rfl,rfl⟩
   go_wp2
   exact bodyPost_ret (v:=.tuple #[.slice none 0 0,.int .i64 8]) (by simp [results,Tryz.results74,go_sem]) rfl ⟨by rw [HV.out],HB.out⟩
def u64sL (l : List Int) : List Value:=l.map (Value.int .u64)
def u64Spec (l : List Int) : Spec:=⟨fun v=>∃ g,v = .slice (some ⟨g,0,none⟩) l.length l.length,fun v W=>∃ g,v = .slice (some ⟨g,0,none⟩) l.length l.length ∧ Blk W g (u64sL l).toArray 114,⟨_,0,rfl⟩,fun _ _ _ ⟨g,e,h⟩ hb=>⟨g,e,h.below hb h.lt⟩⟩
theorem ownsApart {w : World} {base k n : Nat} {e t : TypeId} {v : Value} {xs : List Value} (h : w.ownsRow base e k v n xs) {g : Nat} {cs : Array Value} (hb : Blk w g cs t) (ht : t ≠ e) : v.ownBlock ≠ some g:=by
 intro hg
 obtain ⟨_,⟨rfl,_⟩ | ⟨g',cap,cur,rfl,_,hh,_⟩⟩:=h
 ·cases hg
 ·cases hg
  unfold Blk at hb
  rw [hb] at hh
  cases hh
  exact ht rfl
theorem Blk.grown {w w' : World} {b : Nat} {cs : Array Value} {t : TypeId} {row : Option Nat} (h : Blk w b cs t) (hg : w.grownBy w' row) (hn : row ≠ some b) : Blk w' b cs t:=by
 have hl:=h.lt
 unfold Blk at *
 rw [hg.block b hl (fun e=>hn e.symm)];exact h
def HdRel (w : World) (g : Nat) (ns : List Int) (k : Nat) (v : Value) (wr : World) : Prop :=
 OwnB wr (w.heap.size + 1) v ([71,1] ++ (ns.take k).flatMap vputF) ∧ Blk wr g (u64sL ns).toArray 114 ∧ Below w.heap.size w wr ∧ w.heap.size + 1 ≤ wr.heap.size
theorem hdLen {a b c d : Int} (ha : U64 a) (hb : U64 b) (hc : U64 c) (hd : U64 d) (k : Nat) (hk : k ≤ 3) : ([71,1] ++ ([a,b,c,d].take k).flatMap vputF).length ≤ 32:=by
 have h1:=vsize_le ha
 have h2:=vsize_le hb
 have h3:=vsize_le hc
 rcases (show k = 0 ∨ k = 1 ∨ k = 2 ∨ k = 3 by omega) with rfl | rfl | rfl | rfl <;> simp [vputF_len] <;> omega
set_option maxHeartbeats 2000000 in
theorem ghead_ok (tick time base : Int) (ht : I64 time) (a : Option Addr) (len cap : Nat) (w : World) (h : grHdE tick time base len = 0) :
  Calls Tryz.prog 74 #[grV tick time base a len cap] w fun e w'=>∃ v,e = .returned (.tuple #[v,.int .i64 0]) ∧ OwnB w' w.heap.size v (grHdB tick time base len) ∧ Below w.heap.size w w':=by
 have tm:=fun w=>gtimely_f time w
 have zg:=fun w=>zig_f time ht w
 have hz:=zigF_u64 ht
 obtain ⟨a1,a2,a3,a4,h2,h3⟩ : ¬ tick < 0 ∧ ¬ 4294967295 < tick ∧ timelyB time ∧ ¬ base < -1 ∧ ¬ tick ≤ base ∧ ¬ (128 : Int) < len:=by
  unfold grHdE at h
  split at h
  ·cases h
  split at h
  ·cases h
  split at h
  ·cases h
  exact ⟨by omega,by omega,⟨by omega,by omega⟩,by omega,by omega,by omega⟩
 rw [decide_eq_true a3] at tm
 have hbk : 0 ≤ grBack tick base ∧ grBack tick base ≤ tick:=by unfold grBack;split <;> omega
 have HBK : Hid (grBack tick base = if 0 ≤ base then tick - base else 0):=Lib.hid rfl
 have HH : Hid (grHdB tick time base len = [71,1] ++ vputF tick ++ vputF (zigF time) ++ vputF (grBack tick base) ++ vputF len):=Lib.hid rfl
 generalize grHdB tick time base len = hb at *
 generalize grBack tick base = bk at *
 generalize zigF time = zt at *
 clear a3 h
 unfold grV
 have w1 : IntKind.u64.wrap tick = tick:=wraps_u64 _ (by omega) (by omega)
 have w2 : IntKind.u64.wrap (len : Int) = len:=wraps_u64 _ (by omega) (by omega)
 have HB : Hid (Below w.heap.size w (w.alloc (.cells #[.int .i64 tick,.int .i64 time,.int .i64 base,.slice a len cap] 39))):=Lib.hid ((Below.refl _ _).alloc (Nat.le_refl _) _)
 have HU0 : Hid (U64 tick):=Lib.hid ⟨by omega,by omega⟩
 have HU1 : Hid (U64 zt):=Lib.hid hz
 have HU3 : Hid (U64 (len : Int)):=Lib.hid ⟨by omega,by omega⟩
 have HGN : Hid (w.heap.size ≤ w.heap.size):=Lib.hid (Nat.le_refl _)
 clear hz
 by_cases hbase : 0 ≤ base
 ·have hk : bk = tick - base:=by rw [HBK.out,if_pos hbase]
  subst hk
  have w3 : wrap64 (tick - base) = tick - base:=by unfold wrap64;omega
  have w4 : IntKind.u64.wrap (tick - base) = tick - base:=wraps_u64 _ (by omega) (by omega)
  have HU2 : Hid (U64 (tick - base)):=Lib.hid ⟨by omega,by omega⟩
  clear HBK hbk
  have hG:=(Blk.new w #[.int .i64 tick,.int .i64 time,.int .i64 base,.slice a len cap] 39).alloc (.cells #[.int .u8 71,.int .u8 1] 5)
  have G0 : ((w.alloc (.cells #[.int .i64 tick,.int .i64 time,.int .i64 base,.slice a len cap] 39)).alloc (.cells #[.int .u8 71,.int .u8 1] 5)).cell? ⟨w.heap.size,0,none⟩ = some (.int .i64 tick):=hG.cell 0
  have G1 : ((w.alloc (.cells #[.int .i64 tick,.int .i64 time,.int .i64 base,.slice a len cap] 39)).alloc (.cells #[.int .u8 71,.int .u8 1] 5)).cell? ⟨w.heap.size,1,none⟩ = some (.int .i64 time):=hG.cell 1
  have G3 : ((w.alloc (.cells #[.int .i64 tick,.int .i64 time,.int .i64 base,.slice a len cap] 39)).alloc (.cells #[.int .u8 71,.int .u8 1] 5)).cell? ⟨w.heap.size,3,none⟩ = some (.slice a len cap):=hG.cell 3
  clear hG
  go_enter Tryz.func74,Tryz.ntmps74
  go_wp2_with fail
  refine (tm _).mono ?_;rintro e w1 ⟨rfl,rfl⟩
  go_wp2_with fail
  apply wp_region_looseA
  case hm=>kernel_rfl
  case hB=>kernel_rfl
  repeat (apply wpLoose_fix;(next=>(intro W hW K hK;have y0:=hW.cell G0;have y1:=hW.cell G1;have y2:=hW.cell G3;go_simp;first | exact ⟨Below.refl _ _,hK⟩ | exact hK));(try go_simp))
  (apply wpLoose_fix;(next=>(intro W hW K hK;go_simp;exact ⟨Below.refl _ _,_,(zg W).mono (fun e w' hh=>⟨hh.1,hh.2 ▸ Below.refl _ _⟩),hK⟩));(try go_simp))
  repeat (apply wpLoose_fix;(next=>(intro W hW K hK;have y0:=hW.cell G0;have y1:=hW.cell G1;have y2:=hW.cell G3;go_simp;first | exact ⟨Below.refl _ _,hK⟩ | exact hK));(try go_simp))
  apply wpLoose_new (s:=u64Spec [tick,zt,(tick - base),(len : Int)]) rfl
  ·intro W hW
   go_simp
   exact ⟨(Below.refl _ _).alloc (Nat.le_refl _) _,⟨_,rfl⟩,_,rfl,Blk.new W _ _⟩
  intro vv hvv
  obtain ⟨g,rfl⟩:=hvv
  repeat (apply wpLoose_fix;(next=>(intro W hW K hK;go_simp;first | exact ⟨Below.refl _ _,hK⟩ | exact hK));(try go_simp))
  refine wpLoose_nil ?_
  intro WC hWC hC
  obtain ⟨g',hg',hU⟩:=hC
  cases hg'
  have HB1 : Hid (Below w.heap.size w WC):=Lib.hid ((((Below.refl _ _).alloc (Nat.le_refl _) _).alloc (by simp) _).trans (Below.mono hWC (by simp;omega)))
  have hbs : w.heap.size + 1 ≤ WC.heap.size:=by have:=Below.size hWC;simp at this;omega
  have HZ0 : Hid (OwnB WC (w.heap.size + 1) (.slice (some ⟨w.heap.size + 1,0,none⟩) 2 2) [71,1]):=Lib.hid ((by
   have hb:=Blk.new (w.alloc (.cells #[.int .i64 tick,.int .i64 time,.int .i64 base,.slice a len cap] 39)) #[.int .u8 71,.int .u8 1] 5
   rw [show (w.alloc (.cells #[.int .i64 tick,.int .i64 time,.int .i64 base,.slice a len cap] 39)).heap.size = w.heap.size + 1 by simp] at hb
   exact (OwnB.ofBlk (zs:=[71,1]) (Nat.le_refl _) hb (by simp [maxLen]) (by intro z hz;simp at hz;rcases hz with rfl | rfl <;> exact ⟨by decide,by decide⟩)).below hWC))
  have HS : Hid (HdRel w g [tick,zt,(tick - base),(len : Int)] 0 (.slice (some ⟨w.heap.size + 1,0,none⟩) 2 2) WC):=Lib.hid ⟨by simpa using HZ0.out,by simpa [u64sL] using hU,HB1.out,hbs⟩
  clear hU hWC HB1 HZ0 G0 G1 G3 zg tm
  go_wp2_with fail
  go_loopw [5,62] (fun v i wr=>∃ k : Nat,k ≤ 4 ∧ i = .int .i64 k ∧ HdRel w g [tick,zt,(tick - base),(len : Int)] k v wr) (fun _ i _=>4 - (intOf i).toNat)
  case atStart=>exact ⟨0,by omega,rfl,HS.out⟩
  case round =>
   rename_i wr
   obtain ⟨k,hk,rfl,hO,hU,hB,hN⟩:=hrel
   have hbs2 : w.heap.size + 1 ≤ wr.heap.size:=hN
   rcases (show k = 0 ∨ k = 1 ∨ k = 2 ∨ k = 3 ∨ k = 4 by omega) with rfl | rfl | rfl | rfl | rfl
   ·have c0:=hU.cell 0
    simp [u64sL] at c0
    have pt:=vput_f tick HU0.out wr
    have HL : Hid ((vputF tick).length ≤ 10):=Lib.hid (by rw [vputF_len];exact vsize_le HU0.out)
    have HP : Hid (([71,1] ++ ([tick,zt,(tick - base),(len : Int)].take 0).flatMap vputF).length ≤ 32):=Lib.hid (hdLen HU0.out HU1.out HU2.out HU3.out 0 (by decide))
    have HQ : Hid (([71,1] ++ ([tick,zt,(tick - base),(len : Int)].take 0).flatMap vputF) ++ vputF tick = [71,1] ++ ([tick,zt,(tick - base),(len : Int)].take 1).flatMap vputF):=Lib.hid (by simp)
    have HO:=Lib.hid hO
    have HU:=Lib.hid hU
    have HB:=Lib.hid hB
    clear hO hU hB
    generalize [71,1] ++ ([tick,zt,(tick - base),(len : Int)].take 0).flatMap vputF = zs at *
    generalize vputF tick = ys at *
    go_wp2_with fail
    refine pt.mono ?_;rintro e w2 ⟨v1,rfl,ho1,hb1⟩
    obtain ⟨ad,c,rfl,hba,hac⟩:=ho1.bytes
    have hs1:=hb1.size
    have hO2:=HO.out.below hb1
    have HU2':=Lib.hid (HU.out.below hb1 HU.out.lt)
    have HB2:=Lib.hid (HB.out.trans (hb1.mono (by omega)))
    have HO2:=Lib.hid hO2
    clear ho1 hb1 hO2 pt HO HU HB
    have hyl : zs.length + ys.length ≤ 140737488355328:=by have:=HL.out;have:=HP.out;omega
    go_wp2_with (at_builtin;refine wpList_app_bytes _ rfl (.tmp 66) (.tmp 68) rfl (w.heap.size + 1) _ zs rfl HO2.out ad ys.length c ys rfl hba hac hyl (by omega) ?_)
    intro v2 w3 ho2 hg2
    have HS2 : Hid (HdRel w g [tick,zt,(tick - base),(len : Int)] 1 v2 w3):=Lib.hid ⟨by rw [← HQ.out];exact ho2,HU2'.out.grown hg2 (ownsApart HO2.out.1 HU2'.out (by decide)),HB2.out.grown hg2 (by omega) (fun j e=>Nat.le_trans (Nat.le_succ _) (HO2.out.lt j e).1),Nat.le_trans (by omega) hg2.size⟩
    clear ho2 hg2 HO2 HU2' HB2 hba
    go_wp2
    go_roundw
    case rel=>exact ⟨1,by omega,by first | rfl | go_num,HS2.out⟩
    case measure=>simp [intOf]
   ·have c0:=hU.cell 1
    simp [u64sL] at c0
    have pt:=vput_f zt HU1.out wr
    have HL : Hid ((vputF zt).length ≤ 10):=Lib.hid (by rw [vputF_len];exact vsize_le HU1.out)
    have HP : Hid (([71,1] ++ ([tick,zt,(tick - base),(len : Int)].take 1).flatMap vputF).length ≤ 32):=Lib.hid (hdLen HU0.out HU1.out HU2.out HU3.out 1 (by decide))
    have HQ : Hid (([71,1] ++ ([tick,zt,(tick - base),(len : Int)].take 1).flatMap vputF) ++ vputF zt = [71,1] ++ ([tick,zt,(tick - base),(len : Int)].take 2).flatMap vputF):=Lib.hid (by simp)
    have HO:=Lib.hid hO
    have HU:=Lib.hid hU
    have HB:=Lib.hid hB
    clear hO hU hB
    generalize [71,1] ++ ([tick,zt,(tick - base),(len : Int)].take 1).flatMap vputF = zs at *
    generalize vputF zt = ys at *
    go_wp2_with fail
    refine pt.mono ?_;rintro e w2 ⟨v1,rfl,ho1,hb1⟩
    obtain ⟨ad,c,rfl,hba,hac⟩:=ho1.bytes
    have hs1:=hb1.size
    have hO2:=HO.out.below hb1
    have HU2':=Lib.hid (HU.out.below hb1 HU.out.lt)
    have HB2:=Lib.hid (HB.out.trans (hb1.mono (by omega)))
    have HO2:=Lib.hid hO2
    clear ho1 hb1 hO2 pt HO HU HB
    have hyl : zs.length + ys.length ≤ 140737488355328:=by have:=HL.out;have:=HP.out;omega
    go_wp2_with (at_builtin;refine wpList_app_bytes _ rfl (.tmp 66) (.tmp 68) rfl (w.heap.size + 1) _ zs rfl HO2.out ad ys.length c ys rfl hba hac hyl (by omega) ?_)
    intro v2 w3 ho2 hg2
    have HS2 : Hid (HdRel w g [tick,zt,(tick - base),(len : Int)] 2 v2 w3):=Lib.hid ⟨by rw [← HQ.out];exact ho2,HU2'.out.grown hg2 (ownsApart HO2.out.1 HU2'.out (by decide)),HB2.out.grown hg2 (by omega) (fun j e=>Nat.le_trans (Nat.le_succ _) (HO2.out.lt j e).1),Nat.le_trans (by omega) hg2.size⟩
    clear ho2 hg2 HO2 HU2' HB2 hba
    go_wp2
    go_roundw
    case rel=>exact ⟨2,by omega,by first | rfl | go_num,HS2.out⟩
    case measure=>simp [intOf]
   ·have c0:=hU.cell 2
    simp [u64sL] at c0
    have pt:=vput_f (tick - base) HU2.out wr
    have HL : Hid ((vputF (tick - base)).length ≤ 10):=Lib.hid (by rw [vputF_len];exact vsize_le HU2.out)
    have HP : Hid (([71,1] ++ ([tick,zt,(tick - base),(len : Int)].take 2).flatMap vputF).length ≤ 32):=Lib.hid (hdLen HU0.out HU1.out HU2.out HU3.out 2 (by decide))
    have HQ : Hid (([71,1] ++ ([tick,zt,(tick - base),(len : Int)].take 2).flatMap vputF) ++ vputF (tick - base) = [71,1] ++ ([tick,zt,(tick - base),(len : Int)].take 3).flatMap vputF):=Lib.hid (by simp)
    have HO:=Lib.hid hO
    have HU:=Lib.hid hU
    have HB:=Lib.hid hB
    clear hO hU hB
    generalize [71,1] ++ ([tick,zt,(tick - base),(len : Int)].take 2).flatMap vputF = zs at *
    generalize vputF (tick - base) = ys at *
    go_wp2_with fail
    refine pt.mono ?_;rintro e w2 ⟨v1,rfl,ho1,hb1⟩
    obtain ⟨ad,c,rfl,hba,hac⟩:=ho1.bytes
    have hs1:=hb1.size
    have hO2:=HO.out.below hb1
    have HU2':=Lib.hid (HU.out.below hb1 HU.out.lt)
    have HB2:=Lib.hid (HB.out.trans (hb1.mono (by omega)))
    have HO2:=Lib.hid hO2
    clear ho1 hb1 hO2 pt HO HU HB
    have hyl : zs.length + ys.length ≤ 140737488355328:=by have:=HL.out;have:=HP.out;omega
    go_wp2_with (at_builtin;refine wpList_app_bytes _ rfl (.tmp 66) (.tmp 68) rfl (w.heap.size + 1) _ zs rfl HO2.out ad ys.length c ys rfl hba hac hyl (by omega) ?_)
    intro v2 w3 ho2 hg2
    have HS2 : Hid (HdRel w g [tick,zt,(tick - base),(len : Int)] 3 v2 w3):=Lib.hid ⟨by rw [← HQ.out];exact ho2,HU2'.out.grown hg2 (ownsApart HO2.out.1 HU2'.out (by decide)),HB2.out.grown hg2 (by omega) (fun j e=>Nat.le_trans (Nat.le_succ _) (HO2.out.lt j e).1),Nat.le_trans (by omega) hg2.size⟩
    clear ho2 hg2 HO2 HU2' HB2 hba
    go_wp2
    go_roundw
    case rel=>exact ⟨3,by omega,by first | rfl | go_num,HS2.out⟩
    case measure=>simp [intOf]
   ·have c0:=hU.cell 3
    simp [u64sL] at c0
    have pt:=vput_f (len : Int) HU3.out wr
    have HL : Hid ((vputF (len : Int)).length ≤ 10):=Lib.hid (by rw [vputF_len];exact vsize_le HU3.out)
    have HP : Hid (([71,1] ++ ([tick,zt,(tick - base),(len : Int)].take 3).flatMap vputF).length ≤ 32):=Lib.hid (hdLen HU0.out HU1.out HU2.out HU3.out 3 (by decide))
    have HQ : Hid (([71,1] ++ ([tick,zt,(tick - base),(len : Int)].take 3).flatMap vputF) ++ vputF (len : Int) = [71,1] ++ ([tick,zt,(tick - base),(len : Int)].take 4).flatMap vputF):=Lib.hid (by simp)
    have HO:=Lib.hid hO
    have HU:=Lib.hid hU
    have HB:=Lib.hid hB
    clear hO hU hB
    generalize [71,1] ++ ([tick,zt,(tick - base),(len : Int)].take 3).flatMap vputF = zs at *
    generalize vputF (len : Int) = ys at *
    go_wp2_with fail
    refine pt.mono ?_;rintro e w2 ⟨v1,rfl,ho1,hb1⟩
    obtain ⟨ad,c,rfl,hba,hac⟩:=ho1.bytes
    have hs1:=hb1.size
    have hO2:=HO.out.below hb1
    have HU2':=Lib.hid (HU.out.below hb1 HU.out.lt)
    have HB2:=Lib.hid (HB.out.trans (hb1.mono (by omega)))
    have HO2:=Lib.hid hO2
    clear ho1 hb1 hO2 pt HO HU HB
    have hyl : zs.length + ys.length ≤ 140737488355328:=by have:=HL.out;have:=HP.out;omega
    go_wp2_with (at_builtin;refine wpList_app_bytes _ rfl (.tmp 66) (.tmp 68) rfl (w.heap.size + 1) _ zs rfl HO2.out ad ys.length c ys rfl hba hac hyl (by omega) ?_)
    intro v2 w3 ho2 hg2
    have HS2 : Hid (HdRel w g [tick,zt,(tick - base),(len : Int)] 4 v2 w3):=Lib.hid ⟨by rw [← HQ.out];exact ho2,HU2'.out.grown hg2 (ownsApart HO2.out.1 HU2'.out (by decide)),HB2.out.grown hg2 (by omega) (fun j e=>Nat.le_trans (Nat.le_succ _) (HO2.out.lt j e).1),Nat.le_trans (by omega) hg2.size⟩
    clear ho2 hg2 HO2 HU2' HB2 hba
    go_wp2
    go_roundw
    case rel=>exact ⟨4,by omega,by first | rfl | go_num,HS2.out⟩
    case measure=>simp [intOf]
   ·have HO:=Lib.hid hO
    have HB:=Lib.hid hB
    clear hO hU hB
    go_wp2
    refine bodyPost_ret (v:=.tuple #[_,.int .i64 0]) (by simp [results,Tryz.results74,go_sem];rfl) rfl ⟨_,rfl,?_,HB.out⟩
    have:=HO.out.base (base':=w.heap.size) (Nat.le_succ _)
    rw [HH.out]
    simpa using this
 ·have hk : bk = 0:=by rw [HBK.out,if_neg hbase]
  subst hk
  have HU2 : Hid (U64 0):=Lib.hid ⟨by decide,by decide⟩
  clear HBK hbk
  have hG:=(Blk.new w #[.int .i64 tick,.int .i64 time,.int .i64 base,.slice a len cap] 39).alloc (.cells #[.int .u8 71,.int .u8 1] 5)
  have G0 : ((w.alloc (.cells #[.int .i64 tick,.int .i64 time,.int .i64 base,.slice a len cap] 39)).alloc (.cells #[.int .u8 71,.int .u8 1] 5)).cell? ⟨w.heap.size,0,none⟩ = some (.int .i64 tick):=hG.cell 0
  have G1 : ((w.alloc (.cells #[.int .i64 tick,.int .i64 time,.int .i64 base,.slice a len cap] 39)).alloc (.cells #[.int .u8 71,.int .u8 1] 5)).cell? ⟨w.heap.size,1,none⟩ = some (.int .i64 time):=hG.cell 1
  have G3 : ((w.alloc (.cells #[.int .i64 tick,.int .i64 time,.int .i64 base,.slice a len cap] 39)).alloc (.cells #[.int .u8 71,.int .u8 1] 5)).cell? ⟨w.heap.size,3,none⟩ = some (.slice a len cap):=hG.cell 3
  clear hG
  go_enter Tryz.func74,Tryz.ntmps74
  go_wp2_with fail
  refine (tm _).mono ?_;rintro e w1 ⟨rfl,rfl⟩
  go_wp2_with fail
  apply wp_region_looseA
  case hm=>kernel_rfl
  case hB=>kernel_rfl
  repeat (apply wpLoose_fix;(next=>(intro W hW K hK;have y0:=hW.cell G0;have y1:=hW.cell G1;have y2:=hW.cell G3;go_simp;first | exact ⟨Below.refl _ _,hK⟩ | exact hK));(try go_simp))
  (apply wpLoose_fix;(next=>(intro W hW K hK;go_simp;exact ⟨Below.refl _ _,_,(zg W).mono (fun e w' hh=>⟨hh.1,hh.2 ▸ Below.refl _ _⟩),hK⟩));(try go_simp))
  repeat (apply wpLoose_fix;(next=>(intro W hW K hK;have y0:=hW.cell G0;have y1:=hW.cell G1;have y2:=hW.cell G3;go_simp;first | exact ⟨Below.refl _ _,hK⟩ | exact hK));(try go_simp))
  apply wpLoose_new (s:=u64Spec [tick,zt,0,(len : Int)]) rfl
  ·intro W hW
   go_simp
   exact ⟨(Below.refl _ _).alloc (Nat.le_refl _) _,⟨_,rfl⟩,_,rfl,Blk.new W _ _⟩
  intro vv hvv
  obtain ⟨g,rfl⟩:=hvv
  repeat (apply wpLoose_fix;(next=>(intro W hW K hK;go_simp;first | exact ⟨Below.refl _ _,hK⟩ | exact hK));(try go_simp))
  refine wpLoose_nil ?_
  intro WC hWC hC
  obtain ⟨g',hg',hU⟩:=hC
  cases hg'
  have HB1 : Hid (Below w.heap.size w WC):=Lib.hid ((((Below.refl _ _).alloc (Nat.le_refl _) _).alloc (by simp) _).trans (Below.mono hWC (by simp;omega)))
  have hbs : w.heap.size + 1 ≤ WC.heap.size:=by have:=Below.size hWC;simp at this;omega
  have HZ0 : Hid (OwnB WC (w.heap.size + 1) (.slice (some ⟨w.heap.size + 1,0,none⟩) 2 2) [71,1]):=Lib.hid ((by
   have hb:=Blk.new (w.alloc (.cells #[.int .i64 tick,.int .i64 time,.int .i64 base,.slice a len cap] 39)) #[.int .u8 71,.int .u8 1] 5
   rw [show (w.alloc (.cells #[.int .i64 tick,.int .i64 time,.int .i64 base,.slice a len cap] 39)).heap.size = w.heap.size + 1 by simp] at hb
   exact (OwnB.ofBlk (zs:=[71,1]) (Nat.le_refl _) hb (by simp [maxLen]) (by intro z hz;simp at hz;rcases hz with rfl | rfl <;> exact ⟨by decide,by decide⟩)).below hWC))
  have HS : Hid (HdRel w g [tick,zt,0,(len : Int)] 0 (.slice (some ⟨w.heap.size + 1,0,none⟩) 2 2) WC):=Lib.hid ⟨by simpa using HZ0.out,by simpa [u64sL] using hU,HB1.out,hbs⟩
  clear hU hWC HB1 HZ0 G0 G1 G3 zg tm
  go_wp2_with fail
  go_loopw [5,62] (fun v i wr=>∃ k : Nat,k ≤ 4 ∧ i = .int .i64 k ∧ HdRel w g [tick,zt,0,(len : Int)] k v wr) (fun _ i _=>4 - (intOf i).toNat)
  case atStart=>exact ⟨0,by omega,rfl,HS.out⟩
  case round =>
   rename_i wr
   obtain ⟨k,hk,rfl,hO,hU,hB,hN⟩:=hrel
   have hbs2 : w.heap.size + 1 ≤ wr.heap.size:=hN
   rcases (show k = 0 ∨ k = 1 ∨ k = 2 ∨ k = 3 ∨ k = 4 by omega) with rfl | rfl | rfl | rfl | rfl
   ·have c0:=hU.cell 0
    simp [u64sL] at c0
    have pt:=vput_f tick HU0.out wr
    have HL : Hid ((vputF tick).length ≤ 10):=Lib.hid (by rw [vputF_len];exact vsize_le HU0.out)
    have HP : Hid (([71,1] ++ ([tick,zt,0,(len : Int)].take 0).flatMap vputF).length ≤ 32):=Lib.hid (hdLen HU0.out HU1.out HU2.out HU3.out 0 (by decide))
    have HQ : Hid (([71,1] ++ ([tick,zt,0,(len : Int)].take 0).flatMap vputF) ++ vputF tick = [71,1] ++ ([tick,zt,0,(len : Int)].take 1).flatMap vputF):=Lib.hid (by simp)
    have HO:=Lib.hid hO
    have HU:=Lib.hid hU
    have HB:=Lib.hid hB
    clear hO hU hB
    generalize [71,1] ++ ([tick,zt,0,(len : Int)].take 0).flatMap vputF = zs at *
    generalize vputF tick = ys at *
    go_wp2_with fail
    refine pt.mono ?_;rintro e w2 ⟨v1,rfl,ho1,hb1⟩
    obtain ⟨ad,c,rfl,hba,hac⟩:=ho1.bytes
    have hs1:=hb1.size
    have hO2:=HO.out.below hb1
    have HU2':=Lib.hid (HU.out.below hb1 HU.out.lt)
    have HB2:=Lib.hid (HB.out.trans (hb1.mono (by omega)))
    have HO2:=Lib.hid hO2
    clear ho1 hb1 hO2 pt HO HU HB
    have hyl : zs.length + ys.length ≤ 140737488355328:=by have:=HL.out;have:=HP.out;omega
    go_wp2_with (at_builtin;refine wpList_app_bytes _ rfl (.tmp 66) (.tmp 68) rfl (w.heap.size + 1) _ zs rfl HO2.out ad ys.length c ys rfl hba hac hyl (by omega) ?_)
    intro v2 w3 ho2 hg2
    have HS2 : Hid (HdRel w g [tick,zt,0,(len : Int)] 1 v2 w3):=Lib.hid ⟨by rw [← HQ.out];exact ho2,HU2'.out.grown hg2 (ownsApart HO2.out.1 HU2'.out (by decide)),HB2.out.grown hg2 (by omega) (fun j e=>Nat.le_trans (Nat.le_succ _) (HO2.out.lt j e).1),Nat.le_trans (by omega) hg2.size⟩
    clear ho2 hg2 HO2 HU2' HB2 hba
    go_wp2
    go_roundw
    case rel=>exact ⟨1,by omega,by first | rfl | go_num,HS2.out⟩
    case measure=>simp [intOf]
   ·have c0:=hU.cell 1
    simp [u64sL] at c0
    have pt:=vput_f zt HU1.out wr
    have HL : Hid ((vputF zt).length ≤ 10):=Lib.hid (by rw [vputF_len];exact vsize_le HU1.out)
    have HP : Hid (([71,1] ++ ([tick,zt,0,(len : Int)].take 1).flatMap vputF).length ≤ 32):=Lib.hid (hdLen HU0.out HU1.out HU2.out HU3.out 1 (by decide))
    have HQ : Hid (([71,1] ++ ([tick,zt,0,(len : Int)].take 1).flatMap vputF) ++ vputF zt = [71,1] ++ ([tick,zt,0,(len : Int)].take 2).flatMap vputF):=Lib.hid (by simp)
    have HO:=Lib.hid hO
    have HU:=Lib.hid hU
    have HB:=Lib.hid hB
    clear hO hU hB
    generalize [71,1] ++ ([tick,zt,0,(len : Int)].take 1).flatMap vputF = zs at *
    generalize vputF zt = ys at *
    go_wp2_with fail
    refine pt.mono ?_;rintro e w2 ⟨v1,rfl,ho1,hb1⟩
    obtain ⟨ad,c,rfl,hba,hac⟩:=ho1.bytes
    have hs1:=hb1.size
    have hO2:=HO.out.below hb1
    have HU2':=Lib.hid (HU.out.below hb1 HU.out.lt)
    have HB2:=Lib.hid (HB.out.trans (hb1.mono (by omega)))
    have HO2:=Lib.hid hO2
    clear ho1 hb1 hO2 pt HO HU HB
    have hyl : zs.length + ys.length ≤ 140737488355328:=by have:=HL.out;have:=HP.out;omega
    go_wp2_with (at_builtin;refine wpList_app_bytes _ rfl (.tmp 66) (.tmp 68) rfl (w.heap.size + 1) _ zs rfl HO2.out ad ys.length c ys rfl hba hac hyl (by omega) ?_)
    intro v2 w3 ho2 hg2
    have HS2 : Hid (HdRel w g [tick,zt,0,(len : Int)] 2 v2 w3):=Lib.hid ⟨by rw [← HQ.out];exact ho2,HU2'.out.grown hg2 (ownsApart HO2.out.1 HU2'.out (by decide)),HB2.out.grown hg2 (by omega) (fun j e=>Nat.le_trans (Nat.le_succ _) (HO2.out.lt j e).1),Nat.le_trans (by omega) hg2.size⟩
    clear ho2 hg2 HO2 HU2' HB2 hba
    go_wp2
    go_roundw
    case rel=>exact ⟨2,by omega,by first | rfl | go_num,HS2.out⟩
    case measure=>simp [intOf]
   ·have c0:=hU.cell 2
    simp [u64sL] at c0
    have pt:=vput_f 0 HU2.out wr
    have HL : Hid ((vputF 0).length ≤ 10):=Lib.hid (by rw [vputF_len];exact vsize_le HU2.out)
    have HP : Hid (([71,1] ++ ([tick,zt,0,(len : Int)].take 2).flatMap vputF).length ≤ 32):=Lib.hid (hdLen HU0.out HU1.out HU2.out HU3.out 2 (by decide))
    have HQ : Hid (([71,1] ++ ([tick,zt,0,(len : Int)].take 2).flatMap vputF) ++ vputF 0 = [71,1] ++ ([tick,zt,0,(len : Int)].take 3).flatMap vputF):=Lib.hid (by simp)
    have HO:=Lib.hid hO
    have HU:=Lib.hid hU
    have HB:=Lib.hid hB
    clear hO hU hB
    generalize [71,1] ++ ([tick,zt,0,(len : Int)].take 2).flatMap vputF = zs at *
    generalize vputF 0 = ys at *
    go_wp2_with fail
    refine pt.mono ?_;rintro e w2 ⟨v1,rfl,ho1,hb1⟩
    obtain ⟨ad,c,rfl,hba,hac⟩:=ho1.bytes
    have hs1:=hb1.size
    have hO2:=HO.out.below hb1
    have HU2':=Lib.hid (HU.out.below hb1 HU.out.lt)
    have HB2:=Lib.hid (HB.out.trans (hb1.mono (by omega)))
    have HO2:=Lib.hid hO2
    clear ho1 hb1 hO2 pt HO HU HB
    have hyl : zs.length + ys.length ≤ 140737488355328:=by have:=HL.out;have:=HP.out;omega
    go_wp2_with (at_builtin;refine wpList_app_bytes _ rfl (.tmp 66) (.tmp 68) rfl (w.heap.size + 1) _ zs rfl HO2.out ad ys.length c ys rfl hba hac hyl (by omega) ?_)
    intro v2 w3 ho2 hg2
    have HS2 : Hid (HdRel w g [tick,zt,0,(len : Int)] 3 v2 w3):=Lib.hid ⟨by rw [← HQ.out];exact ho2,HU2'.out.grown hg2 (ownsApart HO2.out.1 HU2'.out (by decide)),HB2.out.grown hg2 (by omega) (fun j e=>Nat.le_trans (Nat.le_succ _) (HO2.out.lt j e).1),Nat.le_trans (by omega) hg2.size⟩
    clear ho2 hg2 HO2 HU2' HB2 hba
    go_wp2
    go_roundw
    case rel=>exact ⟨3,by omega,by first | rfl | go_num,HS2.out⟩
    case measure=>simp [intOf]
   ·have c0:=hU.cell 3
    simp [u64sL] at c0
    have pt:=vput_f (len : Int) HU3.out wr
    have HL : Hid ((vputF (len : Int)).length ≤ 10):=Lib.hid (by rw [vputF_len];exact vsize_le HU3.out)
    have HP : Hid (([71,1] ++ ([tick,zt,0,(len : Int)].take 3).flatMap vputF).length ≤ 32):=Lib.hid (hdLen HU0.out HU1.out HU2.out HU3.out 3 (by decide))
    have HQ : Hid (([71,1] ++ ([tick,zt,0,(len : Int)].take 3).flatMap vputF) ++ vputF (len : Int) = [71,1] ++ ([tick,zt,0,(len : Int)].take 4).flatMap vputF):=Lib.hid (by simp)
    have HO:=Lib.hid hO
    have HU:=Lib.hid hU
    have HB:=Lib.hid hB
    clear hO hU hB
    generalize [71,1] ++ ([tick,zt,0,(len : Int)].take 3).flatMap vputF = zs at *
    generalize vputF (len : Int) = ys at *
    go_wp2_with fail
    refine pt.mono ?_;rintro e w2 ⟨v1,rfl,ho1,hb1⟩
    obtain ⟨ad,c,rfl,hba,hac⟩:=ho1.bytes
    have hs1:=hb1.size
    have hO2:=HO.out.below hb1
    have HU2':=Lib.hid (HU.out.below hb1 HU.out.lt)
    have HB2:=Lib.hid (HB.out.trans (hb1.mono (by omega)))
    have HO2:=Lib.hid hO2
    clear ho1 hb1 hO2 pt HO HU HB
    have hyl : zs.length + ys.length ≤ 140737488355328:=by have:=HL.out;have:=HP.out;omega
    go_wp2_with (at_builtin;refine wpList_app_bytes _ rfl (.tmp 66) (.tmp 68) rfl (w.heap.size + 1) _ zs rfl HO2.out ad ys.length c ys rfl hba hac hyl (by omega) ?_)
    intro v2 w3 ho2 hg2
    have HS2 : Hid (HdRel w g [tick,zt,0,(len : Int)] 4 v2 w3):=Lib.hid ⟨by rw [← HQ.out];exact ho2,HU2'.out.grown hg2 (ownsApart HO2.out.1 HU2'.out (by decide)),HB2.out.grown hg2 (by omega) (fun j e=>Nat.le_trans (Nat.le_succ _) (HO2.out.lt j e).1),Nat.le_trans (by omega) hg2.size⟩
    clear ho2 hg2 HO2 HU2' HB2 hba
    go_wp2
    go_roundw
    case rel=>exact ⟨4,by omega,by first | rfl | go_num,HS2.out⟩
    case measure=>simp [intOf]
   ·have HO:=Lib.hid hO
    have HB:=Lib.hid hB
    clear hO hU hB
    go_wp2
    refine bodyPost_ret (v:=.tuple #[_,.int .i64 0]) (by simp [results,Tryz.results74,go_sem];rfl) rfl ⟨_,rfl,?_,HB.out⟩
    have:=HO.out.base (base':=w.heap.size) (Nat.le_succ _)
    rw [HH.out]
    simpa using this
end Go.Proofs.YtklkooeimkedgaaGreat
