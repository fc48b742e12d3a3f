/- Walk of TopExact. -/
import Derived.Test.YtklkooeimkedgaaGreatE35
set_option linter.unusedVariables false
set_option linter.unusedSimpArgs false
namespace Go.Proofs.YtklkooeimkedgaaGreat
open Go.RowKit
set_option maxRecDepth 8000
def Rd9 (R B0 X A : Nat) (s s1 : aH) (cs : Array Value) (w : World) (b : Bool) (W : World) : Prop :=
 bf W R B0 (bif b then s1 else s) /\ ak W X cs 147 /\ ak W A #[.int .i64 0,.int .i64 0,.int .i64 0,.int .i64 0,.int .i64 0,.int .i64 0,.int .i64 0,.int .i64 0,.int .u16 0] 147 /\ Only (· = R) w W
set_option maxHeartbeats 4000000 in
theorem TW {B0 : Nat} (R : Nat) (s : aH) (last : Int) (h1 : -1 <= last) (h2 : last < 65535) (w : World) (h : bf w R B0 s) (hB0 : B0 <= w.heap.size) :
 Calls Tryz.prog 197 #[.pointer (some ⟨R,0,none⟩),.int .i64 last] w λe w'=>e = .returned (.tuple #[lS (dM last s).1,.int .i64 (dM last s).2.1]) /\ bf w' R B0 (dM last s).2.2 /\ Only (· = R) w w':=by
 have ru:=λw h=>sW (B0:=B0) R s (65535 - (last + 1)) w h
 have ub:=je (most:=65535 - (last + 1)) h.u8 (by omega)
 obtain ⟨q,HQ⟩ : ∃ q,Hid (qo last s = q):=⟨_,ah6 rfl⟩
 have HE : Hid (dM last s = if q.2.2 ≠ 0 then (FZ,q.2.2,q.2) else (q.1,0,q.2)):=ah6 (by unfold dM;rw [if_neg (by omega),HQ.out])
 have vU : Hid (q = rdKind (bG (aZ (65535 - (last + 1)) s).2).1 ⟨(bG (aZ (65535 - (last + 1)) s).2).1,last + 1 + (aZ (65535 - (last + 1)) s).1,0,0,0,0,0,0,0⟩ (bG (aZ (65535 - (last + 1)) s).2).2):=ah6 (by rw [← HQ.out];rfl)
 clear HQ
 have rb:=λw h=>FL (B0:=B0) R (aZ (65535 - (last + 1)) s).2 w h
 have kb : aT (aZ (65535 - (last + 1)) s).2.1 -> U8 (bG (aZ (65535 - (last + 1)) s).2).1:=λh=>Az h
 generalize aZ (65535 - (last + 1)) s = q1 at *
 generalize bG q1.2 = q2 at *
 generalize dM last s = z at *
 obtain ⟨u,s1⟩:=q1
 obtain ⟨k,s2⟩:=q2
 simp only at *
 have l1 : ¬ last < -1:=by omega
 have l2 : ¬ 65535 < last:=by omega
 have l3 : (last == 65535) = false:=by simp;omega
 have w1 : wrap64 (last + 1) = last + 1:=by unfold wrap64;omega
 have w2 : IntKind.i64.wrap (65535 - (last + 1)) = 65535 - (last + 1):=by rw [IntKind.wrap_i64];omega
 have w3 : IntKind.u64.wrap (65535 - (last + 1)) = 65535 - (last + 1):=wraps_u64 _ (by omega) (by omega)
 have w4 : IntKind.i64.wrap u = u:=by rw [IntKind.wrap_i64];omega
 have w5 : wrap64 (last + 1 + u) = last + 1 + u:=by unfold wrap64;omega
 have w6 : wrap64 u = u:=by unfold wrap64;omega
 have hne : ¬ w.heap.size = R:=by have:=h.lt;omega
 have hne2 : ¬ w.heap.size + 1 = R:=by have:=h.lt;omega
 have oK:=ah6 hne;have ag7:=ah6 hne2
 have er:=λs w h=>yL (B0:=B0) R s w h
 have fl:=λw h=>yM (B0:=B0) R s2 11 (by decide) w h
 have hW0 : Hid (Rd9 R B0 (w.heap.size + 1) w.heap.size s s1 #[.int .i64 0,.int .i64 (last + 1),.int .i64 0,.int .i64 0,.int .i64 0,.int .i64 0,.int .i64 0,.int .i64 0,.int .u16 0] w false ((w.alloc (.cells #[.int .i64 0,.int .i64 0,.int .i64 0,.int .i64 0,.int .i64 0,.int .i64 0,.int .i64 0,.int .i64 0,.int .u16 0] 147)).alloc (.cells #[.int .i64 0,.int .i64 (last + 1),.int .i64 0,.int .i64 0,.int .i64 0,.int .i64 0,.int .i64 0,.int .i64 0,.int .u16 0] 147)).drew):=ah6 (by
  refine ⟨?_,?_,?_,?_⟩
  ·exact h.below (below_drewN ((ah7).alloc (by simp) _) 1)
  ·have:=ak.new (w.alloc (.cells #[.int .i64 0,.int .i64 0,.int .i64 0,.int .i64 0,.int .i64 0,.int .i64 0,.int .i64 0,.int .i64 0,.int .u16 0] 147)) #[.int .i64 0,.int .i64 (last + 1),.int .i64 0,.int .i64 0,.int .i64 0,.int .i64 0,.int .i64 0,.int .i64 0,.int .u16 0] 147
   rw [show (w.alloc (.cells #[.int .i64 0,.int .i64 0,.int .i64 0,.int .i64 0,.int .i64 0,.int .i64 0,.int .i64 0,.int .i64 0,.int .u16 0] 147)).heap.size = w.heap.size + 1 by simp] at this
   exact this
  ·exact (ak.new w #[.int .i64 0,.int .i64 0,.int .i64 0,.int .i64 0,.int .i64 0,.int .i64 0,.int .i64 0,.int .i64 0,.int .u16 0] 147).alloc _
  ·exact (((Only.refl (· = R) w).alloc _).alloc _).draws 1)
 have NG : B0 <= w.heap.size + 1:=by omega
 have kk:=λW=>L9 W
 have RA:=λ(r : Rec) W h hX=>Xa (B0:=B0) R (w.heap.size + 1) s2 r W h hX NG hne2
 have RS:=λW h hX=>TS (B0:=B0) R (w.heap.size + 1) s2 1 (last + 1 + u) W h hX NG hne2
 have RN:=λW=>aa2 R (w.heap.size + 1) W
 unfold lS FZ at *
 unfold sJ at kk
 clear h
 go_enter Tryz.func197,Tryz.ntmps197
 go_wp2_with fail
 refine F3 9 7 (Rd9 R B0 (w.heap.size + 1) w.heap.size s s1 #[.int .i64 0,.int .i64 (last + 1),.int .i64 0,.int .i64 0,.int .i64 0,.int .i64 0,.int .i64 0,.int .i64 0,.int .u16 0] w) (by kernel_rfl) (by kernel_rfl) (by decide) hW0.out ?_
 simp only [List.take_succ_cons,List.take_zero,List.drop_succ_cons,List.drop_zero]
 repeat (apply Dk;(next=>rfl);(next=>(intro b W hW K hK;obtain ⟨hR,hX,hA,hO⟩:=hW;have y1:=hX.cell 1;simp at y1;go_simp;first | exact ⟨⟨hR,hX,hA,hO⟩,hK⟩ | exact hK));(next=>exact ⟨_,hW0.out⟩);(try go_simp))
 (apply ND;(next=>rfl);(next=>(intro W hW K hK;obtain ⟨hR,hX,hA,hO⟩:=hW;go_simp;exact ⟨_,(ru W hR).mono (λe w'' hh=>⟨hh.1,hh.2.1,hh.2.2.blk hX hne2,hh.2.2.blk hA hne,hO.trans hh.2.2⟩),hK⟩));(try go_simp))
 repeat (apply Dk;(next=>rfl);(next=>(intro b W hW K hK;obtain ⟨hR,hX,hA,hO⟩:=hW;have y1:=hX.cell 1;simp at y1;go_simp;first | exact ⟨⟨hR,hX,hA,hO⟩,hK⟩ | exact hK));(next=>exact ⟨_,hW0.out⟩);(try go_simp))
 refine NC ?_
 intro WC aL
 obtain ⟨hR,hX,hA,hO⟩:=aL
 have c1:=hX.cell 1;have f1:=hX.free 1;simp at c1;have HX:=ah6 (hX.set 1 (.int .i64 (last + 1 + u)));have HR:=ah6 (hR.cZ (p:=⟨w.heap.size + 1,1,none⟩) (Ne.symm hne2) NG (.int .i64 (last + 1 + u)))
 have HA:=ah6 (hA.far (p:=⟨w.heap.size + 1,1,none⟩) (by simp) (.int .i64 (last + 1 + u)))
 have HO:=ah6 (hO.setCell (p:=⟨w.heap.size + 1,1,none⟩) (.inr (Nat.le_succ _)) (.int .i64 (last + 1 + u)));clear hR hX hA hO hW0 ru
 go_wp2_with fail
 have rb1:=rb _ HR.out;have k8:=kb HR.out.u8
 have w7 : wrap64 k = k:=by unfold wrap64;unfold U8 at k8;omega
 clear rb kb
 refine rb1.mono ?_;rintro e w2 ⟨rfl,hR2,hO2⟩
 have hX2:=hO2.blk HX.out hne2;have c0:=hX2.cell 0;have f0:=hX2.free 0;simp at c0
 have iw : Hid (ak (w2.setCell ⟨w.heap.size + 1,0,none⟩ (.int .i64 k)) (w.heap.size + 1) (aW ⟨k,last + 1 + u,0,0,0,0,0,0,0⟩) 147):=ah6 (by simpa [aW] using hX2.set 0 (.int .i64 k))
 have HR3:=ah6 (hR2.cZ (p:=⟨w.heap.size + 1,0,none⟩) (Ne.symm hne2) NG (.int .i64 k))
 have EI:=ah6 ((hO2.blk HA.out hne).far (p:=⟨w.heap.size + 1,0,none⟩) (by simp) (.int .i64 k))
 have fJ:=ah6 ((HO.out.trans hO2).setCell (p:=⟨w.heap.size + 1,0,none⟩) (.inr (Nat.le_succ _)) (.int .i64 k));clear hX2 hR2 hO2 HX HR HA HO rb1 c1 f1
 go_wp2_with fail
 refine (kk _).mono ?_;rintro e w3 ⟨rfl,hb3⟩
 have bq:=iw.out.below hb3 iw.out.lt;have HR4:=ah6 (HR3.out.below hb3);have yY:=ah6 (EI.out.below hb3 EI.out.lt);have Aa:=ah6 (fJ.out.eT hb3);have c0':=bq.cell 0;simp at c0';have yZ:=ah6 bq;have YN:=bq.alloc (.cells #[.func (.func 154) #[] #[],.func (.func 155) #[] #[],.func (.func 156) #[] #[],.func (.func 157) #[] #[],.func (.func 152) #[] #[],.func (.func 153) #[] #[],.func (.func 154) #[] #[],.func (.func 155) #[] #[]] 210);have eP:=ah6 (HR4.out.below (ah8.alloc (Nat.le_refl _) (.cells #[.func (.func 154) #[] #[],.func (.func 155) #[] #[],.func (.func 156) #[] #[],.func (.func 157) #[] #[],.func (.func 152) #[] #[],.func (.func 153) #[] #[],.func (.func 154) #[] #[],.func (.func 155) #[] #[]] 210)))
 have Dl:=ah6 (yY.out.alloc (.cells #[.func (.func 154) #[] #[],.func (.func 155) #[] #[],.func (.func 156) #[] #[],.func (.func 157) #[] #[],.func (.func 152) #[] #[],.func (.func 153) #[] #[],.func (.func 154) #[] #[],.func (.func 155) #[] #[]] 210));have dX:=ah6 (Aa.out.alloc (.cells #[.func (.func 154) #[] #[],.func (.func 155) #[] #[],.func (.func 156) #[] #[],.func (.func 157) #[] #[],.func (.func 152) #[] #[],.func (.func 153) #[] #[],.func (.func 154) #[] #[],.func (.func 155) #[] #[]] 210));have d0:=YN.cell 0;simp at d0;have fU:=ah6 YN;clear hb3 iw HR3 EI fJ yZ HR4 yY Aa c0 f0 bq YN c0' kk
 have hkz : Tryz.prog.types[209].size = 2:=by kernel_rfl
 have hkk : k = 0 \/ k = 1 \/ k = 2 \/ k = 3 \/ 4 <= k:=by unfold U8 at k8;omega
 have K8:=ah6 k8;clear k8
 rcases hkk with rfl | rfl | rfl | rfl | hk4
 ·have hq : q = xE ⟨0,last + 1 + u,0,0,0,0,0,0,0⟩ s2:=by rw [vU.out];unfold rdKind;rw [if_pos (.inl rfl)]
  have ra:=RA _ _ eP.out fU.out
  go_wp2_with fail
  refine ra.mono ?_;rintro e w5 ⟨rfl,iJ,bZ,fK⟩
  rw [← hq] at iJ bZ
  clear ra hq
  have qp:=ah6 (fK.blk Dl.out (by omega))
  have sK:=ah6 (dX.out.aU fK (λi hi hk=>by omega))
  have mH:=ah6 iJ;have uR:=ah6 bZ;clear iJ bZ fK eP fU Dl dX d0 RA RS RN fl;have e1:=er _ _ mH.out
  go_wp2_with fail
  refine e1.mono ?_;rintro e w6 ⟨rfl,rfl⟩
  have bB:=qp.out;have bZ:=uR.out
  unfold aW at bZ
  have c0:=bB.cell 0;have f0:=bB.free 0;have x0:=bZ.cell 0;have c1:=bB.cell 1;have f1:=bB.free 1;have x1:=bZ.cell 1;have c2:=bB.cell 2;have f2:=bB.free 2;have x2:=bZ.cell 2;have c3:=bB.cell 3;have f3:=bB.free 3;have x3:=bZ.cell 3;have c4:=bB.cell 4;have f4:=bB.free 4;have x4:=bZ.cell 4;have c5:=bB.cell 5;have f5:=bB.free 5;have x5:=bZ.cell 5;have c6:=bB.cell 6;have f6:=bB.free 6;have x6:=bZ.cell 6;have c7:=bB.cell 7;have f7:=bB.free 7;have x7:=bZ.cell 7;have c8:=bB.cell 8;have f8:=bB.free 8;have x8:=bZ.cell 8;simp at c0 c1 c2 c3 c4 c5 c6 c7 c8 x0 x1 x2 x3 x4 x5 x6 x7 x8;clear e1 bB bZ er uR
  by_cases hqe : q.2.2 = 0
  ·have HZ : Hid (z = (q.1,0,q.2)):=ah6 (by rw [HE.out,if_neg (by simpa using hqe)])
   clear HE vU
   go_wp2
   exact bodyPost_ret (v:=.tuple #[.agg #[.int .i64 q.1.kind,.int .i64 q.1.id,.int .i64 q.1.px,.int .i64 q.1.py,.int .i64 q.1.pz,.int .i64 q.1.vx,.int .i64 q.1.vy,.int .i64 q.1.vz,.int .u16 q.1.aI],.int .i64 0])
    (by have hh:=mF (v0:=.int .i64 q.1.kind) (v1:=.int .i64 q.1.id) (v2:=.int .i64 q.1.px) (v3:=.int .i64 q.1.py) (v4:=.int .i64 q.1.pz) (v5:=.int .i64 q.1.vx) (v6:=.int .i64 q.1.vy) (v7:=.int .i64 q.1.vz) (v8:=.int .u16 q.1.aI) qp.out
        have g0:=hh.cell 0;have g1:=hh.cell 1;have g2:=hh.cell 2;have g3:=hh.cell 3;have g4:=hh.cell 4;have g5:=hh.cell 5;have g6:=hh.cell 6;have g7:=hh.cell 7;have g8:=hh.cell 8;simp at g0 g1 g2 g3 g4 g5 g6 g7 g8
        simp [results,Tryz.results197,go_sem,g0,g1,g2,g3,g4,g5,g6,g7,g8]) rfl
    ⟨by rw [HZ.out],by rw [HZ.out];exact rW mH.out (Ne.symm oK.out) hB0,pO sK.out (.inr (Nat.le_refl _))⟩
  ·have HZ : Hid (z = (⟨0,0,0,0,0,0,0,0,0⟩,q.2.2,q.2)):=ah6 (by rw [HE.out,if_pos hqe])
   have NH : (q.2.2 != 0) = true:=by simpa using hqe
   clear HE vU
   go_wp2
   exact bodyPost_ret (v:=.tuple #[.agg #[.int .i64 0,.int .i64 0,.int .i64 0,.int .i64 0,.int .i64 0,.int .i64 0,.int .i64 0,.int .i64 0,.int .u16 0],.int .i64 q.2.2])
    (by have hh:=mF (v0:=.int .i64 0) (v1:=.int .i64 0) (v2:=.int .i64 0) (v3:=.int .i64 0) (v4:=.int .i64 0) (v5:=.int .i64 0) (v6:=.int .i64 0) (v7:=.int .i64 0) (v8:=.int .u16 0) qp.out
        have g0:=hh.cell 0;have g1:=hh.cell 1;have g2:=hh.cell 2;have g3:=hh.cell 3;have g4:=hh.cell 4;have g5:=hh.cell 5;have g6:=hh.cell 6;have g7:=hh.cell 7;have g8:=hh.cell 8;simp at g0 g1 g2 g3 g4 g5 g6 g7 g8
        simp [results,Tryz.results197,go_sem,g0,g1,g2,g3,g4,g5,g6,g7,g8]) rfl
    ⟨by rw [HZ.out],by rw [HZ.out];exact rW mH.out (Ne.symm oK.out) hB0,pO sK.out (.inr (Nat.le_refl _))⟩
 ·have hq : q = vQ ⟨1,last + 1 + u,0,0,0,0,0,0,0⟩ s2:=by rw [vU.out];unfold rdKind;rw [if_neg (by decide),if_pos rfl]
  have ra:=RS _ eP.out fU.out
  go_wp2_with fail
  refine ra.mono ?_;rintro e w5 ⟨rfl,iJ,bZ,fK⟩
  rw [← hq] at iJ bZ
  clear ra hq
  have qp:=ah6 (fK.blk Dl.out (by omega))
  have sK:=ah6 (dX.out.aU fK (λi hi hk=>by omega))
  have mH:=ah6 iJ;have uR:=ah6 bZ;clear iJ bZ fK eP fU Dl dX d0 RA RS RN fl;have e1:=er _ _ mH.out
  go_wp2_with fail
  refine e1.mono ?_;rintro e w6 ⟨rfl,rfl⟩
  have bB:=qp.out;have bZ:=uR.out
  unfold aW at bZ
  have c0:=bB.cell 0;have f0:=bB.free 0;have x0:=bZ.cell 0;have c1:=bB.cell 1;have f1:=bB.free 1;have x1:=bZ.cell 1;have c2:=bB.cell 2;have f2:=bB.free 2;have x2:=bZ.cell 2;have c3:=bB.cell 3;have f3:=bB.free 3;have x3:=bZ.cell 3;have c4:=bB.cell 4;have f4:=bB.free 4;have x4:=bZ.cell 4;have c5:=bB.cell 5;have f5:=bB.free 5;have x5:=bZ.cell 5;have c6:=bB.cell 6;have f6:=bB.free 6;have x6:=bZ.cell 6;have c7:=bB.cell 7;have f7:=bB.free 7;have x7:=bZ.cell 7;have c8:=bB.cell 8;have f8:=bB.free 8;have x8:=bZ.cell 8;simp at c0 c1 c2 c3 c4 c5 c6 c7 c8 x0 x1 x2 x3 x4 x5 x6 x7 x8;clear e1 bB bZ er uR
  by_cases hqe : q.2.2 = 0
  ·have HZ : Hid (z = (q.1,0,q.2)):=ah6 (by rw [HE.out,if_neg (by simpa using hqe)])
   clear HE vU
   go_wp2
   exact bodyPost_ret (v:=.tuple #[.agg #[.int .i64 q.1.kind,.int .i64 q.1.id,.int .i64 q.1.px,.int .i64 q.1.py,.int .i64 q.1.pz,.int .i64 q.1.vx,.int .i64 q.1.vy,.int .i64 q.1.vz,.int .u16 q.1.aI],.int .i64 0])
    (by have hh:=mF (v0:=.int .i64 q.1.kind) (v1:=.int .i64 q.1.id) (v2:=.int .i64 q.1.px) (v3:=.int .i64 q.1.py) (v4:=.int .i64 q.1.pz) (v5:=.int .i64 q.1.vx) (v6:=.int .i64 q.1.vy) (v7:=.int .i64 q.1.vz) (v8:=.int .u16 q.1.aI) qp.out
        have g0:=hh.cell 0;have g1:=hh.cell 1;have g2:=hh.cell 2;have g3:=hh.cell 3;have g4:=hh.cell 4;have g5:=hh.cell 5;have g6:=hh.cell 6;have g7:=hh.cell 7;have g8:=hh.cell 8;simp at g0 g1 g2 g3 g4 g5 g6 g7 g8
        simp [results,Tryz.results197,go_sem,g0,g1,g2,g3,g4,g5,g6,g7,g8]) rfl
    ⟨by rw [HZ.out],by rw [HZ.out];exact rW mH.out (Ne.symm oK.out) hB0,pO sK.out (.inr (Nat.le_refl _))⟩
  ·have HZ : Hid (z = (⟨0,0,0,0,0,0,0,0,0⟩,q.2.2,q.2)):=ah6 (by rw [HE.out,if_pos hqe])
   have NH : (q.2.2 != 0) = true:=by simpa using hqe
   clear HE vU
   go_wp2
   exact bodyPost_ret (v:=.tuple #[.agg #[.int .i64 0,.int .i64 0,.int .i64 0,.int .i64 0,.int .i64 0,.int .i64 0,.int .i64 0,.int .i64 0,.int .u16 0],.int .i64 q.2.2])
    (by have hh:=mF (v0:=.int .i64 0) (v1:=.int .i64 0) (v2:=.int .i64 0) (v3:=.int .i64 0) (v4:=.int .i64 0) (v5:=.int .i64 0) (v6:=.int .i64 0) (v7:=.int .i64 0) (v8:=.int .u16 0) qp.out
        have g0:=hh.cell 0;have g1:=hh.cell 1;have g2:=hh.cell 2;have g3:=hh.cell 3;have g4:=hh.cell 4;have g5:=hh.cell 5;have g6:=hh.cell 6;have g7:=hh.cell 7;have g8:=hh.cell 8;simp at g0 g1 g2 g3 g4 g5 g6 g7 g8
        simp [results,Tryz.results197,go_sem,g0,g1,g2,g3,g4,g5,g6,g7,g8]) rfl
    ⟨by rw [HZ.out],by rw [HZ.out];exact rW mH.out (Ne.symm oK.out) hB0,pO sK.out (.inr (Nat.le_refl _))⟩
 ·have hq : q = (⟨2,last + 1 + u,0,0,0,0,0,0,0⟩,s2):=by rw [vU.out];unfold rdKind;rw [if_neg (by decide),if_neg (by decide),if_pos rfl]
  have ra:=λW=>RN W
  have iJ:=eP.out
  rw [show s2 = q.2 by rw [hq]] at iJ
  have bZ:=fU.out
  rw [show (⟨2,last + 1 + u,0,0,0,0,0,0,0⟩ : Rec) = q.1 by rw [hq]] at bZ
  have fK:=Only.refl (λk=>k = R \/ k = w.heap.size + 1) (w3.alloc (.cells #[.func (.func 154) #[] #[],.func (.func 155) #[] #[],.func (.func 156) #[] #[],.func (.func 157) #[] #[],.func (.func 152) #[] #[],.func (.func 153) #[] #[],.func (.func 154) #[] #[],.func (.func 155) #[] #[]] 210))
  go_wp2_with fail
  refine (ra _).mono ?_;rintro e w5 ⟨rfl,rfl⟩
  clear ra hq
  have qp:=ah6 (fK.blk Dl.out (by omega))
  have sK:=ah6 (dX.out.aU fK (λi hi hk=>by omega))
  have mH:=ah6 iJ;have uR:=ah6 bZ;clear iJ bZ fK eP fU Dl dX d0 RA RS RN fl;have e1:=er _ _ mH.out
  go_wp2_with fail
  refine e1.mono ?_;rintro e w6 ⟨rfl,rfl⟩
  have bB:=qp.out;have bZ:=uR.out
  unfold aW at bZ
  have c0:=bB.cell 0;have f0:=bB.free 0;have x0:=bZ.cell 0;have c1:=bB.cell 1;have f1:=bB.free 1;have x1:=bZ.cell 1;have c2:=bB.cell 2;have f2:=bB.free 2;have x2:=bZ.cell 2;have c3:=bB.cell 3;have f3:=bB.free 3;have x3:=bZ.cell 3;have c4:=bB.cell 4;have f4:=bB.free 4;have x4:=bZ.cell 4;have c5:=bB.cell 5;have f5:=bB.free 5;have x5:=bZ.cell 5;have c6:=bB.cell 6;have f6:=bB.free 6;have x6:=bZ.cell 6;have c7:=bB.cell 7;have f7:=bB.free 7;have x7:=bZ.cell 7;have c8:=bB.cell 8;have f8:=bB.free 8;have x8:=bZ.cell 8;simp at c0 c1 c2 c3 c4 c5 c6 c7 c8 x0 x1 x2 x3 x4 x5 x6 x7 x8;clear e1 bB bZ er uR
  by_cases hqe : q.2.2 = 0
  ·have HZ : Hid (z = (q.1,0,q.2)):=ah6 (by rw [HE.out,if_neg (by simpa using hqe)])
   clear HE vU
   go_wp2
   exact bodyPost_ret (v:=.tuple #[.agg #[.int .i64 q.1.kind,.int .i64 q.1.id,.int .i64 q.1.px,.int .i64 q.1.py,.int .i64 q.1.pz,.int .i64 q.1.vx,.int .i64 q.1.vy,.int .i64 q.1.vz,.int .u16 q.1.aI],.int .i64 0])
    (by have hh:=mF (v0:=.int .i64 q.1.kind) (v1:=.int .i64 q.1.id) (v2:=.int .i64 q.1.px) (v3:=.int .i64 q.1.py) (v4:=.int .i64 q.1.pz) (v5:=.int .i64 q.1.vx) (v6:=.int .i64 q.1.vy) (v7:=.int .i64 q.1.vz) (v8:=.int .u16 q.1.aI) qp.out
        have g0:=hh.cell 0;have g1:=hh.cell 1;have g2:=hh.cell 2;have g3:=hh.cell 3;have g4:=hh.cell 4;have g5:=hh.cell 5;have g6:=hh.cell 6;have g7:=hh.cell 7;have g8:=hh.cell 8;simp at g0 g1 g2 g3 g4 g5 g6 g7 g8
        simp [results,Tryz.results197,go_sem,g0,g1,g2,g3,g4,g5,g6,g7,g8]) rfl
    ⟨by rw [HZ.out],by rw [HZ.out];exact rW mH.out (Ne.symm oK.out) hB0,pO sK.out (.inr (Nat.le_refl _))⟩
  ·have HZ : Hid (z = (⟨0,0,0,0,0,0,0,0,0⟩,q.2.2,q.2)):=ah6 (by rw [HE.out,if_pos hqe])
   have NH : (q.2.2 != 0) = true:=by simpa using hqe
   clear HE vU
   go_wp2
   exact bodyPost_ret (v:=.tuple #[.agg #[.int .i64 0,.int .i64 0,.int .i64 0,.int .i64 0,.int .i64 0,.int .i64 0,.int .i64 0,.int .i64 0,.int .u16 0],.int .i64 q.2.2])
    (by have hh:=mF (v0:=.int .i64 0) (v1:=.int .i64 0) (v2:=.int .i64 0) (v3:=.int .i64 0) (v4:=.int .i64 0) (v5:=.int .i64 0) (v6:=.int .i64 0) (v7:=.int .i64 0) (v8:=.int .u16 0) qp.out
        have g0:=hh.cell 0;have g1:=hh.cell 1;have g2:=hh.cell 2;have g3:=hh.cell 3;have g4:=hh.cell 4;have g5:=hh.cell 5;have g6:=hh.cell 6;have g7:=hh.cell 7;have g8:=hh.cell 8;simp at g0 g1 g2 g3 g4 g5 g6 g7 g8
        simp [results,Tryz.results197,go_sem,g0,g1,g2,g3,g4,g5,g6,g7,g8]) rfl
    ⟨by rw [HZ.out],by rw [HZ.out];exact rW mH.out (Ne.symm oK.out) hB0,pO sK.out (.inr (Nat.le_refl _))⟩
 ·have hq : q = xE ⟨3,last + 1 + u,0,0,0,0,0,0,0⟩ s2:=by rw [vU.out];unfold rdKind;rw [if_pos (.inr rfl)]
  have ra:=RA _ _ eP.out fU.out
  go_wp2_with fail
  refine ra.mono ?_;rintro e w5 ⟨rfl,iJ,bZ,fK⟩
  rw [← hq] at iJ bZ
  clear ra hq
  have qp:=ah6 (fK.blk Dl.out (by omega))
  have sK:=ah6 (dX.out.aU fK (λi hi hk=>by omega))
  have mH:=ah6 iJ;have uR:=ah6 bZ;clear iJ bZ fK eP fU Dl dX d0 RA RS RN fl;have e1:=er _ _ mH.out
  go_wp2_with fail
  refine e1.mono ?_;rintro e w6 ⟨rfl,rfl⟩
  have bB:=qp.out;have bZ:=uR.out
  unfold aW at bZ
  have c0:=bB.cell 0;have f0:=bB.free 0;have x0:=bZ.cell 0;have c1:=bB.cell 1;have f1:=bB.free 1;have x1:=bZ.cell 1;have c2:=bB.cell 2;have f2:=bB.free 2;have x2:=bZ.cell 2;have c3:=bB.cell 3;have f3:=bB.free 3;have x3:=bZ.cell 3;have c4:=bB.cell 4;have f4:=bB.free 4;have x4:=bZ.cell 4;have c5:=bB.cell 5;have f5:=bB.free 5;have x5:=bZ.cell 5;have c6:=bB.cell 6;have f6:=bB.free 6;have x6:=bZ.cell 6;have c7:=bB.cell 7;have f7:=bB.free 7;have x7:=bZ.cell 7;have c8:=bB.cell 8;have f8:=bB.free 8;have x8:=bZ.cell 8;simp at c0 c1 c2 c3 c4 c5 c6 c7 c8 x0 x1 x2 x3 x4 x5 x6 x7 x8;clear e1 bB bZ er uR
  by_cases hqe : q.2.2 = 0
  ·have HZ : Hid (z = (q.1,0,q.2)):=ah6 (by rw [HE.out,if_neg (by simpa using hqe)])
   clear HE vU
   go_wp2
   exact bodyPost_ret (v:=.tuple #[.agg #[.int .i64 q.1.kind,.int .i64 q.1.id,.int .i64 q.1.px,.int .i64 q.1.py,.int .i64 q.1.pz,.int .i64 q.1.vx,.int .i64 q.1.vy,.int .i64 q.1.vz,.int .u16 q.1.aI],.int .i64 0])
    (by have hh:=mF (v0:=.int .i64 q.1.kind) (v1:=.int .i64 q.1.id) (v2:=.int .i64 q.1.px) (v3:=.int .i64 q.1.py) (v4:=.int .i64 q.1.pz) (v5:=.int .i64 q.1.vx) (v6:=.int .i64 q.1.vy) (v7:=.int .i64 q.1.vz) (v8:=.int .u16 q.1.aI) qp.out
        have g0:=hh.cell 0;have g1:=hh.cell 1;have g2:=hh.cell 2;have g3:=hh.cell 3;have g4:=hh.cell 4;have g5:=hh.cell 5;have g6:=hh.cell 6;have g7:=hh.cell 7;have g8:=hh.cell 8;simp at g0 g1 g2 g3 g4 g5 g6 g7 g8
        simp [results,Tryz.results197,go_sem,g0,g1,g2,g3,g4,g5,g6,g7,g8]) rfl
    ⟨by rw [HZ.out],by rw [HZ.out];exact rW mH.out (Ne.symm oK.out) hB0,pO sK.out (.inr (Nat.le_refl _))⟩
  ·have HZ : Hid (z = (⟨0,0,0,0,0,0,0,0,0⟩,q.2.2,q.2)):=ah6 (by rw [HE.out,if_pos hqe])
   have NH : (q.2.2 != 0) = true:=by simpa using hqe
   clear HE vU
   go_wp2
   exact bodyPost_ret (v:=.tuple #[.agg #[.int .i64 0,.int .i64 0,.int .i64 0,.int .i64 0,.int .i64 0,.int .i64 0,.int .i64 0,.int .i64 0,.int .u16 0],.int .i64 q.2.2])
    (by have hh:=mF (v0:=.int .i64 0) (v1:=.int .i64 0) (v2:=.int .i64 0) (v3:=.int .i64 0) (v4:=.int .i64 0) (v5:=.int .i64 0) (v6:=.int .i64 0) (v7:=.int .i64 0) (v8:=.int .u16 0) qp.out
        have g0:=hh.cell 0;have g1:=hh.cell 1;have g2:=hh.cell 2;have g3:=hh.cell 3;have g4:=hh.cell 4;have g5:=hh.cell 5;have g6:=hh.cell 6;have g7:=hh.cell 7;have g8:=hh.cell 8;simp at g0 g1 g2 g3 g4 g5 g6 g7 g8
        simp [results,Tryz.results197,go_sem,g0,g1,g2,g3,g4,g5,g6,g7,g8]) rfl
    ⟨by rw [HZ.out],by rw [HZ.out];exact rW mH.out (Ne.symm oK.out) hB0,pO sK.out (.inr (Nat.le_refl _))⟩
 ·have hq : q = (⟨k,last + 1 + u,0,0,0,0,0,0,0⟩,fD 11 s2):=by rw [vU.out];unfold rdKind;rw [if_neg (by omega),if_neg (by omega),if_neg (by omega)]
  have ra:=fl _ eP.out
  have hk5 : ¬ k < 4:=by omega
  go_wp2_with fail
  refine ra.mono ?_;rintro e w5 ⟨rfl,iJ,TY⟩
  have bZ : ak w5 (w.heap.size + 1) (aW q.1) 147:=by rw [hq];exact TY.blk fU.out hne2
  have YO : bf w5 R B0 q.2:=by rw [hq];exact iJ
  have fK:=TY.weaken (T:=λk=>k = R \/ k = w.heap.size + 1) (λk _ hk=>.inl hk)
  clear ra hq iJ TY;have iJ:=YO;clear YO
  have qp:=ah6 (fK.blk Dl.out (by omega))
  have sK:=ah6 (dX.out.aU fK (λi hi hk=>by omega))
  have mH:=ah6 iJ;have uR:=ah6 bZ;clear iJ bZ fK eP fU Dl dX d0 RA RS RN fl;have e1:=er _ _ mH.out
  go_wp2_with fail
  refine e1.mono ?_;rintro e w6 ⟨rfl,rfl⟩
  have bB:=qp.out;have bZ:=uR.out
  unfold aW at bZ
  have c0:=bB.cell 0;have f0:=bB.free 0;have x0:=bZ.cell 0;have c1:=bB.cell 1;have f1:=bB.free 1;have x1:=bZ.cell 1;have c2:=bB.cell 2;have f2:=bB.free 2;have x2:=bZ.cell 2;have c3:=bB.cell 3;have f3:=bB.free 3;have x3:=bZ.cell 3;have c4:=bB.cell 4;have f4:=bB.free 4;have x4:=bZ.cell 4;have c5:=bB.cell 5;have f5:=bB.free 5;have x5:=bZ.cell 5;have c6:=bB.cell 6;have f6:=bB.free 6;have x6:=bZ.cell 6;have c7:=bB.cell 7;have f7:=bB.free 7;have x7:=bZ.cell 7;have c8:=bB.cell 8;have f8:=bB.free 8;have x8:=bZ.cell 8;simp at c0 c1 c2 c3 c4 c5 c6 c7 c8 x0 x1 x2 x3 x4 x5 x6 x7 x8;clear e1 bB bZ er uR
  by_cases hqe : q.2.2 = 0
  ·have HZ : Hid (z = (q.1,0,q.2)):=ah6 (by rw [HE.out,if_neg (by simpa using hqe)])
   clear HE vU
   go_wp2
   exact bodyPost_ret (v:=.tuple #[.agg #[.int .i64 q.1.kind,.int .i64 q.1.id,.int .i64 q.1.px,.int .i64 q.1.py,.int .i64 q.1.pz,.int .i64 q.1.vx,.int .i64 q.1.vy,.int .i64 q.1.vz,.int .u16 q.1.aI],.int .i64 0])
    (by have hh:=mF (v0:=.int .i64 q.1.kind) (v1:=.int .i64 q.1.id) (v2:=.int .i64 q.1.px) (v3:=.int .i64 q.1.py) (v4:=.int .i64 q.1.pz) (v5:=.int .i64 q.1.vx) (v6:=.int .i64 q.1.vy) (v7:=.int .i64 q.1.vz) (v8:=.int .u16 q.1.aI) qp.out
        have g0:=hh.cell 0;have g1:=hh.cell 1;have g2:=hh.cell 2;have g3:=hh.cell 3;have g4:=hh.cell 4;have g5:=hh.cell 5;have g6:=hh.cell 6;have g7:=hh.cell 7;have g8:=hh.cell 8;simp at g0 g1 g2 g3 g4 g5 g6 g7 g8
        simp [results,Tryz.results197,go_sem,g0,g1,g2,g3,g4,g5,g6,g7,g8]) rfl
    ⟨by rw [HZ.out],by rw [HZ.out];exact rW mH.out (Ne.symm oK.out) hB0,pO sK.out (.inr (Nat.le_refl _))⟩
  ·have HZ : Hid (z = (⟨0,0,0,0,0,0,0,0,0⟩,q.2.2,q.2)):=ah6 (by rw [HE.out,if_pos hqe])
   have NH : (q.2.2 != 0) = true:=by simpa using hqe
   clear HE vU
   go_wp2
   exact bodyPost_ret (v:=.tuple #[.agg #[.int .i64 0,.int .i64 0,.int .i64 0,.int .i64 0,.int .i64 0,.int .i64 0,.int .i64 0,.int .i64 0,.int .u16 0],.int .i64 q.2.2])
    (by have hh:=mF (v0:=.int .i64 0) (v1:=.int .i64 0) (v2:=.int .i64 0) (v3:=.int .i64 0) (v4:=.int .i64 0) (v5:=.int .i64 0) (v6:=.int .i64 0) (v7:=.int .i64 0) (v8:=.int .u16 0) qp.out
        have g0:=hh.cell 0;have g1:=hh.cell 1;have g2:=hh.cell 2;have g3:=hh.cell 3;have g4:=hh.cell 4;have g5:=hh.cell 5;have g6:=hh.cell 6;have g7:=hh.cell 7;have g8:=hh.cell 8;simp at g0 g1 g2 g3 g4 g5 g6 g7 g8
        simp [results,Tryz.results197,go_sem,g0,g1,g2,g3,g4,g5,g6,g7,g8]) rfl
    ⟨by rw [HZ.out],by rw [HZ.out];exact rW mH.out (Ne.symm oK.out) hB0,pO sK.out (.inr (Nat.le_refl _))⟩
theorem Xb {B0 : Nat} (R : Nat) (s : aH) (last : Int) (h1 : -1 <= last) (h2 : last <= 65535) (w : World) (h : bf w R B0 s) (hB0 : B0 <= w.heap.size) :
 Calls Tryz.prog 197 #[.pointer (some ⟨R,0,none⟩),.int .i64 last] w λe w'=>e = .returned (.tuple #[lS (dM last s).1,.int .i64 (dM last s).2.1]) /\ bf w' R B0 (dM last s).2.2 /\ Only (· = R) w w':=by
 by_cases hl : last = 65535
 ·exact TV R s last hl w h hB0
 ·exact TW R s last h1 (by omega) w h hB0
end Go.Proofs.YtklkooeimkedgaaGreat
namespace Go.Proofs.YtklkooeimkedgaaGreat
open Go.RowKit
set_option maxRecDepth 8000
theorem aa3 (v : Value) (X : Nat) (w : World) : Calls Tryz.prog 152 #[v,.pointer (some ⟨X,0,none⟩)] w λe w'=>e = .returned v /\ w = w':=by
 go_enter Tryz.func152,Tryz.ntmps152
 go_wp2
 go_ret
 exact ⟨rfl,rfl⟩
def Xc (base : Nat) (ys : List Int) : Spec:=⟨λ_=>True,λv W=>aX W base v ys,⟨undef,trivial⟩,λ_ _ _ h hb=>h.below hb⟩
def QG (ys : List Int) : Spec:=⟨λ_=>True,λv W=>∃ g,v = .slice (some ⟨g,0,none⟩) ys.length ys.length /\ BytesAt W (some ⟨g,0,none⟩) ys.length ys,⟨undef,trivial⟩,λ_ _ _ ⟨g,e,h⟩ hb=>⟨g,e,h.below hb⟩⟩
set_option maxHeartbeats 1000000 in
theorem YP (r : Rec) (hr : r.Ok) (last : Int) (w : World) (h : gU r last = 0) :
 Calls Tryz.prog 75 #[lS r,.int .i64 last] w λe w'=>∃ v,e = .returned (.tuple #[v,.int .i64 0]) /\ aX w' w.heap.size v (nJ r last) /\ Below w.heap.size w w':=by
 have ck:=λw=>JD r w
 have WA:=λv zs X base w=>Nw v zs X r hr base w
 have WM:=λv zs X base w=>Le v zs X r hr base w
 obtain ⟨hc0,hl0,ag8,k0,k3,i0,i1⟩:=xH h
 have hl1 : ¬ last < -1:=by omega
 have hl2 : ¬ 65535 < last:=by omega
 have hid : ¬ r.id <= last:=by omega
 rw [hc0] at ck
 clear h hc0
 obtain ⟨k,id,px,py,pz,vx,vy,vz,an⟩:=r
 unfold lS at *
 simp only at *
 have hB0 : Hid (Below w.heap.size w (w.alloc (.cells #[.int .i64 k,.int .i64 id,.int .i64 px,.int .i64 py,.int .i64 pz,.int .i64 vx,.int .i64 vy,.int .i64 vz,.int .u16 an] 147))):=ah6 (ah7)
 have aa4 : Hid (pK ⟨k,id,px,py,pz,vx,vy,vz,an⟩ = if k = 2 then [] else if k = 1 then vo ⟨k,id,px,py,pz,vx,vy,vz,an⟩ else nb (aj ⟨k,id,px,py,pz,vx,vy,vz,an⟩) ++ aD an):=ah6 (by unfold pK;rfl)
 have HWB : Hid (nJ ⟨k,id,px,py,pz,vx,vy,vz,an⟩ last = aD (id - last - 1) ++ [k] ++ pK ⟨k,id,px,py,pz,vx,vy,vz,an⟩):=ah6 rfl
 generalize nJ ⟨k,id,px,py,pz,vx,vy,vz,an⟩ last = wb at *
 generalize pK ⟨k,id,px,py,pz,vx,vy,vz,an⟩ = rb at *
 have hu : iq (id - last - 1):=⟨by omega,by omega⟩
 have pt:=λw=>nH (id - last - 1) hu w
 have hln:=dK hu
 rw [← dZ] at hln
 have hw1 : wrap64 (id - last) = id - last:=by unfold wrap64;omega
 have hw2 : wrap64 (id - last - 1) = id - last - 1:=by unfold wrap64;omega
 have qA : IntKind.i64.wrap (id - last) = id - last:=by rw [IntKind.wrap_i64];omega
 have QI : IntKind.i64.wrap (id - last - 1) = id - last - 1:=by rw [IntKind.wrap_i64];omega
 have hw3 : IntKind.u64.wrap (id - last - 1) = id - last - 1:=wraps_u64 _ (by omega) (by omega)
 have hw4 : IntKind.u8.wrap k = k:=wraps_u8 _ (by omega) (by omega)
 generalize hys : aD (id - last - 1) = ys at *
 have HYS:=ah6 hys;clear hys
 go_enter Tryz.func75,Tryz.ntmps75
 go_wp2_with fail
 refine (ck _).mono ?_;rintro e w1 ⟨rfl,hb1⟩
 have HB1:=ah6 (hB0.out.trans (hb1.mono (by simp)))
 have hX1:=(ak.new w #[.int .i64 k,.int .i64 id,.int .i64 px,.int .i64 py,.int .i64 pz,.int .i64 vx,.int .i64 vy,.int .i64 vz,.int .u16 an] 147).below hb1 (by simp)
 have HX:=ah6 hX1
 have hs1 : w.heap.size + 1 <= w1.heap.size:=hX1.lt
 have c0:=hX1.cell 0;have c1:=hX1.cell 1;simp at c0 c1;clear hb1 ck hX1 hB0
 go_wp2_with fail
 apply bW 11
 case hm=>kernel_rfl
 case hB=>kernel_rfl
 simp only [List.take_succ_cons,List.take_zero,List.drop_succ_cons,List.drop_zero]
 repeat (apply bI;(next=>(intro W hW K hK;have y0:=hW.cell c0;have y1:=hW.cell c1;go_simp;first | exact ⟨Below.refl _ _,hK⟩ | exact hK));(try go_simp))
 apply tQ (s:=Xc (w.heap.size + 1) ys) rfl
 ·intro W hW
  have p1:=pt W
  go_simp
  refine p1.mono ?_;rintro e w' ⟨v,rfl,ho,hb⟩
  exact ⟨v,rfl,hb,trivial,ho.base (Nat.le_trans hs1 (Below.size hW))⟩
 intro v1 _
 repeat (apply bI;(next=>(intro W hW K hK;have y0:=hW.cell c0;have y1:=hW.cell c1;go_simp;first | exact ⟨Below.refl _ _,hK⟩ | exact hK));(try go_simp))
 apply tQ (s:=QG [k]) rfl
 ·intro W hW
  go_simp
  exact ⟨ah7,trivial,_,rfl,DI W [k] (aT.one ⟨by omega,by omega⟩)⟩
 intro v2 _
 refine dL ?_
 intro WC aL hC
 obtain ⟨ho1,g,rfl,hb2⟩:=hC
 have hyl : ys.length + 1 <= 140737488355328:=by omega
 simp only [List.length_singleton] at hb2 ⊢
 have oJ : Hid (aX WC (w.heap.size + 1) v1 ys):=ah6 ho1
 have HB2:=ah6 (HB1.out.trans (Below.mono aL HB1.out.size));have dR:=ah6 (HX.out.below aL HX.out.lt)
 have hs2 : w.heap.size + 1 <= WC.heap.size:=Nat.le_trans hs1 (Below.size aL)
 clear ho1 aL HB1 HX pt c0 c1
 go_wp2_with (at_builtin;refine bF _ rfl (.tmp 31) (.tmp 35) rfl (w.heap.size + 1) _ ys rfl oJ.out (some ⟨g,0,none⟩) 1 1 [k] rfl hb2 (by intro h;cases h) hyl (by omega) ?_)
 intro v3 w3 ho3 hg3
 have uw : Below (w.heap.size + 1) WC w3:=ah8.grown hg3 (by omega) (λj e=>(oJ.out.lt j e).1)
 have HB3:=ah6 (HB2.out.trans (uw.mono (Nat.le_succ _)));have aS:=dR.out.below uw (Nat.lt_succ_self _)
 have hs3 : w.heap.size + 1 <= w3.heap.size:=aS.lt
 have iw:=ah6 aS;have fJ:=ah6 ho3;have c0:=aS.cell 0;simp at c0
 have wa:=λW=>WA v3 (ys ++ [k]) w.heap.size (w.heap.size + 1) W
 have wm:=λW=>WM v3 (ys ++ [k]) w.heap.size (w.heap.size + 1) W
 have n1 : ∀ W,_:=λW=>aa3 v3 w.heap.size W
 have kk:=λW=>L9 W
 unfold sJ at kk
 have HLEN : Hid (((ys ++ [k]).length : Int) <= 140737488354000):=ah6 (by simp;omega)
 generalize hzs : ys ++ [k] = zs at *
 have HZS:=ah6 hzs;clear ho3 hg3 uw hb2 oJ HB2 dR aS hzs WA WM hyl hw1 hw2 hw3 hw4 qA QI hu hln
 have hkk : k = 0 \/ k = 1 \/ k = 2 \/ k = 3:=by omega
 clear k0 k3
 rcases hkk with rfl | rfl | rfl | rfl
 all_goals
  go_wp2_with fail
  have hkz : Tryz.prog.types[209].size = 2:=by kernel_rfl
  apply bW 6
  case hm=>kernel_rfl
  case hB=>kernel_rfl
  simp only [List.take_succ_cons,List.take_zero,List.drop_succ_cons,List.drop_zero]
  (apply bI;(next=>(intro W hW K hK;go_simp;first | exact ⟨Below.refl _ _,_,(kk W).mono (λ_ _ h=>h),hK⟩ | exact ⟨_,(kk W).mono (λ_ _ h=>h),hK⟩));(try go_simp))
  repeat (apply bI;(next=>(intro W hW K hK;have y0:=hW.cell c0;go_simp;first | exact ⟨Below.refl _ _,hK⟩ | exact hK));(try go_simp))
  refine dL ?_
  intro WD JK _
  have Aa:=ah6 (fJ.out.below JK);have yZ:=ah6 (iw.out.below JK iw.out.lt);have gT:=ah6 (HB3.out.trans (Below.mono JK HB3.out.size))
  have hs4 : w.heap.size + 1 <= WD.heap.size:=Nat.le_trans hs3 (Below.size JK)
  have wa1:=wa WD Aa.out (by simpa [aW] using yZ.out) (Nat.lt_succ_self _) HLEN.out hs4
  have wm1:=wm WD Aa.out (by simpa [aW] using yZ.out) (Nat.lt_succ_self _) HLEN.out hs4
  clear JK iw fJ HB3 wa wm kk c0
  go_wp2_with fail
  first
  | (refine wa1.mono ?_;rintro e w5 ⟨v5,rfl,lX,hb5⟩)
  | (refine wm1.mono ?_;rintro e w5 ⟨v5,rfl,lX,hb5⟩)
  | (refine (n1 _).mono ?_;rintro e w5 ⟨rfl,rfl⟩
     have lX : aX WD (w.heap.size + 1) v3 (zs ++ []):=by rw [List.append_nil];exact Aa.out
     have hb5 : Below (w.heap.size + 1) WD WD:=Below.refl _ _)
  have uQ:=ah6 (gT.out.trans (hb5.mono (Nat.le_succ _)));have dX:=ah6 (lX.base (base':=w.heap.size) (Nat.le_succ _));clear lX hb5 wa1 wm1 yZ Aa gT
  go_wp2
  refine bodyPost_ret (v:=.tuple #[_,.int .i64 0]) (by simp [results,Tryz.results75,go_sem];rfl) rfl ⟨_,rfl,?_,uQ.out⟩
  rw [HWB.out,aa4.out]
  first
  | (rw [if_pos rfl];exact dX.out)
  | (rw [if_pos trivial];exact dX.out)
  | (rw [if_neg (by decide),if_pos rfl];exact dX.out)
  | (rw [if_neg (by decide),if_pos trivial];exact dX.out)
  | (rw [if_neg (by decide),if_neg (by decide),← List.append_assoc];exact dX.out)
end Go.Proofs.YtklkooeimkedgaaGreat
namespace Go.Proofs.YtklkooeimkedgaaGreat
open Go.RowKit
set_option maxRecDepth 8000
theorem Bc (t : Int) (w : World) : Calls Tryz.prog 108 #[.int .i64 t] w λe w'=>e = .returned (.bool (decide (mE t))) /\ w = w':=by
 have e : decide (mE t) = (decide (-2305843009213693952 <= t) && decide (t <= 2305843009213693952)):=by
  rw [← Bool.decide_and];exact decide_eq_decide.2 Iff.rfl
 rw [e]
 by_cases h1 : -2305843009213693952 <= t
 ·by_cases h2 : t <= 2305843009213693952
  ·go_enter Tryz.func108,Tryz.ntmps108
   go_wp2
   go_ret
   exact ⟨by simp [h1,h2],rfl⟩
  ·go_enter Tryz.func108,Tryz.ntmps108
   go_wp2
   go_ret
   exact ⟨by simp [h1,h2],rfl⟩
 ·go_enter Tryz.func108,Tryz.ntmps108
  go_wp2
  go_ret
  exact ⟨by simp [h1];omega,rfl⟩
def xJ (tick time base : Int) (a : Option Addr) (len cap : Nat) : Value:=.agg #[.int .i64 tick,.int .i64 time,.int .i64 base,.slice a len cap]
set_option maxHeartbeats 1000000 in
theorem QJ (tick time base : Int) (a : Option Addr) (len cap : Nat) (w : World) (h : gZ tick time base len ≠ 0) :
 Calls Tryz.prog 74 #[xJ tick time base a len cap] w λe w'=>e = .returned (.tuple #[.slice none 0 0,.int .i64 (gZ tick time base len)]) /\ Below w.heap.size w w':=by
 have HE : Hid (gZ tick time base len = if tick < 0 \/ 4294967295 < tick \/ time < -2305843009213693952 \/ 2305843009213693952 < time \/ base < -1 then 3 else if tick <= base then 10 else if 128 < len then 8 else 0):=ah6 rfl
 have tm:=λw=>Bc time w
 have HB : Hid (Below w.heap.size w (w.alloc (.cells #[.int .i64 tick,.int .i64 time,.int .i64 base,.slice a len cap] 39))):=ah6 (ah7)
 generalize gZ tick time base len = er at *
 unfold xJ
 by_cases h1 : tick < 0 \/ 4294967295 < tick \/ time < -2305843009213693952 \/ 2305843009213693952 < time \/ base < -1
 ·have HV : Hid (er = 3):=ah6 (by rw [HE.out,if_pos h1])
  clear HE h
  by_cases a1 : tick < 0
  ·go_enter Tryz.func74,Tryz.ntmps74
   go_wp2
   exact bodyPost_ret (v:=.tuple #[.slice none 0 0,.int .i64 3]) (by simp [results,Tryz.results74,go_sem]) rfl ⟨by rw [HV.out],HB.out⟩
  by_cases a2 : 4294967295 < tick
  ·go_enter Tryz.func74,Tryz.ntmps74
   go_wp2
   exact bodyPost_ret (v:=.tuple #[.slice none 0 0,.int .i64 3]) (by simp [results,Tryz.results74,go_sem]) rfl ⟨by rw [HV.out],HB.out⟩
  by_cases a3 : mE time
  ·have a4 : base < -1:=by unfold mE at a3;omega
   rw [decide_eq_true a3] at tm
   clear a3 h1
   go_enter Tryz.func74,Tryz.ntmps74
   go_wp2_with fail
   refine (tm _).mono ?_;rintro e w1 ⟨rfl,rfl⟩
   go_wp2
   exact bodyPost_ret (v:=.tuple #[.slice none 0 0,.int .i64 3]) (by simp [results,Tryz.results74,go_sem]) rfl ⟨by rw [HV.out],HB.out⟩
  ·rw [decide_eq_false a3] at tm
   clear a3 h1
   go_enter Tryz.func74,Tryz.ntmps74
   go_wp2_with fail
   refine (tm _).mono ?_;rintro e w1 ⟨rfl,rfl⟩
   go_wp2
   exact bodyPost_ret (v:=.tuple #[.slice none 0 0,.int .i64 3]) (by simp [results,Tryz.results74,go_sem]) rfl ⟨by rw [HV.out],HB.out⟩
 ·have a1 : ¬ tick < 0:=by omega
  have a2 : ¬ 4294967295 < tick:=by omega
  have a3 : mE time:=⟨by omega,by omega⟩
  have a4 : ¬ base < -1:=by omega
  rw [decide_eq_true a3] at tm
  by_cases h2 : tick <= base
  ·have HV : Hid (er = 10):=ah6 (by rw [HE.out,if_neg h1,if_pos h2])
   clear HE h h1 a3
   go_enter Tryz.func74,Tryz.ntmps74
   go_wp2_with fail
   refine (tm _).mono ?_;rintro e w1 ⟨rfl,rfl⟩
   go_wp2
   exact bodyPost_ret (v:=.tuple #[.slice none 0 0,.int .i64 10]) (by simp [results,Tryz.results74,go_sem]) rfl ⟨by rw [HV.out],HB.out⟩
  ·have h3 : (128 : Int) < len:=by
    rcases Nat.lt_or_ge 128 len with hh | hh
    ·omega
    ·exfalso;apply h;rw [HE.out,if_neg h1,if_neg h2,if_neg (by omega)]
   have HV : Hid (er = 8):=ah6 (by rw [HE.out,if_neg h1,if_neg h2,if_pos (by omega)])
   clear HE h h1 a3
   go_enter Tryz.func74,Tryz.ntmps74
   go_wp2_with fail
   refine (tm _).mono ?_;rintro e w1 ⟨rfl,rfl⟩
   go_wp2
   exact bodyPost_ret (v:=.tuple #[.slice none 0 0,.int .i64 8]) (by simp [results,Tryz.results74,go_sem]) rfl ⟨by rw [HV.out],HB.out⟩
def qF (l : List Int) : List Value:=l.map (Value.int .u64)
def Me (l : List Int) : Spec:=⟨λv=>∃ g,v = .slice (some ⟨g,0,none⟩) l.length l.length,λv W=>∃ g,v = .slice (some ⟨g,0,none⟩) l.length l.length /\ ak W g (qF l).toArray 114,⟨_,0,rfl⟩,λ_ _ _ ⟨g,e,h⟩ hb=>⟨g,e,h.below hb h.lt⟩⟩
theorem bL {w : World} {base k n : Nat} {e t : TypeId} {v : Value} {xs : List Value} (h : w.ownsRow base e k v n xs) {g : Nat} {cs : Array Value} (hb : ak w g cs t) (ht : t ≠ e) : v.ownBlock ≠ some g:=by
 intro hg
 obtain ⟨_,⟨rfl,_⟩ | ⟨g',cap,cur,rfl,_,hh,_⟩⟩:=h
 ·cases hg
 ·cases hg
  unfold ak at hb
  rw [hb] at hh
  cases hh
  exact ht rfl
theorem ak.grown {w w' : World} {b : Nat} {cs : Array Value} {t : TypeId} {row : Option Nat} (h : ak w b cs t) (hg : w.grownBy w' row) (hn : row ≠ some b) : ak w' b cs t:=by
 have hl:=h.lt
 unfold ak at *
 rw [hg.block b hl (λe=>hn e.symm)];exact h
def qG (w : World) (g : Nat) (ns : List Int) (k : Nat) (v : Value) (wr : World) : Prop :=
 aX wr (w.heap.size + 1) v ([71,1] ++ (ns.take k).flatMap aD) /\ ak wr g (qF ns).toArray 114 /\ Below w.heap.size w wr /\ w.heap.size + 1 <= wr.heap.size
theorem xK {a b c d : Int} (ha : iq a) (hb : iq b) (hc : iq c) (hd : iq d) (k : Nat) (hk : k <= 3) : ([71,1] ++ ([a,b,c,d].take k).flatMap aD).length <= 32:=by
 have h1:=dK ha;have h2:=dK hb;have h3:=dK hc
 rcases (show k = 0 \/ k = 1 \/ k = 2 \/ k = 3 by omega) with rfl | rfl | rfl | rfl <;> simp [dZ] <;> omega
set_option maxHeartbeats 2000000 in
theorem T9 (tick time base : Int) (ht : ay time) (a : Option Addr) (len cap : Nat) (w : World) (h : gZ tick time base len = 0) :
 Calls Tryz.prog 74 #[xJ tick time base a len cap] w λe w'=>∃ v,e = .returned (.tuple #[v,.int .i64 0]) /\ aX w' w.heap.size v (vw tick time base len) /\ Below w.heap.size w w':=by
 have tm:=λw=>Bc time w
 have zg:=λw=>Vr time ht w
 have hz:=sV ht
 obtain ⟨a1,a2,a3,a4,h2,h3⟩ : ¬ tick < 0 /\ ¬ 4294967295 < tick /\ mE time /\ ¬ base < -1 /\ ¬ tick <= base /\ ¬ (128 : Int) < len:=by
  unfold gZ at h
  split at h
  ·cases h
  split at h
  ·cases h
  split at h
  ·cases h
  exact ⟨by omega,by omega,⟨by omega,by omega⟩,by omega,by omega,by omega⟩
 rw [decide_eq_true a3] at tm
 have hbk : 0 <= iG tick base /\ iG tick base <= tick:=by unfold iG;split <;> omega
 have Vv : Hid (iG tick base = if 0 <= base then tick - base else 0):=ah6 rfl
 have HH : Hid (vw tick time base len = [71,1] ++ aD tick ++ aD (kW time) ++ aD (iG tick base) ++ aD len):=ah6 rfl
 generalize vw tick time base len = hb at *
 generalize iG tick base = bk at *
 generalize kW time = zt at *
 clear a3 h
 unfold xJ
 have w1 : IntKind.u64.wrap tick = tick:=wraps_u64 _ (by omega) (by omega)
 have w2 : IntKind.u64.wrap (len : Int) = len:=wraps_u64 _ (by omega) (by omega)
 have HB : Hid (Below w.heap.size w (w.alloc (.cells #[.int .i64 tick,.int .i64 time,.int .i64 base,.slice a len cap] 39))):=ah6 (ah7)
 have Ab : Hid (iq tick):=ah6 ⟨by omega,by omega⟩
 have Ac : Hid (iq zt):=ah6 hz
 have Ad : Hid (iq (len : Int)):=ah6 ⟨by omega,by omega⟩
 have HGN : Hid (w.heap.size <= w.heap.size):=ah6 (Nat.le_refl _)
 clear hz
 by_cases hbase : 0 <= base
 ·have hk : bk = tick - base:=by rw [Vv.out,if_pos hbase]
  subst hk
  have w3 : wrap64 (tick - base) = tick - base:=by unfold wrap64;omega
  have w4 : IntKind.u64.wrap (tick - base) = tick - base:=wraps_u64 _ (by omega) (by omega)
  have ze : Hid (iq (tick - base)):=ah6 ⟨by omega,by omega⟩
  clear Vv hbk;have hG:=(ak.new w #[.int .i64 tick,.int .i64 time,.int .i64 base,.slice a len cap] 39).alloc (.cells #[.int .u8 71,.int .u8 1] 5)
  have G0 : ((w.alloc (.cells #[.int .i64 tick,.int .i64 time,.int .i64 base,.slice a len cap] 39)).alloc (.cells #[.int .u8 71,.int .u8 1] 5)).cell? ⟨w.heap.size,0,none⟩ = some (.int .i64 tick):=hG.cell 0
  have G1 : ((w.alloc (.cells #[.int .i64 tick,.int .i64 time,.int .i64 base,.slice a len cap] 39)).alloc (.cells #[.int .u8 71,.int .u8 1] 5)).cell? ⟨w.heap.size,1,none⟩ = some (.int .i64 time):=hG.cell 1
  have G3 : ((w.alloc (.cells #[.int .i64 tick,.int .i64 time,.int .i64 base,.slice a len cap] 39)).alloc (.cells #[.int .u8 71,.int .u8 1] 5)).cell? ⟨w.heap.size,3,none⟩ = some (.slice a len cap):=hG.cell 3
  clear hG
  go_enter Tryz.func74,Tryz.ntmps74
  go_wp2_with fail
  refine (tm _).mono ?_;rintro e w1 ⟨rfl,rfl⟩
  go_wp2_with fail
  apply vX
  case hm=>kernel_rfl
  case hB=>kernel_rfl
  repeat (apply bI;(next=>(intro W hW K hK;have y0:=hW.cell G0;have y1:=hW.cell G1;have y2:=hW.cell G3;go_simp;first | exact ⟨Below.refl _ _,hK⟩ | exact hK));(try go_simp))
  (apply bI;(next=>(intro W hW K hK;go_simp;exact ⟨Below.refl _ _,_,(zg W).mono (λe w' hh=>⟨hh.1,hh.2 ▸ Below.refl _ _⟩),hK⟩));(try go_simp))
  repeat (apply bI;(next=>(intro W hW K hK;have y0:=hW.cell G0;have y1:=hW.cell G1;have y2:=hW.cell G3;go_simp;first | exact ⟨Below.refl _ _,hK⟩ | exact hK));(try go_simp))
  apply tQ (s:=Me [tick,zt,(tick - base),(len : Int)]) rfl
  ·intro W hW
   go_simp
   exact ⟨ah7,⟨_,rfl⟩,_,rfl,ak.new W _ _⟩
  intro vv hvv
  obtain ⟨g,rfl⟩:=hvv
  repeat (apply bI;(next=>(intro W hW K hK;go_simp;first | exact ⟨Below.refl _ _,hK⟩ | exact hK));(try go_simp))
  refine dL ?_
  intro WC aL hC
  obtain ⟨g',hg',hU⟩:=hC
  cases hg'
  have HB1 : Hid (Below w.heap.size w WC):=ah6 (((ah7).alloc (by simp) _).trans (Below.mono aL (by simp;omega)))
  have hbs : w.heap.size + 1 <= WC.heap.size:=by have:=Below.size aL;simp at this;omega
  have HZ0 : Hid (aX WC (w.heap.size + 1) (.slice (some ⟨w.heap.size + 1,0,none⟩) 2 2) [71,1]):=ah6 ((by
   have hb:=ak.new (w.alloc (.cells #[.int .i64 tick,.int .i64 time,.int .i64 base,.slice a len cap] 39)) #[.int .u8 71,.int .u8 1] 5
   rw [show (w.alloc (.cells #[.int .i64 tick,.int .i64 time,.int .i64 base,.slice a len cap] 39)).heap.size = w.heap.size + 1 by simp] at hb
   exact (aX.Nf (zs:=[71,1]) (Nat.le_refl _) hb (by simp [maxLen]) (by intro z hz;simp at hz;rcases hz with rfl | rfl <;> exact ⟨by decide,by decide⟩)).below aL))
  have HS : Hid (qG w g [tick,zt,(tick - base),(len : Int)] 0 (.slice (some ⟨w.heap.size + 1,0,none⟩) 2 2) WC):=ah6 ⟨by simpa using HZ0.out,by simpa [qF] using hU,HB1.out,hbs⟩
  clear hU aL HB1 HZ0 G0 G1 G3 zg tm
  go_wp2_with fail
  go_loopw [5,62] (λv i wr=>∃ k : Nat,k <= 4 /\ i = .int .i64 k /\ qG w g [tick,zt,(tick - base),(len : Int)] k v wr) (λ_ i _=>4 - (intOf i).toNat)
  case atStart=>exact ⟨0,by omega,rfl,HS.out⟩
  case round =>
   rename_i wr
   obtain ⟨k,hk,rfl,hO,hU,hB,hN⟩:=hrel
   have adZ : w.heap.size + 1 <= wr.heap.size:=hN
   rcases (show k = 0 \/ k = 1 \/ k = 2 \/ k = 3 \/ k = 4 by omega) with rfl | rfl | rfl | rfl | rfl
   ·have c0:=hU.cell 0
    simp [qF] at c0
    have pt:=nH tick Ab.out wr
    have HL : Hid ((aD tick).length <= 10):=ah6 (by rw [dZ];exact dK Ab.out)
    have HP : Hid (([71,1] ++ ([tick,zt,(tick - base),(len : Int)].take 0).flatMap aD).length <= 32):=ah6 (xK Ab.out Ac.out ze.out Ad.out 0 (by decide))
    have HQ : Hid (([71,1] ++ ([tick,zt,(tick - base),(len : Int)].take 0).flatMap aD) ++ aD tick = [71,1] ++ ([tick,zt,(tick - base),(len : Int)].take 1).flatMap aD):=ah6 (by simp)
    have HO:=ah6 hO;have HU:=ah6 hU;have HB:=ah6 hB;clear hO hU hB
    generalize [71,1] ++ ([tick,zt,(tick - base),(len : Int)].take 0).flatMap aD = zs at *
    generalize aD tick = ys at *
    go_wp2_with fail
    refine pt.mono ?_;rintro e w2 ⟨v1,rfl,ho1,hb1⟩
    obtain ⟨ad,c,rfl,hba,hac⟩:=ho1.bytes
    have hs1:=hb1.size;have hO2:=HO.out.below hb1;have iD:=ah6 (HU.out.below hb1 HU.out.lt)
    have HB2:=ah6 (HB.out.trans (hb1.mono (by omega)))
    have bR:=ah6 hO2;clear ho1 hb1 hO2 pt HO HU HB
    have hyl : zs.length + ys.length <= 140737488355328:=by have:=HL.out;have:=HP.out;omega
    go_wp2_with (at_builtin;refine bF _ rfl (.tmp 66) (.tmp 68) rfl (w.heap.size + 1) _ zs rfl bR.out ad ys.length c ys rfl hba hac hyl (by omega) ?_)
    intro v2 w3 ho2 hg2
    have HS2 : Hid (qG w g [tick,zt,(tick - base),(len : Int)] 1 v2 w3):=ah6 ⟨by rw [← HQ.out];exact ho2,iD.out.grown hg2 (bL bR.out.1 iD.out (by decide)),HB2.out.grown hg2 (by omega) (λj e=>Nat.le_trans (Nat.le_succ _) (bR.out.lt j e).1),Nat.le_trans (by omega) hg2.size⟩
    clear ho2 hg2 bR iD HB2 hba
    go_wp2
    go_roundw
    case rel=>exact ⟨1,by omega,by first | rfl | go_num,HS2.out⟩
    case measure=>simp [intOf]
   ·have c0:=hU.cell 1
    simp [qF] at c0
    have pt:=nH zt Ac.out wr
    have HL : Hid ((aD zt).length <= 10):=ah6 (by rw [dZ];exact dK Ac.out)
    have HP : Hid (([71,1] ++ ([tick,zt,(tick - base),(len : Int)].take 1).flatMap aD).length <= 32):=ah6 (xK Ab.out Ac.out ze.out Ad.out 1 (by decide))
    have HQ : Hid (([71,1] ++ ([tick,zt,(tick - base),(len : Int)].take 1).flatMap aD) ++ aD zt = [71,1] ++ ([tick,zt,(tick - base),(len : Int)].take 2).flatMap aD):=ah6 (by simp)
    have HO:=ah6 hO;have HU:=ah6 hU;have HB:=ah6 hB;clear hO hU hB
    generalize [71,1] ++ ([tick,zt,(tick - base),(len : Int)].take 1).flatMap aD = zs at *
    generalize aD zt = ys at *
    go_wp2_with fail
    refine pt.mono ?_;rintro e w2 ⟨v1,rfl,ho1,hb1⟩
    obtain ⟨ad,c,rfl,hba,hac⟩:=ho1.bytes
    have hs1:=hb1.size;have hO2:=HO.out.below hb1;have iD:=ah6 (HU.out.below hb1 HU.out.lt)
    have HB2:=ah6 (HB.out.trans (hb1.mono (by omega)))
    have bR:=ah6 hO2;clear ho1 hb1 hO2 pt HO HU HB
    have hyl : zs.length + ys.length <= 140737488355328:=by have:=HL.out;have:=HP.out;omega
    go_wp2_with (at_builtin;refine bF _ rfl (.tmp 66) (.tmp 68) rfl (w.heap.size + 1) _ zs rfl bR.out ad ys.length c ys rfl hba hac hyl (by omega) ?_)
    intro v2 w3 ho2 hg2
    have HS2 : Hid (qG w g [tick,zt,(tick - base),(len : Int)] 2 v2 w3):=ah6 ⟨by rw [← HQ.out];exact ho2,iD.out.grown hg2 (bL bR.out.1 iD.out (by decide)),HB2.out.grown hg2 (by omega) (λj e=>Nat.le_trans (Nat.le_succ _) (bR.out.lt j e).1),Nat.le_trans (by omega) hg2.size⟩
    clear ho2 hg2 bR iD HB2 hba
    go_wp2
    go_roundw
    case rel=>exact ⟨2,by omega,by first | rfl | go_num,HS2.out⟩
    case measure=>simp [intOf]
   ·have c0:=hU.cell 2
    simp [qF] at c0
    have pt:=nH (tick - base) ze.out wr
    have HL : Hid ((aD (tick - base)).length <= 10):=ah6 (by rw [dZ];exact dK ze.out)
    have HP : Hid (([71,1] ++ ([tick,zt,(tick - base),(len : Int)].take 2).flatMap aD).length <= 32):=ah6 (xK Ab.out Ac.out ze.out Ad.out 2 (by decide))
    have HQ : Hid (([71,1] ++ ([tick,zt,(tick - base),(len : Int)].take 2).flatMap aD) ++ aD (tick - base) = [71,1] ++ ([tick,zt,(tick - base),(len : Int)].take 3).flatMap aD):=ah6 (by simp)
    have HO:=ah6 hO;have HU:=ah6 hU;have HB:=ah6 hB;clear hO hU hB
    generalize [71,1] ++ ([tick,zt,(tick - base),(len : Int)].take 2).flatMap aD = zs at *
    generalize aD (tick - base) = ys at *
    go_wp2_with fail
    refine pt.mono ?_;rintro e w2 ⟨v1,rfl,ho1,hb1⟩
    obtain ⟨ad,c,rfl,hba,hac⟩:=ho1.bytes
    have hs1:=hb1.size;have hO2:=HO.out.below hb1;have iD:=ah6 (HU.out.below hb1 HU.out.lt)
    have HB2:=ah6 (HB.out.trans (hb1.mono (by omega)))
    have bR:=ah6 hO2;clear ho1 hb1 hO2 pt HO HU HB
    have hyl : zs.length + ys.length <= 140737488355328:=by have:=HL.out;have:=HP.out;omega
    go_wp2_with (at_builtin;refine bF _ rfl (.tmp 66) (.tmp 68) rfl (w.heap.size + 1) _ zs rfl bR.out ad ys.length c ys rfl hba hac hyl (by omega) ?_)
    intro v2 w3 ho2 hg2
    have HS2 : Hid (qG w g [tick,zt,(tick - base),(len : Int)] 3 v2 w3):=ah6 ⟨by rw [← HQ.out];exact ho2,iD.out.grown hg2 (bL bR.out.1 iD.out (by decide)),HB2.out.grown hg2 (by omega) (λj e=>Nat.le_trans (Nat.le_succ _) (bR.out.lt j e).1),Nat.le_trans (by omega) hg2.size⟩
    clear ho2 hg2 bR iD HB2 hba
    go_wp2
    go_roundw
    case rel=>exact ⟨3,by omega,by first | rfl | go_num,HS2.out⟩
    case measure=>simp [intOf]
   ·have c0:=hU.cell 3
    simp [qF] at c0
    have pt:=nH (len : Int) Ad.out wr
    have HL : Hid ((aD (len : Int)).length <= 10):=ah6 (by rw [dZ];exact dK Ad.out)
    have HP : Hid (([71,1] ++ ([tick,zt,(tick - base),(len : Int)].take 3).flatMap aD).length <= 32):=ah6 (xK Ab.out Ac.out ze.out Ad.out 3 (by decide))
    have HQ : Hid (([71,1] ++ ([tick,zt,(tick - base),(len : Int)].take 3).flatMap aD) ++ aD (len : Int) = [71,1] ++ ([tick,zt,(tick - base),(len : Int)].take 4).flatMap aD):=ah6 (by simp)
    have HO:=ah6 hO;have HU:=ah6 hU;have HB:=ah6 hB;clear hO hU hB
    generalize [71,1] ++ ([tick,zt,(tick - base),(len : Int)].take 3).flatMap aD = zs at *
    generalize aD (len : Int) = ys at *
    go_wp2_with fail
    refine pt.mono ?_;rintro e w2 ⟨v1,rfl,ho1,hb1⟩
    obtain ⟨ad,c,rfl,hba,hac⟩:=ho1.bytes
    have hs1:=hb1.size;have hO2:=HO.out.below hb1;have iD:=ah6 (HU.out.below hb1 HU.out.lt)
    have HB2:=ah6 (HB.out.trans (hb1.mono (by omega)))
    have bR:=ah6 hO2;clear ho1 hb1 hO2 pt HO HU HB
    have hyl : zs.length + ys.length <= 140737488355328:=by have:=HL.out;have:=HP.out;omega
    go_wp2_with (at_builtin;refine bF _ rfl (.tmp 66) (.tmp 68) rfl (w.heap.size + 1) _ zs rfl bR.out ad ys.length c ys rfl hba hac hyl (by omega) ?_)
    intro v2 w3 ho2 hg2
    have HS2 : Hid (qG w g [tick,zt,(tick - base),(len : Int)] 4 v2 w3):=ah6 ⟨by rw [← HQ.out];exact ho2,iD.out.grown hg2 (bL bR.out.1 iD.out (by decide)),HB2.out.grown hg2 (by omega) (λj e=>Nat.le_trans (Nat.le_succ _) (bR.out.lt j e).1),Nat.le_trans (by omega) hg2.size⟩
    clear ho2 hg2 bR iD HB2 hba
    go_wp2
    go_roundw
    case rel=>exact ⟨4,by omega,by first | rfl | go_num,HS2.out⟩
    case measure=>simp [intOf]
   ·have HO:=ah6 hO
    have HB:=ah6 hB;clear hO hU hB
    go_wp2
    refine bodyPost_ret (v:=.tuple #[_,.int .i64 0]) (by simp [results,Tryz.results74,go_sem];rfl) rfl ⟨_,rfl,?_,HB.out⟩
    have:=HO.out.base (base':=w.heap.size) (Nat.le_succ _)
    rw [HH.out]
    simpa using this
 ·have hk : bk = 0:=by rw [Vv.out,if_neg hbase]
  subst hk
  have ze : Hid (iq 0):=ah6 ⟨by decide,by decide⟩
  clear Vv hbk;have hG:=(ak.new w #[.int .i64 tick,.int .i64 time,.int .i64 base,.slice a len cap] 39).alloc (.cells #[.int .u8 71,.int .u8 1] 5)
  have G0 : ((w.alloc (.cells #[.int .i64 tick,.int .i64 time,.int .i64 base,.slice a len cap] 39)).alloc (.cells #[.int .u8 71,.int .u8 1] 5)).cell? ⟨w.heap.size,0,none⟩ = some (.int .i64 tick):=hG.cell 0
  have G1 : ((w.alloc (.cells #[.int .i64 tick,.int .i64 time,.int .i64 base,.slice a len cap] 39)).alloc (.cells #[.int .u8 71,.int .u8 1] 5)).cell? ⟨w.heap.size,1,none⟩ = some (.int .i64 time):=hG.cell 1
  have G3 : ((w.alloc (.cells #[.int .i64 tick,.int .i64 time,.int .i64 base,.slice a len cap] 39)).alloc (.cells #[.int .u8 71,.int .u8 1] 5)).cell? ⟨w.heap.size,3,none⟩ = some (.slice a len cap):=hG.cell 3
  clear hG
  go_enter Tryz.func74,Tryz.ntmps74
  go_wp2_with fail
  refine (tm _).mono ?_;rintro e w1 ⟨rfl,rfl⟩
  go_wp2_with fail
  apply vX
  case hm=>kernel_rfl
  case hB=>kernel_rfl
  repeat (apply bI;(next=>(intro W hW K hK;have y0:=hW.cell G0;have y1:=hW.cell G1;have y2:=hW.cell G3;go_simp;first | exact ⟨Below.refl _ _,hK⟩ | exact hK));(try go_simp))
  (apply bI;(next=>(intro W hW K hK;go_simp;exact ⟨Below.refl _ _,_,(zg W).mono (λe w' hh=>⟨hh.1,hh.2 ▸ Below.refl _ _⟩),hK⟩));(try go_simp))
  repeat (apply bI;(next=>(intro W hW K hK;have y0:=hW.cell G0;have y1:=hW.cell G1;have y2:=hW.cell G3;go_simp;first | exact ⟨Below.refl _ _,hK⟩ | exact hK));(try go_simp))
  apply tQ (s:=Me [tick,zt,0,(len : Int)]) rfl
  ·intro W hW
   go_simp
   exact ⟨ah7,⟨_,rfl⟩,_,rfl,ak.new W _ _⟩
  intro vv hvv
  obtain ⟨g,rfl⟩:=hvv
  repeat (apply bI;(next=>(intro W hW K hK;go_simp;first | exact ⟨Below.refl _ _,hK⟩ | exact hK));(try go_simp))
  refine dL ?_
  intro WC aL hC
  obtain ⟨g',hg',hU⟩:=hC
  cases hg'
  have HB1 : Hid (Below w.heap.size w WC):=ah6 (((ah7).alloc (by simp) _).trans (Below.mono aL (by simp;omega)))
  have hbs : w.heap.size + 1 <= WC.heap.size:=by have:=Below.size aL;simp at this;omega
  have HZ0 : Hid (aX WC (w.heap.size + 1) (.slice (some ⟨w.heap.size + 1,0,none⟩) 2 2) [71,1]):=ah6 ((by
   have hb:=ak.new (w.alloc (.cells #[.int .i64 tick,.int .i64 time,.int .i64 base,.slice a len cap] 39)) #[.int .u8 71,.int .u8 1] 5
   rw [show (w.alloc (.cells #[.int .i64 tick,.int .i64 time,.int .i64 base,.slice a len cap] 39)).heap.size = w.heap.size + 1 by simp] at hb
   exact (aX.Nf (zs:=[71,1]) (Nat.le_refl _) hb (by simp [maxLen]) (by intro z hz;simp at hz;rcases hz with rfl | rfl <;> exact ⟨by decide,by decide⟩)).below aL))
  have HS : Hid (qG w g [tick,zt,0,(len : Int)] 0 (.slice (some ⟨w.heap.size + 1,0,none⟩) 2 2) WC):=ah6 ⟨by simpa using HZ0.out,by simpa [qF] using hU,HB1.out,hbs⟩
  clear hU aL HB1 HZ0 G0 G1 G3 zg tm
  go_wp2_with fail
  go_loopw [5,62] (λv i wr=>∃ k : Nat,k <= 4 /\ i = .int .i64 k /\ qG w g [tick,zt,0,(len : Int)] k v wr) (λ_ i _=>4 - (intOf i).toNat)
  case atStart=>exact ⟨0,by omega,rfl,HS.out⟩
  case round =>
   rename_i wr
   obtain ⟨k,hk,rfl,hO,hU,hB,hN⟩:=hrel
   have adZ : w.heap.size + 1 <= wr.heap.size:=hN
   rcases (show k = 0 \/ k = 1 \/ k = 2 \/ k = 3 \/ k = 4 by omega) with rfl | rfl | rfl | rfl | rfl
   ·have c0:=hU.cell 0
    simp [qF] at c0
    have pt:=nH tick Ab.out wr
    have HL : Hid ((aD tick).length <= 10):=ah6 (by rw [dZ];exact dK Ab.out)
    have HP : Hid (([71,1] ++ ([tick,zt,0,(len : Int)].take 0).flatMap aD).length <= 32):=ah6 (xK Ab.out Ac.out ze.out Ad.out 0 (by decide))
    have HQ : Hid (([71,1] ++ ([tick,zt,0,(len : Int)].take 0).flatMap aD) ++ aD tick = [71,1] ++ ([tick,zt,0,(len : Int)].take 1).flatMap aD):=ah6 (by simp)
    have HO:=ah6 hO;have HU:=ah6 hU;have HB:=ah6 hB;clear hO hU hB
    generalize [71,1] ++ ([tick,zt,0,(len : Int)].take 0).flatMap aD = zs at *
    generalize aD tick = ys at *
    go_wp2_with fail
    refine pt.mono ?_;rintro e w2 ⟨v1,rfl,ho1,hb1⟩
    obtain ⟨ad,c,rfl,hba,hac⟩:=ho1.bytes
    have hs1:=hb1.size;have hO2:=HO.out.below hb1;have iD:=ah6 (HU.out.below hb1 HU.out.lt)
    have HB2:=ah6 (HB.out.trans (hb1.mono (by omega)))
    have bR:=ah6 hO2;clear ho1 hb1 hO2 pt HO HU HB
    have hyl : zs.length + ys.length <= 140737488355328:=by have:=HL.out;have:=HP.out;omega
    go_wp2_with (at_builtin;refine bF _ rfl (.tmp 66) (.tmp 68) rfl (w.heap.size + 1) _ zs rfl bR.out ad ys.length c ys rfl hba hac hyl (by omega) ?_)
    intro v2 w3 ho2 hg2
    have HS2 : Hid (qG w g [tick,zt,0,(len : Int)] 1 v2 w3):=ah6 ⟨by rw [← HQ.out];exact ho2,iD.out.grown hg2 (bL bR.out.1 iD.out (by decide)),HB2.out.grown hg2 (by omega) (λj e=>Nat.le_trans (Nat.le_succ _) (bR.out.lt j e).1),Nat.le_trans (by omega) hg2.size⟩
    clear ho2 hg2 bR iD HB2 hba
    go_wp2
    go_roundw
    case rel=>exact ⟨1,by omega,by first | rfl | go_num,HS2.out⟩
    case measure=>simp [intOf]
   ·have c0:=hU.cell 1
    simp [qF] at c0
    have pt:=nH zt Ac.out wr
    have HL : Hid ((aD zt).length <= 10):=ah6 (by rw [dZ];exact dK Ac.out)
    have HP : Hid (([71,1] ++ ([tick,zt,0,(len : Int)].take 1).flatMap aD).length <= 32):=ah6 (xK Ab.out Ac.out ze.out Ad.out 1 (by decide))
    have HQ : Hid (([71,1] ++ ([tick,zt,0,(len : Int)].take 1).flatMap aD) ++ aD zt = [71,1] ++ ([tick,zt,0,(len : Int)].take 2).flatMap aD):=ah6 (by simp)
    have HO:=ah6 hO;have HU:=ah6 hU;have HB:=ah6 hB;clear hO hU hB
    generalize [71,1] ++ ([tick,zt,0,(len : Int)].take 1).flatMap aD = zs at *
    generalize aD zt = ys at *
    go_wp2_with fail
    refine pt.mono ?_;rintro e w2 ⟨v1,rfl,ho1,hb1⟩
    obtain ⟨ad,c,rfl,hba,hac⟩:=ho1.bytes
    have hs1:=hb1.size;have hO2:=HO.out.below hb1;have iD:=ah6 (HU.out.below hb1 HU.out.lt)
    have HB2:=ah6 (HB.out.trans (hb1.mono (by omega)))
    have bR:=ah6 hO2;clear ho1 hb1 hO2 pt HO HU HB
    have hyl : zs.length + ys.length <= 140737488355328:=by have:=HL.out;have:=HP.out;omega
    go_wp2_with (at_builtin;refine bF _ rfl (.tmp 66) (.tmp 68) rfl (w.heap.size + 1) _ zs rfl bR.out ad ys.length c ys rfl hba hac hyl (by omega) ?_)
    intro v2 w3 ho2 hg2
    have HS2 : Hid (qG w g [tick,zt,0,(len : Int)] 2 v2 w3):=ah6 ⟨by rw [← HQ.out];exact ho2,iD.out.grown hg2 (bL bR.out.1 iD.out (by decide)),HB2.out.grown hg2 (by omega) (λj e=>Nat.le_trans (Nat.le_succ _) (bR.out.lt j e).1),Nat.le_trans (by omega) hg2.size⟩
    clear ho2 hg2 bR iD HB2 hba
    go_wp2
    go_roundw
    case rel=>exact ⟨2,by omega,by first | rfl | go_num,HS2.out⟩
    case measure=>simp [intOf]
   ·have c0:=hU.cell 2
    simp [qF] at c0
    have pt:=nH 0 ze.out wr
    have HL : Hid ((aD 0).length <= 10):=ah6 (by rw [dZ];exact dK ze.out)
    have HP : Hid (([71,1] ++ ([tick,zt,0,(len : Int)].take 2).flatMap aD).length <= 32):=ah6 (xK Ab.out Ac.out ze.out Ad.out 2 (by decide))
    have HQ : Hid (([71,1] ++ ([tick,zt,0,(len : Int)].take 2).flatMap aD) ++ aD 0 = [71,1] ++ ([tick,zt,0,(len : Int)].take 3).flatMap aD):=ah6 (by simp)
    have HO:=ah6 hO;have HU:=ah6 hU;have HB:=ah6 hB;clear hO hU hB
    generalize [71,1] ++ ([tick,zt,0,(len : Int)].take 2).flatMap aD = zs at *
    generalize aD 0 = ys at *
    go_wp2_with fail
    refine pt.mono ?_;rintro e w2 ⟨v1,rfl,ho1,hb1⟩
    obtain ⟨ad,c,rfl,hba,hac⟩:=ho1.bytes
    have hs1:=hb1.size;have hO2:=HO.out.below hb1;have iD:=ah6 (HU.out.below hb1 HU.out.lt)
    have HB2:=ah6 (HB.out.trans (hb1.mono (by omega)))
    have bR:=ah6 hO2;clear ho1 hb1 hO2 pt HO HU HB
    have hyl : zs.length + ys.length <= 140737488355328:=by have:=HL.out;have:=HP.out;omega
    go_wp2_with (at_builtin;refine bF _ rfl (.tmp 66) (.tmp 68) rfl (w.heap.size + 1) _ zs rfl bR.out ad ys.length c ys rfl hba hac hyl (by omega) ?_)
    intro v2 w3 ho2 hg2
    have HS2 : Hid (qG w g [tick,zt,0,(len : Int)] 3 v2 w3):=ah6 ⟨by rw [← HQ.out];exact ho2,iD.out.grown hg2 (bL bR.out.1 iD.out (by decide)),HB2.out.grown hg2 (by omega) (λj e=>Nat.le_trans (Nat.le_succ _) (bR.out.lt j e).1),Nat.le_trans (by omega) hg2.size⟩
    clear ho2 hg2 bR iD HB2 hba
    go_wp2
    go_roundw
    case rel=>exact ⟨3,by omega,by first | rfl | go_num,HS2.out⟩
    case measure=>simp [intOf]
   ·have c0:=hU.cell 3
    simp [qF] at c0
    have pt:=nH (len : Int) Ad.out wr
    have HL : Hid ((aD (len : Int)).length <= 10):=ah6 (by rw [dZ];exact dK Ad.out)
    have HP : Hid (([71,1] ++ ([tick,zt,0,(len : Int)].take 3).flatMap aD).length <= 32):=ah6 (xK Ab.out Ac.out ze.out Ad.out 3 (by decide))
    have HQ : Hid (([71,1] ++ ([tick,zt,0,(len : Int)].take 3).flatMap aD) ++ aD (len : Int) = [71,1] ++ ([tick,zt,0,(len : Int)].take 4).flatMap aD):=ah6 (by simp)
    have HO:=ah6 hO;have HU:=ah6 hU;have HB:=ah6 hB;clear hO hU hB
    generalize [71,1] ++ ([tick,zt,0,(len : Int)].take 3).flatMap aD = zs at *
    generalize aD (len : Int) = ys at *
    go_wp2_with fail
    refine pt.mono ?_;rintro e w2 ⟨v1,rfl,ho1,hb1⟩
    obtain ⟨ad,c,rfl,hba,hac⟩:=ho1.bytes
    have hs1:=hb1.size;have hO2:=HO.out.below hb1;have iD:=ah6 (HU.out.below hb1 HU.out.lt)
    have HB2:=ah6 (HB.out.trans (hb1.mono (by omega)))
    have bR:=ah6 hO2;clear ho1 hb1 hO2 pt HO HU HB
    have hyl : zs.length + ys.length <= 140737488355328:=by have:=HL.out;have:=HP.out;omega
    go_wp2_with (at_builtin;refine bF _ rfl (.tmp 66) (.tmp 68) rfl (w.heap.size + 1) _ zs rfl bR.out ad ys.length c ys rfl hba hac hyl (by omega) ?_)
    intro v2 w3 ho2 hg2
    have HS2 : Hid (qG w g [tick,zt,0,(len : Int)] 4 v2 w3):=ah6 ⟨by rw [← HQ.out];exact ho2,iD.out.grown hg2 (bL bR.out.1 iD.out (by decide)),HB2.out.grown hg2 (by omega) (λj e=>Nat.le_trans (Nat.le_succ _) (bR.out.lt j e).1),Nat.le_trans (by omega) hg2.size⟩
    clear ho2 hg2 bR iD HB2 hba
    go_wp2
    go_roundw
    case rel=>exact ⟨4,by omega,by first | rfl | go_num,HS2.out⟩
    case measure=>simp [intOf]
   ·have HO:=ah6 hO
    have HB:=ah6 hB;clear hO hU hB
    go_wp2
    refine bodyPost_ret (v:=.tuple #[_,.int .i64 0]) (by simp [results,Tryz.results74,go_sem];rfl) rfl ⟨_,rfl,?_,HB.out⟩
    have:=HO.out.base (base':=w.heap.size) (Nat.le_succ _)
    rw [HH.out]
    simpa using this
end Go.Proofs.YtklkooeimkedgaaGreat
namespace Go.Proofs.YtklkooeimkedgaaGreat
open Go.RowKit
set_option maxRecDepth 8000
def oM (w : World) (b o : Nat) (r : Rec) : Prop:=w.cell? ⟨b,o,none⟩ = some (.int .i64 r.kind) /\ w.cell? ⟨b,o + 1,none⟩ = some (.int .i64 r.id) /\ w.cell? ⟨b,o + 2,none⟩ = some (.int .i64 r.px) /\ w.cell? ⟨b,o + 3,none⟩ = some (.int .i64 r.py) /\ w.cell? ⟨b,o + 4,none⟩ = some (.int .i64 r.pz) /\ w.cell? ⟨b,o + 5,none⟩ = some (.int .i64 r.vx) /\ w.cell? ⟨b,o + 6,none⟩ = some (.int .i64 r.vy) /\ w.cell? ⟨b,o + 7,none⟩ = some (.int .i64 r.vz) /\ w.cell? ⟨b,o + 8,none⟩ = some (.int .u16 r.aI)
def qB (w : World) (a : Option Addr) (rs : List Rec) : Prop :=
 (∀ r ∈ rs,r.Ok) /\ (rs = [] \/ ∃ b off,a = some ⟨b,off,none⟩ /\ b < w.heap.size /\ ∀ i r,rs[i]? = some r -> oM w b (off + i * 9) r)
theorem oM.below {w w' : World} {b o : Nat} {r : Rec} {B : Nat} (h : oM w b o r) (hb : Below B w w') (hl : b < B) : oM w' b o r:=by
 unfold oM at *
 refine ⟨?_,?_,?_,?_,?_,?_,?_,?_,?_⟩ <;> (rw [hb.cell (by simpa using hl)];first | exact h.1 | exact h.2.1 | exact h.2.2.1 | exact h.2.2.2.1 | exact h.2.2.2.2.1 | exact h.2.2.2.2.2.1 | exact h.2.2.2.2.2.2.1 | exact h.2.2.2.2.2.2.2.1 | exact h.2.2.2.2.2.2.2.2)
theorem qB.below {w w' : World} {a : Option Addr} {rs : List Rec} (h : qB w a rs) (hb : Below w.heap.size w w') : qB w' a rs:=by
 obtain ⟨h1,h2⟩:=h
 refine ⟨h1,?_⟩
 rcases h2 with h2 | ⟨b,off,e,hl,hc⟩
 ·exact .inl h2
 ·exact .inr ⟨b,off,e,Nat.lt_of_lt_of_le hl hb.size,λi r hi=>(hc i r hi).below hb hl⟩
theorem Lg {r : Rec} (hr : r.Ok) : (pK r).length <= 71:=by
 have ha:=hr.aI
 have h1:=dK (x:=r.aI) ⟨by omega,by omega⟩
 have hns : ∀ n ∈ aj r,ay n:=by intro n hn;simp [aj] at hn;rcases hn with h | h | h | h | h | h <;> subst h;exact hr.px;exact hr.py;exact hr.pz;exact hr.vx;exact hr.vy;exact hr.vz
 have h2:=EG (aj r) hns
 have h3 : (aj r).length = 6:=rfl
 have h4 : (nb (aj r) ++ aD r.aI).length <= 70:=by rw [List.length_append,dZ];omega
 have h6 : (vo r).length <= 71:=by
  unfold vo
  have h7:=EG ((aj r).filter (· ≠ 0)) (λn hn=>hns n (List.mem_filter.1 hn).1)
  have h8 : ((aj r).filter (· ≠ 0)).length <= (aj r).length:=List.length_filter_le _ _
  simp only [List.length_append,List.length_cons,List.length_nil]
  split
  ·rw [dZ];omega
  ·simp only [List.length_nil];omega
 unfold pK
 by_cases h5 : r.kind = 2
 ·rw [if_pos h5];simp
 ·rw [if_neg h5]
  split
  ·exact h6
  ·omega
theorem EL {r : Rec} (hr : r.Ok) {last : Int} (h : gU r last = 0) : (nJ r last).length <= 82:=by
 obtain ⟨hc,h1,h2,k0,k3,i0,i1⟩:=xH h
 have h4:=Lg hr
 have h5:=dK (x:=r.id - last - 1) ⟨by omega,by omega⟩
 unfold nJ
 simp only [List.length_append,dZ,List.length_cons,List.length_nil]
 omega
theorem GI (tick time base : Int) (n : Nat) (h : gZ tick time base n = 0) : (vw tick time base n).length <= 42:=by
 unfold gZ at h
 split at h
 ·cases h
 split at h
 ·cases h
 split at h
 ·cases h
 have ht : ay time:=⟨by omega,by omega⟩
 have hb : 0 <= iG tick base /\ iG tick base <= tick:=by unfold iG;split <;> omega
 have h1:=dK (x:=tick) ⟨by omega,by omega⟩
 have h2:=dK (sV ht)
 have h3:=dK (x:=iG tick base) ⟨by omega,by omega⟩
 have h4:=dK (x:=(n : Int)) ⟨by omega,by omega⟩
 unfold vw
 simp only [List.length_append,dZ,List.length_cons,List.length_nil]
 omega
def NI (w : World) (rs : List Rec) (hd : List Int) (k : Nat) (lv v : Value) (wr : World) : Prop :=
 ∃ (last : Int) (pre : List Int),lv = .int .i64 last /\ lY (-1) rs = lY last (rs.drop k) /\ kR (-1) rs = pre ++ kR last (rs.drop k) /\ aX wr w.heap.size v (hd ++ pre) /\ pre.length <= 82 * k /\ Below w.heap.size w wr
def Mf (w : World) (B3 : Nat) (v : Value) (zs : List Int) (ad : Option Addr) (ys : List Int) (r : Rec) : List Value -> World -> Prop
 | [],W=>aX W w.heap.size v zs /\ BytesAt W ad ys.length ys /\ ak W B3 (aW r) 147 /\ Below w.heap.size w W
 | [v'],W=>aX W w.heap.size v' (zs ++ ys) /\ ak W B3 (aW r) 147 /\ Below w.heap.size w W
 | [v',u],W=>aX W w.heap.size u (zs ++ ys) /\ ak W B3 (aW r) 147 /\ Below w.heap.size w W
 | _,_=>False
theorem Mf.blk {w : World} {B3 : Nat} {v : Value} {zs : List Int} {ad : Option Addr} {ys : List Int} {r : Rec} : ∀ {b : List Value} {W : World},Mf w B3 v zs ad ys r b W -> ak W B3 (aW r) 147
 | [],_,h=>h.2.2.1
 | [_],_,h=>h.2.1
 | [_,_],_,h=>h.2.1
 | _ :: _ :: _ :: _,_,h=>h.elim
set_option maxHeartbeats 2000000 in
theorem Mg (tick time base : Int) (ht : ay time) (a : Option Addr) (cap : Nat) (rs : List Rec) (w : World) (hrs : qB w a rs) :
 Calls Tryz.prog 37 #[xJ tick time base a rs.length cap] w λe w'=>∃ v,e = .returned (.tuple #[v,.int .i64 (dA ⟨tick,time,base,rs⟩)]) /\ (dA ⟨tick,time,base,rs⟩ = 0 -> aX w' w.heap.size v (jr ⟨tick,time,base,rs⟩)) /\ Below w.heap.size w w':=by
 by_cases hh : gZ tick time base rs.length = 0
 ·have hd:=λw=>T9 tick time base ht a rs.length cap w hh
  have hl:=GI tick time base rs.length hh
  have HE : Hid (dA ⟨tick,time,base,rs⟩ = lY (-1) rs):=ah6 (by unfold dA;simp only;rw [if_neg (by simpa using hh)])
  have HB : Hid (jr ⟨tick,time,base,rs⟩ = vw tick time base rs.length ++ kR (-1) rs):=ah6 rfl
  have hn : rs.length <= 128:=by
   unfold gZ at hh
   split at hh
   ·cases hh
   split at hh
   ·cases hh
   split at hh
   ·cases hh
   omega
  generalize dA ⟨tick,time,base,rs⟩ = be at *
  generalize jr ⟨tick,time,base,rs⟩ = bb at *
  generalize vw tick time base rs.length = hb at *
  have Mi:=ah6 hrs;have HN:=ah6 hn;have HL:=ah6 hl
  unfold xJ at *
  clear hh hrs ht
  have hB0 : Hid (Below w.heap.size w (w.alloc (.cells #[.int .i64 tick,.int .i64 time,.int .i64 base,.slice a rs.length cap] 39))):=ah6 (ah7)
  go_enter Tryz.func37,Tryz.ntmps37
  go_wp2_with fail
  refine (hd _).mono ?_;rintro e w1 ⟨v,rfl,ho,hb1⟩
  have HB1:=ah6 (hB0.out.trans (hb1.mono (by simp)))
  have hX:=(ak.new w #[.int .i64 tick,.int .i64 time,.int .i64 base,.slice a rs.length cap] 39).below hb1 (by simp)
  have c3:=hX.cell 3;simp at c3
  have HO:=ah6 (ho.base (base':=w.heap.size) (by simp))
  have Ua:=ah6 ((Mi.out.below hB0.out).below hb1)
  have HS : Hid (NI w rs hb 0 (.int .i64 (-1)) v w1):=ah6 ⟨-1,[],rfl,by simp,by simp,by simpa using HO.out,by simp,HB1.out⟩
  clear ho hb1 hX hd hB0 HO
  go_wp2_with fail
  go_loopw [4,6,22] (λv lv i wr=>∃ k : Nat,k <= rs.length /\ i = .int .i64 k /\ NI w rs hb k lv v wr) (λ_ _ i _=>rs.length - (intOf i).toNat)
  case atStart=>exact ⟨0,Nat.zero_le _,rfl,HS.out⟩
  case round =>
   rename_i wr
   obtain ⟨k,hk,rfl,last,pre,rfl,hE,uw,hO,hP,hB⟩:=hrel
   by_cases hlt : k < rs.length
   ·obtain ⟨r,hr⟩ : ∃ r,rs[k]? = some r:=⟨_,List.getElem?_eq_getElem hlt⟩
    have hdrop : rs.drop k = r :: rs.drop (k + 1):=by
     rw [List.drop_eq_getElem_cons hlt]
     rw [List.getElem?_eq_getElem hlt] at hr
     cases hr;rfl
    rw [hdrop] at hE uw
    have hmem : r ∈ rs:=List.mem_of_getElem? hr
    have uU:=Mi.out.1 r hmem
    obtain ⟨b,off,rfl,hbl,hcs⟩ : ∃ b off,a = some ⟨b,off,none⟩ /\ b < w.heap.size /\ ∀ i r,rs[i]? = some r -> oM w b (off + i * 9) r:=by
     rcases Mi.out.2 with h0 | h0
     ·rw [h0] at hlt;simp at hlt
     ·exact h0
    have hc:=(hcs k r hr).below hB hbl;have HE2:=ah6 hE;have uV:=ah6 uw;have HO:=ah6 hO;have HB2:=ah6 hB;have HP:=ah6 hP;have HR:=ah6 uU;have hbs:=hB.size
    have hlt' : (k : Int) < rs.length:=by omega
    by_cases EM : gU r last = 0
    ·have JM:=λw=>YP r uU last w EM
     have hyl:=EL uU EM
     have qV : Hid (lY last (r :: rs.drop (k + 1)) = lY r.id (rs.drop (k + 1))):=ah6 (by rw [lY,if_neg (by simpa using EM)])
     have HIB : Hid (kR last (r :: rs.drop (k + 1)) = nJ r last ++ kR r.id (rs.drop (k + 1))):=ah6 rfl
     clear hE uw hO hB hP hcs hdrop hr hmem uU EM Mi Ua
     generalize nJ r last = ys at *
     obtain ⟨rk,ri,p1,p2,p3,q1,q2,q3,ra⟩:=r
     obtain ⟨c0,c1,c2,c3,c4,c5,c6,c7,c8⟩:=hc
     unfold lS at JM
     simp only at *
     go_wp2_with fail
     refine (JM _).mono ?_;rintro e w2 ⟨v2,rfl,ho2,hb2⟩
     obtain ⟨ad,c,rfl,hba,hac⟩:=ho2.bytes
     have hX2:=(ak.new wr (aW ⟨rk,ri,p1,p2,p3,q1,q2,q3,ra⟩) 147).below hb2 (by simp)
     have iQ : Below wr.heap.size wr (wr.alloc (.cells (aW ⟨rk,ri,p1,p2,p3,q1,q2,q3,ra⟩) 147)):=ah7
     have hO2:=(HO.out.below iQ).below hb2
     have hB2 : Below w.heap.size w w2:=HB2.out.trans ((iQ.trans (hb2.mono (by simp))).mono hbs)
     have HI : Hid (Mf w wr.heap.size u4 (hb ++ pre) ad ys ⟨rk,ri,p1,p2,p3,q1,q2,q3,ra⟩ [] w2.drew):=ah6 ⟨hO2.below (below_drewN ah8 1),hba.below (below_drewN ah8 1),hX2,below_drewN hB2 1⟩
     have EJ : Hid ((hb ++ pre).length + ys.length <= 140737488355328):=ah6 (by have h1:=HL.out;have h2:=HP.out;have h3:=HN.out;rw [List.length_append];omega)
     have ad1 : Hid ((pre ++ ys).length <= 82 * (k + 1)):=ah6 (by have h2:=HP.out;rw [List.length_append];omega)
     have HBS : Hid (∀ W,Below w.heap.size w W -> w.heap.size <= W.heap.size):=ah6 (λW h=>h.size)
     have HAC:=ah6 hac;clear ho2 hba hac hX2 iQ hO2 hB2 hb2 JM c0 c1 c2 c3 c4 c5 c6 c7 c8 HO HB2 HP hyl
     go_wp2_with fail
     apply jQ 6 [2,5] (Mf w wr.heap.size u4 (hb ++ pre) ad ys ⟨rk,ri,p1,p2,p3,q1,q2,q3,ra⟩)
     case hm=>kernel_rfl
     case hB=>kernel_rfl
     case hp=>kernel_rfl
     case hI=>exact HI.out
     simp only [List.take_succ_cons,List.take_zero,List.drop_succ_cons,List.drop_zero]
     repeat (apply bT;(next=>rfl);(next=>(intro b W hW K hK;have y0:=(Mf.blk hW).cell 1;simp at y0;go_simp;first | exact ⟨hW,hK⟩ | exact hK));(next=>exact ⟨_,HI.out⟩);(try go_simp))
     apply dh (s:=λ_=>True)
     case hk=>rfl
     case hne=>exact ⟨undef,trivial⟩
     case hw=>rfl
     case h =>
      intro W hW
      obtain ⟨hO,hY,hX,hB⟩:=hW
      refine Ae (d:=37) (ops:=#[]) rfl (by simp) rfl ?_
      intro Q hQ
      refine bF W rfl (.tmp 35) (.tmp 36) rfl w.heap.size _ (hb ++ pre) rfl hO ad ys.length c ys rfl hY HAC.out EJ.out (HBS.out W hB) ?_
      intro v' w' ho hg
      exact hQ v' w' trivial ⟨ho,hX.grown hg (bL hO.1 hX (by decide)),hB.grown hg (HBS.out W hB) (λj e=>(hO.lt j e).1)⟩
     intro v3 _
     repeat (apply bT;(next=>rfl);(next=>(intro b W hW K hK;have y0:=(Mf.blk hW).cell 1;simp at y0;go_simp;first | exact ⟨hW,hK⟩ | exact hK));(next=>exact ⟨_,HI.out⟩);(try go_simp))
     apply dh (s:=λv=>True)
     case hk=>rfl
     case hne=>exact ⟨undef,trivial⟩
     case hw=>rfl
     case h =>
      intro W hW
      go_simp
      first | exact hW | exact ⟨trivial,hW⟩
     intro v4 _
     refine jF ?_
     intro WC aL
     have HS2 : Hid (NI w rs hb (k + 1) (.int .i64 ri) v4 WC):=ah6 (by
      obtain ⟨hO3,aS,hB3⟩:=aL
      refine ⟨ri,pre ++ ys,rfl,by rw [HE2.out,qV.out],by rw [uV.out,HIB.out,List.append_assoc],by rw [← List.append_assoc];exact hO3,ad1.out,hB3⟩)
     clear aL
     go_wp2
     go_roundw
     case rel=>exact ⟨k + 1,by omega,by go_num,HS2.out⟩
     case measure=>simp [intOf];omega
    ·have JM:=λw=>WY r last w EM
     have qV : Hid (be = gU r last):=ah6 (by rw [HE.out,HE2.out,lY,if_pos EM])
     have oK:=ah6 EM
     have hne2 : (gU r last != 0) = true:=by simpa using EM
     clear hE uw hO hB hP hcs hdrop hr hmem uU EM Mi Ua uV HE2
     generalize gU r last = we at *
     obtain ⟨rk,ri,p1,p2,p3,q1,q2,q3,ra⟩:=r
     obtain ⟨c0,c1,c2,c3,c4,c5,c6,c7,c8⟩:=hc
     unfold lS at JM
     simp only at *
     go_wp2_with fail
     refine (JM _).mono ?_;rintro e w2 ⟨rfl,hb2⟩
     have iQ : Below wr.heap.size wr (wr.alloc (.cells (aW ⟨rk,ri,p1,p2,p3,q1,q2,q3,ra⟩) 147)):=ah7
     have HB3 : Hid (Below w.heap.size w w2):=ah6 (HB2.out.trans ((iQ.trans (hb2.mono (by simp))).mono hbs))
     clear hb2 iQ JM
     go_wp2
     exact bodyPost_ret (v:=.tuple #[.slice none 0 0,.int .i64 we]) (by simp [results,Tryz.results37,go_sem]) rfl ⟨_,by rw [qV.out],λh=>absurd (qV.out.symm.trans h) oK.out,HB3.out⟩
   ·obtain rfl : k = rs.length:=by omega
    rw [List.drop_length] at hE uw
    have HV : Hid (be = 0):=ah6 (by rw [HE.out,hE];rfl)
    have HO : Hid (aX wr w.heap.size u4 bb):=ah6 (by rw [HB.out,uw];simpa [kR] using hO)
    have HB2:=ah6 hB;clear hE uw hO hB hP Mi Ua
    go_wp2
    refine bodyPost_ret (v:=.tuple #[_,.int .i64 0]) (by simp [results,Tryz.results37,go_sem];rfl) rfl ⟨_,by rw [HV.out],λ_=>HO.out,HB2.out⟩
 ·have hd:=λw=>QJ tick time base a rs.length cap w hh
  have HE : Hid (dA ⟨tick,time,base,rs⟩ = gZ tick time base rs.length):=ah6 (by unfold dA;simp only;rw [if_pos hh])
  have oK:=ah6 hh
  have hne2 : (gZ tick time base rs.length != 0) = true:=by simpa using hh
  generalize dA ⟨tick,time,base,rs⟩ = be at *
  generalize gZ tick time base rs.length = er at *
  unfold xJ at *
  clear hh hrs ht
  have hB0 : Hid (Below w.heap.size w (w.alloc (.cells #[.int .i64 tick,.int .i64 time,.int .i64 base,.slice a rs.length cap] 39))):=ah6 (ah7)
  go_enter Tryz.func37,Tryz.ntmps37
  go_wp2_with fail
  refine (hd _).mono ?_;rintro e w1 ⟨rfl,hb1⟩
  have HB1:=ah6 (hB0.out.trans (hb1.mono (by simp)))
  clear hb1 hd
  go_wp2
  exact bodyPost_ret (v:=.tuple #[.slice none 0 0,.int .i64 er]) (by simp [results,Tryz.results37,go_sem]) rfl ⟨_,by rw [HE.out],λh=>absurd (HE.out.symm.trans h) oK.out,HB1.out⟩
theorem Ub (tick time base : Int) (ht : ay time) (a : Option Addr) (cap : Nat) (rs : List Rec) (w : World) (hrs : qB w a rs) :
 Calls Tryz.prog 169 #[xJ tick time base a rs.length cap] w λe w'=>e = .returned (.int .i64 (dA ⟨tick,time,base,rs⟩)) /\ Below w.heap.size w w':=by
 have hB0 : Hid (Below w.heap.size w (w.alloc (.cells #[.int .i64 tick,.int .i64 time,.int .i64 base,.slice a rs.length cap] 39))):=ah6 (ah7)
 have bd:=Mg tick time base ht a cap rs _ (hrs.below hB0.out)
 generalize dA ⟨tick,time,base,rs⟩ = be at *
 clear hrs
 unfold xJ at *
 go_enter Tryz.func169,Tryz.ntmps169
 go_wp2_with fail
 refine bd.mono ?_;rintro e w1 ⟨v,rfl,_,hb1⟩
 have HB1:=ah6 (hB0.out.trans (hb1.mono (by simp)))
 clear hb1 bd
 go_wp2
 go_ret
 exact ⟨rfl,HB1.out⟩
theorem Uc (tick time base : Int) (ht : ay time) (a : Option Addr) (cap : Nat) (rs : List Rec) (w : World) (hrs : qB w a rs) :
 Calls Tryz.prog 12 #[xJ tick time base a rs.length cap] w λe w'=>∃ v,e = .returned (.tuple #[v,.int .i64 (nZ ⟨tick,time,base,rs⟩)]) /\ aX w' w.heap.size v (if nZ ⟨tick,time,base,rs⟩ = 0 then xG ⟨tick,time,base,rs⟩ else []) /\ Below w.heap.size w w':=by
 have hB0 : Hid (Below w.heap.size w (w.alloc (.cells #[.int .i64 tick,.int .i64 time,.int .i64 base,.slice a rs.length cap] 39))):=ah6 (ah7)
 have bd:=Mg tick time base ht a cap rs _ (hrs.below hB0.out)
 have HE : Hid (nZ ⟨tick,time,base,rs⟩ = if dA ⟨tick,time,base,rs⟩ ≠ 0 then dA ⟨tick,time,base,rs⟩ else if 4092 < (jr ⟨tick,time,base,rs⟩).length then 8 else 0):=ah6 rfl
 have HB : Hid (xG ⟨tick,time,base,rs⟩ = jr ⟨tick,time,base,rs⟩ ++ vH (jo (jr ⟨tick,time,base,rs⟩))):=ah6 rfl
 generalize dA ⟨tick,time,base,rs⟩ = be at *
 generalize nZ ⟨tick,time,base,rs⟩ = we at *
 generalize xG ⟨tick,time,base,rs⟩ = wb at *
 generalize jr ⟨tick,time,base,rs⟩ = bb at *
 obtain ⟨ob,YQ⟩ : ∃ ob,(if we = 0 then wb else []) = ob:=⟨_,rfl⟩
 rw [YQ]
 have YR:=ah6 YQ;clear YQ;clear hrs
 unfold xJ at *
 have sl:=λa c w (hz : BytesAt w a bb.length bb) hc hl=>Wq a bb.length c bb w hz hc hl
 by_cases hbe : be = 0
 ·subst hbe
  by_cases hlen : 4092 < bb.length
  ·have HV : Hid (we = 8):=ah6 (by rw [HE.out,if_neg (by simp),if_pos hlen])
   have hlen' : (4092 : Int) < bb.length:=by omega
   clear HE HB sl
   go_enter Tryz.func12,Tryz.ntmps12
   go_wp2_with fail
   refine bd.mono ?_;rintro e w1 ⟨v,rfl,ho,hb1⟩
   obtain ⟨ad,c,rfl,hba,hac⟩:=(show aX _ _ _ _ by first | exact ho rfl | exact ho trivial).bytes
   have HB1:=ah6 (hB0.out.trans (hb1.mono (by simp)))
   clear hb1 bd ho hba hac hlen
   go_wp2
   exact bodyPost_ret (v:=.tuple #[.slice none 0 0,.int .i64 8]) (by simp [results,Tryz.results12,go_sem]) rfl ⟨_,by rw [HV.out],by rw [← YR.out,HV.out,if_neg (by decide)];exact aX.nil _ _,HB1.out⟩
  ·have HV : Hid (we = 0):=ah6 (by rw [HE.out,if_neg (by simp),if_neg hlen])
   have hlen' : ¬ (4092 : Int) < bb.length:=by omega
   have HLN : Hid ((bb.length : Int) <= 140737488355000):=ah6 (by omega)
   clear HE hlen
   go_enter Tryz.func12,Tryz.ntmps12
   go_wp2_with fail
   refine bd.mono ?_;rintro e w1 ⟨v,rfl,ho,hb1⟩
   obtain ⟨ad,c,rfl,hba,hac⟩:=(show aX _ _ _ _ by first | exact ho rfl | exact ho trivial).bytes
   have HB1:=ah6 (hB0.out.trans (hb1.mono (by simp)))
   have s1:=sl ad c w1 hba hac HLN.out;have hs1:=HB1.out.size;clear hb1 bd ho hba hac sl
   go_wp2_with fail
   refine s1.mono ?_;rintro e w2 ⟨v2,rfl,ho2,hb2⟩
   have HB2:=ah6 (HB1.out.trans (hb2.mono hs1));have bR:=ah6 (ho2.base hs1);clear hb2 ho2 s1
   go_wp2
   refine bodyPost_ret (v:=.tuple #[_,.int .i64 0]) (by simp [results,Tryz.results12,go_sem];rfl) rfl ⟨_,by rw [HV.out],by rw [← YR.out,HV.out,if_pos rfl,HB.out];exact bR.out,HB2.out⟩
 ·have HV : Hid (we = be):=ah6 (by rw [HE.out,if_pos hbe])
  have oK:=ah6 hbe
  have hne2 : (be != 0) = true:=by simpa using hbe
  clear HE HB sl hbe
  go_enter Tryz.func12,Tryz.ntmps12
  go_wp2_with fail
  refine bd.mono ?_;rintro e w1 ⟨v,rfl,ho,hb1⟩
  have HB1:=ah6 (hB0.out.trans (hb1.mono (by simp)))
  clear hb1 bd ho
  go_wp2
  exact bodyPost_ret (v:=.tuple #[.slice none 0 0,.int .i64 be]) (by simp [results,Tryz.results12,go_sem]) rfl ⟨_,by rw [HV.out],by rw [← YR.out,HV.out,if_neg oK.out];exact aX.nil _ _,HB1.out⟩
end Go.Proofs.YtklkooeimkedgaaGreat
namespace Go.Proofs.YtklkooeimkedgaaGreat
open Go.RowKit
set_option maxRecDepth 8000
abbrev jB (R : Nat) (tick time base : Int) (v : Value) : Array Value:=#[.pointer (some ⟨R,0,none⟩),.int .i64 tick,.int .i64 time,.int .i64 base,v]
section
variable {B0 : Nat}
theorem Mj (G R : Nat) (c : Int) (hc : U8 c) (cs : Array Value) (hcs : cs[0]? = some (.pointer (some ⟨R,0,none⟩))) (s : aH) (w : World) (h : bf w R B0 s) (hG : ak w G cs 260) (mV : ¬ G = R) :
 Calls Tryz.prog 196 #[.pointer (some ⟨G,0,none⟩),.int .u8 c] w λe w'=>e = .returned (.tuple #[]) /\ bf w' R B0 (jV c s) /\ Only (· = R) w w':=by
 have rb:=FL (B0:=B0) R s w h
 have fl:=λw h=>yM (B0:=B0) R (bG s).2 7 (by decide) w h
 have HE : Hid (jV c s = if (bG s).1 = c then (bG s).2 else fD 7 (bG s).2):=ah6 rfl
 have c0 : w.cell? ⟨G,0,none⟩ = some (.pointer (some ⟨R,0,none⟩)):=by rw [hG.cell 0,hcs]
 have HG:=ah6 hG;clear h hG
 generalize bG s = q at *
 obtain ⟨x,s1⟩:=q
 generalize jV c s = z at *
 simp only at *
 by_cases hx : x = c
 ·have HV : Hid (z = s1):=ah6 (by rw [HE.out,if_pos hx])
  subst hx
  clear fl HE
  go_enter Tryz.func196,Tryz.ntmps196
  go_wp2_with fail
  refine rb.mono ?_;rintro e w1 ⟨rfl,hR,hO⟩
  go_wp2
  exact bodyPost_end (v:=.tuple #[]) (by simp [results,Tryz.results196,go_sem]) rfl ⟨rfl,by rw [HV.out];exact hR,hO⟩
 ·have HV : Hid (z = fD 7 s1):=ah6 (by rw [HE.out,if_neg hx])
  have hx2 : (x != c) = true:=by simpa using hx
  clear HE hx
  go_enter Tryz.func196,Tryz.ntmps196
  go_wp2_with fail
  refine rb.mono ?_;rintro e w1 ⟨rfl,hR,hO⟩
  have c1 : w1.cell? ⟨G,0,none⟩ = some (.pointer (some ⟨R,0,none⟩)):=by rw [(hO.blk HG.out mV).cell 0,hcs]
  have f1:=fl w1 hR;have HO:=ah6 hO;clear hR hO fl rb c0
  go_wp2_with fail
  refine f1.mono ?_;rintro e w2 ⟨rfl,hR,hO⟩
  have bR:=ah6 (HO.out.trans hO);clear hO
  go_wp2
  exact bodyPost_end (v:=.tuple #[]) (by simp [results,Tryz.results196,go_sem]) rfl ⟨rfl,by rw [HV.out];exact hR,bR.out⟩
theorem Ud (G R : Nat) (cs : Array Value) (hcs : cs[0]? = some (.pointer (some ⟨R,0,none⟩))) (s : aH) (w : World) (h : bf w R B0 s) (hG : ak w G cs 260) (mV : ¬ G = R) :
 Calls Tryz.prog 162 #[.pointer (some ⟨G,0,none⟩)] w λe w'=>e = .returned (.tuple #[]) /\ bf w' R B0 (jN s) /\ Only (· = R) w w':=by
 have m1:=Mj (B0:=B0) G R 71 ⟨by decide,by decide⟩ cs hcs s w h hG mV
 have m2:=λw h hG=>Mj (B0:=B0) G R 1 ⟨by decide,by decide⟩ cs hcs (jV 71 s) w h hG mV
 unfold jN
 have HG:=ah6 hG;clear h hG
 generalize jV 71 s = s1 at *
 generalize jV 1 s1 = s2 at *
 go_enter Tryz.func162,Tryz.ntmps162
 go_wp2_with fail
 refine m1.mono ?_;rintro e w1 ⟨rfl,hR,hO⟩
 have m3:=m2 w1 hR (hO.blk HG.out mV);have HO:=ah6 hO;clear hR hO m1 m2
 go_wp2_with fail
 refine m3.mono ?_;rintro e w2 ⟨rfl,hR,hO⟩
 have bR:=ah6 (HO.out.trans hO);clear hO
 go_wp2
 exact bodyPost_end (v:=.tuple #[]) (by simp [results,Tryz.results162,go_sem]) rfl ⟨rfl,hR,bR.out⟩
set_option maxHeartbeats 1000000 in
theorem Xe (G R : Nat) (t0 m0 b0 : Int) (v : Value) (s : aH) (w : World) (h : bf w R B0 s) (hG : ak w G (jB R t0 m0 b0 v) 260) (mV : ¬ G = R) (hBG : B0 <= G) :
 Calls Tryz.prog 163 #[.pointer (some ⟨G,0,none⟩)] w λe w'=>e = .returned (.tuple #[]) /\ bf w' R B0 (iH s).2.2 /\ ak w' G (jB R (iH s).1 (iH s).2.1 b0 v) 260 /\ Only (λk=>k = R \/ k = G) w w':=by
 have ru:=sW (B0:=B0) R s 4294967295 w h
 have ub:=je (most:=4294967295) h.u8 (by decide)
 have ri:=λw h=>Jc (B0:=B0) R (aZ 4294967295 s).2 w h
 have fl:=λw h=>yM (B0:=B0) R (dU (aZ 4294967295 s).2).2 3 (by decide) w h
 have tm:=λw=>Bc (dU (aZ 4294967295 s).2).1 w
 unfold iH
 have HG:=ah6 hG;have c0:=hG.cell 0;have f1:=hG.free 1;have c1:=hG.cell 1;simp at c0 c1;clear h hG
 simp only
 generalize aZ 4294967295 s = q1 at *
 obtain ⟨u,s1⟩:=q1
 simp only at *
 generalize dU s1 = q2 at *
 obtain ⟨y,s2⟩:=q2
 simp only at *
 generalize hz : (if mE y then s2 else fD 3 s2) = z
 have HZ:=ah6 hz;clear hz
 have hw : wrap64 u = u:=by unfold wrap64;omega
 go_enter Tryz.func163,Tryz.ntmps163
 go_wp2_with fail
 refine ru.mono ?_;rintro e w1 ⟨rfl,hR,hO⟩
 have hG1:=hO.blk HG.out mV;have d1:=hG1.cell 1;have g1:=hG1.free 1;have d0:=hG1.cell 0;simp at d0 d1;have hG2:=hG1.set 1 (.int .i64 u);have d2:=hG2.cell 0;simp at d2;have HG2:=ah6 hG2
 have HR2:=ah6 (hR.cZ (p:=⟨G,1,none⟩) (λh=>mV h.symm) hBG (.int .i64 u))
 have bR:=ah6 (((hO.weaken (T:=λk=>k = R \/ k = G) (λk _ h=>.inl h))).setCell (p:=⟨G,1,none⟩) (.inl (.inr rfl)) (.int .i64 u))
 have r2:=ri _ HR2.out;clear hG1 hG2 hR hO ru ri c0 c1 f1 HG
 go_wp2_with fail
 refine r2.mono ?_;rintro e w2 ⟨rfl,hR,hO⟩
 have hG3:=hO.blk HG2.out mV;have e2:=hG3.cell 2;have g2:=hG3.free 2;simp at e2;have hG4:=hG3.set 2 (.int .i64 y);have e0:=hG4.cell 0;have e3:=hG4.cell 2;simp at e0 e3
 have JN : Hid (ak (w2.setCell ⟨G,2,none⟩ (.int .i64 y)) G (jB R u y b0 v) 260):=ah6 (by simpa [jB] using hG4)
 have HR4:=ah6 (hR.cZ (p:=⟨G,2,none⟩) (λh=>mV h.symm) hBG (.int .i64 y))
 have Aa:=ah6 ((bR.out.trans (hO.weaken (T:=λk=>k = R \/ k = G) (λk _ h=>.inl h))).setCell (p:=⟨G,2,none⟩) (.inl (.inr rfl)) (.int .i64 y))
 clear hG3 hG4 hR hO r2 HG2 HR2 bR d0 d1 d2 g1
 by_cases ht : mE y
 ·rw [decide_eq_true ht] at tm
  have HV : Hid (z = s2):=ah6 (by rw [← HZ.out,if_pos ht])
  clear ht
  go_wp2_with fail
  refine (tm _).mono ?_;rintro e w3 ⟨rfl,rfl⟩
  go_wp2
  exact bodyPost_end (v:=.tuple #[]) (by simp [results,Tryz.results163,go_sem]) rfl ⟨rfl,by rw [HV.out];exact HR4.out,JN.out,Aa.out⟩
 ·rw [decide_eq_false ht] at tm
  have HV : Hid (z = fD 3 s2):=ah6 (by rw [← HZ.out,if_neg ht])
  have f3:=fl _ HR4.out;clear ht
  go_wp2_with fail
  refine (tm _).mono ?_;rintro e w3 ⟨rfl,rfl⟩
  go_wp2_with fail
  refine f3.mono ?_;rintro e w5 ⟨rfl,hR,hO⟩
  have HG5:=ah6 (hO.blk JN.out mV)
  have dX:=ah6 (Aa.out.trans (hO.weaken (T:=λk=>k = R \/ k = G) (λk _ h=>.inl h)))
  clear hO f3
  go_wp2
  exact bodyPost_end (v:=.tuple #[]) (by simp [results,Tryz.results163,go_sem]) rfl ⟨rfl,by rw [HV.out];exact hR,HG5.out,dX.out⟩
set_option maxHeartbeats 1000000 in
theorem Xf (G R : Nat) (tick time b0 : Int) (ht : 0 <= tick /\ tick <= 4294967295) (v : Value) (s : aH) (w : World) (h : bf w R B0 s) (hG : ak w G (jB R tick time b0 v) 260) (mV : ¬ G = R) (hBG : B0 <= G) :
 Calls Tryz.prog 164 #[.pointer (some ⟨G,0,none⟩)] w λe w'=>e = .returned (.tuple #[]) /\ bf w' R B0 (rV tick s).2 /\ ak w' G (jB R tick time (rV tick s).1 v) 260 /\ Only (λk=>k = R \/ k = G) w w':=by
 have ru:=λw h=>sW (B0:=B0) R s tick w h
 have ub:=je (most:=tick) h.u8 ht.1
 unfold rV
 simp only
 generalize aZ tick s = q1 at *
 obtain ⟨u,s1⟩:=q1
 simp only at *
 generalize hz : (if 0 < u then tick - u else -1) = z
 have HZ:=ah6 hz;clear hz;have f3:=hG.free 3;have c3:=hG.cell 3;simp at c3;have hG1:=hG.set 3 (.int .i64 (-1))
 have Db : Hid (ak (w.setCell ⟨G,3,none⟩ (.int .i64 (-1))) G (jB R tick time (-1) v) 260):=ah6 (by simpa [jB] using hG1)
 have d0:=hG1.cell 0;have d1:=hG1.cell 1;simp at d0 d1
 have HR1:=ah6 (h.cZ (p:=⟨G,3,none⟩) (λh=>mV h.symm) hBG (.int .i64 (-1)))
 have oJ:=ah6 ((Only.refl (λk=>k = R \/ k = G) w).setCell (p:=⟨G,3,none⟩) (.inl (.inr rfl)) (.int .i64 (-1)))
 have w1 : IntKind.u64.wrap tick = tick:=wraps_u64 _ (by omega) (by omega)
 have w2 : wrap64 u = u:=by unfold wrap64;omega
 clear h hG hG1
 go_enter Tryz.func164,Tryz.ntmps164
 go_wp2_with fail
 apply bW 10
 case hm=>kernel_rfl
 case hB=>kernel_rfl
 simp only [List.take_succ_cons,List.take_zero,List.drop_succ_cons,List.drop_zero]
 repeat (apply bI;(next=>(intro W hW K hK;have y0:=hW.cell d0;have y1:=hW.cell d1;go_simp;first | exact ⟨Below.refl _ _,hK⟩ | exact hK));(try go_simp))
 refine dL ?_
 intro WC aL _
 have r1:=ru WC (HR1.out.below aL);have HG2:=ah6 (Db.out.below aL Db.out.lt);have bR:=ah6 (oJ.out.eT aL);clear aL ru Db HR1 oJ d0 d1 f3 c3
 go_wp2_with fail
 refine r1.mono ?_;rintro e w3 ⟨rfl,hR,hO⟩
 have hG3:=hO.blk HG2.out mV;have Mk:=ah6 hG3
 have fJ:=ah6 (bR.out.trans (hO.weaken (T:=λk=>k = R \/ k = G) (λk _ h=>.inl h)))
 have HR3:=ah6 hR
 by_cases hu : 0 < u
 ·have e0:=hG3.cell 1
  have e3:=hG3.cell 3;have g3:=hG3.free 3;simp at e0 e3
  have w9 : wrap64 (tick - u) = tick - u:=by unfold wrap64;omega
  have hG4:=hG3.set 3 (.int .i64 (tick - u))
  have JN : Hid (ak (w3.setCell ⟨G,3,none⟩ (.int .i64 (tick - u))) G (jB R tick time (tick - u) v) 260):=ah6 (by simpa [jB] using hG4)
  have HR4:=ah6 (hR.cZ (p:=⟨G,3,none⟩) (λh=>mV h.symm) hBG (.int .i64 (tick - u)))
  have Aa:=ah6 (fJ.out.setCell (p:=⟨G,3,none⟩) (.inl (.inr rfl)) (.int .i64 (tick - u)))
  have HV : Hid (z = tick - u):=ah6 (by rw [← HZ.out,if_pos hu])
  clear hG3 hR hO r1 HG2 bR Mk HR3 fJ hG4
  go_wp2
  exact bodyPost_end (v:=.tuple #[]) (by simp [results,Tryz.results164,go_sem]) rfl ⟨rfl,HR4.out,by rw [HV.out];exact JN.out,Aa.out⟩
 ·have HV : Hid (z = -1):=ah6 (by rw [← HZ.out,if_neg hu])
  clear hG3 hR hO r1 HG2 bR
  go_wp2
  exact bodyPost_end (v:=.tuple #[]) (by simp [results,Tryz.results164,go_sem]) rfl ⟨rfl,HR3.out,by rw [HV.out];exact Mk.out,fJ.out⟩
end
end Go.Proofs.YtklkooeimkedgaaGreat
namespace Go.Proofs.YtklkooeimkedgaaGreat
open Go.RowKit
set_option maxRecDepth 8000
theorem bA : ay 0:=⟨by decide,by decide⟩
theorem JO {off : List Int -> Int × Nat × Int} {s : aH} (h : aT s.1) : aT (iM off s).2.1:=by
 unfold iM
 split
 ·exact h
 split
 ·exact h
 split
 ·exact h
 ·exact λz hz=>h z (List.mem_of_mem_drop hz)
theorem lT {s : aH} (h : aT s.1) : aT (bG s).2.1:=JO h
theorem iT {m : Int} {s : aH} (h : aT s.1) : aT (aZ m s).2.1:=JO h
theorem jZ {s : aH} (h : aT s.1) : aT (dU s).2.1:=iT h
theorem EN {s : aH} (h : aT s.1) : aT (dV s).2.1:=jZ (jZ (jZ h))
theorem GJ {s : aH} (h : aT s.1) : ay (dV s).1.1 /\ ay (dV s).1.2.1 /\ ay (dV s).1.2.2:=⟨ug h,ug (jZ h),ug (jZ (jZ h))⟩
theorem GK {q : Int × aH} (h : aT q.2.1) : aT (tu q).2.1:=by
 unfold tu;simp only;split
 ·exact h
 ·exact h
theorem Ue {m : Int} {i : Nat} {s : aH} (h : aT s.1) : ay (gM m i s).1 /\ aT (gM m i s).2.1:=by
 unfold gM
 split
 ·exact ⟨bA,h⟩
 ·exact ⟨ug h,GK (jZ h)⟩
theorem Uf {m : Int} {s : aH} (h : aT s.1) : (0 <= (rT m s).1 /\ (rT m s).1 <= 65535) /\ aT (rT m s).2.1:=by
 unfold rT
 split
 ·exact ⟨(show (0:Int) <= 0 /\ (0:Int) <= 65535 by decide),h⟩
 ·exact ⟨je h (by decide),GK (iT h)⟩
theorem GL {m : Int} : ∀ (l : List Nat) {s : aH},aT s.1 -> (∀ x ∈ (jq m l s).1,ay x) /\ aT (jq m l s).2.1
 | [],s,h=>⟨by simp [jq],h⟩
 | i :: l,s,h=>by
   have h1:=Ue (m:=m) (i:=i) h;have h2:=GL (m:=m) l h1.2
   refine ⟨λx hx=>?_,h2.2⟩
   rw [jq] at hx
   rcases List.mem_cons.1 hx with rfl | hx
   ·exact h1.1
   ·exact h2.1 x hx
theorem tH {l : List Int} (h : ∀ x ∈ l,ay x) (i : Nat) : ay (l.getD i 0):=by
 unfold List.getD
 cases hx : l[i]? with
 | none=>exact bA
 | some x=>exact h x (List.mem_of_getElem? hx)
theorem QK {k : Int} {r : Rec} {s : aH} (hr : r.Ok) (h : aT s.1) : (rdKind k r s).1.Ok /\ aT (rdKind k r s).2.1 /\ (rdKind k r s).1.id = r.id /\ (rdKind k r s).1.kind = r.kind:=by
 unfold rdKind
 split
 ·have h1:=EN h
  have h2:=EN h1
  obtain ⟨a,b,c⟩:=GJ h
  obtain ⟨d,e,f⟩:=GJ h1
  exact ⟨⟨hr.kind,hr.id,a,b,c,d,e,f,je h2 (by decide)⟩,iT h2,rfl,rfl⟩
 split
 ·unfold vQ
  split
  ·exact ⟨hr,lT h,rfl,rfl⟩
  ·have h1:=GL (m:=(bG s).1) [0,1,2,3,4,5] (lT h)
   have h2:=Uf (m:=(bG s).1) h1.2
   exact ⟨⟨hr.kind,hr.id,tH h1.1 0,tH h1.1 1,tH h1.1 2,tH h1.1 3,tH h1.1 4,tH h1.1 5,h2.1⟩,h2.2,rfl,rfl⟩
 split
 ·exact ⟨hr,h,rfl,rfl⟩
 ·exact ⟨hr,h,rfl,rfl⟩
theorem Ug {last : Int} (h1 : -1 <= last) (h2 : last < 65535) {s : aH} (h : aT s.1) : (rU last s).1.Ok /\ aT (rU last s).2.1 /\ last < (rU last s).1.id /\ (rU last s).1.id <= 65535:=by
 unfold rU
 have hb:=je (most:=65535 - (last + 1)) h (by omega)
 have hk:=Az (iT (m:=65535 - (last + 1)) h)
 unfold U8 at hk
 refine ⟨⟨⟨?_,?_⟩,⟨?_,?_⟩,bA,bA,bA,bA,bA,bA,(show (0:Int) <= 0 /\ (0:Int) <= 65535 by decide)⟩,lT (iT h),?_,?_⟩ <;> simp only <;> omega
theorem QL {e : Int} (he : e ≠ 0) (s : aH) : (fD e s).2 ≠ 0:=by unfold fD;split <;> simp_all
theorem JQ {last : Int} (h1 : -1 <= last) (h2 : last <= 65535) {s : aH} (h : aT s.1) (he : (dM last s).2.1 = 0) : (dM last s).1.Ok /\ aT (dM last s).2.2.1 /\ last < (dM last s).1.id /\ (dM last s).1.id <= 65535:=by
 unfold dM at he ⊢
 by_cases hl : last = 65535
 ·rw [if_pos hl] at he
  exact absurd he (QL (by decide) s)
 ·rw [if_neg hl] at he ⊢
  obtain ⟨a,b,c,d⟩:=Ug h1 (show last < 65535 by omega) h
  have hk:=QK (k:=(rU last s).1.kind) a b
  unfold qo at *
  split at he
  ·rename_i hh;exact absurd he hh
  ·rw [if_neg (by assumption)]
   exact ⟨hk.1,hk.2.1,by rw [hk.2.2.1];exact c,by rw [hk.2.2.1];exact d⟩
theorem yw (r : Rec) : (oH r).length = 9:=rfl
theorem Vw : ∀ (rs : List Rec) (i : Nat) (r : Rec),rs[i]? = some r -> ∀ j,j < 9 -> (rs.flatMap oH)[i * 9 + j]? = (oH r)[j]?
 | [],i,r,h,_,_=>by simp at h
 | x :: rs,0,r,h,j,hj=>by
   simp at h;subst h
   rw [List.flatMap_cons,List.getElem?_append_left (by rw [yw];omega)]
   congr 1;omega
 | x :: rs,i + 1,r,h,j,hj=>by
   have h' : rs[i]? = some r:=by simpa using h
   rw [List.flatMap_cons,List.getElem?_append_right (by rw [yw];omega),yw,show (i + 1) * 9 + j - 9 = i * 9 + j by omega]
   exact Vw rs i r h' j hj
def gF (w : World) (base : Nat) (v : Value) (rs : List Rec) : Prop:=w.ownsRow base 147 9 v rs.length (rs.flatMap oH) /\ ∀ r ∈ rs,r.Ok
theorem gF.nil (w : World) (base : Nat) : gF w base (.slice none 0 0) []:=⟨World.ownsRow_nil _ _ _ _,by simp⟩
theorem gF.below {w w' : World} {base B : Nat} {v : Value} {rs : List Rec} (h : gF w base v rs) (hb : Below B w w') (hB : ∀ j,v.ownBlock = some j -> j < B) : gF w' base v rs:=by
 obtain ⟨⟨h1,h2⟩,h3⟩:=h
 refine ⟨⟨h1,?_⟩,h3⟩
 rcases h2 with h2 | ⟨g,cap,cur,rfl,a,b,c⟩
 ·exact .inl h2
 ·exact .inr ⟨g,cap,cur,rfl,a,by rw [hb.block g (hB g rfl)];exact b,c⟩
theorem gF.only {w w' : World} {base : Nat} {v : Value} {rs : List Rec} {S : Nat -> Prop} (h : gF w base v rs) (ho : Only S w w') (hS : ∀ j,v.ownBlock = some j -> ¬ S j) : gF w' base v rs:=by
 have hlt:=h.1.lt
 obtain ⟨⟨h1,h2⟩,h3⟩:=h
 refine ⟨⟨h1,?_⟩,h3⟩
 rcases h2 with h2 | ⟨g,cap,cur,rfl,a,b,c⟩
 ·exact .inl h2
 ·exact .inr ⟨g,cap,cur,rfl,a,by rw [ho.block g (hlt g rfl).2 (hS g rfl)];exact b,c⟩
theorem gF.recs {w : World} {base : Nat} {v : Value} {rs : List Rec} (h : gF w base v rs) : ∃ a cap,v = .slice a rs.length cap /\ qB w a rs /\ (a = none -> cap = 0):=by
 have hc:=λg hg=>h.1.cells (g:=g) hg
 have hlt:=h.1.lt
 obtain ⟨⟨h1,h2⟩,h3⟩:=h
 rcases h2 with ⟨rfl,hn⟩ | ⟨g,cap,cur,rfl,a,b,c⟩
 ·have : rs = []:=List.eq_nil_of_length_eq_zero hn
  subst this
  exact ⟨none,0,rfl,⟨h3,.inl rfl⟩,λ_=>rfl⟩
 ·refine ⟨_,cap,rfl,⟨h3,.inr ⟨g,0,rfl,(hlt g rfl).2,λi r hi=>?_⟩⟩,λh=>by cases h⟩
  have hf:=Vw rs i r hi
  have ha : ∀ o,(⟨g,0,none⟩ : Addr).add o = ⟨g,o,none⟩:=λo=>by unfold Addr.add;split <;> simp_all
  have cell : ∀ j u,j < 9 -> (oH r)[j]? = some u -> w.cell? ⟨g,i * 9 + j,none⟩ = some u:=λj u hj hu=>by
   rw [← ha];exact hc g rfl _ _ (by rw [hf j hj];exact hu)
  rw [Nat.zero_add]
  exact ⟨cell 0 _ (by decide) rfl,cell 1 _ (by decide) rfl,cell 2 _ (by decide) rfl,cell 3 _ (by decide) rfl,cell 4 _ (by decide) rfl,cell 5 _ (by decide) rfl,cell 6 _ (by decide) rfl,cell 7 _ (by decide) rfl,cell 8 _ (by decide) rfl⟩
theorem pQ {ops : Array Oper} {rest : List Oper} {o : Oper} {a : Act} {Q : Exit -> Act -> World -> Prop} (w : World) (hgd : o.guard = none) (s x : Operand) (tS tE : TypeId)
 (ho : o.op = .call { callee:=.builtin .append,args:=#[s,x],argTypes:=#[tS,tS] })
 (base : Nat) (z : Value) (k bytes : Nat) (ht : Tryz.prog.underlying tS = some (.slice tE)) (hinfo : (Tryz.prog.info? tE).map (λi=>(i.zero,i.size,i.bytes)) = some (some z,k,bytes)) (hzs : z.cells.size = k) (hk : 0 < k)
 (v : Value) (n : Nat) (xs : List Value) (hs : a.eval s = v) (hown : w.ownsRow base tE k v n xs)
 (g : Nat) (cs : Array Value) (hx : a.eval x = .slice (some ⟨g,0,none⟩) 1 1) (hb : ak w g cs tE) (hcs : cs.size = k) (h1 : ∀ u ∈ cs.toList,u.oneCell' = true)
 (h63 : n + 1 <= maxLen) (hbytes : (n + 1) * bytes <= 140737488355328) (hbase : base <= w.heap.size)
 (h : ∀ v' w',w'.ownsRow base tE k v' (n + 1) (xs ++ cs.toList) -> w.grownBy w' v.ownBlock -> wpList Tryz.prog ops Q rest (a.put o.dst v') w') : wpList Tryz.prog ops Q (o :: rest) a w:=by
 obtain ⟨i0,hi,hz0,hz1,hz2⟩:=info_parts hinfo
 refine wpList_append_own w hgd s x tS ho base tE i0 z k bytes ht hi hz0 hz1 hz2 hzs hk v n xs hs hown ⟨g,0,none⟩ 1 1 cs.toList hx (by simp [hcs]) ?_ h1 h63 hbytes hbase (λv' w' h2 h3 _=>h v' w' h2 h3)
 intro j u hj
 have e : (⟨g,0,none⟩ : Addr).add j = ⟨g,j,none⟩:=by unfold Addr.add;split <;> simp_all
 rw [e,hb.cell j]
 simpa using hj
theorem Mq : (Tryz.prog.info? 147).map (λi=>(i.zero,i.size,i.bytes)) = some (some (.agg #[.int .i64 0,.int .i64 0,.int .i64 0,.int .i64 0,.int .i64 0,.int .i64 0,.int .i64 0,.int .i64 0,.int .u16 0]),9,72):=by kernel_rfl
end Go.Proofs.YtklkooeimkedgaaGreat
namespace Go.Proofs.YtklkooeimkedgaaGreat
open Go.RowKit
set_option maxRecDepth 8000
def NM (w : World) (G R B0 : Nat) (tick time base : Int) (N : Nat) (s1 : aH) (k : Nat) (lv : Value) (wr : World) : Prop :=
 ∃ (last : Int) (rs : List Rec) (sk : aH) (v : Value),lv = .int .i64 last /\ -1 <= last /\ last <= 65535 /\ rs.length = k /\
  gu N (-1) s1 = (rs ++ (gu (N - k) last sk).1,(gu (N - k) last sk).2) /\ bf wr R B0 sk /\ ak wr G (jB R tick time base v) 260 /\ gF wr w.heap.size v rs /\ w.heap.size <= wr.heap.size /\ Only (λk=>k = R \/ k = G) w wr
def Af (w : World) (G R B0 : Nat) (tick time base : Int) (v : Value) (rs : List Rec) (s : aH) (X : Nat) (r : Rec) : List (Nat × Value) -> World -> Prop
 | [],W=>(bf W R B0 s /\ ak W X (aW r) 147 /\ w.heap.size <= W.heap.size /\ Only (λk=>k = R \/ k = G) w W) /\ ak W G (jB R tick time base v) 260 /\ gF W w.heap.size v rs
 | [(7,u)],W=>(bf W R B0 s /\ ak W X (aW r) 147 /\ w.heap.size <= W.heap.size /\ Only (λk=>k = R \/ k = G) w W) /\ ak W G (jB R tick time base v) 260 /\ gF W w.heap.size v rs /\ ∃ g,u = .slice (some ⟨g,0,none⟩) 1 1 /\ ak W g (aW r) 147 /\ w.heap.size <= g /\ v.ownBlock ≠ some g
 | [(7,_),(8,v2)],W=>(bf W R B0 s /\ ak W X (aW r) 147 /\ w.heap.size <= W.heap.size /\ Only (λk=>k = R \/ k = G) w W) /\ ak W G (jB R tick time base v) 260 /\ gF W w.heap.size v2 (rs ++ [r])
 | [(7,_),(8,v2),(14,_)],W=>(bf W R B0 s /\ ak W X (aW r) 147 /\ w.heap.size <= W.heap.size /\ Only (λk=>k = R \/ k = G) w W) /\ ak W G (jB R tick time base v2) 260 /\ gF W w.heap.size v2 (rs ++ [r])
 | _,_=>False
theorem jf {w w' : World} {row : Option Nat} (h : w.grownBy w' row) : Only (λk=>row = some k) w w' :=
 ⟨h.os,h.tape,h.output,h.size,λk hk hs=>h.block k hk (λe=>hs e.symm)⟩
theorem bf.only {w w' : World} {R B0 : Nat} {s : aH} {S : Nat -> Prop} (h : bf w R B0 s) (ho : Only S w w') (hR : ¬ S R) (hB : ∀ k,k < B0 -> ¬ S k) : bf w' R B0 s:=by
 obtain ⟨a,len,cap,zs,at',h1,h2,h3,h4⟩:=h
 exact ⟨a,len,cap,zs,at',ho.blk h1 hR,h2.only ho (λx hx=>hB _ (h3 x hx).2),h3,h4⟩
theorem Af.one {w : World} {G R B0 : Nat} {tick time base : Int} {v : Value} {rs : List Rec} {s : aH} {X : Nat} {r : Rec} {b : List (Nat × Value)} {W : World} (h : Af w G R B0 tick time base v rs s X r b W) : ak W X (aW r) 147:=by
 unfold Af at h
 split at h
 ·exact h.1.2.1
 ·exact h.1.2.1
 ·exact h.1.2.1
 ·exact h.1.2.1
 ·exact h.elim
theorem Af.par {ops : Array Oper} {i : Nat} {w : World} {G R B0 : Nat} {tick time base : Int} {v : Value} {rs : List Rec} {s : aH} {X : Nat} {r : Rec} {b : List (Nat × Value)} {W : World} (hf : ∀ p ∈ b,mK .any ops p.1 i = false) (ha : mK .any ops 14 i = true) (h : Af w G R B0 tick time base v rs s X r b W) : ak W G (jB R tick time base v) 260:=by
 unfold Af at h
 split at h
 ·exact h.2.1
 ·exact h.2.1
 ·exact h.2.1
 ·rename_i v2 u b'
  have:=hf (14,b') (by simp)
  simp only at this
  rw [ha] at this
  cases this
 ·exact h.elim
set_option maxHeartbeats 4000000 in
theorem NP {B0 : Nat} (G R : Nat) (tick time base : Int) (s : aH) (w : World) (h : bf w R B0 s) (hG : ak w G (jB R tick time base (.slice none 0 0)) 260) (mV : ¬ G = R) (hBG : B0 <= G) :
 Calls Tryz.prog 165 #[.pointer (some ⟨G,0,none⟩)] w λe w'=>e = .returned (.tuple #[]) /\ bf w' R B0 (lF s).2 /\ (∃ v,ak w' G (jB R tick time base v) 260 /\ gF w' w.heap.size v (lF s).1) /\ Only (λk=>k = R \/ k = G) w w':=by
 have ru:=sW (B0:=B0) R s 128 w h
 have ub:=je (most:=128) h.u8 (by decide)
 have rr:=λlast h1 h2 s w h hB=>Xb (B0:=B0) R s last h1 h2 w h hB
 have HZ : Hid (lF s = gu (aZ 128 s).1.toNat (-1) (aZ 128 s).2):=ah6 rfl
 generalize lF s = z at *
 generalize aZ 128 s = q1 at *
 obtain ⟨n,s1⟩:=q1
 simp only at *
 obtain ⟨N,rfl⟩ : ∃ N : Nat,n = N:=⟨n.toNat,by omega⟩
 rw [Int.toNat_natCast] at HZ
 have hRl:=h.lt;have hGl:=hG.lt;have c0:=hG.cell 0;simp at c0;have HG:=ah6 hG;clear h hG
 go_enter Tryz.func165,Tryz.ntmps165
 go_wp2_with fail
 refine ru.mono ?_;rintro e w1 ⟨rfl,hR,hO⟩
 have HS : Hid (NM w G R B0 tick time base N s1 0 (.int .i64 (-1)) w1):=ah6 ⟨-1,[],s1,.slice none 0 0,rfl,by decide,by decide,rfl,by simp,hR,hO.blk HG.out mV,gF.nil _ _,hO.size,hO.weaken (λk _ h=>.inl h)⟩
 clear hR hO ru c0 HG
 go_wp2_with fail
 go_loopw [2,10] (λlv i wr=>∃ k : Nat,k <= N /\ i = .int .u64 k /\ NM w G R B0 tick time base N s1 k lv wr) (λ_ i _=>N - (intOf i).toNat)
 case atStart=>exact ⟨0,Nat.zero_le _,rfl,HS.out⟩
 case round =>
  rename_i wr
  obtain ⟨k,hk,rfl,last,rs,sk,v,rfl,hl1,hl2,hlen,hE,hR,hG,kU,hsz,hO⟩:=hrel
  have HO:=ah6 hO;have HE:=ah6 hE;have HOW:=ah6 kU;have HG:=ah6 hG;have HR:=ah6 hR;have c0:=hG.cell 0;simp at c0
  by_cases hlt : k < N
  ·have hlt' : (k : Int) < N:=by omega
   have r1:=rr last hl1 hl2 sk wr hR (by omega)
   have ok:=λhe=>JQ hl1 hl2 hR.u8 he
   obtain ⟨m,hm⟩ : ∃ m,N - k = m + 1:=⟨N - k - 1,by omega⟩
   have hm2 : N - (k + 1) = m:=by omega
   have HD : Hid (gu (N - k) last sk = if (dM last sk).2.1 ≠ 0 then ([],(dM last sk).2.2) else ((dM last sk).1 :: (gu m (dM last sk).1.id (dM last sk).2.2).1,(gu m (dM last sk).1.id (dM last sk).2.2).2)):=ah6 (by rw [hm,gu])
   generalize dM last sk = q at *
   obtain ⟨r,er,s2⟩:=q
   simp only at *
   clear hE hR hG kU hO rr HS
   by_cases her : er = 0
   ·subst her
    obtain ⟨uU,_,ag9,ad2⟩:=ok rfl
    have HD2 : Hid (gu (N - k) last sk = (r :: (gu m r.id s2).1,(gu m r.id s2).2)):=ah6 (by rw [HD.out,if_neg (by simp)])
    have HRK:=ah6 uU;clear HD ok uU
    obtain ⟨rk,ri,p1,p2,p3,v1,v2,v3,ra⟩:=r
    unfold lS at r1
    simp only at *
    go_wp2_with fail
    refine r1.mono ?_;rintro e w3 ⟨rfl,kK,hO3⟩
    have hG3:=hO3.blk HG.out mV
    have Bl:=HOW.out.only hO3 (λj e hj=>by have:=(HOW.out.1.lt j e).1;omega)
    have JV:=HO.out.trans (hO3.weaken (T:=λk=>k = R \/ k = G) (λk _ h=>.inl h))
    have hs3:=hO3.size
    have iQ : Below w3.heap.size w3 (w3.alloc (.cells (aW ⟨rk,ri,p1,p2,p3,v1,v2,v3,ra⟩) 147)):=ah7
    have HI : Hid (Af w G R B0 tick time base v rs s2 w3.heap.size ⟨rk,ri,p1,p2,p3,v1,v2,v3,ra⟩ [] (w3.alloc (.cells (aW ⟨rk,ri,p1,p2,p3,v1,v2,v3,ra⟩) 147)).drew):=ah6 ⟨⟨(kK.below iQ).below (below_drewN ah8 1),ak.new w3 _ _,by show w.heap.size <= (w3.alloc _).heap.size;simp;omega,(JV.alloc _).draws 1⟩,hG3.alloc _,Bl.below (below_drewN iQ 1) (λj e=>(Bl.1.lt j e).2)⟩
    have HWS : Hid (w.heap.size <= w3.heap.size):=ah6 (by omega)
    have HVX : Hid (∀ j,v.ownBlock = some j -> j < w3.heap.size):=ah6 (λj e=>(Bl.1.lt j e).2)
    have HL2 : Hid (rs.length + 1 = k + 1):=ah6 (by omega)
    clear kK hO3 hG3 Bl JV iQ r1 c0 HR HG HO HOW
    go_wp2_with fail
    apply DN 15 [7,8,14] (Af w G R B0 tick time base v rs s2 w3.heap.size ⟨rk,ri,p1,p2,p3,v1,v2,v3,ra⟩)
    case hm=>kernel_rfl
    case hB=>kernel_rfl
    case hp=>kernel_rfl
    case hI=>exact HI.out
    simp only [List.take_succ_cons,List.take_zero,List.drop_succ_cons,List.drop_zero]
    (apply fE;(next=>rfl);(next=>(intro b W hf hW K hK;go_simp;first | exact ⟨hW,hK⟩ | exact hK));(next=>exact ⟨_,HI.out⟩);(try go_simp))
    (apply fE;(next=>rfl);(next=>(intro b W hf hW K hK;go_simp;first | exact ⟨hW,hK⟩ | exact hK));(next=>exact ⟨_,HI.out⟩);(try go_simp))
    (apply fE;(next=>rfl);(next=>(intro b W hf hW K hK;go_simp;first | exact ⟨hW,hK⟩ | exact hK));(next=>exact ⟨_,HI.out⟩);(try go_simp))
    (apply fE;(next=>rfl);(next=>(intro b W hf hW K hK;go_simp;first | exact ⟨hW,hK⟩ | exact hK));(next=>exact ⟨_,HI.out⟩);(try go_simp))
    (apply fE;(next=>rfl);(next=>(intro b W hf hW K hK;go_simp;first | exact ⟨hW,hK⟩ | exact hK));(next=>exact ⟨_,HI.out⟩);(try go_simp))
    (apply fE;(next=>rfl);(next=>(intro b W hf hW K hK;have yG:=(Af.par hf (by kernel_rfl) hW).cell 4;simp at yG;go_simp;first | exact ⟨hW,hK⟩ | exact hK));(next=>exact ⟨_,HI.out⟩);(try go_simp))
    (apply fE;(next=>rfl);(next=>(intro b W hf hW K hK;have yX:=Af.one hW;have x0:=yX.cell 0;have x1:=yX.cell 1;have x2:=yX.cell 2;have x3:=yX.cell 3;have x4:=yX.cell 4;have x5:=yX.cell 5;have x6:=yX.cell 6;have x7:=yX.cell 7;have x8:=yX.cell 8;simp at x0 x1 x2 x3 x4 x5 x6 x7 x8;go_simp;first | exact ⟨hW,hK⟩ | exact hK));(next=>exact ⟨_,HI.out⟩);(try go_simp))
    apply wo (s:=λ_=>True)
    case hk=>rfl
    case hne=>exact ⟨undef,trivial⟩
    case hw=>rfl
    case h =>
     intro W hW
     obtain ⟨⟨hR,hX,hs,hO⟩,hG,hV⟩:=hW
     go_simp
     refine ⟨⟨hR.below (ah7),hX.alloc _,by simp;omega,hO.alloc _⟩,hG.alloc _,hV.below (ah7) (λj e=>(hV.1.lt j e).2),W.heap.size,rfl,ak.new W _ _,hs,λhh=>?_⟩
     exact absurd (hV.1.lt _ hh).2 (Nat.lt_irrefl _)
    intro uu _
    apply wo (s:=λ_=>True)
    case hk=>rfl
    case hne=>exact ⟨undef,trivial⟩
    case hw=>rfl
    case h =>
     intro W hW
     obtain ⟨⟨hR,hX,hs,hO⟩,hG,hV,g,rfl,hg,hgs,hgv⟩:=hW
     refine Ae (d:=31) (ops:=#[]) rfl (by simp [Act.put]) rfl ?_
     intro Q hQ
     refine pQ W rfl (.tmp 28) (.tmp 30) 37 147 rfl w.heap.size _ 9 72 Tryz.underlying37 Mq rfl (by decide) v rs.length (rs.flatMap oH) rfl hV.1 g _ rfl hg rfl (by intro u hu;simp [aW] at hu;rcases hu with rfl | rfl | rfl | rfl | rfl | rfl | rfl | rfl | rfl <;> rfl) (by unfold maxLen;omega) (by omega) hs ?_
     intro v' w' hv hgr
     have hnG:=bL hV.1 hG (by decide)
     refine hQ v' w' trivial ⟨⟨?_,hX.grown hgr ?_,Nat.le_trans hs hgr.size,?_⟩,hG.grown hgr hnG,?_,?_⟩
     ·refine hR.only (jf hgr) (λhh=>?_) (λk hk hh=>?_)
      ·have:=(hV.1.lt _ hh).1;omega
      ·have:=(hV.1.lt _ hh).1;omega
     ·exact λhh=>by have:=HVX.out _ hh;omega
     ·exact hO.aU (jf hgr) (λi hi hh=>by have:=(hV.1.lt _ hh).1;omega)
     ·rw [List.length_append,List.flatMap_append];simpa [oH,aW] using hv
     ·intro r hr
      rcases List.mem_append.1 hr with hr | hr
      ·exact hV.2 r hr
      ·simp at hr;subst hr;exact HRK.out
    intro JF _
    (apply fE;(next=>rfl);(next=>(intro b W hf hW K hK;have yX:=Af.one hW;have x1:=yX.cell 1;simp at x1;go_simp;first | exact ⟨hW,hK⟩ | exact hK));(next=>exact ⟨_,HI.out⟩);(try go_simp))
    (apply fE;(next=>rfl);(next=>(intro b W hf hW K hK;have yX:=Af.one hW;have x1:=yX.cell 1;simp at x1;go_simp;first | exact ⟨hW,hK⟩ | exact hK));(next=>exact ⟨_,HI.out⟩);(try go_simp))
    (apply fE;(next=>rfl);(next=>(intro b W hf hW K hK;go_simp;first | exact ⟨hW,hK⟩ | exact hK));(next=>exact ⟨_,HI.out⟩);(try go_simp))
    (apply fE;(next=>rfl);(next=>(intro b W hf hW K hK;go_simp;first | exact ⟨hW,hK⟩ | exact hK));(next=>exact ⟨_,HI.out⟩);(try go_simp))
    (apply fE;(next=>rfl);(next=>(intro b W hf hW K hK;go_simp;first | exact ⟨hW,hK⟩ | exact hK));(next=>exact ⟨_,HI.out⟩);(try go_simp))
    apply wo (s:=λ_=>True)
    case hk=>rfl
    case hne=>exact ⟨undef,trivial⟩
    case hw=>rfl
    case h =>
     intro W hW
     obtain ⟨⟨hR,hX,hs,hO⟩,hG,hV⟩:=hW
     have f4:=hG.free 4;have g4:=hG.cell 4;simp at g4
     obtain ⟨av,cv,rfl,_⟩:=hV.recs
     have hll : (rs ++ [(⟨rk,ri,p1,p2,p3,v1,v2,v3,ra⟩ : Rec)]).length = k + 1:=by rw [List.length_append];exact HL2.out
     rw [hll] at hV
     go_simp
     refine ⟨⟨hR.cZ (p:=⟨G,4,none⟩) (λh=>mV h.symm) hBG _,hX.far (p:=⟨G,4,none⟩) ?_ _,?_,hO.setCell (p:=⟨G,4,none⟩) (.inl (.inr rfl)) _⟩,?_,?_⟩
     ·show w3.heap.size ≠ G;have:=HWS.out;omega
     ·simpa [World.setCell] using hs
     ·simpa [jB] using hG.set 4 _
     ·exact hV.only ((Only.refl (λk=>k = G) W).setCell (p:=⟨G,4,none⟩) (.inl rfl) _) (λj e hj=>by have:=(hV.1.lt j e).1;omega)
    intro v4 _
    refine JU ?_
    intro WC aL
    have HS2 : Hid (NM w G R B0 tick time base N s1 (k + 1) (.int .i64 ri) WC):=ah6 (by
     obtain ⟨⟨hR,hX,hs,hO⟩,hG,hV⟩:=aL
     refine ⟨ri,rs ++ [⟨rk,ri,p1,p2,p3,v1,v2,v3,ra⟩],s2,_,rfl,by omega,ad2,by rw [List.length_append];exact HL2.out,?_,hR,hG,hV,hs,hO⟩
     rw [hm2,HE.out,HD2.out,List.append_assoc]
     rfl)
    clear aL
    go_wp2
    go_roundw
    case rel=>exact ⟨k + 1,by omega,by go_num,HS2.out⟩
    case measure=>simp [intOf];omega
   ·have aha : (er != 0) = true:=by simpa using her
    have HD2 : Hid (gu (N - k) last sk = ([],s2)):=ah6 (by rw [HD.out,if_pos her])
    clear HD ok her
    obtain ⟨rk,ri,p1,p2,p3,v1,v2,v3,ra⟩:=r
    unfold lS at r1
    simp only at *
    go_wp2_with fail
    refine r1.mono ?_;rintro e w3 ⟨rfl,kK,hO3⟩
    have hG3:=hO3.blk HG.out mV
    have Bl:=HOW.out.only hO3 (λj e hj=>by have:=(HOW.out.1.lt j e).1;omega)
    have JV:=HO.out.trans (hO3.weaken (T:=λk=>k = R \/ k = G) (λk _ h=>.inl h))
    have iQ : Below w3.heap.size w3 (w3.alloc (.cells (aW ⟨rk,ri,p1,p2,p3,v1,v2,v3,ra⟩) 147)):=ah7
    have HF:=ah6 (show bf _ R B0 s2 /\ ak _ G (jB R tick time base v) 260 /\ gF _ w.heap.size v rs /\ Only (λk=>k = R \/ k = G) w _ from ⟨kK.below iQ,hG3.alloc (.cells (aW ⟨rk,ri,p1,p2,p3,v1,v2,v3,ra⟩) 147),Bl.below iQ (λj e=>(Bl.1.lt j e).2),JV.alloc (.cells (aW ⟨rk,ri,p1,p2,p3,v1,v2,v3,ra⟩) 147)⟩)
    have HV : Hid (z = (rs,s2)):=ah6 (by rw [HZ.out,HE.out,HD2.out];simp)
    clear kK hO3 hG3 Bl JV iQ r1 c0 HR HG HO HOW HE HD2 HZ
    go_wp2
    exact bodyPost_ret (v:=.tuple #[]) (by simp [results,Tryz.results165,go_sem]) rfl ⟨rfl,by rw [HV.out];exact HF.out.1,⟨v,HF.out.2.1,by rw [HV.out];exact HF.out.2.2.1⟩,HF.out.2.2.2⟩
  ·obtain rfl : k = N:=by omega
   have HV : Hid (z = (rs,sk)):=ah6 (by rw [HZ.out,HE.out,Nat.sub_self];simp [gu])
   clear hE hR hG kU hO rr HZ HE c0
   go_wp2
   exact bodyPost_end (v:=.tuple #[]) (by simp [results,Tryz.results165,go_sem]) rfl ⟨rfl,by rw [HV.out];exact HR.out,⟨v,HG.out,by rw [HV.out];exact HOW.out⟩,HO.out⟩
end Go.Proofs.YtklkooeimkedgaaGreat
namespace Go.Proofs.YtklkooeimkedgaaGreat
open Go.RowKit
set_option maxRecDepth 8000
theorem aX.cap {w : World} {base : Nat} {v : Value} {zs : List Int} (h : aX w base v zs) : ∃ a c,v = .slice a zs.length c /\ BytesAt w a zs.length zs /\ (a = none -> c = 0) /\ zs.length <= c /\ ∀ x,a = some x -> base <= x.block /\ x.block < w.heap.size:=by
 have hlt:=h.lt
 obtain ⟨a,c,rfl,h1,h2⟩:=h.bytes
 refine ⟨a,c,rfl,h1,h2,?_,λx hx=>?_⟩
 ·obtain ⟨⟨_,⟨e,hn⟩ | ⟨g,cap,cur,e,_,_,hc,_⟩⟩,_⟩:=h
  ·omega
  ·cases e;exact hc
 ·subst hx;exact hlt _ rfl
theorem gF.base {w : World} {base base' : Nat} {v : Value} {rs : List Rec} (h : gF w base v rs) (hb : base' <= base) : gF w base' v rs:=by
 obtain ⟨⟨h1,h2⟩,h3⟩:=h
 refine ⟨⟨h1,?_⟩,h3⟩
 rcases h2 with h2 | ⟨g,cap,cur,rfl,a,b,c⟩
 ·exact .inl h2
 ·exact .inr ⟨g,cap,cur,rfl,Nat.le_trans hb a,b,c⟩
theorem Bn {w : World} {b : Nat} {t : TypeId} {o0 v0 o1 v1 o2 v2 o3 v3 : Value} (h : ak w b #[o0,o1,o2,o3] t) : ak ((((w.setCell ⟨b,0,none⟩ v0).setCell ⟨b,1,none⟩ v1).setCell ⟨b,2,none⟩ v2).setCell ⟨b,3,none⟩ v3) b #[v0,v1,v2,v3] t:=by
 simpa using ((((h.set 0 v0).set 1 v1).set 2 v2).set 3 v3)
theorem EO {S : Nat -> Prop} {w0 w : World} {b : Nat} {v0 v1 v2 v3 : Value} (h : Only S w0 w) (hb : S b \/ w0.heap.size <= b) : Only S w0 ((((w.setCell ⟨b,0,none⟩ v0).setCell ⟨b,1,none⟩ v1).setCell ⟨b,2,none⟩ v2).setCell ⟨b,3,none⟩ v3) :=
 ((((h.setCell (p:=⟨b,0,none⟩) hb v0).setCell (p:=⟨b,1,none⟩) hb v1).setCell (p:=⟨b,2,none⟩) hb v2).setCell (p:=⟨b,3,none⟩) hb v3)
theorem Bo {w0 w : World} {b : Nat} {v0 v1 v2 v3 : Value} (h : Below w0.heap.size w0 w) (hb : w0.heap.size <= b) : Below w0.heap.size w0 ((((w.setCell ⟨b,0,none⟩ v0).setCell ⟨b,1,none⟩ v1).setCell ⟨b,2,none⟩ v2).setCell ⟨b,3,none⟩ v3) :=
 (EO (S:=λ_=>False) (Only.of_below h) (.inr hb)).below (Nat.le_refl _) (λ_ h=>h.elim)
theorem GN {c : Int} {s : aH} (h : aT s.1) : aT (jV c s).1:=by
 unfold jV;split
 ·exact lT h
 ·exact lT h
theorem NQ {s : aH} (h : aT s.1) : aT (jN s).1:=GN (GN h)
abbrev QM : Array Value:=#[.int .i64 0,.int .i64 0,.int .i64 0,.slice none 0 0]
abbrev uW (f : FuncId) (G : Nat) : Value:=.func (.func f) #[.pointer (some ⟨G,0,none⟩)] #[]
def EP (w : World) (A R G F B0 : Nat) (st : aH) (cs : Array Value) (wr : World) : Prop :=
 bf wr R B0 st /\ ak wr G cs 260 /\ ak wr A QM 39 /\ ak wr F #[uW 162 G,uW 163 G,uW 164 G,uW 165 G] 1 /\ Below w.heap.size w wr
def F5 (w : World) (A R G F B0 : Nat) (c : List (aH × Int × Int × Int)) (rs : List Rec) (k : Nat) (wr : World) : Prop :=
 ∃ q v,c[k]? = some q /\ EP w A R G F B0 q.1 (jB R q.2.1 q.2.2.1 q.2.2.2 v) wr /\ (k < 4 -> v = .slice none 0 0) /\ (k = 4 -> gF wr w.heap.size v rs)
theorem EP.step {w : World} {A R G F B0 : Nat} {st st2 : aH} {cs cs2 : Array Value} {wr w2 : World} (h : EP w A R G F B0 st cs wr) (ho : Only (λk=>k = R \/ k = G) wr w2) (hR : bf w2 R B0 st2) (hG : ak w2 G cs2 260)
 (hd : (A ≠ R /\ A ≠ G) /\ (F ≠ R /\ F ≠ G) /\ w.heap.size <= R /\ w.heap.size <= G) : EP w A R G F B0 st2 cs2 w2:=by
 obtain ⟨h1,h2,h3,h4,h5⟩:=h
 obtain ⟨⟨a1,a2⟩,⟨a3,a4⟩,a5,a6⟩:=hd
 refine ⟨hR,hG,ho.blk h3 (by omega),ho.blk h4 (by omega),h5.trans (ho.below h5.size (λk hk=>by omega))⟩
set_option maxHeartbeats 4000000 in
theorem Xh (a : Option Addr) (len cap : Nat) (zs : List Int) (w : World) (hz : BytesAt w a len zs) (hc : a = none -> cap = 0) (hlc : len <= cap) (hl : (len : Int) <= 140737488355000) :
 Calls Tryz.prog 114 #[.slice a len cap] w λe w'=>∃ v,e = .returned (.tuple #[.agg #[.int .i64 (bD zs).1.tick,.int .i64 (bD zs).1.time,.int .i64 (bD zs).1.base,v],.int .i64 (bD zs).2]) /\ gF w' w.heap.size v (bD zs).1.recs /\ Below w.heap.size w w':=by
 have hlen:=hz.1
 have HZ : Hid (bD zs = if 4096 < zs.length then (oI,8) else match iF zs with | none=>(oI,9) | some x=>if lG (iI (x,0)).2 ≠ 0 then (oI,lG (iI (x,0)).2) else ((iI (x,0)).1,0)):=ah6 rfl
 generalize bD zs = z at *
 have mG : ak (w.alloc (.cells QM 39)) w.heap.size QM 39:=ak.new w _ _
 have hB0 : Below w.heap.size w (w.alloc (.cells QM 39)):=ah7
 by_cases hbig : 4096 < len
 ·have HV : Hid (z = (oI,8)):=ah6 (by rw [HZ.out,if_pos (by omega)])
  have hbig2 : (4096 : Int) < len:=by omega
  have HB:=ah6 hB0;clear HZ hbig hz mG hB0
  go_enter Tryz.func114,Tryz.ntmps114
  go_wp2
  exact bodyPost_ret (v:=.tuple #[.agg QM,.int .i64 8]) (by simp [results,Tryz.results114,go_sem]) rfl ⟨.slice none 0 0,by rw [HV.out];rfl,by rw [HV.out];exact gF.nil _ _,HB.out⟩
 ·have hbig2 : ¬ (4096 : Int) < len:=by omega
  have hz1:=hz.below hB0;have op:=Ws a len cap zs _ hz1 hc hlc hl;have uS:=ah6 mG;have HB0:=ah6 hB0
  have HLEN : Hid ((iF zs).getD [] = (iF zs).getD [] /\ (((iF zs).getD []).length : Int) <= 140737488355000):=ah6 ⟨rfl,by
   cases hx : iF zs with
   | none=>simp
   | some x =>
     unfold iF at hx
     split at hx
     ·cases hx
     split at hx
     ·cases hx;simp;omega
     ·cases hx⟩
  have HZ2 : Hid (z = match iF zs with | none=>(oI,9) | some x=>if lG (iI (x,0)).2 ≠ 0 then (oI,lG (iI (x,0)).2) else ((iI (x,0)).1,0)):=ah6 (by rw [HZ.out,if_neg (by omega)])
  clear HZ hbig hz mG hB0 hz1
  cases hcz : iF zs with
  | none =>
    rw [hcz] at op
    have HV : Hid (z = (oI,9)):=ah6 (by rw [HZ2.out,hcz])
    clear HZ2 HLEN hcz
    simp only [Option.isSome_none] at op
    go_enter Tryz.func114,Tryz.ntmps114
    go_wp2_with fail
    refine op.mono ?_;rintro e w1 ⟨v,rfl,ho,hb⟩
    have hA1:=uS.out.below hb uS.out.lt;have HA1:=ah6 hA1
    have HB1:=ah6 (HB0.out.trans (hb.mono (by simp)))
    have c0:=hA1.cell 0;have c1:=hA1.cell 1;have c2:=hA1.cell 2;have c3:=hA1.cell 3;have f0:=hA1.free 0;have f1:=hA1.free 1;have f2:=hA1.free 2;have f3:=hA1.free 3;simp at c0 c1 c2 c3;clear ho hb hA1 op
    go_wp2
    exact bodyPost_ret (v:=.tuple #[.agg #[.int .i64 0,.int .i64 0,.int .i64 0,.slice none 0 0],.int .i64 9])
     (by have hh:=Bn (v0:=.int .i64 0) (v1:=.int .i64 0) (v2:=.int .i64 0) (v3:=.slice none 0 0) HA1.out
         have g0:=hh.cell 0;have g1:=hh.cell 1;have g2:=hh.cell 2;have g3:=hh.cell 3;simp at g0 g1 g2 g3
         simp [results,Tryz.results114,go_sem,g0,g1,g2,g3]) rfl
     ⟨.slice none 0 0,by rw [HV.out];rfl,by rw [HV.out];exact gF.nil _ _,Bo HB1.out (Nat.le_refl _)⟩
  | some x =>
    rw [hcz] at op HLEN
    have HV : Hid (z = if lG (iI (x,0)).2 ≠ 0 then (oI,lG (iI (x,0)).2) else ((iI (x,0)).1,0)):=ah6 (by rw [HZ2.out,hcz])
    clear HZ2 hcz
    simp only [Option.isSome_some,Option.getD_some] at op HLEN
    go_enter Tryz.func114,Tryz.ntmps114
    go_wp2_with fail
    refine op.mono ?_;rintro e w1 ⟨v,rfl,ho,hb⟩
    have HX8:=ah6 ho.2
    obtain ⟨ax,cx,rfl,hxa,hxc,hxl,hxb⟩:=ho.cap
    have HA1:=ah6 (uS.out.below hb uS.out.lt);have ahb:=HA1.out.lt
    have HB1:=ah6 (HB0.out.trans (hb.mono (by simp)))
    have rn:=Yf ax x.length cx x w1 hxa hxl (λy hy=>(hxb y hy).2) HLEN.out.2
    clear ho hb hxa hxc hxl hxb op
    go_wp2_with fail
    refine rn.mono ?_;rintro e w2 ⟨R,rfl,hRl,hR,hb⟩
    have hA2:=HA1.out.below hb HA1.out.lt
    have hB2:=HB1.out.trans (hb.mono (by omega))
    have adY:=hR.lt
    have iQ : Below w2.heap.size w2 (w2.alloc (.cells (jB R 0 0 0 (.slice none 0 0)) 260)):=ah7
    obtain ⟨G,hG⟩ : ∃ G,w2.heap.size = G:=⟨_,rfl⟩
    have Vx : Hid (EP w w.heap.size R w2.heap.size (w2.heap.size + 1) w1.heap.size (x,0) (jB R 0 0 0 (.slice none 0 0)) ((w2.alloc (.cells (jB R 0 0 0 (.slice none 0 0)) 260)).alloc (.cells #[uW 162 w2.heap.size,uW 163 w2.heap.size,uW 164 w2.heap.size,uW 165 w2.heap.size] 1))):=ah6 (by
     refine ⟨(hR.below iQ).below (ah7),(ak.new w2 _ _).alloc _,(hA2.alloc _).alloc _,?_,?_⟩
     ·have:=ak.new (w2.alloc (.cells (jB R 0 0 0 (.slice none 0 0)) 260)) #[uW 162 w2.heap.size,uW 163 w2.heap.size,uW 164 w2.heap.size,uW 165 w2.heap.size] 1
      rw [show (w2.alloc (.cells (jB R 0 0 0 (.slice none 0 0)) 260)).heap.size = w2.heap.size + 1 by simp] at this
      exact this
     ·exact ((hB2.alloc (by omega) _).alloc (by simp;omega) _))
    obtain ⟨s1,e1⟩ : ∃ s1,jN (x,0) = s1:=⟨_,rfl⟩
    obtain ⟨tick,time,s2,e2⟩ : ∃ tick time s2,iH s1 = (tick,time,s2):=⟨_,_,_,rfl⟩
    obtain ⟨base,s3,e3⟩ : ∃ base s3,rV tick s2 = (base,s3):=⟨_,_,rfl⟩
    obtain ⟨rs,s4,e4⟩ : ∃ rs s4,lF s3 = (rs,s4):=⟨_,_,rfl⟩
    have HGS : Hid (iI (x,0) = (⟨tick,time,base,rs⟩,s4)):=ah6 (by
     unfold iI;rw [e1,e2];simp only;rw [e3];simp only;rw [e4])
    have HTB : Hid (0 <= tick /\ tick <= 4294967295):=ah6 (by
     have h : aT s1.1:=by rw [← e1];exact NQ HX8.out
     have:=je (most:=4294967295) h (by decide)
     have h2 : (iH s1).1 = tick:=by rw [e2]
     unfold iH at h2
     simp only at h2
     omega)
    obtain ⟨c,hc⟩ : ∃ c : List (aH × Int × Int × Int),c = [((x,0),0,0,0),(s1,0,0,0),(s2,tick,time,0),(s3,tick,time,base),(s4,tick,time,base)]:=⟨_,rfl⟩
    have HC:=ah6 hc;have E1:=ah6 e1;have E2:=ah6 e2;have E3:=ah6 e3;have E4:=ah6 e4
    have HD:=ah6 (show (w.heap.size ≠ R /\ w.heap.size ≠ w2.heap.size) /\ (w2.heap.size + 1 ≠ R /\ w2.heap.size + 1 ≠ w2.heap.size) /\ w.heap.size <= R /\ w.heap.size <= w2.heap.size by have:=HB1.out.size;omega)
    have mV : ¬ w2.heap.size = R:=by omega
    have hBG : w1.heap.size <= w2.heap.size:=by omega
    have HS : Hid (F5 w w.heap.size R w2.heap.size (w2.heap.size + 1) w1.heap.size c rs 0 ((w2.alloc (.cells (jB R 0 0 0 (.slice none 0 0)) 260)).alloc (.cells #[uW 162 w2.heap.size,uW 163 w2.heap.size,uW 164 w2.heap.size,uW 165 w2.heap.size] 1))):=ah6 ⟨_,.slice none 0 0,by rw [HC.out];rfl,Vx.out,λ_=>rfl,λh=>by cases h⟩
    clear hc e1 e2 e3 e4 hG hb hR hA2 hB2 iQ rn HA1 HB1 uS HB0 Vx HLEN
    go_wp2_with fail
    go_loopw [36] (λi wr=>∃ k : Nat,k <= 4 /\ i = .int .i64 k /\ F5 w w.heap.size R w2.heap.size (w2.heap.size + 1) w1.heap.size c rs k wr) (λi _=>4 - (intOf i).toNat)
    case atStart=>exact ⟨0,by omega,rfl,HS.out⟩
    case round =>
     rename_i wr
     obtain ⟨k,hk,rfl,q,v,hq,hG,hv,hv4⟩:=hrel
     rw [HC.out] at hq
     rcases (show k = 0 \/ k = 1 \/ k = 2 \/ k = 3 \/ k = 4 by omega) with rfl | rfl | rfl | rfl | rfl
     ·cases hq
      have hvv:=hv (by decide)
      subst hvv
      have hR:=hG.1;have hP:=hG.2.1;have hF:=hG.2.2.2.1;have c0:=hF.cell 0;simp at c0;have ct:=Ud (B0:=w1.heap.size) w2.heap.size R _ rfl (x,0) wr hR hP mV
      rw [E1.out] at ct
      have HG:=ah6 hG;have hsz:=hG.2.2.2.2.size;clear hR hP hF hG
      try simp only at ct
      go_wp2_with fail
      refine ct.mono ?_;rintro e w3 ⟨rfl,hR2,hO2⟩
      have hP2:=hO2.blk HG.out.2.1 mV
      have hO2:=hO2.weaken (T:=λk=>k = R \/ k = w2.heap.size) (λk _ h=>.inl h)
      have HS2 : Hid (F5 w w.heap.size R w2.heap.size (w2.heap.size + 1) w1.heap.size c rs 1 w3):=ah6 ⟨_,.slice none 0 0,by rw [HC.out];rfl,HG.out.step hO2 hR2 hP2 HD.out,λ_=>rfl,λh=>by cases h⟩
      clear hR2 hP2 hO2 ct HG
      go_wp2
      go_roundw
      case rel=>exact ⟨1,by omega,by first | rfl | go_num,HS2.out⟩
      case measure=>simp [intOf]
     ·cases hq
      have hvv:=hv (by decide)
      subst hvv
      have hR:=hG.1;have hP:=hG.2.1;have hF:=hG.2.2.2.1;have YS:=HTB;have c0:=hF.cell 1;simp at c0;have ct:=Xe (B0:=w1.heap.size) w2.heap.size R 0 0 0 (.slice none 0 0) s1 wr hR hP mV hBG
      rw [E2.out] at ct
      have HG:=ah6 hG;have hsz:=hG.2.2.2.2.size;clear hR hP hF hG
      try simp only at ct
      go_wp2_with fail
      refine ct.mono ?_;rintro e w3 ⟨rfl,hR2,hP2,hO2⟩
      have HS2 : Hid (F5 w w.heap.size R w2.heap.size (w2.heap.size + 1) w1.heap.size c rs 2 w3):=ah6 ⟨_,.slice none 0 0,by rw [HC.out];rfl,HG.out.step hO2 hR2 hP2 HD.out,λ_=>rfl,λh=>by cases h⟩
      clear hR2 hP2 hO2 ct HG
      go_wp2
      go_roundw
      case rel=>exact ⟨2,by omega,by first | rfl | go_num,HS2.out⟩
      case measure=>simp [intOf]
     ·cases hq
      have hvv:=hv (by decide)
      subst hvv
      have hR:=hG.1;have hP:=hG.2.1;have hF:=hG.2.2.2.1;have YS:=HTB;have c0:=hF.cell 2;simp at c0;have ct:=Xf (B0:=w1.heap.size) w2.heap.size R tick time 0 YS.out (.slice none 0 0) s2 wr hR hP mV hBG
      rw [E3.out] at ct
      have HG:=ah6 hG;have hsz:=hG.2.2.2.2.size;clear hR hP hF hG
      try simp only at ct
      go_wp2_with fail
      refine ct.mono ?_;rintro e w3 ⟨rfl,hR2,hP2,hO2⟩
      have HS2 : Hid (F5 w w.heap.size R w2.heap.size (w2.heap.size + 1) w1.heap.size c rs 3 w3):=ah6 ⟨_,.slice none 0 0,by rw [HC.out];rfl,HG.out.step hO2 hR2 hP2 HD.out,λ_=>rfl,λh=>by cases h⟩
      clear hR2 hP2 hO2 ct HG
      go_wp2
      go_roundw
      case rel=>exact ⟨3,by omega,by first | rfl | go_num,HS2.out⟩
      case measure=>simp [intOf]
     ·cases hq
      have hvv:=hv (by decide)
      subst hvv
      have hR:=hG.1;have hP:=hG.2.1;have hF:=hG.2.2.2.1;have c0:=hF.cell 3;simp at c0;have ct:=NP (B0:=w1.heap.size) w2.heap.size R tick time base s3 wr hR hP mV hBG
      rw [E4.out] at ct
      have HG:=ah6 hG;have hsz:=hG.2.2.2.2.size;clear hR hP hF hG
      try simp only at ct
      go_wp2_with fail
      refine ct.mono ?_;rintro e w3 ⟨rfl,hR2,⟨vv,hP2,hV2⟩,hO2⟩
      have HS2 : Hid (F5 w w.heap.size R w2.heap.size (w2.heap.size + 1) w1.heap.size c rs 4 w3):=ah6 ⟨_,vv,by rw [HC.out];rfl,HG.out.step hO2 hR2 hP2 HD.out,λh=>by omega,λ_=>hV2.base hsz⟩
      clear hR2 hP2 hO2 ct HG
      go_wp2
      go_roundw
      case rel=>exact ⟨4,by omega,by first | rfl | go_num,HS2.out⟩
      case measure=>simp [intOf]
     ·cases hq
      have hO:=hv4 rfl
      obtain ⟨hR,hP,hA,hF,hB⟩:=hG
      have dn:=Wy (B0:=w1.heap.size) R s4 wr hR
      rw [show (if s4.2 ≠ 0 then s4.2 else if s4.1 = [] then 0 else 8) = lG s4 from rfl] at dn
      have ER : Hid (z = if lG s4 ≠ 0 then (oI,lG s4) else (⟨tick,time,base,rs⟩,0)):=ah6 (by rw [HV.out,HGS.out])
      generalize lG s4 = de at *
      have c0:=hP.cell 0;simp at c0;have HP:=ah6 hP;have HO:=ah6 hO;have HA:=ah6 hA;have HB:=ah6 hB;clear hR hP hA hF hB hO hv hv4 HV HGS HS
      go_wp2_with fail
      refine dn.mono ?_;rintro e w3 ⟨rfl,hb⟩
      have hP3:=HP.out.below hb HP.out.lt;have hA3:=HA.out.below hb HA.out.lt
      have fJ:=ah6 (HO.out.below hb (λj e=>(HO.out.1.lt j e).2))
      have HB3:=ah6 (HB.out.trans (hb.mono HB.out.size));have EI:=ah6 hA3;have p1:=hP3.cell 1;have p2:=hP3.cell 2;have p3:=hP3.cell 3;have p4:=hP3.cell 4;have c1:=hA3.cell 0;have c2:=hA3.cell 1;have c3:=hA3.cell 2;have c4:=hA3.cell 3;have f0:=hA3.free 0;have f1:=hA3.free 1;have f2:=hA3.free 2;have f3:=hA3.free 3;simp at p1 p2 p3 p4 c1 c2 c3 c4
      obtain ⟨va,vc,rfl,_⟩:=fJ.out.recs
      have HAO : Hid (∀ j,(Value.slice va rs.length vc).ownBlock = some j -> j ≠ w.heap.size):=ah6 (λj e h=>by
       subst h;exact bL fJ.out.1 EI.out (by decide) e)
      clear hb hP3 hA3 dn c0 HP HO HA HB
      by_cases hde : de = 0
      ·have QN : Hid (z = (⟨tick,time,base,rs⟩,0)):=ah6 (by rw [ER.out,if_neg (by simpa using hde)])
       subst hde
       clear ER
       go_wp2
       exact bodyPost_ret (v:=.tuple #[.agg #[.int .i64 tick,.int .i64 time,.int .i64 base,.slice va rs.length vc],.int .i64 0])
        (by have hh:=Bn (v0:=.int .i64 tick) (v1:=.int .i64 time) (v2:=.int .i64 base) (v3:=.slice va rs.length vc) EI.out
            have g0:=hh.cell 0;have g1:=hh.cell 1;have g2:=hh.cell 2;have g3:=hh.cell 3;simp at g0 g1 g2 g3
            simp [results,Tryz.results114,go_sem,g0,g1,g2,g3]) rfl
        ⟨_,by rw [QN.out],by rw [QN.out];exact fJ.out.only (EO (S:=λk=>k = w.heap.size) (Only.refl _ _) (.inl rfl)) (λj e h=>HAO.out j e h),Bo HB3.out (Nat.le_refl _)⟩
      ·have QN : Hid (z = (oI,de)):=ah6 (by rw [ER.out,if_pos hde])
       have ahc : (de != 0) = true:=by simpa using hde
       clear ER hde
       go_wp2
       exact bodyPost_ret (v:=.tuple #[.agg #[.int .i64 0,.int .i64 0,.int .i64 0,.slice none 0 0],.int .i64 de])
        (by have hh:=Bn (v0:=.int .i64 0) (v1:=.int .i64 0) (v2:=.int .i64 0) (v3:=.slice none 0 0) EI.out
            have g0:=hh.cell 0;have g1:=hh.cell 1;have g2:=hh.cell 2;have g3:=hh.cell 3;simp at g0 g1 g2 g3
            simp [results,Tryz.results114,go_sem,g0,g1,g2,g3]) rfl
        ⟨.slice none 0 0,by rw [QN.out];rfl,by rw [QN.out];exact gF.nil _ _,Bo HB3.out (Nat.le_refl _)⟩
end Go.Proofs.YtklkooeimkedgaaGreat
namespace Go.Proofs.YtklkooeimkedgaaGreat
open Go.RowKit
set_option maxRecDepth 8000
def dN (e : Int) : Prop:=0 <= e /\ e <= 17
theorem dN.zero : dN 0:=⟨by decide,by decide⟩
theorem Hg : ∀ (zs : List Int) (i : Nat) (x : Int),dN (gX i x zs).2.2
 | [],i,x=>by unfold gX;split <;> exact ⟨by decide,by decide⟩
 | c :: r,i,x=>by
   unfold gX
   split
   ·exact ⟨by decide,by decide⟩
   split
   ·exact ⟨by decide,by decide⟩
   split
   ·exact Hg r _ _
   ·split
    ·exact (show dN 7 from ⟨by decide,by decide⟩)
    ·exact dN.zero
theorem Rt (zs : List Int) : dN (gY zs).2.2:=by
 unfold gY
 split
 ·exact ⟨by decide,by decide⟩
 ·exact Hg _ _ _
theorem Hl {off : List Int -> Int × Nat × Int} (ho : ∀ zs,dN (off zs).2.2) {s : aH} (h : dN s.2) : dN (iM off s).2.2:=by
 unfold iM
 split
 ·exact h
 split
 ·exact (show dN 6 from ⟨by decide,by decide⟩)
 split
 ·exact ho _
 ·exact dN.zero
theorem r9 {s : aH} (h : dN s.2) : dN (bG s).2.2:=Hl (λ_=>dN.zero) h
theorem lJ {m : Int} {s : aH} (h : dN s.2) : dN (aZ m s).2.2:=Hl (λzs=>by
 unfold iU;simp only;split
 ·exact ⟨by decide,by decide⟩
 ·exact Rt zs) h
theorem rA {s : aH} (h : dN s.2) : dN (dU s).2.2:=lJ h
theorem Ho {s : aH} (h : dN s.2) : dN (dV s).2.2:=rA (rA (rA h))
theorem pU {e : Int} (he : dN e) {s : aH} (h : dN s.2) : dN (fD e s).2:=by
 unfold fD;simp only;split
 ·exact he
 ·exact h
theorem Kn {q : Int × aH} (h : dN q.2.2) : dN (tu q).2.2:=by
 unfold tu;simp only;split
 ·exact pU ⟨by decide,by decide⟩ h
 ·exact h
theorem Ru {m : Int} {i : Nat} {s : aH} (h : dN s.2) : dN (gM m i s).2.2:=by
 unfold gM;split
 ·exact h
 ·exact Kn (rA h)
theorem Rv {m : Int} {s : aH} (h : dN s.2) : dN (rT m s).2.2:=by
 unfold rT;split
 ·exact h
 ·exact Kn (lJ h)
theorem E8 {m : Int} : ∀ (l : List Nat) {s : aH},dN s.2 -> dN (jq m l s).2.2
 | [],s,h=>h
 | i :: l,s,h=>by rw [jq];exact E8 l (Ru h)
theorem Ob {k : Int} {r : Rec} {s : aH} (h : dN s.2) : dN (rdKind k r s).2.2:=by
 unfold rdKind
 split
 ·exact lJ (Ho (Ho h))
 split
 ·unfold vQ
  split
  ·exact pU ⟨by decide,by decide⟩ (r9 h)
  ·exact Rv (E8 _ (r9 h))
 split
 ·exact h
 ·exact pU ⟨by decide,by decide⟩ h
theorem E9 {last : Int} {s : aH} (h : dN s.2) : dN (qo last s).2.2:=Ob (r9 (lJ h))
theorem Hq {last : Int} {s : aH} (h : dN s.2) : dN (dM last s).2.2.2:=by
 unfold dM
 split
 ·exact pU ⟨by decide,by decide⟩ h
 split
 ·exact E9 h
 ·exact E9 h
theorem Fa : ∀ (n : Nat) (last : Int) {s : aH},dN s.2 -> dN (gu n last s).2.2
 | 0,last,s,h=>h
 | n + 1,last,s,h=>by
   rw [gu]
   split
   ·exact Hq h
   ·exact Fa n _ (Hq h)
theorem Fb {c : Int} {s : aH} (h : dN s.2) : dN (jV c s).2:=by
 unfold jV
 split
 ·exact r9 h
 ·exact pU ⟨by decide,by decide⟩ (r9 h)
theorem nP {c : Int} {s : aH} (h : aT s.1) : aT (jV c s).1:=by
 unfold jV
 split
 ·exact lT h
 ·exact lT (s:=s) h
theorem Oc {s : aH} (h : dN s.2) : dN (iH s).2.2.2:=by
 unfold iH
 simp only
 split
 ·exact rA (lJ h)
 ·exact pU ⟨by decide,by decide⟩ (rA (lJ h))
theorem Lr {s : aH} (h : dN s.2) : dN (iI s).2.2 :=
 Fa _ _ (lJ (lJ (Oc (Fb (Fb h)))))
theorem Ux (zs : List Int) : dN (bD zs).2:=by
 unfold bD
 split
 ·exact ⟨by decide,by decide⟩
 split
 ·exact ⟨by decide,by decide⟩
 split
 ·unfold lG
  split
  ·exact Lr dN.zero
  split <;> exact ⟨by decide,by decide⟩
 ·exact dN.zero
theorem BU {zs x : List Int} (h : aT zs) (hx : iF zs = some x) : aT x:=by
 unfold iF at hx
 split at hx
 ·cases hx
 split at hx
 ·cases hx;exact λz hz=>h z (List.mem_of_mem_take hz)
 ·cases hx
theorem Rw {zs : List Int} (h : aT zs) : ay (bD zs).1.time:=by
 unfold bD
 split
 ·exact bA
 split
 ·exact bA
 rename_i x hx
 split
 ·exact bA
 ·exact ug (iT (nP (nP (BU h hx))))
end Go.Proofs.YtklkooeimkedgaaGreat
