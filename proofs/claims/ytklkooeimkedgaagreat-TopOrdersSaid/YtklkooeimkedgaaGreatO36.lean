/- Parts of the walk of TopOrders: Rec10, Rec6, Gram1, Gram2, Gram3, Plain2, Gram4, Gram5, Plain3. -/
import Derived.Test.YtklkooeimkedgaaGreatO0
import Derived.Test.YtklkooeimkedgaaGreatO28
import Derived.Test.YtklkooeimkedgaaGreatO35
set_option linter.unusedVariables false
set_option linter.unusedSimpArgs false
namespace Go.Proofs.YtklkooeimkedgaaGreat
open Go.RowKit
set_option maxRecDepth 8000
def Rd9 (R B0 X A : Nat) (s s1 : aH) (cs : Array Value) (w : World) (b : Bool) (W : World) : Prop :=
 bB W R B0 (bif b then s1 else s) /\ ak W X cs 147 /\ ak W A #[.int .i64 0,.int .i64 0,.int .i64 0,.int .i64 0,.int .i64 0,.int .i64 0,.int .i64 0,.int .i64 0,.int .u16 0] 147 /\ Only (· = R) w W
set_option maxHeartbeats 4000000 in
theorem UQ {B0 : Nat} (R : Nat) (s : aH) (last : Int) (h1 : -1 <= last) (h2 : last < 65535) (w : World) (h : bB w R B0 s) (hB0 : B0 <= w.heap.size) :
  Calls Tryz.prog 197 #[.pointer (some ⟨R,0,none⟩),.int .i64 last] w λe w'=>e = .returned (.tuple #[lI (dN last s).1,.int .i64 (dN last s).2.1]) /\ bB w' R B0 (dN last s).2.2 /\ Only (· = R) w w':=by
 have ru:=λw h=>sW (B0:=B0) R s (65535 - (last + 1)) w h
 have ub:=jh (most:=65535 - (last + 1)) h.u8 (by omega)
 obtain ⟨q,HQ⟩ : ∃ q,Hid (qD last s = q):=⟨_,ahZ rfl⟩
 have HE : Hid (dN last s = if q.2.2 ≠ 0 then (Gl,q.2.2,q.2) else (q.1,0,q.2)):=ahZ (by unfold dN;rw [if_neg (by omega),HQ.out])
 have wo : Hid (q = rdKind (bH (bA (65535 - (last + 1)) s).2).1 ⟨(bH (bA (65535 - (last + 1)) s).2).1,last + 1 + (bA (65535 - (last + 1)) s).1,0,0,0,0,0,0,0⟩ (bH (bA (65535 - (last + 1)) s).2).2):=ahZ (by rw [← HQ.out];rfl)
 clear HQ
 have rb:=λw h=>Ga (B0:=B0) R (bA (65535 - (last + 1)) s).2 w h
 have kb : aX (bA (65535 - (last + 1)) s).2.1 -> U8 (bH (bA (65535 - (last + 1)) s).2).1:=λh=>AO h
 generalize bA (65535 - (last + 1)) s = q1 at *
 generalize bH q1.2 = q2 at *
 generalize dN last s = z at *
 obtain ⟨u,s1⟩:=q1
 obtain ⟨k,s2⟩:=q2
 simp only at *
 have l1 : ¬ last < -1:=by omega
 have l2 : ¬ 65535 < last:=by omega
 have l3 : (last == 65535) = false:=by simp;omega
 have w1 : wrap64 (last + 1) = last + 1:=by unfold wrap64;omega
 have w2 : IntKind.i64.wrap (65535 - (last + 1)) = 65535 - (last + 1):=by rw [IntKind.wrap_i64];omega
 have w3 : IntKind.u64.wrap (65535 - (last + 1)) = 65535 - (last + 1):=wraps_u64 _ (by omega) (by omega)
 have w4 : IntKind.i64.wrap u = u:=by rw [IntKind.wrap_i64];omega
 have w5 : wrap64 (last + 1 + u) = last + 1 + u:=by unfold wrap64;omega
 have w6 : wrap64 u = u:=by unfold wrap64;omega
 have hne : ¬ w.heap.size = R:=by have:=h.lt;omega
 have hne2 : ¬ w.heap.size + 1 = R:=by have:=h.lt;omega
 have nO:=ahZ hne
 have agP:=ahZ hne2
 have er:=λs w h=>yO (B0:=B0) R s w h
 have fl:=λw h=>yP (B0:=B0) R s2 11 (by decide) w h
 have hW0 : Hid (Rd9 R B0 (w.heap.size + 1) w.heap.size s s1 #[.int .i64 0,.int .i64 (last + 1),.int .i64 0,.int .i64 0,.int .i64 0,.int .i64 0,.int .i64 0,.int .i64 0,.int .u16 0] w false ((w.alloc (.cells #[.int .i64 0,.int .i64 0,.int .i64 0,.int .i64 0,.int .i64 0,.int .i64 0,.int .i64 0,.int .i64 0,.int .u16 0] 147)).alloc (.cells #[.int .i64 0,.int .i64 (last + 1),.int .i64 0,.int .i64 0,.int .i64 0,.int .i64 0,.int .i64 0,.int .i64 0,.int .u16 0] 147)).drew):=ahZ (by
  refine ⟨?_,?_,?_,?_⟩
  ·exact h.below (below_drewN (((Below.refl _ _).alloc (Nat.le_refl _) _).alloc (by simp) _) 1)
  ·have:=ak.new (w.alloc (.cells #[.int .i64 0,.int .i64 0,.int .i64 0,.int .i64 0,.int .i64 0,.int .i64 0,.int .i64 0,.int .i64 0,.int .u16 0] 147)) #[.int .i64 0,.int .i64 (last + 1),.int .i64 0,.int .i64 0,.int .i64 0,.int .i64 0,.int .i64 0,.int .i64 0,.int .u16 0] 147
   rw [show (w.alloc (.cells #[.int .i64 0,.int .i64 0,.int .i64 0,.int .i64 0,.int .i64 0,.int .i64 0,.int .i64 0,.int .i64 0,.int .u16 0] 147)).heap.size = w.heap.size + 1 by simp] at this
   exact this
  ·exact (ak.new w #[.int .i64 0,.int .i64 0,.int .i64 0,.int .i64 0,.int .i64 0,.int .i64 0,.int .i64 0,.int .i64 0,.int .u16 0] 147).alloc _
  ·exact (((Only.refl (· = R) w).alloc _).alloc _).draws 1)
 have OB : B0 <= w.heap.size + 1:=by omega
 have kk:=λW=>MN W
 have RA:=λ(r : Rec) W h hX=>XR (B0:=B0) R (w.heap.size + 1) s2 r W h hX OB hne2
 have RS:=λW h hX=>UL (B0:=B0) R (w.heap.size + 1) s2 1 (last + 1 + u) W h hX OB hne2
 have RN:=λW=>abI R (w.heap.size + 1) W
 unfold lI Gl at *
 unfold sK at kk
 clear h
 go_enter Tryz.func197,Tryz.ntmps197
 go_wp2_with fail
 refine Gm 9 7 (Rd9 R B0 (w.heap.size + 1) w.heap.size s s1 #[.int .i64 0,.int .i64 (last + 1),.int .i64 0,.int .i64 0,.int .i64 0,.int .i64 0,.int .i64 0,.int .i64 0,.int .u16 0] w) (by kernel_rfl) (by kernel_rfl) (by decide) hW0.out ?_
 simp only [List.take_succ_cons,List.take_zero,List.drop_succ_cons,List.drop_zero]
 repeat (apply Dw;(next=>rfl);(next=>(intro b W hW K hK;obtain ⟨hR,hX,hA,hO⟩:=hW;have y1:=hX.cell 1;simp at y1;go_simp;first | exact ⟨⟨hR,hX,hA,hO⟩,hK⟩ | exact hK));(next=>exact ⟨_,hW0.out⟩);(try go_simp))
 (apply OA;(next=>rfl);(next=>(intro W hW K hK;obtain ⟨hR,hX,hA,hO⟩:=hW;go_simp;exact ⟨_,(ru W hR).mono (λe w'' hh=>⟨hh.1,hh.2.1,hh.2.2.blk hX hne2,hh.2.2.blk hA hne,hO.trans hh.2.2⟩),hK⟩));(try go_simp))
 repeat (apply Dw;(next=>rfl);(next=>(intro b W hW K hK;obtain ⟨hR,hX,hA,hO⟩:=hW;have y1:=hX.cell 1;simp at y1;go_simp;first | exact ⟨⟨hR,hX,hA,hO⟩,hK⟩ | exact hK));(next=>exact ⟨_,hW0.out⟩);(try go_simp))
 refine Oz ?_
 intro WC aM
 obtain ⟨hR,hX,hA,hO⟩:=aM
 have c1:=hX.cell 1
 have f1:=hX.free 1
 simp at c1
 have HX:=ahZ (hX.set 1 (.int .i64 (last + 1 + u)))
 have HR:=ahZ (hR.dB (p:=⟨w.heap.size + 1,1,none⟩) (Ne.symm hne2) OB (.int .i64 (last + 1 + u)))
 have HA:=ahZ (hA.far (p:=⟨w.heap.size + 1,1,none⟩) (by simp) (.int .i64 (last + 1 + u)))
 have HO:=ahZ (hO.setCell (p:=⟨w.heap.size + 1,1,none⟩) (.inr (Nat.le_succ _)) (.int .i64 (last + 1 + u)))
 clear hR hX hA hO hW0 ru
 go_wp2_with fail
 have rb1:=rb _ HR.out
 have k8:=kb HR.out.u8
 have w7 : wrap64 k = k:=by unfold wrap64;unfold U8 at k8;omega
 clear rb kb
 refine rb1.mono ?_;rintro e w2 ⟨rfl,hR2,hO2⟩
 have hX2:=hO2.blk HX.out hne2
 have c0:=hX2.cell 0
 have f0:=hX2.free 0
 simp at c0
 have iN : Hid (ak (w2.setCell ⟨w.heap.size + 1,0,none⟩ (.int .i64 k)) (w.heap.size + 1) (aZ ⟨k,last + 1 + u,0,0,0,0,0,0,0⟩) 147):=ahZ (by simpa [aZ] using hX2.set 0 (.int .i64 k))
 have HR3:=ahZ (hR2.dB (p:=⟨w.heap.size + 1,0,none⟩) (Ne.symm hne2) OB (.int .i64 k))
 have E9:=ahZ ((hO2.blk HA.out hne).far (p:=⟨w.heap.size + 1,0,none⟩) (by simp) (.int .i64 k))
 have fT:=ahZ ((HO.out.trans hO2).setCell (p:=⟨w.heap.size + 1,0,none⟩) (.inr (Nat.le_succ _)) (.int .i64 k))
 clear hX2 hR2 hO2 HX HR HA HO rb1 c1 f1
 go_wp2_with fail
 refine (kk _).mono ?_;rintro e w3 ⟨rfl,hb3⟩
 have dG:=iN.out.below hb3 iN.out.lt
 have HR4:=ahZ (HR3.out.below hb3)
 have MP:=ahZ (E9.out.below hb3 E9.out.lt)
 have Ai:=ahZ (fT.out.fu hb3)
 have c0':=dG.cell 0
 simp at c0'
 have Fa:=ahZ dG
 have Zo:=dG.alloc (.cells #[.func (.func 154) #[] #[],.func (.func 155) #[] #[],.func (.func 156) #[] #[],.func (.func 157) #[] #[],.func (.func 152) #[] #[],.func (.func 153) #[] #[],.func (.func 154) #[] #[],.func (.func 155) #[] #[]] 210)
 have dS:=ahZ (HR4.out.below ((Below.refl _ _).alloc (Nat.le_refl _) (.cells #[.func (.func 154) #[] #[],.func (.func 155) #[] #[],.func (.func 156) #[] #[],.func (.func 157) #[] #[],.func (.func 152) #[] #[],.func (.func 153) #[] #[],.func (.func 154) #[] #[],.func (.func 155) #[] #[]] 210)))
 have Dx:=ahZ (MP.out.alloc (.cells #[.func (.func 154) #[] #[],.func (.func 155) #[] #[],.func (.func 156) #[] #[],.func (.func 157) #[] #[],.func (.func 152) #[] #[],.func (.func 153) #[] #[],.func (.func 154) #[] #[],.func (.func 155) #[] #[]] 210))
 have d9:=ahZ (Ai.out.alloc (.cells #[.func (.func 154) #[] #[],.func (.func 155) #[] #[],.func (.func 156) #[] #[],.func (.func 157) #[] #[],.func (.func 152) #[] #[],.func (.func 153) #[] #[],.func (.func 154) #[] #[],.func (.func 155) #[] #[]] 210))
 have d0:=Zo.cell 0
 simp at d0
 have fH:=ahZ Zo
 clear hb3 iN HR3 E9 fT Fa HR4 MP Ai c0 f0 dG Zo c0' kk
 have hkz : Tryz.prog.types[209].size = 2:=by kernel_rfl
 have hkk : k = 0 \/ k = 1 \/ k = 2 \/ k = 3 \/ 4 <= k:=by unfold U8 at k8;omega
 have K8:=ahZ k8
 clear k8
 rcases hkk with rfl | rfl | rfl | rfl | hk4
 ·have hq : q = xG ⟨0,last + 1 + u,0,0,0,0,0,0,0⟩ s2:=by rw [wo.out];unfold rdKind;rw [if_pos (.inl rfl)]
  have ra:=RA _ _ dS.out fH.out
  go_wp2_with fail
  refine ra.mono ?_;rintro e w5 ⟨rfl,iO,cZ,fU⟩
  rw [← hq] at iO cZ
  clear ra hq
  have qE:=ahZ (fU.blk Dx.out (by omega))
  have sM:=ahZ (d9.out.bQ fU (λi hi hk=>by omega))
  have mF:=ahZ iO
  have uV:=ahZ cZ
  clear iO cZ fU dS fH Dx d9 d0 RA RS RN fl
  have e1:=er _ _ mF.out
  go_wp2_with fail
  refine e1.mono ?_;rintro e w6 ⟨rfl,rfl⟩
  have bD:=qE.out
  have cZ:=uV.out
  unfold aZ at cZ
  have c0:=bD.cell 0
  have f0:=bD.free 0
  have x0:=cZ.cell 0
  have c1:=bD.cell 1
  have f1:=bD.free 1
  have x1:=cZ.cell 1
  have c2:=bD.cell 2
  have f2:=bD.free 2
  have x2:=cZ.cell 2
  have c3:=bD.cell 3
  have f3:=bD.free 3
  have x3:=cZ.cell 3
  have c4:=bD.cell 4
  have f4:=bD.free 4
  have x4:=cZ.cell 4
  have c5:=bD.cell 5
  have f5:=bD.free 5
  have x5:=cZ.cell 5
  have c6:=bD.cell 6
  have f6:=bD.free 6
  have x6:=cZ.cell 6
  have c7:=bD.cell 7
  have f7:=bD.free 7
  have x7:=cZ.cell 7
  have c8:=bD.cell 8
  have f8:=bD.free 8
  have x8:=cZ.cell 8
  simp at c0 c1 c2 c3 c4 c5 c6 c7 c8 x0 x1 x2 x3 x4 x5 x6 x7 x8
  clear e1 bD cZ er uV
  by_cases hqe : q.2.2 = 0
  ·have HZ : Hid (z = (q.1,0,q.2)):=ahZ (by rw [HE.out,if_neg (by simpa using hqe)])
   clear HE wo
   go_wp2
   exact bodyPost_ret (v:=.tuple #[.agg #[.int .i64 q.1.kind,.int .i64 q.1.id,.int .i64 q.1.px,.int .i64 q.1.py,.int .i64 q.1.pz,.int .i64 q.1.vx,.int .i64 q.1.vy,.int .i64 q.1.vz,.int .u16 q.1.aI],.int .i64 0])
    (by
      have hh:=mD (v0:=.int .i64 q.1.kind) (v1:=.int .i64 q.1.id) (v2:=.int .i64 q.1.px) (v3:=.int .i64 q.1.py) (v4:=.int .i64 q.1.pz) (v5:=.int .i64 q.1.vx) (v6:=.int .i64 q.1.vy) (v7:=.int .i64 q.1.vz) (v8:=.int .u16 q.1.aI) qE.out
      have g0:=hh.cell 0
      have g1:=hh.cell 1
      have g2:=hh.cell 2
      have g3:=hh.cell 3
      have g4:=hh.cell 4
      have g5:=hh.cell 5
      have g6:=hh.cell 6
      have g7:=hh.cell 7
      have g8:=hh.cell 8
      simp at g0 g1 g2 g3 g4 g5 g6 g7 g8
      simp [results,Tryz.results197,go_sem,g0,g1,g2,g3,g4,g5,g6,g7,g8]) rfl
    ⟨by rw [HZ.out],by rw [HZ.out];exact rW mF.out (Ne.symm nO.out) hB0,pX sM.out (.inr (Nat.le_refl _))⟩
  ·have HZ : Hid (z = (⟨0,0,0,0,0,0,0,0,0⟩,q.2.2,q.2)):=ahZ (by rw [HE.out,if_pos hqe])
   have OC : (q.2.2 != 0) = true:=by simpa using hqe
   clear HE wo
   go_wp2
   exact bodyPost_ret (v:=.tuple #[.agg #[.int .i64 0,.int .i64 0,.int .i64 0,.int .i64 0,.int .i64 0,.int .i64 0,.int .i64 0,.int .i64 0,.int .u16 0],.int .i64 q.2.2])
    (by
      have hh:=mD (v0:=.int .i64 0) (v1:=.int .i64 0) (v2:=.int .i64 0) (v3:=.int .i64 0) (v4:=.int .i64 0) (v5:=.int .i64 0) (v6:=.int .i64 0) (v7:=.int .i64 0) (v8:=.int .u16 0) qE.out
      have g0:=hh.cell 0
      have g1:=hh.cell 1
      have g2:=hh.cell 2
      have g3:=hh.cell 3
      have g4:=hh.cell 4
      have g5:=hh.cell 5
      have g6:=hh.cell 6
      have g7:=hh.cell 7
      have g8:=hh.cell 8
      simp at g0 g1 g2 g3 g4 g5 g6 g7 g8
      simp [results,Tryz.results197,go_sem,g0,g1,g2,g3,g4,g5,g6,g7,g8]) rfl
    ⟨by rw [HZ.out],by rw [HZ.out];exact rW mF.out (Ne.symm nO.out) hB0,pX sM.out (.inr (Nat.le_refl _))⟩
 ·have hq : q = vW ⟨1,last + 1 + u,0,0,0,0,0,0,0⟩ s2:=by rw [wo.out];unfold rdKind;rw [if_neg (by decide),if_pos rfl]
  have ra:=RS _ dS.out fH.out
  go_wp2_with fail
  refine ra.mono ?_;rintro e w5 ⟨rfl,iO,cZ,fU⟩
  rw [← hq] at iO cZ
  clear ra hq
  have qE:=ahZ (fU.blk Dx.out (by omega))
  have sM:=ahZ (d9.out.bQ fU (λi hi hk=>by omega))
  have mF:=ahZ iO
  have uV:=ahZ cZ
  clear iO cZ fU dS fH Dx d9 d0 RA RS RN fl
  have e1:=er _ _ mF.out
  go_wp2_with fail
  refine e1.mono ?_;rintro e w6 ⟨rfl,rfl⟩
  have bD:=qE.out
  have cZ:=uV.out
  unfold aZ at cZ
  have c0:=bD.cell 0
  have f0:=bD.free 0
  have x0:=cZ.cell 0
  have c1:=bD.cell 1
  have f1:=bD.free 1
  have x1:=cZ.cell 1
  have c2:=bD.cell 2
  have f2:=bD.free 2
  have x2:=cZ.cell 2
  have c3:=bD.cell 3
  have f3:=bD.free 3
  have x3:=cZ.cell 3
  have c4:=bD.cell 4
  have f4:=bD.free 4
  have x4:=cZ.cell 4
  have c5:=bD.cell 5
  have f5:=bD.free 5
  have x5:=cZ.cell 5
  have c6:=bD.cell 6
  have f6:=bD.free 6
  have x6:=cZ.cell 6
  have c7:=bD.cell 7
  have f7:=bD.free 7
  have x7:=cZ.cell 7
  have c8:=bD.cell 8
  have f8:=bD.free 8
  have x8:=cZ.cell 8
  simp at c0 c1 c2 c3 c4 c5 c6 c7 c8 x0 x1 x2 x3 x4 x5 x6 x7 x8
  clear e1 bD cZ er uV
  by_cases hqe : q.2.2 = 0
  ·have HZ : Hid (z = (q.1,0,q.2)):=ahZ (by rw [HE.out,if_neg (by simpa using hqe)])
   clear HE wo
   go_wp2
   exact bodyPost_ret (v:=.tuple #[.agg #[.int .i64 q.1.kind,.int .i64 q.1.id,.int .i64 q.1.px,.int .i64 q.1.py,.int .i64 q.1.pz,.int .i64 q.1.vx,.int .i64 q.1.vy,.int .i64 q.1.vz,.int .u16 q.1.aI],.int .i64 0])
    (by
      have hh:=mD (v0:=.int .i64 q.1.kind) (v1:=.int .i64 q.1.id) (v2:=.int .i64 q.1.px) (v3:=.int .i64 q.1.py) (v4:=.int .i64 q.1.pz) (v5:=.int .i64 q.1.vx) (v6:=.int .i64 q.1.vy) (v7:=.int .i64 q.1.vz) (v8:=.int .u16 q.1.aI) qE.out
      have g0:=hh.cell 0
      have g1:=hh.cell 1
      have g2:=hh.cell 2
      have g3:=hh.cell 3
      have g4:=hh.cell 4
      have g5:=hh.cell 5
      have g6:=hh.cell 6
      have g7:=hh.cell 7
      have g8:=hh.cell 8
      simp at g0 g1 g2 g3 g4 g5 g6 g7 g8
      simp [results,Tryz.results197,go_sem,g0,g1,g2,g3,g4,g5,g6,g7,g8]) rfl
    ⟨by rw [HZ.out],by rw [HZ.out];exact rW mF.out (Ne.symm nO.out) hB0,pX sM.out (.inr (Nat.le_refl _))⟩
  ·have HZ : Hid (z = (⟨0,0,0,0,0,0,0,0,0⟩,q.2.2,q.2)):=ahZ (by rw [HE.out,if_pos hqe])
   have OC : (q.2.2 != 0) = true:=by simpa using hqe
   clear HE wo
   go_wp2
   exact bodyPost_ret (v:=.tuple #[.agg #[.int .i64 0,.int .i64 0,.int .i64 0,.int .i64 0,.int .i64 0,.int .i64 0,.int .i64 0,.int .i64 0,.int .u16 0],.int .i64 q.2.2])
    (by
      have hh:=mD (v0:=.int .i64 0) (v1:=.int .i64 0) (v2:=.int .i64 0) (v3:=.int .i64 0) (v4:=.int .i64 0) (v5:=.int .i64 0) (v6:=.int .i64 0) (v7:=.int .i64 0) (v8:=.int .u16 0) qE.out
      have g0:=hh.cell 0
      have g1:=hh.cell 1
      have g2:=hh.cell 2
      have g3:=hh.cell 3
      have g4:=hh.cell 4
      have g5:=hh.cell 5
      have g6:=hh.cell 6
      have g7:=hh.cell 7
      have g8:=hh.cell 8
      simp at g0 g1 g2 g3 g4 g5 g6 g7 g8
      simp [results,Tryz.results197,go_sem,g0,g1,g2,g3,g4,g5,g6,g7,g8]) rfl
    ⟨by rw [HZ.out],by rw [HZ.out];exact rW mF.out (Ne.symm nO.out) hB0,pX sM.out (.inr (Nat.le_refl _))⟩
 ·have hq : q = (⟨2,last + 1 + u,0,0,0,0,0,0,0⟩,s2):=by rw [wo.out];unfold rdKind;rw [if_neg (by decide),if_neg (by decide),if_pos rfl]
  have ra:=λW=>RN W
  have iO:=dS.out
  rw [show s2 = q.2 by rw [hq]] at iO
  have cZ:=fH.out
  rw [show (⟨2,last + 1 + u,0,0,0,0,0,0,0⟩ : Rec) = q.1 by rw [hq]] at cZ
  have fU:=Only.refl (λk=>k = R \/ k = w.heap.size + 1) (w3.alloc (.cells #[.func (.func 154) #[] #[],.func (.func 155) #[] #[],.func (.func 156) #[] #[],.func (.func 157) #[] #[],.func (.func 152) #[] #[],.func (.func 153) #[] #[],.func (.func 154) #[] #[],.func (.func 155) #[] #[]] 210))
  go_wp2_with fail
  refine (ra _).mono ?_;rintro e w5 ⟨rfl,rfl⟩
  clear ra hq
  have qE:=ahZ (fU.blk Dx.out (by omega))
  have sM:=ahZ (d9.out.bQ fU (λi hi hk=>by omega))
  have mF:=ahZ iO
  have uV:=ahZ cZ
  clear iO cZ fU dS fH Dx d9 d0 RA RS RN fl
  have e1:=er _ _ mF.out
  go_wp2_with fail
  refine e1.mono ?_;rintro e w6 ⟨rfl,rfl⟩
  have bD:=qE.out
  have cZ:=uV.out
  unfold aZ at cZ
  have c0:=bD.cell 0
  have f0:=bD.free 0
  have x0:=cZ.cell 0
  have c1:=bD.cell 1
  have f1:=bD.free 1
  have x1:=cZ.cell 1
  have c2:=bD.cell 2
  have f2:=bD.free 2
  have x2:=cZ.cell 2
  have c3:=bD.cell 3
  have f3:=bD.free 3
  have x3:=cZ.cell 3
  have c4:=bD.cell 4
  have f4:=bD.free 4
  have x4:=cZ.cell 4
  have c5:=bD.cell 5
  have f5:=bD.free 5
  have x5:=cZ.cell 5
  have c6:=bD.cell 6
  have f6:=bD.free 6
  have x6:=cZ.cell 6
  have c7:=bD.cell 7
  have f7:=bD.free 7
  have x7:=cZ.cell 7
  have c8:=bD.cell 8
  have f8:=bD.free 8
  have x8:=cZ.cell 8
  simp at c0 c1 c2 c3 c4 c5 c6 c7 c8 x0 x1 x2 x3 x4 x5 x6 x7 x8
  clear e1 bD cZ er uV
  by_cases hqe : q.2.2 = 0
  ·have HZ : Hid (z = (q.1,0,q.2)):=ahZ (by rw [HE.out,if_neg (by simpa using hqe)])
   clear HE wo
   go_wp2
   exact bodyPost_ret (v:=.tuple #[.agg #[.int .i64 q.1.kind,.int .i64 q.1.id,.int .i64 q.1.px,.int .i64 q.1.py,.int .i64 q.1.pz,.int .i64 q.1.vx,.int .i64 q.1.vy,.int .i64 q.1.vz,.int .u16 q.1.aI],.int .i64 0])
    (by
      have hh:=mD (v0:=.int .i64 q.1.kind) (v1:=.int .i64 q.1.id) (v2:=.int .i64 q.1.px) (v3:=.int .i64 q.1.py) (v4:=.int .i64 q.1.pz) (v5:=.int .i64 q.1.vx) (v6:=.int .i64 q.1.vy) (v7:=.int .i64 q.1.vz) (v8:=.int .u16 q.1.aI) qE.out
      have g0:=hh.cell 0
      have g1:=hh.cell 1
      have g2:=hh.cell 2
      have g3:=hh.cell 3
      have g4:=hh.cell 4
      have g5:=hh.cell 5
      have g6:=hh.cell 6
      have g7:=hh.cell 7
      have g8:=hh.cell 8
      simp at g0 g1 g2 g3 g4 g5 g6 g7 g8
      simp [results,Tryz.results197,go_sem,g0,g1,g2,g3,g4,g5,g6,g7,g8]) rfl
    ⟨by rw [HZ.out],by rw [HZ.out];exact rW mF.out (Ne.symm nO.out) hB0,pX sM.out (.inr (Nat.le_refl _))⟩
  ·have HZ : Hid (z = (⟨0,0,0,0,0,0,0,0,0⟩,q.2.2,q.2)):=ahZ (by rw [HE.out,if_pos hqe])
   have OC : (q.2.2 != 0) = true:=by simpa using hqe
   clear HE wo
   go_wp2
   exact bodyPost_ret (v:=.tuple #[.agg #[.int .i64 0,.int .i64 0,.int .i64 0,.int .i64 0,.int .i64 0,.int .i64 0,.int .i64 0,.int .i64 0,.int .u16 0],.int .i64 q.2.2])
    (by
      have hh:=mD (v0:=.int .i64 0) (v1:=.int .i64 0) (v2:=.int .i64 0) (v3:=.int .i64 0) (v4:=.int .i64 0) (v5:=.int .i64 0) (v6:=.int .i64 0) (v7:=.int .i64 0) (v8:=.int .u16 0) qE.out
      have g0:=hh.cell 0
      have g1:=hh.cell 1
      have g2:=hh.cell 2
      have g3:=hh.cell 3
      have g4:=hh.cell 4
      have g5:=hh.cell 5
      have g6:=hh.cell 6
      have g7:=hh.cell 7
      have g8:=hh.cell 8
      simp at g0 g1 g2 g3 g4 g5 g6 g7 g8
      simp [results,Tryz.results197,go_sem,g0,g1,g2,g3,g4,g5,g6,g7,g8]) rfl
    ⟨by rw [HZ.out],by rw [HZ.out];exact rW mF.out (Ne.symm nO.out) hB0,pX sM.out (.inr (Nat.le_refl _))⟩
 ·have hq : q = xG ⟨3,last + 1 + u,0,0,0,0,0,0,0⟩ s2:=by rw [wo.out];unfold rdKind;rw [if_pos (.inr rfl)]
  have ra:=RA _ _ dS.out fH.out
  go_wp2_with fail
  refine ra.mono ?_;rintro e w5 ⟨rfl,iO,cZ,fU⟩
  rw [← hq] at iO cZ
  clear ra hq
  have qE:=ahZ (fU.blk Dx.out (by omega))
  have sM:=ahZ (d9.out.bQ fU (λi hi hk=>by omega))
  have mF:=ahZ iO
  have uV:=ahZ cZ
  clear iO cZ fU dS fH Dx d9 d0 RA RS RN fl
  have e1:=er _ _ mF.out
  go_wp2_with fail
  refine e1.mono ?_;rintro e w6 ⟨rfl,rfl⟩
  have bD:=qE.out
  have cZ:=uV.out
  unfold aZ at cZ
  have c0:=bD.cell 0
  have f0:=bD.free 0
  have x0:=cZ.cell 0
  have c1:=bD.cell 1
  have f1:=bD.free 1
  have x1:=cZ.cell 1
  have c2:=bD.cell 2
  have f2:=bD.free 2
  have x2:=cZ.cell 2
  have c3:=bD.cell 3
  have f3:=bD.free 3
  have x3:=cZ.cell 3
  have c4:=bD.cell 4
  have f4:=bD.free 4
  have x4:=cZ.cell 4
  have c5:=bD.cell 5
  have f5:=bD.free 5
  have x5:=cZ.cell 5
  have c6:=bD.cell 6
  have f6:=bD.free 6
  have x6:=cZ.cell 6
  have c7:=bD.cell 7
  have f7:=bD.free 7
  have x7:=cZ.cell 7
  have c8:=bD.cell 8
  have f8:=bD.free 8
  have x8:=cZ.cell 8
  simp at c0 c1 c2 c3 c4 c5 c6 c7 c8 x0 x1 x2 x3 x4 x5 x6 x7 x8
  clear e1 bD cZ er uV
  by_cases hqe : q.2.2 = 0
  ·have HZ : Hid (z = (q.1,0,q.2)):=ahZ (by rw [HE.out,if_neg (by simpa using hqe)])
   clear HE wo
   go_wp2
   exact bodyPost_ret (v:=.tuple #[.agg #[.int .i64 q.1.kind,.int .i64 q.1.id,.int .i64 q.1.px,.int .i64 q.1.py,.int .i64 q.1.pz,.int .i64 q.1.vx,.int .i64 q.1.vy,.int .i64 q.1.vz,.int .u16 q.1.aI],.int .i64 0])
    (by
      have hh:=mD (v0:=.int .i64 q.1.kind) (v1:=.int .i64 q.1.id) (v2:=.int .i64 q.1.px) (v3:=.int .i64 q.1.py) (v4:=.int .i64 q.1.pz) (v5:=.int .i64 q.1.vx) (v6:=.int .i64 q.1.vy) (v7:=.int .i64 q.1.vz) (v8:=.int .u16 q.1.aI) qE.out
      have g0:=hh.cell 0
      have g1:=hh.cell 1
      have g2:=hh.cell 2
      have g3:=hh.cell 3
      have g4:=hh.cell 4
      have g5:=hh.cell 5
      have g6:=hh.cell 6
      have g7:=hh.cell 7
      have g8:=hh.cell 8
      simp at g0 g1 g2 g3 g4 g5 g6 g7 g8
      simp [results,Tryz.results197,go_sem,g0,g1,g2,g3,g4,g5,g6,g7,g8]) rfl
    ⟨by rw [HZ.out],by rw [HZ.out];exact rW mF.out (Ne.symm nO.out) hB0,pX sM.out (.inr (Nat.le_refl _))⟩
  ·have HZ : Hid (z = (⟨0,0,0,0,0,0,0,0,0⟩,q.2.2,q.2)):=ahZ (by rw [HE.out,if_pos hqe])
   have OC : (q.2.2 != 0) = true:=by simpa using hqe
   clear HE wo
   go_wp2
   exact bodyPost_ret (v:=.tuple #[.agg #[.int .i64 0,.int .i64 0,.int .i64 0,.int .i64 0,.int .i64 0,.int .i64 0,.int .i64 0,.int .i64 0,.int .u16 0],.int .i64 q.2.2])
    (by
      have hh:=mD (v0:=.int .i64 0) (v1:=.int .i64 0) (v2:=.int .i64 0) (v3:=.int .i64 0) (v4:=.int .i64 0) (v5:=.int .i64 0) (v6:=.int .i64 0) (v7:=.int .i64 0) (v8:=.int .u16 0) qE.out
      have g0:=hh.cell 0
      have g1:=hh.cell 1
      have g2:=hh.cell 2
      have g3:=hh.cell 3
      have g4:=hh.cell 4
      have g5:=hh.cell 5
      have g6:=hh.cell 6
      have g7:=hh.cell 7
      have g8:=hh.cell 8
      simp at g0 g1 g2 g3 g4 g5 g6 g7 g8
      simp [results,Tryz.results197,go_sem,g0,g1,g2,g3,g4,g5,g6,g7,g8]) rfl
    ⟨by rw [HZ.out],by rw [HZ.out];exact rW mF.out (Ne.symm nO.out) hB0,pX sM.out (.inr (Nat.le_refl _))⟩
 ·have hq : q = (⟨k,last + 1 + u,0,0,0,0,0,0,0⟩,fI 11 s2):=by rw [wo.out];unfold rdKind;rw [if_neg (by omega),if_neg (by omega),if_neg (by omega)]
  have ra:=fl _ dS.out
  have hk5 : ¬ k < 4:=by omega
  go_wp2_with fail
  refine ra.mono ?_;rintro e w5 ⟨rfl,iO,UR⟩
  have cZ : ak w5 (w.heap.size + 1) (aZ q.1) 147:=by rw [hq];exact UR.blk fH.out hne2
  have Zp : bB w5 R B0 q.2:=by rw [hq];exact iO
  have fU:=UR.weaken (T:=λk=>k = R \/ k = w.heap.size + 1) (λk _ hk=>.inl hk)
  clear ra hq iO UR
  have iO:=Zp
  clear Zp
  have qE:=ahZ (fU.blk Dx.out (by omega))
  have sM:=ahZ (d9.out.bQ fU (λi hi hk=>by omega))
  have mF:=ahZ iO
  have uV:=ahZ cZ
  clear iO cZ fU dS fH Dx d9 d0 RA RS RN fl
  have e1:=er _ _ mF.out
  go_wp2_with fail
  refine e1.mono ?_;rintro e w6 ⟨rfl,rfl⟩
  have bD:=qE.out
  have cZ:=uV.out
  unfold aZ at cZ
  have c0:=bD.cell 0
  have f0:=bD.free 0
  have x0:=cZ.cell 0
  have c1:=bD.cell 1
  have f1:=bD.free 1
  have x1:=cZ.cell 1
  have c2:=bD.cell 2
  have f2:=bD.free 2
  have x2:=cZ.cell 2
  have c3:=bD.cell 3
  have f3:=bD.free 3
  have x3:=cZ.cell 3
  have c4:=bD.cell 4
  have f4:=bD.free 4
  have x4:=cZ.cell 4
  have c5:=bD.cell 5
  have f5:=bD.free 5
  have x5:=cZ.cell 5
  have c6:=bD.cell 6
  have f6:=bD.free 6
  have x6:=cZ.cell 6
  have c7:=bD.cell 7
  have f7:=bD.free 7
  have x7:=cZ.cell 7
  have c8:=bD.cell 8
  have f8:=bD.free 8
  have x8:=cZ.cell 8
  simp at c0 c1 c2 c3 c4 c5 c6 c7 c8 x0 x1 x2 x3 x4 x5 x6 x7 x8
  clear e1 bD cZ er uV
  by_cases hqe : q.2.2 = 0
  ·have HZ : Hid (z = (q.1,0,q.2)):=ahZ (by rw [HE.out,if_neg (by simpa using hqe)])
   clear HE wo
   go_wp2
   exact bodyPost_ret (v:=.tuple #[.agg #[.int .i64 q.1.kind,.int .i64 q.1.id,.int .i64 q.1.px,.int .i64 q.1.py,.int .i64 q.1.pz,.int .i64 q.1.vx,.int .i64 q.1.vy,.int .i64 q.1.vz,.int .u16 q.1.aI],.int .i64 0])
    (by
      have hh:=mD (v0:=.int .i64 q.1.kind) (v1:=.int .i64 q.1.id) (v2:=.int .i64 q.1.px) (v3:=.int .i64 q.1.py) (v4:=.int .i64 q.1.pz) (v5:=.int .i64 q.1.vx) (v6:=.int .i64 q.1.vy) (v7:=.int .i64 q.1.vz) (v8:=.int .u16 q.1.aI) qE.out
      have g0:=hh.cell 0
      have g1:=hh.cell 1
      have g2:=hh.cell 2
      have g3:=hh.cell 3
      have g4:=hh.cell 4
      have g5:=hh.cell 5
      have g6:=hh.cell 6
      have g7:=hh.cell 7
      have g8:=hh.cell 8
      simp at g0 g1 g2 g3 g4 g5 g6 g7 g8
      simp [results,Tryz.results197,go_sem,g0,g1,g2,g3,g4,g5,g6,g7,g8]) rfl
    ⟨by rw [HZ.out],by rw [HZ.out];exact rW mF.out (Ne.symm nO.out) hB0,pX sM.out (.inr (Nat.le_refl _))⟩
  ·have HZ : Hid (z = (⟨0,0,0,0,0,0,0,0,0⟩,q.2.2,q.2)):=ahZ (by rw [HE.out,if_pos hqe])
   have OC : (q.2.2 != 0) = true:=by simpa using hqe
   clear HE wo
   go_wp2
   exact bodyPost_ret (v:=.tuple #[.agg #[.int .i64 0,.int .i64 0,.int .i64 0,.int .i64 0,.int .i64 0,.int .i64 0,.int .i64 0,.int .i64 0,.int .u16 0],.int .i64 q.2.2])
    (by
      have hh:=mD (v0:=.int .i64 0) (v1:=.int .i64 0) (v2:=.int .i64 0) (v3:=.int .i64 0) (v4:=.int .i64 0) (v5:=.int .i64 0) (v6:=.int .i64 0) (v7:=.int .i64 0) (v8:=.int .u16 0) qE.out
      have g0:=hh.cell 0
      have g1:=hh.cell 1
      have g2:=hh.cell 2
      have g3:=hh.cell 3
      have g4:=hh.cell 4
      have g5:=hh.cell 5
      have g6:=hh.cell 6
      have g7:=hh.cell 7
      have g8:=hh.cell 8
      simp at g0 g1 g2 g3 g4 g5 g6 g7 g8
      simp [results,Tryz.results197,go_sem,g0,g1,g2,g3,g4,g5,g6,g7,g8]) rfl
    ⟨by rw [HZ.out],by rw [HZ.out];exact rW mF.out (Ne.symm nO.out) hB0,pX sM.out (.inr (Nat.le_refl _))⟩
theorem XT {B0 : Nat} (R : Nat) (s : aH) (last : Int) (h1 : -1 <= last) (h2 : last <= 65535) (w : World) (h : bB w R B0 s) (hB0 : B0 <= w.heap.size) :
  Calls Tryz.prog 197 #[.pointer (some ⟨R,0,none⟩),.int .i64 last] w λe w'=>e = .returned (.tuple #[lI (dN last s).1,.int .i64 (dN last s).2.1]) /\ bB w' R B0 (dN last s).2.2 /\ Only (· = R) w w':=by
 by_cases hl : last = 65535
 ·exact UO R s last hl w h hB0
 ·exact UQ R s last h1 (by omega) w h hB0
end Go.Proofs.YtklkooeimkedgaaGreat
namespace Go.Proofs.YtklkooeimkedgaaGreat
open Go.RowKit
set_option maxRecDepth 8000
theorem abJ (v : Value) (X : Nat) (w : World) : Calls Tryz.prog 152 #[v, .pointer (some ⟨X, 0, none⟩)] w λe w' => e = .returned v /\ w = w' := by
  go_enter Tryz.func152, Tryz.ntmps152
  go_wp2
  go_ret
  exact ⟨rfl, rfl⟩
def XU (base : Nat) (ys : List Int) : Spec := ⟨λ_ => True, λv W => bf W base v ys, ⟨undef, trivial⟩, λ_ _ _ h hb => h.below hb⟩
def Ry (ys : List Int) : Spec := ⟨λ_ => True, λv W => ∃ g, v = .slice (some ⟨g, 0, none⟩) ys.length ys.length /\ BytesAt W (some ⟨g, 0, none⟩) ys.length ys, ⟨undef, trivial⟩, λ_ _ _ ⟨g, e, h⟩ hb => ⟨g, e, h.below hb⟩⟩
set_option maxHeartbeats 1000000 in
theorem Zq (r : Rec) (hr : r.Ok) (last : Int) (w : World) (h : iq r last = 0) :
    Calls Tryz.prog 75 #[lI r, .int .i64 last] w λe w' => ∃ v, e = .returned (.tuple #[v, .int .i64 0]) /\ bf w' w.heap.size v (nN r last) /\ Below w.heap.size w w' := by
  have ck := λw => J6 r w
  have WA := λv zs X base w => Ov v zs X r hr base w
  have WM := λv zs X base w => LU v zs X r hr base w
  obtain ⟨hc0, hl0, agQ, k0, k3, i0, i1⟩ := xH h
  have hl1 : ¬ last < -1 := by omega
  have hl2 : ¬ 65535 < last := by omega
  have hid : ¬ r.id <= last := by omega
  rw [hc0] at ck
  clear h hc0
  obtain ⟨k, id, px, py, pz, vx, vy, vz, an⟩ := r
  unfold lI at *
  simp only at *
  have hB0 : Hid (Below w.heap.size w (w.alloc (.cells #[.int .i64 k, .int .i64 id, .int .i64 px, .int .i64 py, .int .i64 pz, .int .i64 vx, .int .i64 vy, .int .i64 vz, .int .u16 an] 147))) := ahZ ((Below.refl _ _).alloc (Nat.le_refl _) _)
  have abK : Hid (pW ⟨k, id, px, py, pz, vx, vy, vz, an⟩ = if k = 2 then [] else if k = 1 then vB ⟨k, id, px, py, pz, vx, vy, vz, an⟩ else nb (aj ⟨k, id, px, py, pz, vx, vy, vz, an⟩) ++ aD an) := ahZ (by unfold pW; rfl)
  have HWB : Hid (nN ⟨k, id, px, py, pz, vx, vy, vz, an⟩ last = aD (id - last - 1) ++ [k] ++ pW ⟨k, id, px, py, pz, vx, vy, vz, an⟩) := ahZ rfl
  generalize nN ⟨k, id, px, py, pz, vx, vy, vz, an⟩ last = wb at *
  generalize pW ⟨k, id, px, py, pz, vx, vy, vz, an⟩ = rb at *
  have hu : iD (id - last - 1) := ⟨by omega, by omega⟩
  have pt := λw => nL (id - last - 1) hu w
  have hln := dK hu
  rw [← eu] at hln
  have hw1 : wrap64 (id - last) = id - last := by unfold wrap64; omega
  have hw2 : wrap64 (id - last - 1) = id - last - 1 := by unfold wrap64; omega
  have uI : IntKind.i64.wrap (id - last) = id - last := by rw [IntKind.wrap_i64]; omega
  have Rz : IntKind.i64.wrap (id - last - 1) = id - last - 1 := by rw [IntKind.wrap_i64]; omega
  have hw3 : IntKind.u64.wrap (id - last - 1) = id - last - 1 := wraps_u64 _ (by omega) (by omega)
  have hw4 : IntKind.u8.wrap k = k := wraps_u8 _ (by omega) (by omega)
  generalize hys : aD (id - last - 1) = ys at *
  have HYS := ahZ hys
  clear hys
  go_enter Tryz.func75, Tryz.ntmps75
  go_wp2_with fail
  refine (ck _).mono ?_; rintro e w1 ⟨rfl, hb1⟩
  have HB1 := ahZ (hB0.out.trans (hb1.mono (by simp)))
  have hX1 := (ak.new w #[.int .i64 k, .int .i64 id, .int .i64 px, .int .i64 py, .int .i64 pz, .int .i64 vx, .int .i64 vy, .int .i64 vz, .int .u16 an] 147).below hb1 (by simp)
  have HX := ahZ hX1
  have hs1 : w.heap.size + 1 <= w1.heap.size := hX1.lt
  have c0 := hX1.cell 0
  have c1 := hX1.cell 1
  simp at c0 c1
  clear hb1 ck hX1 hB0
  go_wp2_with fail
  apply bZ 11
  case hm => kernel_rfl
  case hB => kernel_rfl
  simp only [List.take_succ_cons, List.take_zero, List.drop_succ_cons, List.drop_zero]
  repeat (apply bJ; (next => (intro W hW K hK; have y0 := hW.cell c0; have y1 := hW.cell c1; go_simp; first | exact ⟨Below.refl _ _, hK⟩ | exact hK)); (try go_simp))
  apply tY (s := XU (w.heap.size + 1) ys) rfl
  · intro W hW
    have p1 := pt W
    go_simp
    refine p1.mono ?_; rintro e w' ⟨v, rfl, ho, hb⟩
    exact ⟨v, rfl, hb, trivial, ho.base (Nat.le_trans hs1 (Below.size hW))⟩
  intro v1 _
  repeat (apply bJ; (next => (intro W hW K hK; have y0 := hW.cell c0; have y1 := hW.cell c1; go_simp; first | exact ⟨Below.refl _ _, hK⟩ | exact hK)); (try go_simp))
  apply tY (s := Ry [k]) rfl
  · intro W hW
    go_simp
    exact ⟨(Below.refl _ _).alloc (Nat.le_refl _) _, trivial, _, rfl, D6 W [k] (aX.one ⟨by omega, by omega⟩)⟩
  intro v2 _
  refine dL ?_
  intro WC aM hC
  obtain ⟨ho1, g, rfl, hb2⟩ := hC
  have hyl : ys.length + 1 <= 140737488355328 := by omega
  simp only [List.length_singleton] at hb2 ⊢
  have oO : Hid (bf WC (w.heap.size + 1) v1 ys) := ahZ ho1
  have HB2 := ahZ (HB1.out.trans (Below.mono aM HB1.out.size))
  have gy := ahZ (HX.out.below aM HX.out.lt)
  have hs2 : w.heap.size + 1 <= WC.heap.size := Nat.le_trans hs1 (Below.size aM)
  clear ho1 aM HB1 HX pt c0 c1
  go_wp2_with (at_builtin; refine bG _ rfl (.tmp 31) (.tmp 35) rfl (w.heap.size + 1) _ ys rfl oO.out (some ⟨g, 0, none⟩) 1 1 [k] rfl hb2 (by intro h; cases h) hyl (by omega) ?_)
  intro v3 w3 ho3 hg3
  have uJ : Below (w.heap.size + 1) WC w3 := (Below.refl _ _).grown hg3 (by omega) (λj e => (oO.out.lt j e).1)
  have HB3 := ahZ (HB2.out.trans (uJ.mono (Nat.le_succ _)))
  have dU := gy.out.below uJ (Nat.lt_succ_self _)
  have hs3 : w.heap.size + 1 <= w3.heap.size := dU.lt
  have iN := ahZ dU
  have fT := ahZ ho3
  have c0 := dU.cell 0
  simp at c0
  have wa := λW => WA v3 (ys ++ [k]) w.heap.size (w.heap.size + 1) W
  have wm := λW => WM v3 (ys ++ [k]) w.heap.size (w.heap.size + 1) W
  have n1 : ∀ W, _ := λW => abJ v3 w.heap.size W
  have kk := λW => MN W
  unfold sK at kk
  have HLEN : Hid (((ys ++ [k]).length : Int) <= 140737488354000) := ahZ (by simp; omega)
  generalize hzs : ys ++ [k] = zs at *
  have HZS := ahZ hzs
  clear ho3 hg3 uJ hb2 oO HB2 gy dU hzs WA WM hyl hw1 hw2 hw3 hw4 uI Rz hu hln
  have hkk : k = 0 \/ k = 1 \/ k = 2 \/ k = 3 := by omega
  clear k0 k3
  rcases hkk with rfl | rfl | rfl | rfl
  all_goals
    go_wp2_with fail
    have hkz : Tryz.prog.types[209].size = 2 := by kernel_rfl
    apply bZ 6
    case hm => kernel_rfl
    case hB => kernel_rfl
    simp only [List.take_succ_cons, List.take_zero, List.drop_succ_cons, List.drop_zero]
    (apply bJ; (next => (intro W hW K hK; go_simp; first | exact ⟨Below.refl _ _, _, (kk W).mono (λ_ _ h => h), hK⟩ | exact ⟨_, (kk W).mono (λ_ _ h => h), hK⟩)); (try go_simp))
    repeat (apply bJ; (next => (intro W hW K hK; have y0 := hW.cell c0; go_simp; first | exact ⟨Below.refl _ _, hK⟩ | exact hK)); (try go_simp))
    refine dL ?_
    intro WD Kg _
    have Ai := ahZ (fT.out.below Kg)
    have Fa := ahZ (iN.out.below Kg iN.out.lt)
    have gF := ahZ (HB3.out.trans (Below.mono Kg HB3.out.size))
    have hs4 : w.heap.size + 1 <= WD.heap.size := Nat.le_trans hs3 (Below.size Kg)
    have wa1 := wa WD Ai.out (by simpa [aZ] using Fa.out) (Nat.lt_succ_self _) HLEN.out hs4
    have wm1 := wm WD Ai.out (by simpa [aZ] using Fa.out) (Nat.lt_succ_self _) HLEN.out hs4
    clear Kg iN fT HB3 wa wm kk c0
    go_wp2_with fail
    first
    | (refine wa1.mono ?_; rintro e w5 ⟨v5, rfl, nP, hb5⟩)
    | (refine wm1.mono ?_; rintro e w5 ⟨v5, rfl, nP, hb5⟩)
    | (refine (n1 _).mono ?_; rintro e w5 ⟨rfl, rfl⟩
       have nP : bf WD (w.heap.size + 1) v3 (zs ++ []) := by rw [List.append_nil]; exact Ai.out
       have hb5 : Below (w.heap.size + 1) WD WD := Below.refl _ _)
    have kZ := ahZ (gF.out.trans (hb5.mono (Nat.le_succ _)))
    have d9 := ahZ (nP.base (base' := w.heap.size) (Nat.le_succ _))
    clear nP hb5 wa1 wm1 Fa Ai gF
    go_wp2
    refine bodyPost_ret (v := .tuple #[_, .int .i64 0]) (by simp [results, Tryz.results75, go_sem]; rfl) rfl ⟨_, rfl, ?_, kZ.out⟩
    rw [HWB.out, abK.out]
    first
    | (rw [if_pos rfl]; exact d9.out)
    | (rw [if_pos trivial]; exact d9.out)
    | (rw [if_neg (by decide), if_pos rfl]; exact d9.out)
    | (rw [if_neg (by decide), if_pos trivial]; exact d9.out)
    | (rw [if_neg (by decide), if_neg (by decide), ← List.append_assoc]; exact d9.out)
end Go.Proofs.YtklkooeimkedgaaGreat
namespace Go.Proofs.YtklkooeimkedgaaGreat
open Go.RowKit
set_option maxRecDepth 8000
theorem Bg (t : Int) (w : World) : Calls Tryz.prog 108 #[.int .i64 t] w λe w'=>e = .returned (.bool (decide (mq t))) /\ w = w':=by
 have e : decide (mq t) = (decide (-2305843009213693952 <= t) && decide (t <= 2305843009213693952)):=by
  rw [← Bool.decide_and];exact decide_eq_decide.2 Iff.rfl
 rw [e]
 by_cases h1 : -2305843009213693952 <= t
 ·by_cases h2 : t <= 2305843009213693952
  ·go_enter Tryz.func108,Tryz.ntmps108
   go_wp2
   go_ret
   exact ⟨by simp [h1,h2],rfl⟩
  ·go_enter Tryz.func108,Tryz.ntmps108
   go_wp2
   go_ret
   exact ⟨by simp [h1,h2],rfl⟩
 ·go_enter Tryz.func108,Tryz.ntmps108
  go_wp2
  go_ret
  exact ⟨by simp [h1];omega,rfl⟩
def wD (tick time base : Int) (a : Option Addr) (len cap : Nat) : Value:=.agg #[.int .i64 tick,.int .i64 time,.int .i64 base,.slice a len cap]
set_option maxHeartbeats 1000000 in
theorem RB (tick time base : Int) (a : Option Addr) (len cap : Nat) (w : World) (h : iB tick time base len ≠ 0) :
  Calls Tryz.prog 74 #[wD tick time base a len cap] w λe w'=>e = .returned (.tuple #[.slice none 0 0,.int .i64 (iB tick time base len)]) /\ Below w.heap.size w w':=by
 have HE : Hid (iB tick time base len = if tick < 0 \/ 4294967295 < tick \/ time < -2305843009213693952 \/ 2305843009213693952 < time \/ base < -1 then 3 else if tick <= base then 10 else if 128 < len then 8 else 0):=ahZ rfl
 have tm:=λw=>Bg time w
 have HB : Hid (Below w.heap.size w (w.alloc (.cells #[.int .i64 tick,.int .i64 time,.int .i64 base,.slice a len cap] 39))):=ahZ ((Below.refl _ _).alloc (Nat.le_refl _) _)
 generalize iB tick time base len = er at *
 unfold wD
 by_cases h1 : tick < 0 \/ 4294967295 < tick \/ time < -2305843009213693952 \/ 2305843009213693952 < time \/ base < -1
 ·have HV : Hid (er = 3):=ahZ (by rw [HE.out,if_pos h1])
  clear HE h
  by_cases a1 : tick < 0
  ·go_enter Tryz.func74,Tryz.ntmps74
   go_wp2
   exact bodyPost_ret (v:=.tuple #[.slice none 0 0,.int .i64 3]) (by simp [results,Tryz.results74,go_sem]) rfl ⟨by rw [HV.out],HB.out⟩
  by_cases a2 : 4294967295 < tick
  ·go_enter Tryz.func74,Tryz.ntmps74
   go_wp2
   exact bodyPost_ret (v:=.tuple #[.slice none 0 0,.int .i64 3]) (by simp [results,Tryz.results74,go_sem]) rfl ⟨by rw [HV.out],HB.out⟩
  by_cases a3 : mq time
  ·have a4 : base < -1:=by unfold mq at a3;omega
   rw [decide_eq_true a3] at tm
   clear a3 h1
   go_enter Tryz.func74,Tryz.ntmps74
   go_wp2_with fail
   refine (tm _).mono ?_;rintro e w1 ⟨rfl,rfl⟩
   go_wp2
   exact bodyPost_ret (v:=.tuple #[.slice none 0 0,.int .i64 3]) (by simp [results,Tryz.results74,go_sem]) rfl ⟨by rw [HV.out],HB.out⟩
  ·rw [decide_eq_false a3] at tm
   clear a3 h1
   go_enter Tryz.func74,Tryz.ntmps74
   go_wp2_with fail
   refine (tm _).mono ?_;rintro e w1 ⟨rfl,rfl⟩
   go_wp2
   exact bodyPost_ret (v:=.tuple #[.slice none 0 0,.int .i64 3]) (by simp [results,Tryz.results74,go_sem]) rfl ⟨by rw [HV.out],HB.out⟩
 ·have a1 : ¬ tick < 0:=by omega
  have a2 : ¬ 4294967295 < tick:=by omega
  have a3 : mq time:=⟨by omega,by omega⟩
  have a4 : ¬ base < -1:=by omega
  rw [decide_eq_true a3] at tm
  by_cases h2 : tick <= base
  ·have HV : Hid (er = 10):=ahZ (by rw [HE.out,if_neg h1,if_pos h2])
   clear HE h h1 a3
   go_enter Tryz.func74,Tryz.ntmps74
   go_wp2_with fail
   refine (tm _).mono ?_;rintro e w1 ⟨rfl,rfl⟩
   go_wp2
   exact bodyPost_ret (v:=.tuple #[.slice none 0 0,.int .i64 10]) (by simp [results,Tryz.results74,go_sem]) rfl ⟨by rw [HV.out],HB.out⟩
  ·have h3 : (128 : Int) < len:=by
    rcases Nat.lt_or_ge 128 len with hh | hh
    ·omega
    ·exfalso;apply h;rw [HE.out,if_neg h1,if_neg h2,if_neg (by omega)]
   have HV : Hid (er = 8):=ahZ (by rw [HE.out,if_neg h1,if_neg h2,if_pos (by omega)])
   clear HE h h1 a3
   go_enter Tryz.func74,Tryz.ntmps74
   go_wp2_with fail
   refine (tm _).mono ?_;rintro e w1 ⟨rfl,rfl⟩
   go_wp2
   exact bodyPost_ret (v:=.tuple #[.slice none 0 0,.int .i64 8]) (by simp [results,Tryz.results74,go_sem]) rfl ⟨by rw [HV.out],HB.out⟩
def qJ (l : List Int) : List Value:=l.map (Value.int .u64)
def MU (l : List Int) : Spec:=⟨λv=>∃ g,v = .slice (some ⟨g,0,none⟩) l.length l.length,λv W=>∃ g,v = .slice (some ⟨g,0,none⟩) l.length l.length /\ ak W g (qJ l).toArray 114,⟨_,0,rfl⟩,λ_ _ _ ⟨g,e,h⟩ hb=>⟨g,e,h.below hb h.lt⟩⟩
theorem bK {w : World} {base k n : Nat} {e t : TypeId} {v : Value} {xs : List Value} (h : w.ownsRow base e k v n xs) {g : Nat} {cs : Array Value} (hb : ak w g cs t) (ht : t ≠ e) : v.ownBlock ≠ some g:=by
 intro hg
 obtain ⟨_,⟨rfl,_⟩ | ⟨g',cap,cur,rfl,_,hh,_⟩⟩:=h
 ·cases hg
 ·cases hg
  unfold ak at hb
  rw [hb] at hh
  cases hh
  exact ht rfl
theorem ak.grown {w w' : World} {b : Nat} {cs : Array Value} {t : TypeId} {row : Option Nat} (h : ak w b cs t) (hg : w.grownBy w' row) (hn : row ≠ some b) : ak w' b cs t:=by
 have hl:=h.lt
 unfold ak at *
 rw [hg.block b hl (λe=>hn e.symm)];exact h
def qK (w : World) (g : Nat) (ns : List Int) (k : Nat) (v : Value) (wr : World) : Prop :=
 bf wr (w.heap.size + 1) v ([71,1] ++ (ns.take k).flatMap aD) /\ ak wr g (qJ ns).toArray 114 /\ Below w.heap.size w wr /\ w.heap.size + 1 <= wr.heap.size
theorem xJ {a b c d : Int} (ha : iD a) (hb : iD b) (hc : iD c) (hd : iD d) (k : Nat) (hk : k <= 3) : ([71,1] ++ ([a,b,c,d].take k).flatMap aD).length <= 32:=by
 have h1:=dK ha
 have h2:=dK hb
 have h3:=dK hc
 rcases (show k = 0 \/ k = 1 \/ k = 2 \/ k = 3 by omega) with rfl | rfl | rfl | rfl <;> simp [eu] <;> omega
set_option maxHeartbeats 2000000 in
theorem UU (tick time base : Int) (ht : aA time) (a : Option Addr) (len cap : Nat) (w : World) (h : iB tick time base len = 0) :
  Calls Tryz.prog 74 #[wD tick time base a len cap] w λe w'=>∃ v,e = .returned (.tuple #[v,.int .i64 0]) /\ bf w' w.heap.size v (vC tick time base len) /\ Below w.heap.size w w':=by
 have tm:=λw=>Bg time w
 have zg:=λw=>V8 time ht w
 have hz:=sV ht
 obtain ⟨a1,a2,a3,a4,h2,h3⟩ : ¬ tick < 0 /\ ¬ 4294967295 < tick /\ mq time /\ ¬ base < -1 /\ ¬ tick <= base /\ ¬ (128 : Int) < len:=by
  unfold iB at h
  split at h
  ·cases h
  split at h
  ·cases h
  split at h
  ·cases h
  exact ⟨by omega,by omega,⟨by omega,by omega⟩,by omega,by omega,by omega⟩
 rw [decide_eq_true a3] at tm
 have hbk : 0 <= iK tick base /\ iK tick base <= tick:=by unfold iK;split <;> omega
 have Wi : Hid (iK tick base = if 0 <= base then tick - base else 0):=ahZ rfl
 have HH : Hid (vC tick time base len = [71,1] ++ aD tick ++ aD (kS time) ++ aD (iK tick base) ++ aD len):=ahZ rfl
 generalize vC tick time base len = hb at *
 generalize iK tick base = bk at *
 generalize kS time = zt at *
 clear a3 h
 unfold wD
 have w1 : IntKind.u64.wrap tick = tick:=wraps_u64 _ (by omega) (by omega)
 have w2 : IntKind.u64.wrap (len : Int) = len:=wraps_u64 _ (by omega) (by omega)
 have HB : Hid (Below w.heap.size w (w.alloc (.cells #[.int .i64 tick,.int .i64 time,.int .i64 base,.slice a len cap] 39))):=ahZ ((Below.refl _ _).alloc (Nat.le_refl _) _)
 have Aj : Hid (iD tick):=ahZ ⟨by omega,by omega⟩
 have Ak : Hid (iD zt):=ahZ hz
 have Am : Hid (iD (len : Int)):=ahZ ⟨by omega,by omega⟩
 have HGN : Hid (w.heap.size <= w.heap.size):=ahZ (Nat.le_refl _)
 clear hz
 by_cases hbase : 0 <= base
 ·have hk : bk = tick - base:=by rw [Wi.out,if_pos hbase]
  subst hk
  have w3 : wrap64 (tick - base) = tick - base:=by unfold wrap64;omega
  have w4 : IntKind.u64.wrap (tick - base) = tick - base:=wraps_u64 _ (by omega) (by omega)
  have zi : Hid (iD (tick - base)):=ahZ ⟨by omega,by omega⟩
  clear Wi hbk
  have hG:=(ak.new w #[.int .i64 tick,.int .i64 time,.int .i64 base,.slice a len cap] 39).alloc (.cells #[.int .u8 71,.int .u8 1] 5)
  have G0 : ((w.alloc (.cells #[.int .i64 tick,.int .i64 time,.int .i64 base,.slice a len cap] 39)).alloc (.cells #[.int .u8 71,.int .u8 1] 5)).cell? ⟨w.heap.size,0,none⟩ = some (.int .i64 tick):=hG.cell 0
  have G1 : ((w.alloc (.cells #[.int .i64 tick,.int .i64 time,.int .i64 base,.slice a len cap] 39)).alloc (.cells #[.int .u8 71,.int .u8 1] 5)).cell? ⟨w.heap.size,1,none⟩ = some (.int .i64 time):=hG.cell 1
  have G3 : ((w.alloc (.cells #[.int .i64 tick,.int .i64 time,.int .i64 base,.slice a len cap] 39)).alloc (.cells #[.int .u8 71,.int .u8 1] 5)).cell? ⟨w.heap.size,3,none⟩ = some (.slice a len cap):=hG.cell 3
  clear hG
  go_enter Tryz.func74,Tryz.ntmps74
  go_wp2_with fail
  refine (tm _).mono ?_;rintro e w1 ⟨rfl,rfl⟩
  go_wp2_with fail
  apply wC
  case hm=>kernel_rfl
  case hB=>kernel_rfl
  repeat (apply bJ;(next=>(intro W hW K hK;have y0:=hW.cell G0;have y1:=hW.cell G1;have y2:=hW.cell G3;go_simp;first | exact ⟨Below.refl _ _,hK⟩ | exact hK));(try go_simp))
  (apply bJ;(next=>(intro W hW K hK;go_simp;exact ⟨Below.refl _ _,_,(zg W).mono (λe w' hh=>⟨hh.1,hh.2 ▸ Below.refl _ _⟩),hK⟩));(try go_simp))
  repeat (apply bJ;(next=>(intro W hW K hK;have y0:=hW.cell G0;have y1:=hW.cell G1;have y2:=hW.cell G3;go_simp;first | exact ⟨Below.refl _ _,hK⟩ | exact hK));(try go_simp))
  apply tY (s:=MU [tick,zt,(tick - base),(len : Int)]) rfl
  ·intro W hW
   go_simp
   exact ⟨(Below.refl _ _).alloc (Nat.le_refl _) _,⟨_,rfl⟩,_,rfl,ak.new W _ _⟩
  intro vv hvv
  obtain ⟨g,rfl⟩:=hvv
  repeat (apply bJ;(next=>(intro W hW K hK;go_simp;first | exact ⟨Below.refl _ _,hK⟩ | exact hK));(try go_simp))
  refine dL ?_
  intro WC aM hC
  obtain ⟨g',hg',hU⟩:=hC
  cases hg'
  have HB1 : Hid (Below w.heap.size w WC):=ahZ ((((Below.refl _ _).alloc (Nat.le_refl _) _).alloc (by simp) _).trans (Below.mono aM (by simp;omega)))
  have hbs : w.heap.size + 1 <= WC.heap.size:=by have:=Below.size aM;simp at this;omega
  have HZ0 : Hid (bf WC (w.heap.size + 1) (.slice (some ⟨w.heap.size + 1,0,none⟩) 2 2) [71,1]):=ahZ ((by
   have hb:=ak.new (w.alloc (.cells #[.int .i64 tick,.int .i64 time,.int .i64 base,.slice a len cap] 39)) #[.int .u8 71,.int .u8 1] 5
   rw [show (w.alloc (.cells #[.int .i64 tick,.int .i64 time,.int .i64 base,.slice a len cap] 39)).heap.size = w.heap.size + 1 by simp] at hb
   exact (bf.Oa (zs:=[71,1]) (Nat.le_refl _) hb (by simp [maxLen]) (by intro z hz;simp at hz;rcases hz with rfl | rfl <;> exact ⟨by decide,by decide⟩)).below aM))
  have HS : Hid (qK w g [tick,zt,(tick - base),(len : Int)] 0 (.slice (some ⟨w.heap.size + 1,0,none⟩) 2 2) WC):=ahZ ⟨by simpa using HZ0.out,by simpa [qJ] using hU,HB1.out,hbs⟩
  clear hU aM HB1 HZ0 G0 G1 G3 zg tm
  go_wp2_with fail
  go_loopw [5,62] (λv i wr=>∃ k : Nat,k <= 4 /\ i = .int .i64 k /\ qK w g [tick,zt,(tick - base),(len : Int)] k v wr) (λ_ i _=>4 - (intOf i).toNat)
  case atStart=>exact ⟨0,by omega,rfl,HS.out⟩
  case round =>
   rename_i wr
   obtain ⟨k,hk,rfl,hO,hU,hB,hN⟩:=hrel
   have aei : w.heap.size + 1 <= wr.heap.size:=hN
   rcases (show k = 0 \/ k = 1 \/ k = 2 \/ k = 3 \/ k = 4 by omega) with rfl | rfl | rfl | rfl | rfl
   ·have c0:=hU.cell 0
    simp [qJ] at c0
    have pt:=nL tick Aj.out wr
    have HL : Hid ((aD tick).length <= 10):=ahZ (by rw [eu];exact dK Aj.out)
    have HP : Hid (([71,1] ++ ([tick,zt,(tick - base),(len : Int)].take 0).flatMap aD).length <= 32):=ahZ (xJ Aj.out Ak.out zi.out Am.out 0 (by decide))
    have HQ : Hid (([71,1] ++ ([tick,zt,(tick - base),(len : Int)].take 0).flatMap aD) ++ aD tick = [71,1] ++ ([tick,zt,(tick - base),(len : Int)].take 1).flatMap aD):=ahZ (by simp)
    have HO:=ahZ hO
    have HU:=ahZ hU
    have HB:=ahZ hB
    clear hO hU hB
    generalize [71,1] ++ ([tick,zt,(tick - base),(len : Int)].take 0).flatMap aD = zs at *
    generalize aD tick = ys at *
    go_wp2_with fail
    refine pt.mono ?_;rintro e w2 ⟨v1,rfl,ho1,hb1⟩
    obtain ⟨ad,c,rfl,hba,hac⟩:=ho1.bytes
    have hs1:=hb1.size
    have hO2:=HO.out.below hb1
    have iG:=ahZ (HU.out.below hb1 HU.out.lt)
    have HB2:=ahZ (HB.out.trans (hb1.mono (by omega)))
    have bT:=ahZ hO2
    clear ho1 hb1 hO2 pt HO HU HB
    have hyl : zs.length + ys.length <= 140737488355328:=by have:=HL.out;have:=HP.out;omega
    go_wp2_with (at_builtin;refine bG _ rfl (.tmp 66) (.tmp 68) rfl (w.heap.size + 1) _ zs rfl bT.out ad ys.length c ys rfl hba hac hyl (by omega) ?_)
    intro v2 w3 ho2 hg2
    have HS2 : Hid (qK w g [tick,zt,(tick - base),(len : Int)] 1 v2 w3):=ahZ ⟨by rw [← HQ.out];exact ho2,iG.out.grown hg2 (bK bT.out.1 iG.out (by decide)),HB2.out.grown hg2 (by omega) (λj e=>Nat.le_trans (Nat.le_succ _) (bT.out.lt j e).1),Nat.le_trans (by omega) hg2.size⟩
    clear ho2 hg2 bT iG HB2 hba
    go_wp2
    go_roundw
    case rel=>exact ⟨1,by omega,by first | rfl | go_num,HS2.out⟩
    case measure=>simp [intOf]
   ·have c0:=hU.cell 1
    simp [qJ] at c0
    have pt:=nL zt Ak.out wr
    have HL : Hid ((aD zt).length <= 10):=ahZ (by rw [eu];exact dK Ak.out)
    have HP : Hid (([71,1] ++ ([tick,zt,(tick - base),(len : Int)].take 1).flatMap aD).length <= 32):=ahZ (xJ Aj.out Ak.out zi.out Am.out 1 (by decide))
    have HQ : Hid (([71,1] ++ ([tick,zt,(tick - base),(len : Int)].take 1).flatMap aD) ++ aD zt = [71,1] ++ ([tick,zt,(tick - base),(len : Int)].take 2).flatMap aD):=ahZ (by simp)
    have HO:=ahZ hO
    have HU:=ahZ hU
    have HB:=ahZ hB
    clear hO hU hB
    generalize [71,1] ++ ([tick,zt,(tick - base),(len : Int)].take 1).flatMap aD = zs at *
    generalize aD zt = ys at *
    go_wp2_with fail
    refine pt.mono ?_;rintro e w2 ⟨v1,rfl,ho1,hb1⟩
    obtain ⟨ad,c,rfl,hba,hac⟩:=ho1.bytes
    have hs1:=hb1.size
    have hO2:=HO.out.below hb1
    have iG:=ahZ (HU.out.below hb1 HU.out.lt)
    have HB2:=ahZ (HB.out.trans (hb1.mono (by omega)))
    have bT:=ahZ hO2
    clear ho1 hb1 hO2 pt HO HU HB
    have hyl : zs.length + ys.length <= 140737488355328:=by have:=HL.out;have:=HP.out;omega
    go_wp2_with (at_builtin;refine bG _ rfl (.tmp 66) (.tmp 68) rfl (w.heap.size + 1) _ zs rfl bT.out ad ys.length c ys rfl hba hac hyl (by omega) ?_)
    intro v2 w3 ho2 hg2
    have HS2 : Hid (qK w g [tick,zt,(tick - base),(len : Int)] 2 v2 w3):=ahZ ⟨by rw [← HQ.out];exact ho2,iG.out.grown hg2 (bK bT.out.1 iG.out (by decide)),HB2.out.grown hg2 (by omega) (λj e=>Nat.le_trans (Nat.le_succ _) (bT.out.lt j e).1),Nat.le_trans (by omega) hg2.size⟩
    clear ho2 hg2 bT iG HB2 hba
    go_wp2
    go_roundw
    case rel=>exact ⟨2,by omega,by first | rfl | go_num,HS2.out⟩
    case measure=>simp [intOf]
   ·have c0:=hU.cell 2
    simp [qJ] at c0
    have pt:=nL (tick - base) zi.out wr
    have HL : Hid ((aD (tick - base)).length <= 10):=ahZ (by rw [eu];exact dK zi.out)
    have HP : Hid (([71,1] ++ ([tick,zt,(tick - base),(len : Int)].take 2).flatMap aD).length <= 32):=ahZ (xJ Aj.out Ak.out zi.out Am.out 2 (by decide))
    have HQ : Hid (([71,1] ++ ([tick,zt,(tick - base),(len : Int)].take 2).flatMap aD) ++ aD (tick - base) = [71,1] ++ ([tick,zt,(tick - base),(len : Int)].take 3).flatMap aD):=ahZ (by simp)
    have HO:=ahZ hO
    have HU:=ahZ hU
    have HB:=ahZ hB
    clear hO hU hB
    generalize [71,1] ++ ([tick,zt,(tick - base),(len : Int)].take 2).flatMap aD = zs at *
    generalize aD (tick - base) = ys at *
    go_wp2_with fail
    refine pt.mono ?_;rintro e w2 ⟨v1,rfl,ho1,hb1⟩
    obtain ⟨ad,c,rfl,hba,hac⟩:=ho1.bytes
    have hs1:=hb1.size
    have hO2:=HO.out.below hb1
    have iG:=ahZ (HU.out.below hb1 HU.out.lt)
    have HB2:=ahZ (HB.out.trans (hb1.mono (by omega)))
    have bT:=ahZ hO2
    clear ho1 hb1 hO2 pt HO HU HB
    have hyl : zs.length + ys.length <= 140737488355328:=by have:=HL.out;have:=HP.out;omega
    go_wp2_with (at_builtin;refine bG _ rfl (.tmp 66) (.tmp 68) rfl (w.heap.size + 1) _ zs rfl bT.out ad ys.length c ys rfl hba hac hyl (by omega) ?_)
    intro v2 w3 ho2 hg2
    have HS2 : Hid (qK w g [tick,zt,(tick - base),(len : Int)] 3 v2 w3):=ahZ ⟨by rw [← HQ.out];exact ho2,iG.out.grown hg2 (bK bT.out.1 iG.out (by decide)),HB2.out.grown hg2 (by omega) (λj e=>Nat.le_trans (Nat.le_succ _) (bT.out.lt j e).1),Nat.le_trans (by omega) hg2.size⟩
    clear ho2 hg2 bT iG HB2 hba
    go_wp2
    go_roundw
    case rel=>exact ⟨3,by omega,by first | rfl | go_num,HS2.out⟩
    case measure=>simp [intOf]
   ·have c0:=hU.cell 3
    simp [qJ] at c0
    have pt:=nL (len : Int) Am.out wr
    have HL : Hid ((aD (len : Int)).length <= 10):=ahZ (by rw [eu];exact dK Am.out)
    have HP : Hid (([71,1] ++ ([tick,zt,(tick - base),(len : Int)].take 3).flatMap aD).length <= 32):=ahZ (xJ Aj.out Ak.out zi.out Am.out 3 (by decide))
    have HQ : Hid (([71,1] ++ ([tick,zt,(tick - base),(len : Int)].take 3).flatMap aD) ++ aD (len : Int) = [71,1] ++ ([tick,zt,(tick - base),(len : Int)].take 4).flatMap aD):=ahZ (by simp)
    have HO:=ahZ hO
    have HU:=ahZ hU
    have HB:=ahZ hB
    clear hO hU hB
    generalize [71,1] ++ ([tick,zt,(tick - base),(len : Int)].take 3).flatMap aD = zs at *
    generalize aD (len : Int) = ys at *
    go_wp2_with fail
    refine pt.mono ?_;rintro e w2 ⟨v1,rfl,ho1,hb1⟩
    obtain ⟨ad,c,rfl,hba,hac⟩:=ho1.bytes
    have hs1:=hb1.size
    have hO2:=HO.out.below hb1
    have iG:=ahZ (HU.out.below hb1 HU.out.lt)
    have HB2:=ahZ (HB.out.trans (hb1.mono (by omega)))
    have bT:=ahZ hO2
    clear ho1 hb1 hO2 pt HO HU HB
    have hyl : zs.length + ys.length <= 140737488355328:=by have:=HL.out;have:=HP.out;omega
    go_wp2_with (at_builtin;refine bG _ rfl (.tmp 66) (.tmp 68) rfl (w.heap.size + 1) _ zs rfl bT.out ad ys.length c ys rfl hba hac hyl (by omega) ?_)
    intro v2 w3 ho2 hg2
    have HS2 : Hid (qK w g [tick,zt,(tick - base),(len : Int)] 4 v2 w3):=ahZ ⟨by rw [← HQ.out];exact ho2,iG.out.grown hg2 (bK bT.out.1 iG.out (by decide)),HB2.out.grown hg2 (by omega) (λj e=>Nat.le_trans (Nat.le_succ _) (bT.out.lt j e).1),Nat.le_trans (by omega) hg2.size⟩
    clear ho2 hg2 bT iG HB2 hba
    go_wp2
    go_roundw
    case rel=>exact ⟨4,by omega,by first | rfl | go_num,HS2.out⟩
    case measure=>simp [intOf]
   ·have HO:=ahZ hO
    have HB:=ahZ hB
    clear hO hU hB
    go_wp2
    refine bodyPost_ret (v:=.tuple #[_,.int .i64 0]) (by simp [results,Tryz.results74,go_sem];rfl) rfl ⟨_,rfl,?_,HB.out⟩
    have:=HO.out.base (base':=w.heap.size) (Nat.le_succ _)
    rw [HH.out]
    simpa using this
 ·have hk : bk = 0:=by rw [Wi.out,if_neg hbase]
  subst hk
  have zi : Hid (iD 0):=ahZ ⟨by decide,by decide⟩
  clear Wi hbk
  have hG:=(ak.new w #[.int .i64 tick,.int .i64 time,.int .i64 base,.slice a len cap] 39).alloc (.cells #[.int .u8 71,.int .u8 1] 5)
  have G0 : ((w.alloc (.cells #[.int .i64 tick,.int .i64 time,.int .i64 base,.slice a len cap] 39)).alloc (.cells #[.int .u8 71,.int .u8 1] 5)).cell? ⟨w.heap.size,0,none⟩ = some (.int .i64 tick):=hG.cell 0
  have G1 : ((w.alloc (.cells #[.int .i64 tick,.int .i64 time,.int .i64 base,.slice a len cap] 39)).alloc (.cells #[.int .u8 71,.int .u8 1] 5)).cell? ⟨w.heap.size,1,none⟩ = some (.int .i64 time):=hG.cell 1
  have G3 : ((w.alloc (.cells #[.int .i64 tick,.int .i64 time,.int .i64 base,.slice a len cap] 39)).alloc (.cells #[.int .u8 71,.int .u8 1] 5)).cell? ⟨w.heap.size,3,none⟩ = some (.slice a len cap):=hG.cell 3
  clear hG
  go_enter Tryz.func74,Tryz.ntmps74
  go_wp2_with fail
  refine (tm _).mono ?_;rintro e w1 ⟨rfl,rfl⟩
  go_wp2_with fail
  apply wC
  case hm=>kernel_rfl
  case hB=>kernel_rfl
  repeat (apply bJ;(next=>(intro W hW K hK;have y0:=hW.cell G0;have y1:=hW.cell G1;have y2:=hW.cell G3;go_simp;first | exact ⟨Below.refl _ _,hK⟩ | exact hK));(try go_simp))
  (apply bJ;(next=>(intro W hW K hK;go_simp;exact ⟨Below.refl _ _,_,(zg W).mono (λe w' hh=>⟨hh.1,hh.2 ▸ Below.refl _ _⟩),hK⟩));(try go_simp))
  repeat (apply bJ;(next=>(intro W hW K hK;have y0:=hW.cell G0;have y1:=hW.cell G1;have y2:=hW.cell G3;go_simp;first | exact ⟨Below.refl _ _,hK⟩ | exact hK));(try go_simp))
  apply tY (s:=MU [tick,zt,0,(len : Int)]) rfl
  ·intro W hW
   go_simp
   exact ⟨(Below.refl _ _).alloc (Nat.le_refl _) _,⟨_,rfl⟩,_,rfl,ak.new W _ _⟩
  intro vv hvv
  obtain ⟨g,rfl⟩:=hvv
  repeat (apply bJ;(next=>(intro W hW K hK;go_simp;first | exact ⟨Below.refl _ _,hK⟩ | exact hK));(try go_simp))
  refine dL ?_
  intro WC aM hC
  obtain ⟨g',hg',hU⟩:=hC
  cases hg'
  have HB1 : Hid (Below w.heap.size w WC):=ahZ ((((Below.refl _ _).alloc (Nat.le_refl _) _).alloc (by simp) _).trans (Below.mono aM (by simp;omega)))
  have hbs : w.heap.size + 1 <= WC.heap.size:=by have:=Below.size aM;simp at this;omega
  have HZ0 : Hid (bf WC (w.heap.size + 1) (.slice (some ⟨w.heap.size + 1,0,none⟩) 2 2) [71,1]):=ahZ ((by
   have hb:=ak.new (w.alloc (.cells #[.int .i64 tick,.int .i64 time,.int .i64 base,.slice a len cap] 39)) #[.int .u8 71,.int .u8 1] 5
   rw [show (w.alloc (.cells #[.int .i64 tick,.int .i64 time,.int .i64 base,.slice a len cap] 39)).heap.size = w.heap.size + 1 by simp] at hb
   exact (bf.Oa (zs:=[71,1]) (Nat.le_refl _) hb (by simp [maxLen]) (by intro z hz;simp at hz;rcases hz with rfl | rfl <;> exact ⟨by decide,by decide⟩)).below aM))
  have HS : Hid (qK w g [tick,zt,0,(len : Int)] 0 (.slice (some ⟨w.heap.size + 1,0,none⟩) 2 2) WC):=ahZ ⟨by simpa using HZ0.out,by simpa [qJ] using hU,HB1.out,hbs⟩
  clear hU aM HB1 HZ0 G0 G1 G3 zg tm
  go_wp2_with fail
  go_loopw [5,62] (λv i wr=>∃ k : Nat,k <= 4 /\ i = .int .i64 k /\ qK w g [tick,zt,0,(len : Int)] k v wr) (λ_ i _=>4 - (intOf i).toNat)
  case atStart=>exact ⟨0,by omega,rfl,HS.out⟩
  case round =>
   rename_i wr
   obtain ⟨k,hk,rfl,hO,hU,hB,hN⟩:=hrel
   have aei : w.heap.size + 1 <= wr.heap.size:=hN
   rcases (show k = 0 \/ k = 1 \/ k = 2 \/ k = 3 \/ k = 4 by omega) with rfl | rfl | rfl | rfl | rfl
   ·have c0:=hU.cell 0
    simp [qJ] at c0
    have pt:=nL tick Aj.out wr
    have HL : Hid ((aD tick).length <= 10):=ahZ (by rw [eu];exact dK Aj.out)
    have HP : Hid (([71,1] ++ ([tick,zt,0,(len : Int)].take 0).flatMap aD).length <= 32):=ahZ (xJ Aj.out Ak.out zi.out Am.out 0 (by decide))
    have HQ : Hid (([71,1] ++ ([tick,zt,0,(len : Int)].take 0).flatMap aD) ++ aD tick = [71,1] ++ ([tick,zt,0,(len : Int)].take 1).flatMap aD):=ahZ (by simp)
    have HO:=ahZ hO
    have HU:=ahZ hU
    have HB:=ahZ hB
    clear hO hU hB
    generalize [71,1] ++ ([tick,zt,0,(len : Int)].take 0).flatMap aD = zs at *
    generalize aD tick = ys at *
    go_wp2_with fail
    refine pt.mono ?_;rintro e w2 ⟨v1,rfl,ho1,hb1⟩
    obtain ⟨ad,c,rfl,hba,hac⟩:=ho1.bytes
    have hs1:=hb1.size
    have hO2:=HO.out.below hb1
    have iG:=ahZ (HU.out.below hb1 HU.out.lt)
    have HB2:=ahZ (HB.out.trans (hb1.mono (by omega)))
    have bT:=ahZ hO2
    clear ho1 hb1 hO2 pt HO HU HB
    have hyl : zs.length + ys.length <= 140737488355328:=by have:=HL.out;have:=HP.out;omega
    go_wp2_with (at_builtin;refine bG _ rfl (.tmp 66) (.tmp 68) rfl (w.heap.size + 1) _ zs rfl bT.out ad ys.length c ys rfl hba hac hyl (by omega) ?_)
    intro v2 w3 ho2 hg2
    have HS2 : Hid (qK w g [tick,zt,0,(len : Int)] 1 v2 w3):=ahZ ⟨by rw [← HQ.out];exact ho2,iG.out.grown hg2 (bK bT.out.1 iG.out (by decide)),HB2.out.grown hg2 (by omega) (λj e=>Nat.le_trans (Nat.le_succ _) (bT.out.lt j e).1),Nat.le_trans (by omega) hg2.size⟩
    clear ho2 hg2 bT iG HB2 hba
    go_wp2
    go_roundw
    case rel=>exact ⟨1,by omega,by first | rfl | go_num,HS2.out⟩
    case measure=>simp [intOf]
   ·have c0:=hU.cell 1
    simp [qJ] at c0
    have pt:=nL zt Ak.out wr
    have HL : Hid ((aD zt).length <= 10):=ahZ (by rw [eu];exact dK Ak.out)
    have HP : Hid (([71,1] ++ ([tick,zt,0,(len : Int)].take 1).flatMap aD).length <= 32):=ahZ (xJ Aj.out Ak.out zi.out Am.out 1 (by decide))
    have HQ : Hid (([71,1] ++ ([tick,zt,0,(len : Int)].take 1).flatMap aD) ++ aD zt = [71,1] ++ ([tick,zt,0,(len : Int)].take 2).flatMap aD):=ahZ (by simp)
    have HO:=ahZ hO
    have HU:=ahZ hU
    have HB:=ahZ hB
    clear hO hU hB
    generalize [71,1] ++ ([tick,zt,0,(len : Int)].take 1).flatMap aD = zs at *
    generalize aD zt = ys at *
    go_wp2_with fail
    refine pt.mono ?_;rintro e w2 ⟨v1,rfl,ho1,hb1⟩
    obtain ⟨ad,c,rfl,hba,hac⟩:=ho1.bytes
    have hs1:=hb1.size
    have hO2:=HO.out.below hb1
    have iG:=ahZ (HU.out.below hb1 HU.out.lt)
    have HB2:=ahZ (HB.out.trans (hb1.mono (by omega)))
    have bT:=ahZ hO2
    clear ho1 hb1 hO2 pt HO HU HB
    have hyl : zs.length + ys.length <= 140737488355328:=by have:=HL.out;have:=HP.out;omega
    go_wp2_with (at_builtin;refine bG _ rfl (.tmp 66) (.tmp 68) rfl (w.heap.size + 1) _ zs rfl bT.out ad ys.length c ys rfl hba hac hyl (by omega) ?_)
    intro v2 w3 ho2 hg2
    have HS2 : Hid (qK w g [tick,zt,0,(len : Int)] 2 v2 w3):=ahZ ⟨by rw [← HQ.out];exact ho2,iG.out.grown hg2 (bK bT.out.1 iG.out (by decide)),HB2.out.grown hg2 (by omega) (λj e=>Nat.le_trans (Nat.le_succ _) (bT.out.lt j e).1),Nat.le_trans (by omega) hg2.size⟩
    clear ho2 hg2 bT iG HB2 hba
    go_wp2
    go_roundw
    case rel=>exact ⟨2,by omega,by first | rfl | go_num,HS2.out⟩
    case measure=>simp [intOf]
   ·have c0:=hU.cell 2
    simp [qJ] at c0
    have pt:=nL 0 zi.out wr
    have HL : Hid ((aD 0).length <= 10):=ahZ (by rw [eu];exact dK zi.out)
    have HP : Hid (([71,1] ++ ([tick,zt,0,(len : Int)].take 2).flatMap aD).length <= 32):=ahZ (xJ Aj.out Ak.out zi.out Am.out 2 (by decide))
    have HQ : Hid (([71,1] ++ ([tick,zt,0,(len : Int)].take 2).flatMap aD) ++ aD 0 = [71,1] ++ ([tick,zt,0,(len : Int)].take 3).flatMap aD):=ahZ (by simp)
    have HO:=ahZ hO
    have HU:=ahZ hU
    have HB:=ahZ hB
    clear hO hU hB
    generalize [71,1] ++ ([tick,zt,0,(len : Int)].take 2).flatMap aD = zs at *
    generalize aD 0 = ys at *
    go_wp2_with fail
    refine pt.mono ?_;rintro e w2 ⟨v1,rfl,ho1,hb1⟩
    obtain ⟨ad,c,rfl,hba,hac⟩:=ho1.bytes
    have hs1:=hb1.size
    have hO2:=HO.out.below hb1
    have iG:=ahZ (HU.out.below hb1 HU.out.lt)
    have HB2:=ahZ (HB.out.trans (hb1.mono (by omega)))
    have bT:=ahZ hO2
    clear ho1 hb1 hO2 pt HO HU HB
    have hyl : zs.length + ys.length <= 140737488355328:=by have:=HL.out;have:=HP.out;omega
    go_wp2_with (at_builtin;refine bG _ rfl (.tmp 66) (.tmp 68) rfl (w.heap.size + 1) _ zs rfl bT.out ad ys.length c ys rfl hba hac hyl (by omega) ?_)
    intro v2 w3 ho2 hg2
    have HS2 : Hid (qK w g [tick,zt,0,(len : Int)] 3 v2 w3):=ahZ ⟨by rw [← HQ.out];exact ho2,iG.out.grown hg2 (bK bT.out.1 iG.out (by decide)),HB2.out.grown hg2 (by omega) (λj e=>Nat.le_trans (Nat.le_succ _) (bT.out.lt j e).1),Nat.le_trans (by omega) hg2.size⟩
    clear ho2 hg2 bT iG HB2 hba
    go_wp2
    go_roundw
    case rel=>exact ⟨3,by omega,by first | rfl | go_num,HS2.out⟩
    case measure=>simp [intOf]
   ·have c0:=hU.cell 3
    simp [qJ] at c0
    have pt:=nL (len : Int) Am.out wr
    have HL : Hid ((aD (len : Int)).length <= 10):=ahZ (by rw [eu];exact dK Am.out)
    have HP : Hid (([71,1] ++ ([tick,zt,0,(len : Int)].take 3).flatMap aD).length <= 32):=ahZ (xJ Aj.out Ak.out zi.out Am.out 3 (by decide))
    have HQ : Hid (([71,1] ++ ([tick,zt,0,(len : Int)].take 3).flatMap aD) ++ aD (len : Int) = [71,1] ++ ([tick,zt,0,(len : Int)].take 4).flatMap aD):=ahZ (by simp)
    have HO:=ahZ hO
    have HU:=ahZ hU
    have HB:=ahZ hB
    clear hO hU hB
    generalize [71,1] ++ ([tick,zt,0,(len : Int)].take 3).flatMap aD = zs at *
    generalize aD (len : Int) = ys at *
    go_wp2_with fail
    refine pt.mono ?_;rintro e w2 ⟨v1,rfl,ho1,hb1⟩
    obtain ⟨ad,c,rfl,hba,hac⟩:=ho1.bytes
    have hs1:=hb1.size
    have hO2:=HO.out.below hb1
    have iG:=ahZ (HU.out.below hb1 HU.out.lt)
    have HB2:=ahZ (HB.out.trans (hb1.mono (by omega)))
    have bT:=ahZ hO2
    clear ho1 hb1 hO2 pt HO HU HB
    have hyl : zs.length + ys.length <= 140737488355328:=by have:=HL.out;have:=HP.out;omega
    go_wp2_with (at_builtin;refine bG _ rfl (.tmp 66) (.tmp 68) rfl (w.heap.size + 1) _ zs rfl bT.out ad ys.length c ys rfl hba hac hyl (by omega) ?_)
    intro v2 w3 ho2 hg2
    have HS2 : Hid (qK w g [tick,zt,0,(len : Int)] 4 v2 w3):=ahZ ⟨by rw [← HQ.out];exact ho2,iG.out.grown hg2 (bK bT.out.1 iG.out (by decide)),HB2.out.grown hg2 (by omega) (λj e=>Nat.le_trans (Nat.le_succ _) (bT.out.lt j e).1),Nat.le_trans (by omega) hg2.size⟩
    clear ho2 hg2 bT iG HB2 hba
    go_wp2
    go_roundw
    case rel=>exact ⟨4,by omega,by first | rfl | go_num,HS2.out⟩
    case measure=>simp [intOf]
   ·have HO:=ahZ hO
    have HB:=ahZ hB
    clear hO hU hB
    go_wp2
    refine bodyPost_ret (v:=.tuple #[_,.int .i64 0]) (by simp [results,Tryz.results74,go_sem];rfl) rfl ⟨_,rfl,?_,HB.out⟩
    have:=HO.out.base (base':=w.heap.size) (Nat.le_succ _)
    rw [HH.out]
    simpa using this
end Go.Proofs.YtklkooeimkedgaaGreat
namespace Go.Proofs.YtklkooeimkedgaaGreat
open Go.RowKit
set_option maxRecDepth 8000
def oQ (w : World) (b o : Nat) (r : Rec) : Prop:=w.cell? ⟨b,o,none⟩ = some (.int .i64 r.kind) /\ w.cell? ⟨b,o + 1,none⟩ = some (.int .i64 r.id) /\ w.cell? ⟨b,o + 2,none⟩ = some (.int .i64 r.px) /\ w.cell? ⟨b,o + 3,none⟩ = some (.int .i64 r.py) /\ w.cell? ⟨b,o + 4,none⟩ = some (.int .i64 r.pz) /\ w.cell? ⟨b,o + 5,none⟩ = some (.int .i64 r.vx) /\ w.cell? ⟨b,o + 6,none⟩ = some (.int .i64 r.vy) /\ w.cell? ⟨b,o + 7,none⟩ = some (.int .i64 r.vz) /\ w.cell? ⟨b,o + 8,none⟩ = some (.int .u16 r.aI)
def oU (w : World) (a : Option Addr) (rs : List Rec) : Prop :=
 (∀ r ∈ rs,r.Ok) /\ (rs = [] \/ ∃ b off,a = some ⟨b,off,none⟩ /\ b < w.heap.size /\ ∀ i r,rs[i]? = some r -> oQ w b (off + i * 9) r)
theorem oQ.below {w w' : World} {b o : Nat} {r : Rec} {B : Nat} (h : oQ w b o r) (hb : Below B w w') (hl : b < B) : oQ w' b o r:=by
 unfold oQ at *
 refine ⟨?_,?_,?_,?_,?_,?_,?_,?_,?_⟩ <;> (rw [hb.cell (by simpa using hl)];first | exact h.1 | exact h.2.1 | exact h.2.2.1 | exact h.2.2.2.1 | exact h.2.2.2.2.1 | exact h.2.2.2.2.2.1 | exact h.2.2.2.2.2.2.1 | exact h.2.2.2.2.2.2.2.1 | exact h.2.2.2.2.2.2.2.2)
theorem oU.below {w w' : World} {a : Option Addr} {rs : List Rec} (h : oU w a rs) (hb : Below w.heap.size w w') : oU w' a rs:=by
 obtain ⟨h1,h2⟩:=h
 refine ⟨h1,?_⟩
 rcases h2 with h2 | ⟨b,off,e,hl,hc⟩
 ·exact .inl h2
 ·exact .inr ⟨b,off,e,Nat.lt_of_lt_of_le hl hb.size,λi r hi=>(hc i r hi).below hb hl⟩
theorem LW {r : Rec} (hr : r.Ok) : (pW r).length <= 71:=by
 have ha:=hr.aI
 have h1:=dK (x:=r.aI) ⟨by omega,by omega⟩
 have hns : ∀ n ∈ aj r,aA n:=by intro n hn;simp [aj] at hn;rcases hn with h | h | h | h | h | h <;> subst h;exact hr.px;exact hr.py;exact hr.pz;exact hr.vx;exact hr.vy;exact hr.vz
 have h2:=EZ (aj r) hns
 have h3 : (aj r).length = 6:=rfl
 have h4 : (nb (aj r) ++ aD r.aI).length <= 70:=by rw [List.length_append,eu];omega
 have h6 : (vB r).length <= 71:=by
  unfold vB
  have h7:=EZ ((aj r).filter (· ≠ 0)) (λn hn=>hns n (List.mem_filter.1 hn).1)
  have h8 : ((aj r).filter (· ≠ 0)).length <= (aj r).length:=List.length_filter_le _ _
  simp only [List.length_append,List.length_cons,List.length_nil]
  split
  ·rw [eu];omega
  ·simp only [List.length_nil];omega
 unfold pW
 by_cases h5 : r.kind = 2
 ·rw [if_pos h5];simp
 ·rw [if_neg h5]
  split
  ·exact h6
  ·omega
theorem Fg {r : Rec} (hr : r.Ok) {last : Int} (h : iq r last = 0) : (nN r last).length <= 82:=by
 obtain ⟨hc,h1,h2,k0,k3,i0,i1⟩:=xH h
 have h4:=LW hr
 have h5:=dK (x:=r.id - last - 1) ⟨by omega,by omega⟩
 unfold nN
 simp only [List.length_append,eu,List.length_cons,List.length_nil]
 omega
theorem Hr (tick time base : Int) (n : Nat) (h : iB tick time base n = 0) : (vC tick time base n).length <= 42:=by
 unfold iB at h
 split at h
 ·cases h
 split at h
 ·cases h
 split at h
 ·cases h
 have ht : aA time:=⟨by omega,by omega⟩
 have hb : 0 <= iK tick base /\ iK tick base <= tick:=by unfold iK;split <;> omega
 have h1:=dK (x:=tick) ⟨by omega,by omega⟩
 have h2:=dK (sV ht)
 have h3:=dK (x:=iK tick base) ⟨by omega,by omega⟩
 have h4:=dK (x:=(n : Int)) ⟨by omega,by omega⟩
 unfold vC
 simp only [List.length_append,eu,List.length_cons,List.length_nil]
 omega
def OD (w : World) (rs : List Rec) (hd : List Int) (k : Nat) (lv v : Value) (wr : World) : Prop :=
 ∃ (last : Int) (pre : List Int),lv = .int .i64 last /\ lU (-1) rs = lU last (rs.drop k) /\ kQ (-1) rs = pre ++ kQ last (rs.drop k) /\ bf wr w.heap.size v (hd ++ pre) /\ pre.length <= 82 * k /\ Below w.heap.size w wr
def MV (w : World) (B3 : Nat) (v : Value) (zs : List Int) (ad : Option Addr) (ys : List Int) (r : Rec) : List Value -> World -> Prop
 | [],W=>bf W w.heap.size v zs /\ BytesAt W ad ys.length ys /\ ak W B3 (aZ r) 147 /\ Below w.heap.size w W
 | [v'],W=>bf W w.heap.size v' (zs ++ ys) /\ ak W B3 (aZ r) 147 /\ Below w.heap.size w W
 | [v',u],W=>bf W w.heap.size u (zs ++ ys) /\ ak W B3 (aZ r) 147 /\ Below w.heap.size w W
 | _,_=>False
theorem MV.blk {w : World} {B3 : Nat} {v : Value} {zs : List Int} {ad : Option Addr} {ys : List Int} {r : Rec} : ∀ {b : List Value} {W : World},MV w B3 v zs ad ys r b W -> ak W B3 (aZ r) 147
 | [],_,h=>h.2.2.1
 | [_],_,h=>h.2.1
 | [_,_],_,h=>h.2.1
 | _ :: _ :: _ :: _,_,h=>h.elim
set_option maxHeartbeats 2000000 in
theorem MW (tick time base : Int) (ht : aA time) (a : Option Addr) (cap : Nat) (rs : List Rec) (w : World) (hrs : oU w a rs) :
  Calls Tryz.prog 37 #[wD tick time base a rs.length cap] w λe w'=>∃ v,e = .returned (.tuple #[v,.int .i64 (dF ⟨tick,time,base,rs⟩)]) /\ (dF ⟨tick,time,base,rs⟩ = 0 -> bf w' w.heap.size v (jq ⟨tick,time,base,rs⟩)) /\ Below w.heap.size w w':=by
 by_cases hh : iB tick time base rs.length = 0
 ·have hd:=λw=>UU tick time base ht a rs.length cap w hh
  have hl:=Hr tick time base rs.length hh
  have HE : Hid (dF ⟨tick,time,base,rs⟩ = lU (-1) rs):=ahZ (by unfold dF;simp only;rw [if_neg (by simpa using hh)])
  have HB : Hid (jq ⟨tick,time,base,rs⟩ = vC tick time base rs.length ++ kQ (-1) rs):=ahZ rfl
  have hn : rs.length <= 128:=by
   unfold iB at hh
   split at hh
   ·cases hh
   split at hh
   ·cases hh
   split at hh
   ·cases hh
   omega
  generalize dF ⟨tick,time,base,rs⟩ = be at *
  generalize jq ⟨tick,time,base,rs⟩ = bb at *
  generalize vC tick time base rs.length = hb at *
  have MX:=ahZ hrs
  have HN:=ahZ hn
  have HL:=ahZ hl
  unfold wD at *
  clear hh hrs ht
  have hB0 : Hid (Below w.heap.size w (w.alloc (.cells #[.int .i64 tick,.int .i64 time,.int .i64 base,.slice a rs.length cap] 39))):=ahZ ((Below.refl _ _).alloc (Nat.le_refl _) _)
  go_enter Tryz.func37,Tryz.ntmps37
  go_wp2_with fail
  refine (hd _).mono ?_;rintro e w1 ⟨v,rfl,ho,hb1⟩
  have HB1:=ahZ (hB0.out.trans (hb1.mono (by simp)))
  have hX:=(ak.new w #[.int .i64 tick,.int .i64 time,.int .i64 base,.slice a rs.length cap] 39).below hb1 (by simp)
  have c3:=hX.cell 3
  simp at c3
  have HO:=ahZ (ho.base (base':=w.heap.size) (by simp))
  have UW:=ahZ ((MX.out.below hB0.out).below hb1)
  have HS : Hid (OD w rs hb 0 (.int .i64 (-1)) v w1):=ahZ ⟨-1,[],rfl,by simp,by simp,by simpa using HO.out,by simp,HB1.out⟩
  clear ho hb1 hX hd hB0 HO
  go_wp2_with fail
  go_loopw [4,6,22] (λv lv i wr=>∃ k : Nat,k <= rs.length /\ i = .int .i64 k /\ OD w rs hb k lv v wr) (λ_ _ i _=>rs.length - (intOf i).toNat)
  case atStart=>exact ⟨0,Nat.zero_le _,rfl,HS.out⟩
  case round =>
   rename_i wr
   obtain ⟨k,hk,rfl,last,pre,rfl,hE,uJ,hO,hP,hB⟩:=hrel
   by_cases hlt : k < rs.length
   ·obtain ⟨r,hr⟩ : ∃ r,rs[k]? = some r:=⟨_,List.getElem?_eq_getElem hlt⟩
    have hdrop : rs.drop k = r :: rs.drop (k + 1):=by
     rw [List.drop_eq_getElem_cons hlt]
     rw [List.getElem?_eq_getElem hlt] at hr
     cases hr;rfl
    rw [hdrop] at hE uJ
    have hmem : r ∈ rs:=List.mem_of_getElem? hr
    have uX:=MX.out.1 r hmem
    obtain ⟨b,off,rfl,hbl,hcs⟩ : ∃ b off,a = some ⟨b,off,none⟩ /\ b < w.heap.size /\ ∀ i r,rs[i]? = some r -> oQ w b (off + i * 9) r:=by
     rcases MX.out.2 with h0 | h0
     ·rw [h0] at hlt;simp at hlt
     ·exact h0
    have hc:=(hcs k r hr).below hB hbl
    have HE2:=ahZ hE
    have rX:=ahZ uJ
    have HO:=ahZ hO
    have HB2:=ahZ hB
    have HP:=ahZ hP
    have HR:=ahZ uX
    have hbs:=hB.size
    have hlt' : (k : Int) < rs.length:=by omega
    by_cases Fh : iq r last = 0
    ·have Ki:=λw=>Zq r uX last w Fh
     have hyl:=Fg uX Fh
     have qW : Hid (lU last (r :: rs.drop (k + 1)) = lU r.id (rs.drop (k + 1))):=ahZ (by rw [lU,if_neg (by simpa using Fh)])
     have HIB : Hid (kQ last (r :: rs.drop (k + 1)) = nN r last ++ kQ r.id (rs.drop (k + 1))):=ahZ rfl
     clear hE uJ hO hB hP hcs hdrop hr hmem uX Fh MX UW
     generalize nN r last = ys at *
     obtain ⟨rk,ri,p1,p2,p3,q1,q2,q3,ra⟩:=r
     obtain ⟨c0,c1,c2,c3,c4,c5,c6,c7,c8⟩:=hc
     unfold lI at Ki
     simp only at *
     go_wp2_with fail
     refine (Ki _).mono ?_;rintro e w2 ⟨v2,rfl,ho2,hb2⟩
     obtain ⟨ad,c,rfl,hba,hac⟩:=ho2.bytes
     have hX2:=(ak.new wr (aZ ⟨rk,ri,p1,p2,p3,q1,q2,q3,ra⟩) 147).below hb2 (by simp)
     have iX : Below wr.heap.size wr (wr.alloc (.cells (aZ ⟨rk,ri,p1,p2,p3,q1,q2,q3,ra⟩) 147)):=(Below.refl _ _).alloc (Nat.le_refl _) _
     have hO2:=(HO.out.below iX).below hb2
     have hB2 : Below w.heap.size w w2:=HB2.out.trans ((iX.trans (hb2.mono (by simp))).mono hbs)
     have HI : Hid (MV w wr.heap.size u4 (hb ++ pre) ad ys ⟨rk,ri,p1,p2,p3,q1,q2,q3,ra⟩ [] w2.drew):=ahZ ⟨hO2.below (below_drewN (Below.refl _ _) 1),hba.below (below_drewN (Below.refl _ _) 1),hX2,below_drewN hB2 1⟩
     have Fb : Hid ((hb ++ pre).length + ys.length <= 140737488355328):=ahZ (by have h1:=HL.out;have h2:=HP.out;have h3:=HN.out;rw [List.length_append];omega)
     have aej : Hid ((pre ++ ys).length <= 82 * (k + 1)):=ahZ (by have h2:=HP.out;rw [List.length_append];omega)
     have HBS : Hid (∀ W,Below w.heap.size w W -> w.heap.size <= W.heap.size):=ahZ (λW h=>h.size)
     have HAC:=ahZ hac
     clear ho2 hba hac hX2 iX hO2 hB2 hb2 Ki c0 c1 c2 c3 c4 c5 c6 c7 c8 HO HB2 HP hyl
     go_wp2_with fail
     apply lD 6 [2,5] (MV w wr.heap.size u4 (hb ++ pre) ad ys ⟨rk,ri,p1,p2,p3,q1,q2,q3,ra⟩)
     case hm=>kernel_rfl
     case hB=>kernel_rfl
     case hp=>kernel_rfl
     case hI=>exact HI.out
     simp only [List.take_succ_cons,List.take_zero,List.drop_succ_cons,List.drop_zero]
     repeat (apply dw;(next=>rfl);(next=>(intro b W hW K hK;have y0:=(MV.blk hW).cell 1;simp at y0;go_simp;first | exact ⟨hW,hK⟩ | exact hK));(next=>exact ⟨_,HI.out⟩);(try go_simp))
     apply dM (s:=λ_=>True)
     case hk=>rfl
     case hne=>exact ⟨undef,trivial⟩
     case hw=>rfl
     case h =>
      intro W hW
      obtain ⟨hO,hY,hX,hB⟩:=hW
      refine Ao (d:=37) (ops:=#[]) rfl (by simp) rfl ?_
      intro Q hQ
      refine bG W rfl (.tmp 35) (.tmp 36) rfl w.heap.size _ (hb ++ pre) rfl hO ad ys.length c ys rfl hY HAC.out Fb.out (HBS.out W hB) ?_
      intro v' w' ho hg
      exact hQ v' w' trivial ⟨ho,hX.grown hg (bK hO.1 hX (by decide)),hB.grown hg (HBS.out W hB) (λj e=>(hO.lt j e).1)⟩
     intro v3 _
     repeat (apply dw;(next=>rfl);(next=>(intro b W hW K hK;have y0:=(MV.blk hW).cell 1;simp at y0;go_simp;first | exact ⟨hW,hK⟩ | exact hK));(next=>exact ⟨_,HI.out⟩);(try go_simp))
     apply dM (s:=λv=>True)
     case hk=>rfl
     case hne=>exact ⟨undef,trivial⟩
     case hw=>rfl
     case h =>
      intro W hW
      go_simp
      first | exact hW | exact ⟨trivial,hW⟩
     intro v4 _
     refine kD ?_
     intro WC aM
     have HS2 : Hid (OD w rs hb (k + 1) (.int .i64 ri) v4 WC):=ahZ (by
      obtain ⟨hO3,dU,hB3⟩:=aM
      refine ⟨ri,pre ++ ys,rfl,by rw [HE2.out,qW.out],by rw [rX.out,HIB.out,List.append_assoc],by rw [← List.append_assoc];exact hO3,aej.out,hB3⟩)
     clear aM
     go_wp2
     go_roundw
     case rel=>exact ⟨k + 1,by omega,by go_num,HS2.out⟩
     case measure=>simp [intOf];omega
    ·have Ki:=λw=>XP r last w Fh
     have qW : Hid (be = iq r last):=ahZ (by rw [HE.out,HE2.out,lU,if_pos Fh])
     have nO:=ahZ Fh
     have hne2 : (iq r last != 0) = true:=by simpa using Fh
     clear hE uJ hO hB hP hcs hdrop hr hmem uX Fh MX UW rX HE2
     generalize iq r last = we at *
     obtain ⟨rk,ri,p1,p2,p3,q1,q2,q3,ra⟩:=r
     obtain ⟨c0,c1,c2,c3,c4,c5,c6,c7,c8⟩:=hc
     unfold lI at Ki
     simp only at *
     go_wp2_with fail
     refine (Ki _).mono ?_;rintro e w2 ⟨rfl,hb2⟩
     have iX : Below wr.heap.size wr (wr.alloc (.cells (aZ ⟨rk,ri,p1,p2,p3,q1,q2,q3,ra⟩) 147)):=(Below.refl _ _).alloc (Nat.le_refl _) _
     have HB3 : Hid (Below w.heap.size w w2):=ahZ (HB2.out.trans ((iX.trans (hb2.mono (by simp))).mono hbs))
     clear hb2 iX Ki
     go_wp2
     exact bodyPost_ret (v:=.tuple #[.slice none 0 0,.int .i64 we]) (by simp [results,Tryz.results37,go_sem]) rfl ⟨_,by rw [qW.out],λh=>absurd (qW.out.symm.trans h) nO.out,HB3.out⟩
   ·obtain rfl : k = rs.length:=by omega
    rw [List.drop_length] at hE uJ
    have HV : Hid (be = 0):=ahZ (by rw [HE.out,hE];rfl)
    have HO : Hid (bf wr w.heap.size u4 bb):=ahZ (by rw [HB.out,uJ];simpa [kQ] using hO)
    have HB2:=ahZ hB
    clear hE uJ hO hB hP MX UW
    go_wp2
    refine bodyPost_ret (v:=.tuple #[_,.int .i64 0]) (by simp [results,Tryz.results37,go_sem];rfl) rfl ⟨_,by rw [HV.out],λ_=>HO.out,HB2.out⟩
 ·have hd:=λw=>RB tick time base a rs.length cap w hh
  have HE : Hid (dF ⟨tick,time,base,rs⟩ = iB tick time base rs.length):=ahZ (by unfold dF;simp only;rw [if_pos hh])
  have nO:=ahZ hh
  have hne2 : (iB tick time base rs.length != 0) = true:=by simpa using hh
  generalize dF ⟨tick,time,base,rs⟩ = be at *
  generalize iB tick time base rs.length = er at *
  unfold wD at *
  clear hh hrs ht
  have hB0 : Hid (Below w.heap.size w (w.alloc (.cells #[.int .i64 tick,.int .i64 time,.int .i64 base,.slice a rs.length cap] 39))):=ahZ ((Below.refl _ _).alloc (Nat.le_refl _) _)
  go_enter Tryz.func37,Tryz.ntmps37
  go_wp2_with fail
  refine (hd _).mono ?_;rintro e w1 ⟨rfl,hb1⟩
  have HB1:=ahZ (hB0.out.trans (hb1.mono (by simp)))
  clear hb1 hd
  go_wp2
  exact bodyPost_ret (v:=.tuple #[.slice none 0 0,.int .i64 er]) (by simp [results,Tryz.results37,go_sem]) rfl ⟨_,by rw [HE.out],λh=>absurd (HE.out.symm.trans h) nO.out,HB1.out⟩
theorem UY (tick time base : Int) (ht : aA time) (a : Option Addr) (cap : Nat) (rs : List Rec) (w : World) (hrs : oU w a rs) :
  Calls Tryz.prog 169 #[wD tick time base a rs.length cap] w λe w'=>e = .returned (.int .i64 (dF ⟨tick,time,base,rs⟩)) /\ Below w.heap.size w w':=by
 have hB0 : Hid (Below w.heap.size w (w.alloc (.cells #[.int .i64 tick,.int .i64 time,.int .i64 base,.slice a rs.length cap] 39))):=ahZ ((Below.refl _ _).alloc (Nat.le_refl _) _)
 have bd:=MW tick time base ht a cap rs _ (hrs.below hB0.out)
 generalize dF ⟨tick,time,base,rs⟩ = be at *
 clear hrs
 unfold wD at *
 go_enter Tryz.func169,Tryz.ntmps169
 go_wp2_with fail
 refine bd.mono ?_;rintro e w1 ⟨v,rfl,_,hb1⟩
 have HB1:=ahZ (hB0.out.trans (hb1.mono (by simp)))
 clear hb1 bd
 go_wp2
 go_ret
 exact ⟨rfl,HB1.out⟩
theorem Kj (tick time base : Int) (ht : aA time) (a : Option Addr) (cap : Nat) (rs : List Rec) (w : World) (hrs : oU w a rs) :
  Calls Tryz.prog 12 #[wD tick time base a rs.length cap] w λe w'=>∃ v,e = .returned (.tuple #[v,.int .i64 (jk ⟨tick,time,base,rs⟩)]) /\ bf w' w.heap.size v (if jk ⟨tick,time,base,rs⟩ = 0 then rU ⟨tick,time,base,rs⟩ else []) /\ Below w.heap.size w w':=by
 have hB0 : Hid (Below w.heap.size w (w.alloc (.cells #[.int .i64 tick,.int .i64 time,.int .i64 base,.slice a rs.length cap] 39))):=ahZ ((Below.refl _ _).alloc (Nat.le_refl _) _)
 have bd:=MW tick time base ht a cap rs _ (hrs.below hB0.out)
 have HE : Hid (jk ⟨tick,time,base,rs⟩ = if dF ⟨tick,time,base,rs⟩ ≠ 0 then dF ⟨tick,time,base,rs⟩ else if 4092 < (jq ⟨tick,time,base,rs⟩).length then 8 else 0):=ahZ rfl
 have HB : Hid (rU ⟨tick,time,base,rs⟩ = jq ⟨tick,time,base,rs⟩ ++ uT (jm (jq ⟨tick,time,base,rs⟩))):=ahZ rfl
 generalize dF ⟨tick,time,base,rs⟩ = be at *
 generalize jk ⟨tick,time,base,rs⟩ = we at *
 generalize rU ⟨tick,time,base,rs⟩ = wb at *
 generalize jq ⟨tick,time,base,rs⟩ = bb at *
 obtain ⟨ob,Zr⟩ : ∃ ob,(if we = 0 then wb else []) = ob:=⟨_,rfl⟩
 rw [Zr]
 have Zt:=ahZ Zr
 clear Zr
 clear hrs
 unfold wD at *
 have sl:=λa c w (hz : BytesAt w a bb.length bb) hc hl=>Xp a bb.length c bb w hz hc hl
 by_cases hbe : be = 0
 ·subst hbe
  by_cases hlen : 4092 < bb.length
  ·have HV : Hid (we = 8):=ahZ (by rw [HE.out,if_neg (by simp),if_pos hlen])
   have hlen' : (4092 : Int) < bb.length:=by omega
   clear HE HB sl
   go_enter Tryz.func12,Tryz.ntmps12
   go_wp2_with fail
   refine bd.mono ?_;rintro e w1 ⟨v,rfl,ho,hb1⟩
   obtain ⟨ad,c,rfl,hba,hac⟩:=(show bf _ _ _ _ by first | exact ho rfl | exact ho trivial).bytes
   have HB1:=ahZ (hB0.out.trans (hb1.mono (by simp)))
   clear hb1 bd ho hba hac hlen
   go_wp2
   exact bodyPost_ret (v:=.tuple #[.slice none 0 0,.int .i64 8]) (by simp [results,Tryz.results12,go_sem]) rfl ⟨_,by rw [HV.out],by rw [← Zt.out,HV.out,if_neg (by decide)];exact bf.nil _ _,HB1.out⟩
  ·have HV : Hid (we = 0):=ahZ (by rw [HE.out,if_neg (by simp),if_neg hlen])
   have hlen' : ¬ (4092 : Int) < bb.length:=by omega
   have HLN : Hid ((bb.length : Int) <= 140737488355000):=ahZ (by omega)
   clear HE hlen
   go_enter Tryz.func12,Tryz.ntmps12
   go_wp2_with fail
   refine bd.mono ?_;rintro e w1 ⟨v,rfl,ho,hb1⟩
   obtain ⟨ad,c,rfl,hba,hac⟩:=(show bf _ _ _ _ by first | exact ho rfl | exact ho trivial).bytes
   have HB1:=ahZ (hB0.out.trans (hb1.mono (by simp)))
   have s1:=sl ad c w1 hba hac HLN.out
   have hs1:=HB1.out.size
   clear hb1 bd ho hba hac sl
   go_wp2_with fail
   refine s1.mono ?_;rintro e w2 ⟨v2,rfl,ho2,hb2⟩
   have HB2:=ahZ (HB1.out.trans (hb2.mono hs1))
   have bT:=ahZ (ho2.base hs1)
   clear hb2 ho2 s1
   go_wp2
   refine bodyPost_ret (v:=.tuple #[_,.int .i64 0]) (by simp [results,Tryz.results12,go_sem];rfl) rfl ⟨_,by rw [HV.out],by rw [← Zt.out,HV.out,if_pos rfl,HB.out];exact bT.out,HB2.out⟩
 ·have HV : Hid (we = be):=ahZ (by rw [HE.out,if_pos hbe])
  have nO:=ahZ hbe
  have hne2 : (be != 0) = true:=by simpa using hbe
  clear HE HB sl hbe
  go_enter Tryz.func12,Tryz.ntmps12
  go_wp2_with fail
  refine bd.mono ?_;rintro e w1 ⟨v,rfl,ho,hb1⟩
  have HB1:=ahZ (hB0.out.trans (hb1.mono (by simp)))
  clear hb1 bd ho
  go_wp2
  exact bodyPost_ret (v:=.tuple #[.slice none 0 0,.int .i64 be]) (by simp [results,Tryz.results12,go_sem]) rfl ⟨_,by rw [HV.out],by rw [← Zt.out,HV.out,if_neg nO.out];exact bf.nil _ _,HB1.out⟩
end Go.Proofs.YtklkooeimkedgaaGreat
namespace Go.Proofs.YtklkooeimkedgaaGreat
open Go.RowKit
set_option maxRecDepth 8000
abbrev jB (R : Nat) (tick time base : Int) (v : Value) : Array Value:=#[.pointer (some ⟨R,0,none⟩),.int .i64 tick,.int .i64 time,.int .i64 base,v]
section
variable {B0 : Nat}
theorem MZ (G R : Nat) (c : Int) (hc : U8 c) (cs : Array Value) (hcs : cs[0]? = some (.pointer (some ⟨R,0,none⟩))) (s : aH) (w : World) (h : bB w R B0 s) (hG : ak w G cs 260) (mU : ¬ G = R) :
  Calls Tryz.prog 196 #[.pointer (some ⟨G,0,none⟩),.int .u8 c] w λe w'=>e = .returned (.tuple #[]) /\ bB w' R B0 (jW c s) /\ Only (· = R) w w':=by
 have rb:=Ga (B0:=B0) R s w h
 have fl:=λw h=>yP (B0:=B0) R (bH s).2 7 (by decide) w h
 have HE : Hid (jW c s = if (bH s).1 = c then (bH s).2 else fI 7 (bH s).2):=ahZ rfl
 have c0 : w.cell? ⟨G,0,none⟩ = some (.pointer (some ⟨R,0,none⟩)):=by rw [hG.cell 0,hcs]
 have HG:=ahZ hG
 clear h hG
 generalize bH s = q at *
 obtain ⟨x,s1⟩:=q
 generalize jW c s = z at *
 simp only at *
 by_cases hx : x = c
 ·have HV : Hid (z = s1):=ahZ (by rw [HE.out,if_pos hx])
  subst hx
  clear fl HE
  go_enter Tryz.func196,Tryz.ntmps196
  go_wp2_with fail
  refine rb.mono ?_;rintro e w1 ⟨rfl,hR,hO⟩
  go_wp2
  exact bodyPost_end (v:=.tuple #[]) (by simp [results,Tryz.results196,go_sem]) rfl ⟨rfl,by rw [HV.out];exact hR,hO⟩
 ·have HV : Hid (z = fI 7 s1):=ahZ (by rw [HE.out,if_neg hx])
  have hx2 : (x != c) = true:=by simpa using hx
  clear HE hx
  go_enter Tryz.func196,Tryz.ntmps196
  go_wp2_with fail
  refine rb.mono ?_;rintro e w1 ⟨rfl,hR,hO⟩
  have c1 : w1.cell? ⟨G,0,none⟩ = some (.pointer (some ⟨R,0,none⟩)):=by rw [(hO.blk HG.out mU).cell 0,hcs]
  have f1:=fl w1 hR
  have HO:=ahZ hO
  clear hR hO fl rb c0
  go_wp2_with fail
  refine f1.mono ?_;rintro e w2 ⟨rfl,hR,hO⟩
  have bT:=ahZ (HO.out.trans hO)
  clear hO
  go_wp2
  exact bodyPost_end (v:=.tuple #[]) (by simp [results,Tryz.results196,go_sem]) rfl ⟨rfl,by rw [HV.out];exact hR,bT.out⟩
theorem UZ (G R : Nat) (cs : Array Value) (hcs : cs[0]? = some (.pointer (some ⟨R,0,none⟩))) (s : aH) (w : World) (h : bB w R B0 s) (hG : ak w G cs 260) (mU : ¬ G = R) :
  Calls Tryz.prog 162 #[.pointer (some ⟨G,0,none⟩)] w λe w'=>e = .returned (.tuple #[]) /\ bB w' R B0 (jP s) /\ Only (· = R) w w':=by
 have m1:=MZ (B0:=B0) G R 71 ⟨by decide,by decide⟩ cs hcs s w h hG mU
 have m2:=λw h hG=>MZ (B0:=B0) G R 1 ⟨by decide,by decide⟩ cs hcs (jW 71 s) w h hG mU
 unfold jP
 have HG:=ahZ hG
 clear h hG
 generalize jW 71 s = s1 at *
 generalize jW 1 s1 = s2 at *
 go_enter Tryz.func162,Tryz.ntmps162
 go_wp2_with fail
 refine m1.mono ?_;rintro e w1 ⟨rfl,hR,hO⟩
 have m3:=m2 w1 hR (hO.blk HG.out mU)
 have HO:=ahZ hO
 clear hR hO m1 m2
 go_wp2_with fail
 refine m3.mono ?_;rintro e w2 ⟨rfl,hR,hO⟩
 have bT:=ahZ (HO.out.trans hO)
 clear hO
 go_wp2
 exact bodyPost_end (v:=.tuple #[]) (by simp [results,Tryz.results162,go_sem]) rfl ⟨rfl,hR,bT.out⟩
set_option maxHeartbeats 1000000 in
theorem XW (G R : Nat) (t0 m0 b0 : Int) (v : Value) (s : aH) (w : World) (h : bB w R B0 s) (hG : ak w G (jB R t0 m0 b0 v) 260) (mU : ¬ G = R) (hBG : B0 <= G) :
  Calls Tryz.prog 163 #[.pointer (some ⟨G,0,none⟩)] w λe w'=>e = .returned (.tuple #[]) /\ bB w' R B0 (iL s).2.2 /\ ak w' G (jB R (iL s).1 (iL s).2.1 b0 v) 260 /\ Only (λk=>k = R \/ k = G) w w':=by
 have ru:=sW (B0:=B0) R s 4294967295 w h
 have ub:=jh (most:=4294967295) h.u8 (by decide)
 have ri:=λw h=>JD (B0:=B0) R (bA 4294967295 s).2 w h
 have fl:=λw h=>yP (B0:=B0) R (dW (bA 4294967295 s).2).2 3 (by decide) w h
 have tm:=λw=>Bg (dW (bA 4294967295 s).2).1 w
 unfold iL
 have HG:=ahZ hG
 have c0:=hG.cell 0
 have f1:=hG.free 1
 have c1:=hG.cell 1
 simp at c0 c1
 clear h hG
 simp only
 generalize bA 4294967295 s = q1 at *
 obtain ⟨u,s1⟩:=q1
 simp only at *
 generalize dW s1 = q2 at *
 obtain ⟨y,s2⟩:=q2
 simp only at *
 generalize hz : (if mq y then s2 else fI 3 s2) = z
 have HZ:=ahZ hz
 clear hz
 have hw : wrap64 u = u:=by unfold wrap64;omega
 go_enter Tryz.func163,Tryz.ntmps163
 go_wp2_with fail
 refine ru.mono ?_;rintro e w1 ⟨rfl,hR,hO⟩
 have hG1:=hO.blk HG.out mU
 have d1:=hG1.cell 1
 have g1:=hG1.free 1
 have d0:=hG1.cell 0
 simp at d0 d1
 have hG2:=hG1.set 1 (.int .i64 u)
 have d2:=hG2.cell 0
 simp at d2
 have HG2:=ahZ hG2
 have HR2:=ahZ (hR.dB (p:=⟨G,1,none⟩) (λh=>mU h.symm) hBG (.int .i64 u))
 have bT:=ahZ (((hO.weaken (T:=λk=>k = R \/ k = G) (λk _ h=>.inl h))).setCell (p:=⟨G,1,none⟩) (.inl (.inr rfl)) (.int .i64 u))
 have r2:=ri _ HR2.out
 clear hG1 hG2 hR hO ru ri c0 c1 f1 HG
 go_wp2_with fail
 refine r2.mono ?_;rintro e w2 ⟨rfl,hR,hO⟩
 have hG3:=hO.blk HG2.out mU
 have e2:=hG3.cell 2
 have g2:=hG3.free 2
 simp at e2
 have hG4:=hG3.set 2 (.int .i64 y)
 have e0:=hG4.cell 0
 have e3:=hG4.cell 2
 simp at e0 e3
 have Kk : Hid (ak (w2.setCell ⟨G,2,none⟩ (.int .i64 y)) G (jB R u y b0 v) 260):=ahZ (by simpa [jB] using hG4)
 have HR4:=ahZ (hR.dB (p:=⟨G,2,none⟩) (λh=>mU h.symm) hBG (.int .i64 y))
 have Ai:=ahZ ((bT.out.trans (hO.weaken (T:=λk=>k = R \/ k = G) (λk _ h=>.inl h))).setCell (p:=⟨G,2,none⟩) (.inl (.inr rfl)) (.int .i64 y))
 clear hG3 hG4 hR hO r2 HG2 HR2 bT d0 d1 d2 g1
 by_cases ht : mq y
 ·rw [decide_eq_true ht] at tm
  have HV : Hid (z = s2):=ahZ (by rw [← HZ.out,if_pos ht])
  clear ht
  go_wp2_with fail
  refine (tm _).mono ?_;rintro e w3 ⟨rfl,rfl⟩
  go_wp2
  exact bodyPost_end (v:=.tuple #[]) (by simp [results,Tryz.results163,go_sem]) rfl ⟨rfl,by rw [HV.out];exact HR4.out,Kk.out,Ai.out⟩
 ·rw [decide_eq_false ht] at tm
  have HV : Hid (z = fI 3 s2):=ahZ (by rw [← HZ.out,if_neg ht])
  have f3:=fl _ HR4.out
  clear ht
  go_wp2_with fail
  refine (tm _).mono ?_;rintro e w3 ⟨rfl,rfl⟩
  go_wp2_with fail
  refine f3.mono ?_;rintro e w5 ⟨rfl,hR,hO⟩
  have HG5:=ahZ (hO.blk Kk.out mU)
  have d9:=ahZ (Ai.out.trans (hO.weaken (T:=λk=>k = R \/ k = G) (λk _ h=>.inl h)))
  clear hO f3
  go_wp2
  exact bodyPost_end (v:=.tuple #[]) (by simp [results,Tryz.results163,go_sem]) rfl ⟨rfl,by rw [HV.out];exact hR,HG5.out,d9.out⟩
set_option maxHeartbeats 1000000 in
theorem XY (G R : Nat) (tick time b0 : Int) (ht : 0 <= tick /\ tick <= 4294967295) (v : Value) (s : aH) (w : World) (h : bB w R B0 s) (hG : ak w G (jB R tick time b0 v) 260) (mU : ¬ G = R) (hBG : B0 <= G) :
  Calls Tryz.prog 164 #[.pointer (some ⟨G,0,none⟩)] w λe w'=>e = .returned (.tuple #[]) /\ bB w' R B0 (rV tick s).2 /\ ak w' G (jB R tick time (rV tick s).1 v) 260 /\ Only (λk=>k = R \/ k = G) w w':=by
 have ru:=λw h=>sW (B0:=B0) R s tick w h
 have ub:=jh (most:=tick) h.u8 ht.1
 unfold rV
 simp only
 generalize bA tick s = q1 at *
 obtain ⟨u,s1⟩:=q1
 simp only at *
 generalize hz : (if 0 < u then tick - u else -1) = z
 have HZ:=ahZ hz
 clear hz
 have f3:=hG.free 3
 have c3:=hG.cell 3
 simp at c3
 have hG1:=hG.set 3 (.int .i64 (-1))
 have Dl : Hid (ak (w.setCell ⟨G,3,none⟩ (.int .i64 (-1))) G (jB R tick time (-1) v) 260):=ahZ (by simpa [jB] using hG1)
 have d0:=hG1.cell 0
 have d1:=hG1.cell 1
 simp at d0 d1
 have HR1:=ahZ (h.dB (p:=⟨G,3,none⟩) (λh=>mU h.symm) hBG (.int .i64 (-1)))
 have oO:=ahZ ((Only.refl (λk=>k = R \/ k = G) w).setCell (p:=⟨G,3,none⟩) (.inl (.inr rfl)) (.int .i64 (-1)))
 have w1 : IntKind.u64.wrap tick = tick:=wraps_u64 _ (by omega) (by omega)
 have w2 : wrap64 u = u:=by unfold wrap64;omega
 clear h hG hG1
 go_enter Tryz.func164,Tryz.ntmps164
 go_wp2_with fail
 apply bZ 10
 case hm=>kernel_rfl
 case hB=>kernel_rfl
 simp only [List.take_succ_cons,List.take_zero,List.drop_succ_cons,List.drop_zero]
 repeat (apply bJ;(next=>(intro W hW K hK;have y0:=hW.cell d0;have y1:=hW.cell d1;go_simp;first | exact ⟨Below.refl _ _,hK⟩ | exact hK));(try go_simp))
 refine dL ?_
 intro WC aM _
 have r1:=ru WC (HR1.out.below aM)
 have HG2:=ahZ (Dl.out.below aM Dl.out.lt)
 have bT:=ahZ (oO.out.fu aM)
 clear aM ru Dl HR1 oO d0 d1 f3 c3
 go_wp2_with fail
 refine r1.mono ?_;rintro e w3 ⟨rfl,hR,hO⟩
 have hG3:=hO.blk HG2.out mU
 have M0:=ahZ hG3
 have fT:=ahZ (bT.out.trans (hO.weaken (T:=λk=>k = R \/ k = G) (λk _ h=>.inl h)))
 have HR3:=ahZ hR
 by_cases hu : 0 < u
 ·have e0:=hG3.cell 1
  have e3:=hG3.cell 3
  have g3:=hG3.free 3
  simp at e0 e3
  have w9 : wrap64 (tick - u) = tick - u:=by unfold wrap64;omega
  have hG4:=hG3.set 3 (.int .i64 (tick - u))
  have Kk : Hid (ak (w3.setCell ⟨G,3,none⟩ (.int .i64 (tick - u))) G (jB R tick time (tick - u) v) 260):=ahZ (by simpa [jB] using hG4)
  have HR4:=ahZ (hR.dB (p:=⟨G,3,none⟩) (λh=>mU h.symm) hBG (.int .i64 (tick - u)))
  have Ai:=ahZ (fT.out.setCell (p:=⟨G,3,none⟩) (.inl (.inr rfl)) (.int .i64 (tick - u)))
  have HV : Hid (z = tick - u):=ahZ (by rw [← HZ.out,if_pos hu])
  clear hG3 hR hO r1 HG2 bT M0 HR3 fT hG4
  go_wp2
  exact bodyPost_end (v:=.tuple #[]) (by simp [results,Tryz.results164,go_sem]) rfl ⟨rfl,HR4.out,by rw [HV.out];exact Kk.out,Ai.out⟩
 ·have HV : Hid (z = -1):=ahZ (by rw [← HZ.out,if_neg hu])
  clear hG3 hR hO r1 HG2 bT
  go_wp2
  exact bodyPost_end (v:=.tuple #[]) (by simp [results,Tryz.results164,go_sem]) rfl ⟨rfl,HR3.out,by rw [HV.out];exact M0.out,fT.out⟩
end
end Go.Proofs.YtklkooeimkedgaaGreat
namespace Go.Proofs.YtklkooeimkedgaaGreat
open Go.RowKit
set_option maxRecDepth 8000
theorem bq : aA 0:=⟨by decide,by decide⟩
theorem Kl {off : List Int -> Int × Nat × Int} {s : aH} (h : aX s.1) : aX (iQ off s).2.1:=by
 unfold iQ
 split
 ·exact h
 split
 ·exact h
 split
 ·exact h
 ·exact λz hz=>h z (List.mem_of_mem_drop hz)
theorem lJ {s : aH} (h : aX s.1) : aX (bH s).2.1:=Kl h
theorem iY {m : Int} {s : aH} (h : aX s.1) : aX (bA m s).2.1:=Kl h
theorem j6 {s : aH} (h : aX s.1) : aX (dW s).2.1:=iY h
theorem Fj {s : aH} (h : aX s.1) : aX (dX s).2.1:=j6 (j6 (j6 h))
theorem Ht {s : aH} (h : aX s.1) : aA (dX s).1.1 /\ aA (dX s).1.2.1 /\ aA (dX s).1.2.2:=⟨uw h,uw (j6 h),uw (j6 (j6 h))⟩
theorem Hu {q : Int × aH} (h : aX q.2.1) : aX (tu q).2.1:=by
 unfold tu;simp only;split
 ·exact h
 ·exact h
theorem U0 {m : Int} {i : Nat} {s : aH} (h : aX s.1) : aA (gY m i s).1 /\ aX (gY m i s).2.1:=by
 unfold gY
 split
 ·exact ⟨bq,h⟩
 ·exact ⟨uw h,Hu (j6 h)⟩
theorem U1 {m : Int} {s : aH} (h : aX s.1) : (0 <= (rR m s).1 /\ (rR m s).1 <= 65535) /\ aX (rR m s).2.1:=by
 unfold rR
 split
 ·exact ⟨(show (0:Int) <= 0 /\ (0:Int) <= 65535 by decide),h⟩
 ·exact ⟨jh h (by decide),Hu (iY h)⟩
theorem Hw {m : Int} : ∀ (l : List Nat) {s : aH},aX s.1 -> (∀ x ∈ (jo m l s).1,aA x) /\ aX (jo m l s).2.1
 | [],s,h=>⟨by simp [jo],h⟩
 | i :: l,s,h=>by
  have h1:=U0 (m:=m) (i:=i) h
  have h2:=Hw (m:=m) l h1.2
  refine ⟨λx hx=>?_,h2.2⟩
  rw [jo] at hx
  rcases List.mem_cons.1 hx with rfl | hx
  ·exact h1.1
  ·exact h2.1 x hx
theorem tH {l : List Int} (h : ∀ x ∈ l,aA x) (i : Nat) : aA (l.getD i 0):=by
 unfold List.getD
 cases hx : l[i]? with
 | none=>exact bq
 | some x=>exact h x (List.mem_of_getElem? hx)
theorem RD {k : Int} {r : Rec} {s : aH} (hr : r.Ok) (h : aX s.1) : (rdKind k r s).1.Ok /\ aX (rdKind k r s).2.1 /\ (rdKind k r s).1.id = r.id /\ (rdKind k r s).1.kind = r.kind:=by
 unfold rdKind
 split
 ·have h1:=Fj h
  have h2:=Fj h1
  obtain ⟨a,b,c⟩:=Ht h
  obtain ⟨d,e,f⟩:=Ht h1
  exact ⟨⟨hr.kind,hr.id,a,b,c,d,e,f,jh h2 (by decide)⟩,iY h2,rfl,rfl⟩
 split
 ·unfold vW
  split
  ·exact ⟨hr,lJ h,rfl,rfl⟩
  ·have h1:=Hw (m:=(bH s).1) [0,1,2,3,4,5] (lJ h)
   have h2:=U1 (m:=(bH s).1) h1.2
   exact ⟨⟨hr.kind,hr.id,tH h1.1 0,tH h1.1 1,tH h1.1 2,tH h1.1 3,tH h1.1 4,tH h1.1 5,h2.1⟩,h2.2,rfl,rfl⟩
 split
 ·exact ⟨hr,h,rfl,rfl⟩
 ·exact ⟨hr,h,rfl,rfl⟩
theorem U2 {last : Int} (h1 : -1 <= last) (h2 : last < 65535) {s : aH} (h : aX s.1) : (rT last s).1.Ok /\ aX (rT last s).2.1 /\ last < (rT last s).1.id /\ (rT last s).1.id <= 65535:=by
 unfold rT
 have hb:=jh (most:=65535 - (last + 1)) h (by omega)
 have hk:=AO (iY (m:=65535 - (last + 1)) h)
 unfold U8 at hk
 refine ⟨⟨⟨?_,?_⟩,⟨?_,?_⟩,bq,bq,bq,bq,bq,bq,(show (0:Int) <= 0 /\ (0:Int) <= 65535 by decide)⟩,lJ (iY h),?_,?_⟩ <;> simp only <;> omega
theorem RF {e : Int} (he : e ≠ 0) (s : aH) : (fI e s).2 ≠ 0:=by unfold fI;split <;> simp_all
theorem Km {last : Int} (h1 : -1 <= last) (h2 : last <= 65535) {s : aH} (h : aX s.1) (he : (dN last s).2.1 = 0) : (dN last s).1.Ok /\ aX (dN last s).2.2.1 /\ last < (dN last s).1.id /\ (dN last s).1.id <= 65535:=by
 unfold dN at he ⊢
 by_cases hl : last = 65535
 ·rw [if_pos hl] at he
  exact absurd he (RF (by decide) s)
 ·rw [if_neg hl] at he ⊢
  obtain ⟨a,b,c,d⟩:=U2 h1 (show last < 65535 by omega) h
  have hk:=RD (k:=(rT last s).1.kind) a b
  unfold qD at *
  split at he
  ·rename_i hh;exact absurd he hh
  ·rw [if_neg (by assumption)]
   exact ⟨hk.1,hk.2.1,by rw [hk.2.2.1];exact c,by rw [hk.2.2.1];exact d⟩
theorem yx (r : Rec) : (oM r).length = 9:=rfl
theorem Wj : ∀ (rs : List Rec) (i : Nat) (r : Rec),rs[i]? = some r -> ∀ j,j < 9 -> (rs.flatMap oM)[i * 9 + j]? = (oM r)[j]?
 | [],i,r,h,_,_=>by simp at h
 | x :: rs,0,r,h,j,hj=>by
  simp at h;subst h
  rw [List.flatMap_cons,List.getElem?_append_left (by rw [yx];omega)]
  congr 1;omega
 | x :: rs,i + 1,r,h,j,hj=>by
  have h' : rs[i]? = some r:=by simpa using h
  rw [List.flatMap_cons,List.getElem?_append_right (by rw [yx];omega),yx,show (i + 1) * 9 + j - 9 = i * 9 + j by omega]
  exact Wj rs i r h' j hj
def gL (w : World) (base : Nat) (v : Value) (rs : List Rec) : Prop:=w.ownsRow base 147 9 v rs.length (rs.flatMap oM) /\ ∀ r ∈ rs,r.Ok
theorem gL.nil (w : World) (base : Nat) : gL w base (.slice none 0 0) []:=⟨World.ownsRow_nil _ _ _ _,by simp⟩
theorem gL.below {w w' : World} {base B : Nat} {v : Value} {rs : List Rec} (h : gL w base v rs) (hb : Below B w w') (hB : ∀ j,v.ownBlock = some j -> j < B) : gL w' base v rs:=by
 obtain ⟨⟨h1,h2⟩,h3⟩:=h
 refine ⟨⟨h1,?_⟩,h3⟩
 rcases h2 with h2 | ⟨g,cap,cur,rfl,a,b,c⟩
 ·exact .inl h2
 ·exact .inr ⟨g,cap,cur,rfl,a,by rw [hb.block g (hB g rfl)];exact b,c⟩
theorem gL.only {w w' : World} {base : Nat} {v : Value} {rs : List Rec} {S : Nat -> Prop} (h : gL w base v rs) (ho : Only S w w') (hS : ∀ j,v.ownBlock = some j -> ¬ S j) : gL w' base v rs:=by
 have hlt:=h.1.lt
 obtain ⟨⟨h1,h2⟩,h3⟩:=h
 refine ⟨⟨h1,?_⟩,h3⟩
 rcases h2 with h2 | ⟨g,cap,cur,rfl,a,b,c⟩
 ·exact .inl h2
 ·exact .inr ⟨g,cap,cur,rfl,a,by rw [ho.block g (hlt g rfl).2 (hS g rfl)];exact b,c⟩
theorem gL.recs {w : World} {base : Nat} {v : Value} {rs : List Rec} (h : gL w base v rs) : ∃ a cap,v = .slice a rs.length cap /\ oU w a rs /\ (a = none -> cap = 0):=by
 have hc:=λg hg=>h.1.cells (g:=g) hg
 have hlt:=h.1.lt
 obtain ⟨⟨h1,h2⟩,h3⟩:=h
 rcases h2 with ⟨rfl,hn⟩ | ⟨g,cap,cur,rfl,a,b,c⟩
 ·have : rs = []:=List.eq_nil_of_length_eq_zero hn
  subst this
  exact ⟨none,0,rfl,⟨h3,.inl rfl⟩,λ_=>rfl⟩
 ·refine ⟨_,cap,rfl,⟨h3,.inr ⟨g,0,rfl,(hlt g rfl).2,λi r hi=>?_⟩⟩,λh=>by cases h⟩
  have hf:=Wj rs i r hi
  have ha : ∀ o,(⟨g,0,none⟩ : Addr).add o = ⟨g,o,none⟩:=λo=>by unfold Addr.add;split <;> simp_all
  have cell : ∀ j u,j < 9 -> (oM r)[j]? = some u -> w.cell? ⟨g,i * 9 + j,none⟩ = some u:=λj u hj hu=>by
   rw [← ha];exact hc g rfl _ _ (by rw [hf j hj];exact hu)
  rw [Nat.zero_add]
  exact ⟨cell 0 _ (by decide) rfl,cell 1 _ (by decide) rfl,cell 2 _ (by decide) rfl,cell 3 _ (by decide) rfl,cell 4 _ (by decide) rfl,cell 5 _ (by decide) rfl,cell 6 _ (by decide) rfl,cell 7 _ (by decide) rfl,cell 8 _ (by decide) rfl⟩
theorem mJ {ops : Array Oper} {rest : List Oper} {o : Oper} {a : Act} {Q : Exit -> Act -> World -> Prop} (w : World) (hgd : o.guard = none) (s x : Operand) (tS tE : TypeId)
  (ho : o.op = .call { callee:=.builtin .append,args:=#[s,x],argTypes:=#[tS,tS] })
  (base : Nat) (z : Value) (k bytes : Nat) (ht : Tryz.prog.underlying tS = some (.slice tE)) (hinfo : (Tryz.prog.info? tE).map (λi=>(i.zero,i.size,i.bytes)) = some (some z,k,bytes)) (hzs : z.cells.size = k) (hk : 0 < k)
  (v : Value) (n : Nat) (xs : List Value) (hs : a.eval s = v) (hown : w.ownsRow base tE k v n xs)
  (g : Nat) (cs : Array Value) (hx : a.eval x = .slice (some ⟨g,0,none⟩) 1 1) (hb : ak w g cs tE) (hcs : cs.size = k) (h1 : ∀ u ∈ cs.toList,u.oneCell' = true)
  (h63 : n + 1 <= maxLen) (hbytes : (n + 1) * bytes <= 140737488355328) (hbase : base <= w.heap.size)
  (h : ∀ v' w',w'.ownsRow base tE k v' (n + 1) (xs ++ cs.toList) -> w.grownBy w' v.ownBlock -> wpList Tryz.prog ops Q rest (a.put o.dst v') w') : wpList Tryz.prog ops Q (o :: rest) a w:=by
 obtain ⟨i0,hi,hz0,hz1,hz2⟩:=info_parts hinfo
 refine wpList_append_own w hgd s x tS ho base tE i0 z k bytes ht hi hz0 hz1 hz2 hzs hk v n xs hs hown ⟨g,0,none⟩ 1 1 cs.toList hx (by simp [hcs]) ?_ h1 h63 hbytes hbase (λv' w' h2 h3 _=>h v' w' h2 h3)
 intro j u hj
 have e : (⟨g,0,none⟩ : Addr).add j = ⟨g,j,none⟩:=by unfold Addr.add;split <;> simp_all
 rw [e,hb.cell j]
 simpa using hj
theorem M4 : (Tryz.prog.info? 147).map (λi=>(i.zero,i.size,i.bytes)) = some (some (.agg #[.int .i64 0,.int .i64 0,.int .i64 0,.int .i64 0,.int .i64 0,.int .i64 0,.int .i64 0,.int .i64 0,.int .u16 0]),9,72):=by kernel_rfl
end Go.Proofs.YtklkooeimkedgaaGreat
namespace Go.Proofs.YtklkooeimkedgaaGreat
open Go.RowKit
set_option maxRecDepth 8000
def OI (w : World) (G R B0 : Nat) (tick time base : Int) (N : Nat) (s1 : aH) (k : Nat) (lv : Value) (wr : World) : Prop :=
 ∃ (last : Int) (rs : List Rec) (sk : aH) (v : Value),lv = .int .i64 last /\ -1 <= last /\ last <= 65535 /\ rs.length = k /\
  gH N (-1) s1 = (rs ++ (gH (N - k) last sk).1,(gH (N - k) last sk).2) /\ bB wr R B0 sk /\ ak wr G (jB R tick time base v) 260 /\ gL wr w.heap.size v rs /\ w.heap.size <= wr.heap.size /\ Only (λk=>k = R \/ k = G) w wr
def Ap (w : World) (G R B0 : Nat) (tick time base : Int) (v : Value) (rs : List Rec) (s : aH) (X : Nat) (r : Rec) : List (Nat × Value) -> World -> Prop
 | [],W=>(bB W R B0 s /\ ak W X (aZ r) 147 /\ w.heap.size <= W.heap.size /\ Only (λk=>k = R \/ k = G) w W) /\ ak W G (jB R tick time base v) 260 /\ gL W w.heap.size v rs
 | [(7,u)],W=>(bB W R B0 s /\ ak W X (aZ r) 147 /\ w.heap.size <= W.heap.size /\ Only (λk=>k = R \/ k = G) w W) /\ ak W G (jB R tick time base v) 260 /\ gL W w.heap.size v rs /\ ∃ g,u = .slice (some ⟨g,0,none⟩) 1 1 /\ ak W g (aZ r) 147 /\ w.heap.size <= g /\ v.ownBlock ≠ some g
 | [(7,_),(8,v2)],W=>(bB W R B0 s /\ ak W X (aZ r) 147 /\ w.heap.size <= W.heap.size /\ Only (λk=>k = R \/ k = G) w W) /\ ak W G (jB R tick time base v) 260 /\ gL W w.heap.size v2 (rs ++ [r])
 | [(7,_),(8,v2),(14,_)],W=>(bB W R B0 s /\ ak W X (aZ r) 147 /\ w.heap.size <= W.heap.size /\ Only (λk=>k = R \/ k = G) w W) /\ ak W G (jB R tick time base v2) 260 /\ gL W w.heap.size v2 (rs ++ [r])
 | _,_=>False
theorem ji {w w' : World} {row : Option Nat} (h : w.grownBy w' row) : Only (λk=>row = some k) w w' :=
 ⟨h.os,h.tape,h.output,h.size,λk hk hs=>h.block k hk (λe=>hs e.symm)⟩
theorem bB.only {w w' : World} {R B0 : Nat} {s : aH} {S : Nat -> Prop} (h : bB w R B0 s) (ho : Only S w w') (hR : ¬ S R) (hB : ∀ k,k < B0 -> ¬ S k) : bB w' R B0 s:=by
 obtain ⟨a,len,cap,zs,at',h1,h2,h3,h4⟩:=h
 exact ⟨a,len,cap,zs,at',ho.blk h1 hR,h2.only ho (λx hx=>hB _ (h3 x hx).2),h3,h4⟩
theorem Ap.one {w : World} {G R B0 : Nat} {tick time base : Int} {v : Value} {rs : List Rec} {s : aH} {X : Nat} {r : Rec} {b : List (Nat × Value)} {W : World} (h : Ap w G R B0 tick time base v rs s X r b W) : ak W X (aZ r) 147:=by
 unfold Ap at h
 split at h
 ·exact h.1.2.1
 ·exact h.1.2.1
 ·exact h.1.2.1
 ·exact h.1.2.1
 ·exact h.elim
theorem Ap.par {ops : Array Oper} {i : Nat} {w : World} {G R B0 : Nat} {tick time base : Int} {v : Value} {rs : List Rec} {s : aH} {X : Nat} {r : Rec} {b : List (Nat × Value)} {W : World} (hf : ∀ p ∈ b,mI .any ops p.1 i = false) (ha : mI .any ops 14 i = true) (h : Ap w G R B0 tick time base v rs s X r b W) : ak W G (jB R tick time base v) 260:=by
 unfold Ap at h
 split at h
 ·exact h.2.1
 ·exact h.2.1
 ·exact h.2.1
 ·rename_i v2 u b'
  have:=hf (14,b') (by simp)
  simp only at this
  rw [ha] at this
  cases this
 ·exact h.elim
set_option maxHeartbeats 4000000 in
theorem OJ {B0 : Nat} (G R : Nat) (tick time base : Int) (s : aH) (w : World) (h : bB w R B0 s) (hG : ak w G (jB R tick time base (.slice none 0 0)) 260) (mU : ¬ G = R) (hBG : B0 <= G) :
  Calls Tryz.prog 165 #[.pointer (some ⟨G,0,none⟩)] w λe w'=>e = .returned (.tuple #[]) /\ bB w' R B0 (lq s).2 /\ (∃ v,ak w' G (jB R tick time base v) 260 /\ gL w' w.heap.size v (lq s).1) /\ Only (λk=>k = R \/ k = G) w w':=by
 have ru:=sW (B0:=B0) R s 128 w h
 have ub:=jh (most:=128) h.u8 (by decide)
 have rr:=λlast h1 h2 s w h hB=>XT (B0:=B0) R s last h1 h2 w h hB
 have HZ : Hid (lq s = gH (bA 128 s).1.toNat (-1) (bA 128 s).2):=ahZ rfl
 generalize lq s = z at *
 generalize bA 128 s = q1 at *
 obtain ⟨n,s1⟩:=q1
 simp only at *
 obtain ⟨N,rfl⟩ : ∃ N : Nat,n = N:=⟨n.toNat,by omega⟩
 rw [Int.toNat_natCast] at HZ
 have hRl:=h.lt
 have hGl:=hG.lt
 have c0:=hG.cell 0
 simp at c0
 have HG:=ahZ hG
 clear h hG
 go_enter Tryz.func165,Tryz.ntmps165
 go_wp2_with fail
 refine ru.mono ?_;rintro e w1 ⟨rfl,hR,hO⟩
 have HS : Hid (OI w G R B0 tick time base N s1 0 (.int .i64 (-1)) w1):=ahZ ⟨-1,[],s1,.slice none 0 0,rfl,by decide,by decide,rfl,by simp,hR,hO.blk HG.out mU,gL.nil _ _,hO.size,hO.weaken (λk _ h=>.inl h)⟩
 clear hR hO ru c0 HG
 go_wp2_with fail
 go_loopw [2,10] (λlv i wr=>∃ k : Nat,k <= N /\ i = .int .u64 k /\ OI w G R B0 tick time base N s1 k lv wr) (λ_ i _=>N - (intOf i).toNat)
 case atStart=>exact ⟨0,Nat.zero_le _,rfl,HS.out⟩
 case round =>
  rename_i wr
  obtain ⟨k,hk,rfl,last,rs,sk,v,rfl,hl1,hl2,hlen,hE,hR,hG,r9,hsz,hO⟩:=hrel
  have HO:=ahZ hO
  have HE:=ahZ hE
  have HOW:=ahZ r9
  have HG:=ahZ hG
  have HR:=ahZ hR
  have c0:=hG.cell 0
  simp at c0
  by_cases hlt : k < N
  ·have hlt' : (k : Int) < N:=by omega
   have r1:=rr last hl1 hl2 sk wr hR (by omega)
   have ok:=λhe=>Km hl1 hl2 hR.u8 he
   obtain ⟨m,hm⟩ : ∃ m,N - k = m + 1:=⟨N - k - 1,by omega⟩
   have hm2 : N - (k + 1) = m:=by omega
   have HD : Hid (gH (N - k) last sk = if (dN last sk).2.1 ≠ 0 then ([],(dN last sk).2.2) else ((dN last sk).1 :: (gH m (dN last sk).1.id (dN last sk).2.2).1,(gH m (dN last sk).1.id (dN last sk).2.2).2)):=ahZ (by rw [hm,gH])
   generalize dN last sk = q at *
   obtain ⟨r,er,s2⟩:=q
   simp only at *
   clear hE hR hG r9 hO rr HS
   by_cases her : er = 0
   ·subst her
    obtain ⟨uX,_,agR,aek⟩:=ok rfl
    have HD2 : Hid (gH (N - k) last sk = (r :: (gH m r.id s2).1,(gH m r.id s2).2)):=ahZ (by rw [HD.out,if_neg (by simp)])
    have HRK:=ahZ uX
    clear HD ok uX
    obtain ⟨rk,ri,p1,p2,p3,v1,v2,v3,ra⟩:=r
    unfold lI at r1
    simp only at *
    go_wp2_with fail
    refine r1.mono ?_;rintro e w3 ⟨rfl,kL,hO3⟩
    have hG3:=hO3.blk HG.out mU
    have Bq:=HOW.out.only hO3 (λj e hj=>by have:=(HOW.out.1.lt j e).1;omega)
    have Ko:=HO.out.trans (hO3.weaken (T:=λk=>k = R \/ k = G) (λk _ h=>.inl h))
    have hs3:=hO3.size
    have iX : Below w3.heap.size w3 (w3.alloc (.cells (aZ ⟨rk,ri,p1,p2,p3,v1,v2,v3,ra⟩) 147)):=(Below.refl _ _).alloc (Nat.le_refl _) _
    have HI : Hid (Ap w G R B0 tick time base v rs s2 w3.heap.size ⟨rk,ri,p1,p2,p3,v1,v2,v3,ra⟩ [] (w3.alloc (.cells (aZ ⟨rk,ri,p1,p2,p3,v1,v2,v3,ra⟩) 147)).drew):=ahZ ⟨⟨(kL.below iX).below (below_drewN (Below.refl _ _) 1),ak.new w3 _ _,by show w.heap.size <= (w3.alloc _).heap.size;simp;omega,(Ko.alloc _).draws 1⟩,hG3.alloc _,Bq.below (below_drewN iX 1) (λj e=>(Bq.1.lt j e).2)⟩
    have HWS : Hid (w.heap.size <= w3.heap.size):=ahZ (by omega)
    have HVX : Hid (∀ j,v.ownBlock = some j -> j < w3.heap.size):=ahZ (λj e=>(Bq.1.lt j e).2)
    have HL2 : Hid (rs.length + 1 = k + 1):=ahZ (by omega)
    clear kL hO3 hG3 Bq Ko iX r1 c0 HR HG HO HOW
    go_wp2_with fail
    apply wG 15 [7,8,14] (Ap w G R B0 tick time base v rs s2 w3.heap.size ⟨rk,ri,p1,p2,p3,v1,v2,v3,ra⟩)
    case hm=>kernel_rfl
    case hB=>kernel_rfl
    case hp=>kernel_rfl
    case hI=>exact HI.out
    simp only [List.take_succ_cons,List.take_zero,List.drop_succ_cons,List.drop_zero]
    (apply eD;(next=>rfl);(next=>(intro b W hf hW K hK;go_simp;first | exact ⟨hW,hK⟩ | exact hK));(next=>exact ⟨_,HI.out⟩);(try go_simp))
    (apply eD;(next=>rfl);(next=>(intro b W hf hW K hK;go_simp;first | exact ⟨hW,hK⟩ | exact hK));(next=>exact ⟨_,HI.out⟩);(try go_simp))
    (apply eD;(next=>rfl);(next=>(intro b W hf hW K hK;go_simp;first | exact ⟨hW,hK⟩ | exact hK));(next=>exact ⟨_,HI.out⟩);(try go_simp))
    (apply eD;(next=>rfl);(next=>(intro b W hf hW K hK;go_simp;first | exact ⟨hW,hK⟩ | exact hK));(next=>exact ⟨_,HI.out⟩);(try go_simp))
    (apply eD;(next=>rfl);(next=>(intro b W hf hW K hK;go_simp;first | exact ⟨hW,hK⟩ | exact hK));(next=>exact ⟨_,HI.out⟩);(try go_simp))
    (apply eD;(next=>rfl);(next=>(intro b W hf hW K hK;have yG:=(Ap.par hf (by kernel_rfl) hW).cell 4;simp at yG;go_simp;first | exact ⟨hW,hK⟩ | exact hK));(next=>exact ⟨_,HI.out⟩);(try go_simp))
    (apply eD;(next=>rfl);(next=>(intro b W hf hW K hK;have yX:=Ap.one hW;have x0:=yX.cell 0;have x1:=yX.cell 1;have x2:=yX.cell 2;have x3:=yX.cell 3;have x4:=yX.cell 4;have x5:=yX.cell 5;have x6:=yX.cell 6;have x7:=yX.cell 7;have x8:=yX.cell 8;simp at x0 x1 x2 x3 x4 x5 x6 x7 x8;go_simp;first | exact ⟨hW,hK⟩ | exact hK));(next=>exact ⟨_,HI.out⟩);(try go_simp))
    apply rZ (s:=λ_=>True)
    case hk=>rfl
    case hne=>exact ⟨undef,trivial⟩
    case hw=>rfl
    case h =>
     intro W hW
     obtain ⟨⟨hR,hX,hs,hO⟩,hG,hV⟩:=hW
     go_simp
     refine ⟨⟨hR.below ((Below.refl _ _).alloc (Nat.le_refl _) _),hX.alloc _,by simp;omega,hO.alloc _⟩,hG.alloc _,hV.below ((Below.refl _ _).alloc (Nat.le_refl _) _) (λj e=>(hV.1.lt j e).2),W.heap.size,rfl,ak.new W _ _,hs,λhh=>?_⟩
     exact absurd (hV.1.lt _ hh).2 (Nat.lt_irrefl _)
    intro uu _
    apply rZ (s:=λ_=>True)
    case hk=>rfl
    case hne=>exact ⟨undef,trivial⟩
    case hw=>rfl
    case h =>
     intro W hW
     obtain ⟨⟨hR,hX,hs,hO⟩,hG,hV,g,rfl,hg,hgs,hgv⟩:=hW
     refine Ao (d:=31) (ops:=#[]) rfl (by simp [Act.put]) rfl ?_
     intro Q hQ
     refine mJ W rfl (.tmp 28) (.tmp 30) 37 147 rfl w.heap.size _ 9 72 Tryz.underlying37 M4 rfl (by decide) v rs.length (rs.flatMap oM) rfl hV.1 g _ rfl hg rfl (by intro u hu;simp [aZ] at hu;rcases hu with rfl | rfl | rfl | rfl | rfl | rfl | rfl | rfl | rfl <;> rfl) (by unfold maxLen;omega) (by omega) hs ?_
     intro v' w' hv hgr
     have hnG:=bK hV.1 hG (by decide)
     refine hQ v' w' trivial ⟨⟨?_,hX.grown hgr ?_,Nat.le_trans hs hgr.size,?_⟩,hG.grown hgr hnG,?_,?_⟩
     ·refine hR.only (ji hgr) (λhh=>?_) (λk hk hh=>?_)
      ·have:=(hV.1.lt _ hh).1;omega
      ·have:=(hV.1.lt _ hh).1;omega
     ·exact λhh=>by have:=HVX.out _ hh;omega
     ·exact hO.bQ (ji hgr) (λi hi hh=>by have:=(hV.1.lt _ hh).1;omega)
     ·rw [List.length_append,List.flatMap_append];simpa [oM,aZ] using hv
     ·intro r hr
      rcases List.mem_append.1 hr with hr | hr
      ·exact hV.2 r hr
      ·simp at hr;subst hr;exact HRK.out
    intro J8 _
    (apply eD;(next=>rfl);(next=>(intro b W hf hW K hK;have yX:=Ap.one hW;have x1:=yX.cell 1;simp at x1;go_simp;first | exact ⟨hW,hK⟩ | exact hK));(next=>exact ⟨_,HI.out⟩);(try go_simp))
    (apply eD;(next=>rfl);(next=>(intro b W hf hW K hK;have yX:=Ap.one hW;have x1:=yX.cell 1;simp at x1;go_simp;first | exact ⟨hW,hK⟩ | exact hK));(next=>exact ⟨_,HI.out⟩);(try go_simp))
    (apply eD;(next=>rfl);(next=>(intro b W hf hW K hK;go_simp;first | exact ⟨hW,hK⟩ | exact hK));(next=>exact ⟨_,HI.out⟩);(try go_simp))
    (apply eD;(next=>rfl);(next=>(intro b W hf hW K hK;go_simp;first | exact ⟨hW,hK⟩ | exact hK));(next=>exact ⟨_,HI.out⟩);(try go_simp))
    (apply eD;(next=>rfl);(next=>(intro b W hf hW K hK;go_simp;first | exact ⟨hW,hK⟩ | exact hK));(next=>exact ⟨_,HI.out⟩);(try go_simp))
    apply rZ (s:=λ_=>True)
    case hk=>rfl
    case hne=>exact ⟨undef,trivial⟩
    case hw=>rfl
    case h =>
     intro W hW
     obtain ⟨⟨hR,hX,hs,hO⟩,hG,hV⟩:=hW
     have f4:=hG.free 4
     have g4:=hG.cell 4
     simp at g4
     obtain ⟨av,cv,rfl,_⟩:=hV.recs
     have hll : (rs ++ [(⟨rk,ri,p1,p2,p3,v1,v2,v3,ra⟩ : Rec)]).length = k + 1:=by rw [List.length_append];exact HL2.out
     rw [hll] at hV
     go_simp
     refine ⟨⟨hR.dB (p:=⟨G,4,none⟩) (λh=>mU h.symm) hBG _,hX.far (p:=⟨G,4,none⟩) ?_ _,?_,hO.setCell (p:=⟨G,4,none⟩) (.inl (.inr rfl)) _⟩,?_,?_⟩
     ·show w3.heap.size ≠ G;have:=HWS.out;omega
     ·simpa [World.setCell] using hs
     ·simpa [jB] using hG.set 4 _
     ·exact hV.only ((Only.refl (λk=>k = G) W).setCell (p:=⟨G,4,none⟩) (.inl rfl) _) (λj e hj=>by have:=(hV.1.lt j e).1;omega)
    intro v4 _
    refine Bp ?_
    intro WC aM
    have HS2 : Hid (OI w G R B0 tick time base N s1 (k + 1) (.int .i64 ri) WC):=ahZ (by
     obtain ⟨⟨hR,hX,hs,hO⟩,hG,hV⟩:=aM
     refine ⟨ri,rs ++ [⟨rk,ri,p1,p2,p3,v1,v2,v3,ra⟩],s2,_,rfl,by omega,aek,by rw [List.length_append];exact HL2.out,?_,hR,hG,hV,hs,hO⟩
     rw [hm2,HE.out,HD2.out,List.append_assoc]
     rfl)
    clear aM
    go_wp2
    go_roundw
    case rel=>exact ⟨k + 1,by omega,by go_num,HS2.out⟩
    case measure=>simp [intOf];omega
   ·have agS : (er != 0) = true:=by simpa using her
    have HD2 : Hid (gH (N - k) last sk = ([],s2)):=ahZ (by rw [HD.out,if_pos her])
    clear HD ok her
    obtain ⟨rk,ri,p1,p2,p3,v1,v2,v3,ra⟩:=r
    unfold lI at r1
    simp only at *
    go_wp2_with fail
    refine r1.mono ?_;rintro e w3 ⟨rfl,kL,hO3⟩
    have hG3:=hO3.blk HG.out mU
    have Bq:=HOW.out.only hO3 (λj e hj=>by have:=(HOW.out.1.lt j e).1;omega)
    have Ko:=HO.out.trans (hO3.weaken (T:=λk=>k = R \/ k = G) (λk _ h=>.inl h))
    have iX : Below w3.heap.size w3 (w3.alloc (.cells (aZ ⟨rk,ri,p1,p2,p3,v1,v2,v3,ra⟩) 147)):=(Below.refl _ _).alloc (Nat.le_refl _) _
    have HF:=ahZ (show bB _ R B0 s2 /\ ak _ G (jB R tick time base v) 260 /\ gL _ w.heap.size v rs /\ Only (λk=>k = R \/ k = G) w _ from ⟨kL.below iX,hG3.alloc (.cells (aZ ⟨rk,ri,p1,p2,p3,v1,v2,v3,ra⟩) 147),Bq.below iX (λj e=>(Bq.1.lt j e).2),Ko.alloc (.cells (aZ ⟨rk,ri,p1,p2,p3,v1,v2,v3,ra⟩) 147)⟩)
    have HV : Hid (z = (rs,s2)):=ahZ (by rw [HZ.out,HE.out,HD2.out];simp)
    clear kL hO3 hG3 Bq Ko iX r1 c0 HR HG HO HOW HE HD2 HZ
    go_wp2
    exact bodyPost_ret (v:=.tuple #[]) (by simp [results,Tryz.results165,go_sem]) rfl ⟨rfl,by rw [HV.out];exact HF.out.1,⟨v,HF.out.2.1,by rw [HV.out];exact HF.out.2.2.1⟩,HF.out.2.2.2⟩
  ·obtain rfl : k = N:=by omega
   have HV : Hid (z = (rs,sk)):=ahZ (by rw [HZ.out,HE.out,Nat.sub_self];simp [gH])
   clear hE hR hG r9 hO rr HZ HE c0
   go_wp2
   exact bodyPost_end (v:=.tuple #[]) (by simp [results,Tryz.results165,go_sem]) rfl ⟨rfl,by rw [HV.out];exact HR.out,⟨v,HG.out,by rw [HV.out];exact HOW.out⟩,HO.out⟩
end Go.Proofs.YtklkooeimkedgaaGreat
namespace Go.Proofs.YtklkooeimkedgaaGreat
open Go.RowKit
set_option maxRecDepth 8000
theorem bf.cap {w : World} {base : Nat} {v : Value} {zs : List Int} (h : bf w base v zs) : ∃ a c,v = .slice a zs.length c /\ BytesAt w a zs.length zs /\ (a = none -> c = 0) /\ zs.length <= c /\ ∀ x,a = some x -> base <= x.block /\ x.block < w.heap.size:=by
 have hlt:=h.lt
 obtain ⟨a,c,rfl,h1,h2⟩:=h.bytes
 refine ⟨a,c,rfl,h1,h2,?_,λx hx=>?_⟩
 ·obtain ⟨⟨_,⟨e,hn⟩ | ⟨g,cap,cur,e,_,_,hc,_⟩⟩,_⟩:=h
  ·omega
  ·cases e;exact hc
 ·subst hx;exact hlt _ rfl
theorem gL.base {w : World} {base base' : Nat} {v : Value} {rs : List Rec} (h : gL w base v rs) (hb : base' <= base) : gL w base' v rs:=by
 obtain ⟨⟨h1,h2⟩,h3⟩:=h
 refine ⟨⟨h1,?_⟩,h3⟩
 rcases h2 with h2 | ⟨g,cap,cur,rfl,a,b,c⟩
 ·exact .inl h2
 ·exact .inr ⟨g,cap,cur,rfl,Nat.le_trans hb a,b,c⟩
theorem zP {w : World} {b : Nat} {t : TypeId} {o0 v0 o1 v1 o2 v2 o3 v3 : Value} (h : ak w b #[o0,o1,o2,o3] t) : ak ((((w.setCell ⟨b,0,none⟩ v0).setCell ⟨b,1,none⟩ v1).setCell ⟨b,2,none⟩ v2).setCell ⟨b,3,none⟩ v3) b #[v0,v1,v2,v3] t:=by
 simpa using ((((h.set 0 v0).set 1 v1).set 2 v2).set 3 v3)
theorem Fp {S : Nat -> Prop} {w0 w : World} {b : Nat} {v0 v1 v2 v3 : Value} (h : Only S w0 w) (hb : S b \/ w0.heap.size <= b) : Only S w0 ((((w.setCell ⟨b,0,none⟩ v0).setCell ⟨b,1,none⟩ v1).setCell ⟨b,2,none⟩ v2).setCell ⟨b,3,none⟩ v3) :=
 ((((h.setCell (p:=⟨b,0,none⟩) hb v0).setCell (p:=⟨b,1,none⟩) hb v1).setCell (p:=⟨b,2,none⟩) hb v2).setCell (p:=⟨b,3,none⟩) hb v3)
theorem zo {w0 w : World} {b : Nat} {v0 v1 v2 v3 : Value} (h : Below w0.heap.size w0 w) (hb : w0.heap.size <= b) : Below w0.heap.size w0 ((((w.setCell ⟨b,0,none⟩ v0).setCell ⟨b,1,none⟩ v1).setCell ⟨b,2,none⟩ v2).setCell ⟨b,3,none⟩ v3) :=
 (Fp (S:=λ_=>False) (Only.of_below h) (.inr hb)).below (Nat.le_refl _) (λ_ h=>h.elim)
theorem Hy {c : Int} {s : aH} (h : aX s.1) : aX (jW c s).1:=by
 unfold jW;split
 ·exact lJ h
 ·exact lJ h
theorem OL {s : aH} (h : aX s.1) : aX (jP s).1:=Hy (Hy h)
abbrev RG : Array Value:=#[.int .i64 0,.int .i64 0,.int .i64 0,.slice none 0 0]
abbrev uY (f : FuncId) (G : Nat) : Value:=.func (.func f) #[.pointer (some ⟨G,0,none⟩)] #[]
def Fq (w : World) (A R G F B0 : Nat) (st : aH) (cs : Array Value) (wr : World) : Prop :=
 bB wr R B0 st /\ ak wr G cs 260 /\ ak wr A RG 39 /\ ak wr F #[uY 162 G,uY 163 G,uY 164 G,uY 165 G] 1 /\ Below w.heap.size w wr
def Gp (w : World) (A R G F B0 : Nat) (c : List (aH × Int × Int × Int)) (rs : List Rec) (k : Nat) (wr : World) : Prop :=
 ∃ q v,c[k]? = some q /\ Fq w A R G F B0 q.1 (jB R q.2.1 q.2.2.1 q.2.2.2 v) wr /\ (k < 4 -> v = .slice none 0 0) /\ (k = 4 -> gL wr w.heap.size v rs)
theorem Fq.step {w : World} {A R G F B0 : Nat} {st st2 : aH} {cs cs2 : Array Value} {wr w2 : World} (h : Fq w A R G F B0 st cs wr) (ho : Only (λk=>k = R \/ k = G) wr w2) (hR : bB w2 R B0 st2) (hG : ak w2 G cs2 260)
  (hd : (A ≠ R /\ A ≠ G) /\ (F ≠ R /\ F ≠ G) /\ w.heap.size <= R /\ w.heap.size <= G) : Fq w A R G F B0 st2 cs2 w2:=by
 obtain ⟨h1,h2,h3,h4,h5⟩:=h
 obtain ⟨⟨a1,a2⟩,⟨a3,a4⟩,a5,a6⟩:=hd
 refine ⟨hR,hG,ho.blk h3 (by omega),ho.blk h4 (by omega),h5.trans (ho.below h5.size (λk hk=>by omega))⟩
set_option maxHeartbeats 4000000 in
theorem X0 (a : Option Addr) (len cap : Nat) (zs : List Int) (w : World) (hz : BytesAt w a len zs) (hc : a = none -> cap = 0) (hlc : len <= cap) (hl : (len : Int) <= 140737488355000) :
  Calls Tryz.prog 114 #[.slice a len cap] w λe w'=>∃ v,e = .returned (.tuple #[.agg #[.int .i64 (bF zs).1.tick,.int .i64 (bF zs).1.time,.int .i64 (bF zs).1.base,v],.int .i64 (bF zs).2]) /\ gL w' w.heap.size v (bF zs).1.recs /\ Below w.heap.size w w':=by
 have hlen:=hz.1
 have HZ : Hid (bF zs = if 4096 < zs.length then (oN,8) else match iJ zs with | none=>(oN,9) | some x=>if lu (iM (x,0)).2 ≠ 0 then (oN,lu (iM (x,0)).2) else ((iM (x,0)).1,0)):=ahZ rfl
 generalize bF zs = z at *
 have mE : ak (w.alloc (.cells RG 39)) w.heap.size RG 39:=ak.new w _ _
 have hB0 : Below w.heap.size w (w.alloc (.cells RG 39)):=(Below.refl _ _).alloc (Nat.le_refl _) _
 by_cases hbig : 4096 < len
 ·have HV : Hid (z = (oN,8)):=ahZ (by rw [HZ.out,if_pos (by omega)])
  have hbig2 : (4096 : Int) < len:=by omega
  have HB:=ahZ hB0
  clear HZ hbig hz mE hB0
  go_enter Tryz.func114,Tryz.ntmps114
  go_wp2
  exact bodyPost_ret (v:=.tuple #[.agg RG,.int .i64 8]) (by simp [results,Tryz.results114,go_sem]) rfl ⟨.slice none 0 0,by rw [HV.out];rfl,by rw [HV.out];exact gL.nil _ _,HB.out⟩
 ·have hbig2 : ¬ (4096 : Int) < len:=by omega
  have hz1:=hz.below hB0
  have op:=Xq a len cap zs _ hz1 hc hlc hl
  have uW:=ahZ mE
  have HB0:=ahZ hB0
  have HLEN : Hid ((iJ zs).getD [] = (iJ zs).getD [] /\ (((iJ zs).getD []).length : Int) <= 140737488355000):=ahZ ⟨rfl,by
   cases hx : iJ zs with
   | none=>simp
   | some x =>
    unfold iJ at hx
    split at hx
    ·cases hx
    split at hx
    ·cases hx;simp;omega
    ·cases hx⟩
  have HZ2 : Hid (z = match iJ zs with | none=>(oN,9) | some x=>if lu (iM (x,0)).2 ≠ 0 then (oN,lu (iM (x,0)).2) else ((iM (x,0)).1,0)):=ahZ (by rw [HZ.out,if_neg (by omega)])
  clear HZ hbig hz mE hB0 hz1
  cases hcz : iJ zs with
  | none =>
   rw [hcz] at op
   have HV : Hid (z = (oN,9)):=ahZ (by rw [HZ2.out,hcz])
   clear HZ2 HLEN hcz
   simp only [Option.isSome_none] at op
   go_enter Tryz.func114,Tryz.ntmps114
   go_wp2_with fail
   refine op.mono ?_;rintro e w1 ⟨v,rfl,ho,hb⟩
   have hA1:=uW.out.below hb uW.out.lt
   have HA1:=ahZ hA1
   have HB1:=ahZ (HB0.out.trans (hb.mono (by simp)))
   have c0:=hA1.cell 0
   have c1:=hA1.cell 1
   have c2:=hA1.cell 2
   have c3:=hA1.cell 3
   have f0:=hA1.free 0
   have f1:=hA1.free 1
   have f2:=hA1.free 2
   have f3:=hA1.free 3
   simp at c0 c1 c2 c3
   clear ho hb hA1 op
   go_wp2
   exact bodyPost_ret (v:=.tuple #[.agg #[.int .i64 0,.int .i64 0,.int .i64 0,.slice none 0 0],.int .i64 9])
    (by
      have hh:=zP (v0:=.int .i64 0) (v1:=.int .i64 0) (v2:=.int .i64 0) (v3:=.slice none 0 0) HA1.out
      have g0:=hh.cell 0
      have g1:=hh.cell 1
      have g2:=hh.cell 2
      have g3:=hh.cell 3
      simp at g0 g1 g2 g3
      simp [results,Tryz.results114,go_sem,g0,g1,g2,g3]) rfl
    ⟨.slice none 0 0,by rw [HV.out];rfl,by rw [HV.out];exact gL.nil _ _,zo HB1.out (Nat.le_refl _)⟩
  | some x =>
   rw [hcz] at op HLEN
   have HV : Hid (z = if lu (iM (x,0)).2 ≠ 0 then (oN,lu (iM (x,0)).2) else ((iM (x,0)).1,0)):=ahZ (by rw [HZ2.out,hcz])
   clear HZ2 hcz
   simp only [Option.isSome_some,Option.getD_some] at op HLEN
   go_enter Tryz.func114,Tryz.ntmps114
   go_wp2_with fail
   refine op.mono ?_;rintro e w1 ⟨v,rfl,ho,hb⟩
   have HX8:=ahZ ho.2
   obtain ⟨ax,cx,rfl,hxa,hxc,hxl,hxb⟩:=ho.cap
   have HA1:=ahZ (uW.out.below hb uW.out.lt)
   have agT:=HA1.out.lt
   have HB1:=ahZ (HB0.out.trans (hb.mono (by simp)))
   have rn:=YP ax x.length cx x w1 hxa hxl (λy hy=>(hxb y hy).2) HLEN.out.2
   clear ho hb hxa hxc hxl hxb op
   go_wp2_with fail
   refine rn.mono ?_;rintro e w2 ⟨R,rfl,hRl,hR,hb⟩
   have hA2:=HA1.out.below hb HA1.out.lt
   have hB2:=HB1.out.trans (hb.mono (by omega))
   have aeh:=hR.lt
   have iX : Below w2.heap.size w2 (w2.alloc (.cells (jB R 0 0 0 (.slice none 0 0)) 260)):=(Below.refl _ _).alloc (Nat.le_refl _) _
   obtain ⟨G,hG⟩ : ∃ G,w2.heap.size = G:=⟨_,rfl⟩
   have Wm : Hid (Fq w w.heap.size R w2.heap.size (w2.heap.size + 1) w1.heap.size (x,0) (jB R 0 0 0 (.slice none 0 0)) ((w2.alloc (.cells (jB R 0 0 0 (.slice none 0 0)) 260)).alloc (.cells #[uY 162 w2.heap.size,uY 163 w2.heap.size,uY 164 w2.heap.size,uY 165 w2.heap.size] 1))):=ahZ (by
    refine ⟨(hR.below iX).below ((Below.refl _ _).alloc (Nat.le_refl _) _),(ak.new w2 _ _).alloc _,(hA2.alloc _).alloc _,?_,?_⟩
    ·have:=ak.new (w2.alloc (.cells (jB R 0 0 0 (.slice none 0 0)) 260)) #[uY 162 w2.heap.size,uY 163 w2.heap.size,uY 164 w2.heap.size,uY 165 w2.heap.size] 1
     rw [show (w2.alloc (.cells (jB R 0 0 0 (.slice none 0 0)) 260)).heap.size = w2.heap.size + 1 by simp] at this
     exact this
    ·exact ((hB2.alloc (by omega) _).alloc (by simp;omega) _))
   obtain ⟨s1,e1⟩ : ∃ s1,jP (x,0) = s1:=⟨_,rfl⟩
   obtain ⟨tick,time,s2,e2⟩ : ∃ tick time s2,iL s1 = (tick,time,s2):=⟨_,_,_,rfl⟩
   obtain ⟨base,s3,e3⟩ : ∃ base s3,rV tick s2 = (base,s3):=⟨_,_,rfl⟩
   obtain ⟨rs,s4,e4⟩ : ∃ rs s4,lq s3 = (rs,s4):=⟨_,_,rfl⟩
   have HGS : Hid (iM (x,0) = (⟨tick,time,base,rs⟩,s4)):=ahZ (by
    unfold iM;rw [e1,e2];simp only;rw [e3];simp only;rw [e4])
   have HTB : Hid (0 <= tick /\ tick <= 4294967295):=ahZ (by
    have h : aX s1.1:=by rw [← e1];exact OL HX8.out
    have:=jh (most:=4294967295) h (by decide)
    have h2 : (iL s1).1 = tick:=by rw [e2]
    unfold iL at h2
    simp only at h2
    omega)
   obtain ⟨c,hc⟩ : ∃ c : List (aH × Int × Int × Int),c = [((x,0),0,0,0),(s1,0,0,0),(s2,tick,time,0),(s3,tick,time,base),(s4,tick,time,base)]:=⟨_,rfl⟩
   have HC:=ahZ hc
   have E1:=ahZ e1
   have E2:=ahZ e2
   have E3:=ahZ e3
   have E4:=ahZ e4
   have HD:=ahZ (show (w.heap.size ≠ R /\ w.heap.size ≠ w2.heap.size) /\ (w2.heap.size + 1 ≠ R /\ w2.heap.size + 1 ≠ w2.heap.size) /\ w.heap.size <= R /\ w.heap.size <= w2.heap.size by have:=HB1.out.size;omega)
   have mU : ¬ w2.heap.size = R:=by omega
   have hBG : w1.heap.size <= w2.heap.size:=by omega
   have HS : Hid (Gp w w.heap.size R w2.heap.size (w2.heap.size + 1) w1.heap.size c rs 0 ((w2.alloc (.cells (jB R 0 0 0 (.slice none 0 0)) 260)).alloc (.cells #[uY 162 w2.heap.size,uY 163 w2.heap.size,uY 164 w2.heap.size,uY 165 w2.heap.size] 1))):=ahZ ⟨_,.slice none 0 0,by rw [HC.out];rfl,Wm.out,λ_=>rfl,λh=>by cases h⟩
   clear hc e1 e2 e3 e4 hG hb hR hA2 hB2 iX rn HA1 HB1 uW HB0 Wm HLEN
   go_wp2_with fail
   go_loopw [36] (λi wr=>∃ k : Nat,k <= 4 /\ i = .int .i64 k /\ Gp w w.heap.size R w2.heap.size (w2.heap.size + 1) w1.heap.size c rs k wr) (λi _=>4 - (intOf i).toNat)
   case atStart=>exact ⟨0,by omega,rfl,HS.out⟩
   case round =>
    rename_i wr
    obtain ⟨k,hk,rfl,q,v,hq,hG,hv,hv4⟩:=hrel
    rw [HC.out] at hq
    rcases (show k = 0 \/ k = 1 \/ k = 2 \/ k = 3 \/ k = 4 by omega) with rfl | rfl | rfl | rfl | rfl
    ·cases hq
     have hvv:=hv (by decide)
     subst hvv
     have hR:=hG.1
     have hP:=hG.2.1
     have hF:=hG.2.2.2.1
     have c0:=hF.cell 0
     simp at c0
     have ct:=UZ (B0:=w1.heap.size) w2.heap.size R _ rfl (x,0) wr hR hP mU
     rw [E1.out] at ct
     have HG:=ahZ hG
     have hsz:=hG.2.2.2.2.size
     clear hR hP hF hG
     try simp only at ct
     go_wp2_with fail
     refine ct.mono ?_;rintro e w3 ⟨rfl,hR2,hO2⟩
     have hP2:=hO2.blk HG.out.2.1 mU
     have hO2:=hO2.weaken (T:=λk=>k = R \/ k = w2.heap.size) (λk _ h=>.inl h)
     have HS2 : Hid (Gp w w.heap.size R w2.heap.size (w2.heap.size + 1) w1.heap.size c rs 1 w3):=ahZ ⟨_,.slice none 0 0,by rw [HC.out];rfl,HG.out.step hO2 hR2 hP2 HD.out,λ_=>rfl,λh=>by cases h⟩
     clear hR2 hP2 hO2 ct HG
     go_wp2
     go_roundw
     case rel=>exact ⟨1,by omega,by first | rfl | go_num,HS2.out⟩
     case measure=>simp [intOf]
    ·cases hq
     have hvv:=hv (by decide)
     subst hvv
     have hR:=hG.1
     have hP:=hG.2.1
     have hF:=hG.2.2.2.1
     have Zu:=HTB
     have c0:=hF.cell 1
     simp at c0
     have ct:=XW (B0:=w1.heap.size) w2.heap.size R 0 0 0 (.slice none 0 0) s1 wr hR hP mU hBG
     rw [E2.out] at ct
     have HG:=ahZ hG
     have hsz:=hG.2.2.2.2.size
     clear hR hP hF hG
     try simp only at ct
     go_wp2_with fail
     refine ct.mono ?_;rintro e w3 ⟨rfl,hR2,hP2,hO2⟩
     have HS2 : Hid (Gp w w.heap.size R w2.heap.size (w2.heap.size + 1) w1.heap.size c rs 2 w3):=ahZ ⟨_,.slice none 0 0,by rw [HC.out];rfl,HG.out.step hO2 hR2 hP2 HD.out,λ_=>rfl,λh=>by cases h⟩
     clear hR2 hP2 hO2 ct HG
     go_wp2
     go_roundw
     case rel=>exact ⟨2,by omega,by first | rfl | go_num,HS2.out⟩
     case measure=>simp [intOf]
    ·cases hq
     have hvv:=hv (by decide)
     subst hvv
     have hR:=hG.1
     have hP:=hG.2.1
     have hF:=hG.2.2.2.1
     have Zu:=HTB
     have c0:=hF.cell 2
     simp at c0
     have ct:=XY (B0:=w1.heap.size) w2.heap.size R tick time 0 Zu.out (.slice none 0 0) s2 wr hR hP mU hBG
     rw [E3.out] at ct
     have HG:=ahZ hG
     have hsz:=hG.2.2.2.2.size
     clear hR hP hF hG
     try simp only at ct
     go_wp2_with fail
     refine ct.mono ?_;rintro e w3 ⟨rfl,hR2,hP2,hO2⟩
     have HS2 : Hid (Gp w w.heap.size R w2.heap.size (w2.heap.size + 1) w1.heap.size c rs 3 w3):=ahZ ⟨_,.slice none 0 0,by rw [HC.out];rfl,HG.out.step hO2 hR2 hP2 HD.out,λ_=>rfl,λh=>by cases h⟩
     clear hR2 hP2 hO2 ct HG
     go_wp2
     go_roundw
     case rel=>exact ⟨3,by omega,by first | rfl | go_num,HS2.out⟩
     case measure=>simp [intOf]
    ·cases hq
     have hvv:=hv (by decide)
     subst hvv
     have hR:=hG.1
     have hP:=hG.2.1
     have hF:=hG.2.2.2.1
     have c0:=hF.cell 3
     simp at c0
     have ct:=OJ (B0:=w1.heap.size) w2.heap.size R tick time base s3 wr hR hP mU hBG
     rw [E4.out] at ct
     have HG:=ahZ hG
     have hsz:=hG.2.2.2.2.size
     clear hR hP hF hG
     try simp only at ct
     go_wp2_with fail
     refine ct.mono ?_;rintro e w3 ⟨rfl,hR2,⟨vv,hP2,hV2⟩,hO2⟩
     have HS2 : Hid (Gp w w.heap.size R w2.heap.size (w2.heap.size + 1) w1.heap.size c rs 4 w3):=ahZ ⟨_,vv,by rw [HC.out];rfl,HG.out.step hO2 hR2 hP2 HD.out,λh=>by omega,λ_=>hV2.base hsz⟩
     clear hR2 hP2 hO2 ct HG
     go_wp2
     go_roundw
     case rel=>exact ⟨4,by omega,by first | rfl | go_num,HS2.out⟩
     case measure=>simp [intOf]
    ·cases hq
     have hO:=hv4 rfl
     obtain ⟨hR,hP,hA,hF,hB⟩:=hG
     have dn:=Xx (B0:=w1.heap.size) R s4 wr hR
     rw [show (if s4.2 ≠ 0 then s4.2 else if s4.1 = [] then 0 else 8) = lu s4 from rfl] at dn
     have Fu : Hid (z = if lu s4 ≠ 0 then (oN,lu s4) else (⟨tick,time,base,rs⟩,0)):=ahZ (by rw [HV.out,HGS.out])
     generalize lu s4 = de at *
     have c0:=hP.cell 0
     simp at c0
     have HP:=ahZ hP
     have HO:=ahZ hO
     have HA:=ahZ hA
     have HB:=ahZ hB
     clear hR hP hA hF hB hO hv hv4 HV HGS HS
     go_wp2_with fail
     refine dn.mono ?_;rintro e w3 ⟨rfl,hb⟩
     have hP3:=HP.out.below hb HP.out.lt
     have hA3:=HA.out.below hb HA.out.lt
     have fT:=ahZ (HO.out.below hb (λj e=>(HO.out.1.lt j e).2))
     have HB3:=ahZ (HB.out.trans (hb.mono HB.out.size))
     have E9:=ahZ hA3
     have p1:=hP3.cell 1
     have p2:=hP3.cell 2
     have p3:=hP3.cell 3
     have p4:=hP3.cell 4
     have c1:=hA3.cell 0
     have c2:=hA3.cell 1
     have c3:=hA3.cell 2
     have c4:=hA3.cell 3
     have f0:=hA3.free 0
     have f1:=hA3.free 1
     have f2:=hA3.free 2
     have f3:=hA3.free 3
     simp at p1 p2 p3 p4 c1 c2 c3 c4
     obtain ⟨va,vc,rfl,_⟩:=fT.out.recs
     have HAO : Hid (∀ j,(Value.slice va rs.length vc).ownBlock = some j -> j ≠ w.heap.size):=ahZ (λj e h=>by
      subst h;exact bK fT.out.1 E9.out (by decide) e)
     clear hb hP3 hA3 dn c0 HP HO HA HB
     by_cases hde : de = 0
     ·have RH : Hid (z = (⟨tick,time,base,rs⟩,0)):=ahZ (by rw [Fu.out,if_neg (by simpa using hde)])
      subst hde
      clear Fu
      go_wp2
      exact bodyPost_ret (v:=.tuple #[.agg #[.int .i64 tick,.int .i64 time,.int .i64 base,.slice va rs.length vc],.int .i64 0])
       (by
         have hh:=zP (v0:=.int .i64 tick) (v1:=.int .i64 time) (v2:=.int .i64 base) (v3:=.slice va rs.length vc) E9.out
         have g0:=hh.cell 0
         have g1:=hh.cell 1
         have g2:=hh.cell 2
         have g3:=hh.cell 3
         simp at g0 g1 g2 g3
         simp [results,Tryz.results114,go_sem,g0,g1,g2,g3]) rfl
       ⟨_,by rw [RH.out],by rw [RH.out];exact fT.out.only (Fp (S:=λk=>k = w.heap.size) (Only.refl _ _) (.inl rfl)) (λj e h=>HAO.out j e h),zo HB3.out (Nat.le_refl _)⟩
     ·have RH : Hid (z = (oN,de)):=ahZ (by rw [Fu.out,if_pos hde])
      have agU : (de != 0) = true:=by simpa using hde
      clear Fu hde
      go_wp2
      exact bodyPost_ret (v:=.tuple #[.agg #[.int .i64 0,.int .i64 0,.int .i64 0,.slice none 0 0],.int .i64 de])
       (by
         have hh:=zP (v0:=.int .i64 0) (v1:=.int .i64 0) (v2:=.int .i64 0) (v3:=.slice none 0 0) E9.out
         have g0:=hh.cell 0
         have g1:=hh.cell 1
         have g2:=hh.cell 2
         have g3:=hh.cell 3
         simp at g0 g1 g2 g3
         simp [results,Tryz.results114,go_sem,g0,g1,g2,g3]) rfl
       ⟨.slice none 0 0,by rw [RH.out];rfl,by rw [RH.out];exact gL.nil _ _,zo HB3.out (Nat.le_refl _)⟩
end Go.Proofs.YtklkooeimkedgaaGreat
namespace Go.Proofs.YtklkooeimkedgaaGreat
open Go.RowKit
set_option maxRecDepth 8000
def dO (e : Int) : Prop:=0 <= e /\ e <= 17
theorem dO.zero : dO 0:=⟨by decide,by decide⟩
theorem Im : ∀ (zs : List Int) (i : Nat) (x : Int),dO (iy i x zs).2.2
 | [],i,x=>by unfold iy;split <;> exact ⟨by decide,by decide⟩
 | c :: r,i,x=>by
  unfold iy
  split
  ·exact ⟨by decide,by decide⟩
  split
  ·exact ⟨by decide,by decide⟩
  split
  ·exact Im r _ _
  ·split
   ·exact (show dO 7 from ⟨by decide,by decide⟩)
   ·exact dO.zero
theorem SL (zs : List Int) : dO (iA zs).2.2:=by
 unfold iA
 split
 ·exact ⟨by decide,by decide⟩
 ·exact Im _ _ _
theorem Io {off : List Int -> Int × Nat × Int} (ho : ∀ zs,dO (off zs).2.2) {s : aH} (h : dO s.2) : dO (iQ off s).2.2:=by
 unfold iQ
 split
 ·exact h
 split
 ·exact (show dO 6 from ⟨by decide,by decide⟩)
 split
 ·exact ho _
 ·exact dO.zero
theorem sF {s : aH} (h : dO s.2) : dO (bH s).2.2:=Io (λ_=>dO.zero) h
theorem lH {m : Int} {s : aH} (h : dO s.2) : dO (bA m s).2.2:=Io (λzs=>by
 unfold iZ;simp only;split
 ·exact ⟨by decide,by decide⟩
 ·exact SL zs) h
theorem rA {s : aH} (h : dO s.2) : dO (dW s).2.2:=lH h
theorem Ip {s : aH} (h : dO s.2) : dO (dX s).2.2:=rA (rA (rA h))
theorem qd {e : Int} (he : dO e) {s : aH} (h : dO s.2) : dO (fI e s).2:=by
 unfold fI;simp only;split
 ·exact he
 ·exact h
theorem KU {q : Int × aH} (h : dO q.2.2) : dO (tu q).2.2:=by
 unfold tu;simp only;split
 ·exact qd ⟨by decide,by decide⟩ h
 ·exact h
theorem SN {m : Int} {i : Nat} {s : aH} (h : dO s.2) : dO (gY m i s).2.2:=by
 unfold gY;split
 ·exact h
 ·exact KU (rA h)
theorem SQ {m : Int} {s : aH} (h : dO s.2) : dO (rR m s).2.2:=by
 unfold rR;split
 ·exact h
 ·exact KU (lH h)
theorem FE {m : Int} : ∀ (l : List Nat) {s : aH},dO s.2 -> dO (jo m l s).2.2
 | [],s,h=>h
 | i :: l,s,h=>by rw [jo];exact FE l (SN h)
theorem Pd {k : Int} {r : Rec} {s : aH} (h : dO s.2) : dO (rdKind k r s).2.2:=by
 unfold rdKind
 split
 ·exact lH (Ip (Ip h))
 split
 ·unfold vW
  split
  ·exact qd ⟨by decide,by decide⟩ (sF h)
  ·exact SQ (FE _ (sF h))
 split
 ·exact h
 ·exact qd ⟨by decide,by decide⟩ h
theorem FH {last : Int} {s : aH} (h : dO s.2) : dO (qD last s).2.2:=Pd (sF (lH h))
theorem Iq {last : Int} {s : aH} (h : dO s.2) : dO (dN last s).2.2.2:=by
 unfold dN
 split
 ·exact qd ⟨by decide,by decide⟩ h
 split
 ·exact FH h
 ·exact FH h
theorem FI : ∀ (n : Nat) (last : Int) {s : aH},dO s.2 -> dO (gH n last s).2.2
 | 0,last,s,h=>h
 | n + 1,last,s,h=>by
  rw [gH]
  split
  ·exact Iq h
  ·exact FI n _ (Iq h)
theorem FJ {c : Int} {s : aH} (h : dO s.2) : dO (jW c s).2:=by
 unfold jW
 split
 ·exact sF h
 ·exact qd ⟨by decide,by decide⟩ (sF h)
theorem nU {c : Int} {s : aH} (h : aX s.1) : aX (jW c s).1:=by
 unfold jW
 split
 ·exact lJ h
 ·exact lJ (s:=s) h
theorem Pe {s : aH} (h : dO s.2) : dO (iL s).2.2.2:=by
 unfold iL
 simp only
 split
 ·exact rA (lH h)
 ·exact qd ⟨by decide,by decide⟩ (rA (lH h))
theorem Mc {s : aH} (h : dO s.2) : dO (iM s).2.2 :=
 FI _ _ (lH (lH (Pe (FJ (FJ h)))))
theorem Vk (zs : List Int) : dO (bF zs).2:=by
 unfold bF
 split
 ·exact ⟨by decide,by decide⟩
 split
 ·exact ⟨by decide,by decide⟩
 split
 ·unfold lu
  split
  ·exact Mc dO.zero
  split <;> exact ⟨by decide,by decide⟩
 ·exact dO.zero
theorem Ce {zs x : List Int} (h : aX zs) (hx : iJ zs = some x) : aX x:=by
 unfold iJ at hx
 split at hx
 ·cases hx
 split at hx
 ·cases hx;exact λz hz=>h z (List.mem_of_mem_take hz)
 ·cases hx
theorem SV {zs : List Int} (h : aX zs) : aA (bF zs).1.time:=by
 unfold bF
 split
 ·exact bq
 split
 ·exact bq
 rename_i x hx
 split
 ·exact bq
 ·exact uw (iY (nU (nU (Ce h hx))))
end Go.Proofs.YtklkooeimkedgaaGreat
