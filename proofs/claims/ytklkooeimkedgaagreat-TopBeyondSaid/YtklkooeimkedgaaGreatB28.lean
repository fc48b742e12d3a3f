/- Walk of TopBeyond. -/
import Derived.OwnWalk
import Derived.Test.YtklkooeimkedgaaGreatB7
import Derived.Test.YtklkooeimkedgaaGreatB25
import Derived.Test.YtklkooeimkedgaaGreatB27
set_option linter.unusedVariables false
set_option linter.unusedSimpArgs false
namespace Go.Proofs.YtklkooeimkedgaaGreat
open Go.RowKit
set_option maxRecDepth 8000
theorem FX (w : World) (b : Nat) (t : TypeId) (o0 o1 o2 o3 o4 o5 o6 o7 o8 : Value) (e : aB) (h : ak w b #[o0,o1,o2,o3,o4,o5,o6,o7,o8] t) :
 ak (((((((((w.setCell ⟨b,0,none⟩ (.int .i64 e.id)).setCell ⟨b,1,none⟩ (.int .i64 e.px)).setCell ⟨b,2,none⟩ (.int .i64 e.py)).setCell ⟨b,3,none⟩ (.int .i64 e.pz)).setCell ⟨b,4,none⟩ (.int .i64 e.vx)).setCell ⟨b,5,none⟩ (.int .i64 e.vy)).setCell ⟨b,6,none⟩ (.int .i64 e.vz)).setCell ⟨b,7,none⟩ (.int .u16 e.aJ)).setCell ⟨b,8,none⟩ (.int .u8 e.gen)) b #[.int .i64 e.id,.int .i64 e.px,.int .i64 e.py,.int .i64 e.pz,.int .i64 e.vx,.int .i64 e.vy,.int .i64 e.vz,.int .u16 e.aJ,.int .u8 e.gen] t /\ Only (· = b) w (((((((((w.setCell ⟨b,0,none⟩ (.int .i64 e.id)).setCell ⟨b,1,none⟩ (.int .i64 e.px)).setCell ⟨b,2,none⟩ (.int .i64 e.py)).setCell ⟨b,3,none⟩ (.int .i64 e.pz)).setCell ⟨b,4,none⟩ (.int .i64 e.vx)).setCell ⟨b,5,none⟩ (.int .i64 e.vy)).setCell ⟨b,6,none⟩ (.int .i64 e.vz)).setCell ⟨b,7,none⟩ (.int .u16 e.aJ)).setCell ⟨b,8,none⟩ (.int .u8 e.gen)) :=
 ⟨by have:=(((((((((h.set 0 (.int .i64 e.id)).set 1 (.int .i64 e.px)).set 2 (.int .i64 e.py)).set 3 (.int .i64 e.pz)).set 4 (.int .i64 e.vx)).set 5 (.int .i64 e.vy)).set 6 (.int .i64 e.vz)).set 7 (.int .u16 e.aJ)).set 8 (.int .u8 e.gen));simpa using this,((((((((((Only.refl (· = b) w).setCell (.inl rfl) _).setCell (.inl rfl) _).setCell (.inl rfl) _).setCell (.inl rfl) _).setCell (.inl rfl) _).setCell (.inl rfl) _).setCell (.inl rfl) _).setCell (.inl rfl) _).setCell (.inl rfl) _)⟩
set_option maxHeartbeats 1000000 in
theorem FY (tick time : Int) (a : Option Addr) (len cap : Nat) (E : Nat -> aB) (id : Int) (w : World) (h : dw w a len E) (hl : (len : Int) <= 4611686018427387904) :
 Calls Tryz.prog 26 #[bO tick time a len cap,.int .i64 id] w λe w'=>e = .returned (.tuple #[bM (wY E id len),.bool (Dl E id len)]) /\ Below w.heap.size w w':=by
 have hmf : ∀ (fn : Fn) (first cap : Array Value) (w : World),(Instr.makeFunc fn first cap).run Tryz.prog w = .ok (.func fn first cap) w:=λ_ _ _ _=>rfl
 have hB3 : Below w.heap.size w (((w.alloc (.cells #[.int .i64 tick,.int .i64 time,.slice a len cap] 36)).alloc (.cells #[.int .i64 id] 3)).alloc (.cells #[.int .i64 0,.int .i64 0,.int .i64 0,.int .i64 0,.int .i64 0,.int .i64 0,.int .i64 0,.int .u16 0,.int .u8 0] 33)):=((aiT).alloc (by simp) _).alloc (by simp;omega) _
 have b0:=((ak.new w #[.int .i64 tick,.int .i64 time,.slice a len cap] 36).alloc (.cells #[.int .i64 id] 3)).alloc (.cells #[.int .i64 0,.int .i64 0,.int .i64 0,.int .i64 0,.int .i64 0,.int .i64 0,.int .i64 0,.int .u16 0,.int .u8 0] 33);have b1:=(ak.new (w.alloc (.cells #[.int .i64 tick,.int .i64 time,.slice a len cap] 36)) #[.int .i64 id] 3).alloc (.cells #[.int .i64 0,.int .i64 0,.int .i64 0,.int .i64 0,.int .i64 0,.int .i64 0,.int .i64 0,.int .u16 0,.int .u8 0] 33);have b2:=ak.new ((w.alloc (.cells #[.int .i64 tick,.int .i64 time,.slice a len cap] 36)).alloc (.cells #[.int .i64 id] 3)) #[.int .i64 0,.int .i64 0,.int .i64 0,.int .i64 0,.int .i64 0,.int .i64 0,.int .i64 0,.int .u16 0,.int .u8 0] 33
 simp only [World.size_alloc] at b1 b2
 have c1:=b1.cell 0;simp at c1
 have ix:=PY a len cap E id (w.heap.size + 1) _ (h.below hB3) c1 (by simp) hl
 have hcell : ∀ j,j < len -> ∃ b off,a = some ⟨b,off,none⟩ /\ b < w.heap.size /\ dF w b (off + j * 9) (E j):=λj hj=>by
  rcases h.2 with h0 | ⟨b,off,e,hb,hc⟩
  ·omega
  ·exact ⟨b,off,e,hb,hc j hj⟩
 have HE : Hid (wY E id len = if jC E id len 0 < len then E (jC E id len 0) else bK):=aiS rfl
 have HF : Hid (Dl E id len = decide (jC E id len 0 < len)):=aiS rfl
 have ED:=aiS hcell;have B0:=aiS b0;have B2:=aiS b2;have HB3:=aiS hB3;clear hcell h b0 b1 b2 hB3 c1
 unfold bO
 generalize wY E id len = fe at *
 generalize Dl E id len = fb at *
 generalize jC E id len 0 = j at *
 by_cases hj : j < len
 ·rw [if_pos hj] at ix
  obtain ⟨b,off,rfl,hb,hc⟩:=ED.out j hj
  have e1 : fe = E j:=by rw [HE.out,if_pos hj]
  have e2 : fb = true:=by rw [HF.out];simpa using hj
  subst e1
  subst e2
  clear HE HF ED
  generalize E j = e at *
  obtain ⟨eH,px,py,pz,vx,vy,vz,aJ,gen⟩:=e
  have hj' : (j : Int) < len:=by omega
  go_enter Tryz.func26,Tryz.ntmps26
  go_wp2_with fail
  refine ix.mono ?_;rintro e w4 ⟨rfl,hb4⟩
  have gP:=aiS (HB3.out.trans (hb4.mono (by simp;omega)))
  have B04:=B0.out.below hb4 (by simp;omega)
  have iU:=B2.out.below hb4 (by simp)
  have s2:=B04.cell 2;simp at s2
  have hcw : dF w4 b (off + j * 9) ⟨eH,px,py,pz,vx,vy,vz,aJ,gen⟩:=hc.below gP.out hb
  obtain ⟨c0,c1,c2,c3,c4,c5,c6,c7,c8⟩:=hcw
  dsimp only at c0 c1 c2 c3 c4 c5 c6 c7 c8
  have r0:=iU.cell 0;have r1:=iU.cell 1;have r2:=iU.cell 2;have r3:=iU.cell 3;have r4:=iU.cell 4;have r5:=iU.cell 5;have r6:=iU.cell 6;have r7:=iU.cell 7;have r8:=iU.cell 8
  have f0:=iU.free 0;have f1:=iU.free 1;have f2:=iU.free 2;have f3:=iU.free 3;have f4:=iU.free 4;have f5:=iU.free 5;have f6:=iU.free 6;have f7:=iU.free 7;have f8:=iU.free 8
  simp at r0 r1 r2 r3 r4 r5 r6 r7 r8;clear ix hb4 B04 hc
  go_wp2
  clear r0 r1 r2 r3 r4 r5 r6 r7 r8 f0 f1 f2 f3 f4 f5 f6 f7 f8 c0 c1 c2 c3 c4 c5 c6 c7 c8 s2
  obtain ⟨gL,HS2⟩:=FX w4 (w.heap.size + 1 + 1) _ _ _ _ _ _ _ _ _ _ ⟨eH,px,py,pz,vx,vy,vz,aJ,gen⟩ iU
  obtain ⟨WW,EC⟩ : ∃ WW,WW = (((((((((w4.setCell ⟨w.heap.size + 1 + 1,0,none⟩ (.int .i64 eH)).setCell ⟨w.heap.size + 1 + 1,1,none⟩ (.int .i64 px)).setCell ⟨w.heap.size + 1 + 1,2,none⟩ (.int .i64 py)).setCell ⟨w.heap.size + 1 + 1,3,none⟩ (.int .i64 pz)).setCell ⟨w.heap.size + 1 + 1,4,none⟩ (.int .i64 vx)).setCell ⟨w.heap.size + 1 + 1,5,none⟩ (.int .i64 vy)).setCell ⟨w.heap.size + 1 + 1,6,none⟩ (.int .i64 vz)).setCell ⟨w.heap.size + 1 + 1,7,none⟩ (.int .u16 aJ)).setCell ⟨w.heap.size + 1 + 1,8,none⟩ (.int .u8 gen)):=⟨_,rfl⟩
  rw [← EC] at gL HS2 ⊢
  clear EC
  have g0:=gL.cell 0;have g1:=gL.cell 1;have g2:=gL.cell 2;have g3:=gL.cell 3;have g4:=gL.cell 4;have g5:=gL.cell 5;have g6:=gL.cell 6;have g7:=gL.cell 7;have g8:=gL.cell 8
  simp at g0 g1 g2 g3 g4 g5 g6 g7 g8
  have YT:=gP.out.trans (HS2.below gP.out.size (λk e=>by omega))
  exact bodyPost_ret (v:=.tuple #[bM ⟨eH,px,py,pz,vx,vy,vz,aJ,gen⟩,.bool true]) (by simp [results,Tryz.results26,go_sem,bM,g0,g1,g2,g3,g4,g5,g6,g7,g8]) rfl ⟨rfl,YT⟩
 ·rw [if_neg hj] at ix
  have e1 : fe = bK:=by rw [HE.out,if_neg hj]
  have e2 : fb = false:=by rw [HF.out];simpa using hj
  subst e1
  subst e2
  clear HE HF ED hj
  go_enter Tryz.func26,Tryz.ntmps26
  go_wp2_with fail
  refine ix.mono ?_;rintro e w4 ⟨rfl,hb4⟩
  have gP:=aiS (HB3.out.trans (hb4.mono (by simp;omega)))
  have iU:=B2.out.below hb4 (by simp)
  have r0:=iU.cell 0;have r1:=iU.cell 1;have r2:=iU.cell 2;have r3:=iU.cell 3;have r4:=iU.cell 4;have r5:=iU.cell 5;have r6:=iU.cell 6;have r7:=iU.cell 7;have r8:=iU.cell 8
  have f0:=iU.free 0;have f1:=iU.free 1;have f2:=iU.free 2;have f3:=iU.free 3;have f4:=iU.free 4;have f5:=iU.free 5;have f6:=iU.free 6;have f7:=iU.free 7;have f8:=iU.free 8
  simp at r0 r1 r2 r3 r4 r5 r6 r7 r8;clear ix hb4
  go_wp2
  clear r0 r1 r2 r3 r4 r5 r6 r7 r8 f0 f1 f2 f3 f4 f5 f6 f7 f8
  obtain ⟨gL,HS2⟩:=FX w4 (w.heap.size + 1 + 1) _ _ _ _ _ _ _ _ _ _ ⟨0,0,0,0,0,0,0,0,0⟩ iU
  obtain ⟨WW,EC⟩ : ∃ WW,WW = (((((((((w4.setCell ⟨w.heap.size + 1 + 1,0,none⟩ (.int .i64 0)).setCell ⟨w.heap.size + 1 + 1,1,none⟩ (.int .i64 0)).setCell ⟨w.heap.size + 1 + 1,2,none⟩ (.int .i64 0)).setCell ⟨w.heap.size + 1 + 1,3,none⟩ (.int .i64 0)).setCell ⟨w.heap.size + 1 + 1,4,none⟩ (.int .i64 0)).setCell ⟨w.heap.size + 1 + 1,5,none⟩ (.int .i64 0)).setCell ⟨w.heap.size + 1 + 1,6,none⟩ (.int .i64 0)).setCell ⟨w.heap.size + 1 + 1,7,none⟩ (.int .u16 0)).setCell ⟨w.heap.size + 1 + 1,8,none⟩ (.int .u8 0)):=⟨_,rfl⟩
  rw [← EC] at gL HS2 ⊢
  clear EC
  have g0:=gL.cell 0;have g1:=gL.cell 1;have g2:=gL.cell 2;have g3:=gL.cell 3;have g4:=gL.cell 4;have g5:=gL.cell 5;have g6:=gL.cell 6;have g7:=gL.cell 7;have g8:=gL.cell 8
  simp at g0 g1 g2 g3 g4 g5 g6 g7 g8
  have YT:=gP.out.trans (HS2.below gP.out.size (λk e=>by omega))
  exact bodyPost_ret (v:=.tuple #[bM bK,.bool false]) (by simp [results,Tryz.results26,go_sem,bM,bK,g0,g1,g2,g3,g4,g5,g6,g7,g8]) rfl ⟨rfl,YT⟩
end Go.Proofs.YtklkooeimkedgaaGreat
