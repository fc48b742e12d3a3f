/- Parts of the walk of TopJumps: Top1, Alive0, Alive1, Jump0, Jump1. -/
import Derived.Test.YtklkooeimkedgaaGreatJ52
set_option linter.unusedVariables false
set_option linter.unusedSimpArgs false
namespace Go.Proofs.YtklkooeimkedgaaGreat
open Go.RowKit
set_option maxRecDepth 100000
def plainC : Cfg:=⟨8,4,0,0,0,0,0,1,1,5,false⟩
theorem plainC_ok : plainC.Ok:=⟨⟨by decide,by decide⟩,⟨by decide,by decide⟩,⟨by decide,by decide⟩,⟨by decide,by decide⟩,⟨by decide,by decide⟩,⟨by decide,by decide⟩,⟨by decide,by decide⟩,⟨by decide,by decide⟩,⟨by decide,by decide⟩,⟨by decide,by decide⟩⟩
theorem plainC_chk : cchk plainC = 0:=by decide
theorem plain_f (w : World) : Calls Tryz.prog 10 #[] w fun e w'=>e = .returned (cfgV plainC) ∧ Below w.heap.size w w':=by
 have HB : Hid (Below w.heap.size w (w.alloc (.cells #[.int .i64 8,.int .i64 4,.int .i64 0,.int .i64 0,.int .i64 0,.int .i64 0,.int .i64 0,.int .i64 1,.int .i64 1,.int .i64 5,.bool false] 29))):=Lib.hid ((Below.refl _ _).alloc (Nat.le_refl _) _)
 go_enter Tryz.func10,Tryz.ntmps10
 go_wp2
 exact bodyPost_ret (v:=.agg #[.int .i64 8,.int .i64 4,.int .i64 0,.int .i64 0,.int .i64 0,.int .i64 0,.int .i64 0,.int .i64 1,.int .i64 1,.int .i64 5,.bool false]) (by simp [results,Tryz.results10,go_sem]) rfl ⟨rfl,HB.out⟩
set_option maxHeartbeats 1000000 in
theorem full_f (tick time : Int) (ht : I64 time) (a : Option Addr) (cap : Nat) (es : List Ent) (w : World) (hE : EntsL w a es) (hl : es.length ≤ 1000) :
  Calls Tryz.prog 14 #[snapV tick time a es.length cap] w fun e w'=>∃ v,e = .returned v ∧ OwnB w' w.heap.size v (fullB ⟨tick,time,es⟩) ∧ Below w.heap.size w w':=by
 have fl:=fun W h=>dfull_f tick time a cap es W h hl
 have HT : Hid (I64 (fullG ⟨tick,time,es⟩).1.time):=Lib.hid (by
  unfold fullG
  split
  ·exact i64_zero
  ·split
   ·exact i64_zero
   ·exact ht)
 have HFB : Hid (fullB ⟨tick,time,es⟩ = if grWrE (fullG ⟨tick,time,es⟩).1 = 0 then grWrB (fullG ⟨tick,time,es⟩).1 else []):=Lib.hid rfl
 generalize fullB ⟨tick,time,es⟩ = bs at *
 generalize (fullG ⟨tick,time,es⟩).2 = er at *
 generalize (fullG ⟨tick,time,es⟩).1 = g at *
 obtain ⟨w0,hw0⟩ : ∃ w0,w.alloc (.cells #[.int .i64 tick,.int .i64 time,.slice a es.length cap] 36) = w0:=⟨_,rfl⟩
 have hB0 : Below w.heap.size w w0:=by rw [← hw0];exact (Below.refl _ _).alloc (Nat.le_refl _) _
 have hX0 : Blk w0 w.heap.size #[.int .i64 tick,.int .i64 time,.slice a es.length cap] 36:=by rw [← hw0];exact Blk.new _ _ _
 have x0:=hX0.cell 0
 have x1:=hX0.cell 1
 have x2:=hX0.cell 2
 simp at x0 x1 x2
 have fl0:=fl w0 (hE.below hB0)
 have HB0:=Lib.hid hB0
 clear hE hB0 hX0 fl
 unfold snapV at *
 go_enter Tryz.func14,Tryz.ntmps14
 go_wp2_with fail
 clear hw0
 refine fl0.mono ?_
 rintro e w1 ⟨v,rfl,hR,hb⟩
 clear fl0 x0 x1 x2
 obtain ⟨ra,rc,rfl,_,_⟩:=hR.recs
 obtain ⟨v1,hv1⟩ : ∃ v,w1.alloc (.cells #[.int .i64 0,.int .i64 0,.int .i64 0,.slice none 0 0] 39) = v:=⟨_,rfl⟩
 have hBv : Below w1.heap.size w1 v1:=by rw [← hv1];exact (Below.refl _ _).alloc (Nat.le_refl _) _
 have hXv : Blk v1 w1.heap.size #[.int .i64 0,.int .i64 0,.int .i64 0,.slice none 0 0] 39:=by rw [← hv1];exact Blk.new _ _ _
 have f0:=hXv.free 0
 have f1:=hXv.free 1
 have f2:=hXv.free 2
 have f3:=hXv.free 3
 have q0:=hXv.cell 0
 have q1:=hXv.cell 1
 have q2:=hXv.cell 2
 have q3:=hXv.cell 3
 simp at q0 q1 q2 q3
 have hG:=blk4 (v0:=.int .i64 g.tick) (v1:=.int .i64 g.time) (v2:=.int .i64 g.base) (v3:=.slice ra g.recs.length rc) hXv
 have hb4:=below4 (v0:=.int .i64 g.tick) (v1:=.int .i64 g.time) (v2:=.int .i64 g.base) (v3:=.slice ra g.recs.length rc) hBv (Nat.le_refl _)
 obtain ⟨u0,hu0⟩ : ∃ u,((((v1.setCell ⟨w1.heap.size,0,none⟩ (.int .i64 g.tick)).setCell ⟨w1.heap.size,1,none⟩ (.int .i64 g.time)).setCell ⟨w1.heap.size,2,none⟩ (.int .i64 g.base)).setCell ⟨w1.heap.size,3,none⟩ (.slice ra g.recs.length rc)) = u:=⟨_,rfl⟩
 rw [hu0] at hG hb4
 have hR0:=hR.below hb4 (fun j e=>(hR.1.lt j e).2)
 have hrecs : RecsAt u0 ra g.recs:=by
  obtain ⟨a',c',e,h,_⟩:=hR0.recs
  injection e with e1
  rw [e1];exact h
 have wr:=gwrite_f g.tick g.time g.base HT.out ra rc g.recs u0 hrecs
 have HB1:=Lib.hid (HB0.out.trans ((hb.trans (hb4.mono hb.size)).mono HB0.out.size))
 have y0:=hG.cell 0
 have y1:=hG.cell 1
 have y2:=hG.cell 2
 have y3:=hG.cell 3
 simp at y0 y1 y2 y3
 rw [show (⟨g.tick,g.time,g.base,g.recs⟩ : Gr) = g from rfl] at wr
 rw [← HFB.out] at wr
 generalize grWrE g = we at *
 unfold grV at wr
 clear hR hb hBv hXv hG hb4 hR0 hrecs
 go_wp2_with fail
 clear hv1 hu0 f0 f1 f2 f3 q0 q1 q2 q3 y0 y1 y2 y3
 refine wr.mono ?_
 rintro e w3 ⟨v,rfl,hO,hb⟩
 have HF : Hid (OwnB w3 w.heap.size v bs ∧ Below w.heap.size w w3):=Lib.hid ⟨OwnB.base hO HB1.out.size,HB1.out.trans (hb.mono HB1.out.size)⟩
 clear hO hb wr
 go_wp2_with fail
 exact bodyPost_ret (v:=v) (by simp [results,Tryz.results14,go_sem]) rfl ⟨v,rfl,HF.out⟩
end Go.Proofs.YtklkooeimkedgaaGreat
namespace Go.Proofs.YtklkooeimkedgaaGreat
open Go.RowKit
set_option maxRecDepth 100000
def enA : Ent:=⟨1,0,0,0,65536,0,0,0,0⟩
def enB : Ent:=⟨1,10,0,0,65536,0,0,0,0⟩
def snA : Sn:=⟨1,0,[enA]⟩
def snB : Sn:=⟨2,10,[enB]⟩
theorem enA_ok : enA.Ok:=⟨⟨by decide,by decide⟩,⟨by decide,by decide⟩,⟨by decide,by decide⟩,⟨by decide,by decide⟩,⟨by decide,by decide⟩,⟨by decide,by decide⟩,⟨by decide,by decide⟩,⟨by decide,by decide⟩,⟨by decide,by decide⟩⟩
theorem enB_ok : enB.Ok:=⟨⟨by decide,by decide⟩,⟨by decide,by decide⟩,⟨by decide,by decide⟩,⟨by decide,by decide⟩,⟨by decide,by decide⟩,⟨by decide,by decide⟩,⟨by decide,by decide⟩,⟨by decide,by decide⟩,⟨by decide,by decide⟩⟩
theorem snA_tell : Tellable snA:=tellable_one (by decide) (by decide) (by decide) enA_ok rfl
theorem snB_tell : Tellable snB:=tellable_one (by decide) (by decide) (by decide) enB_ok rfl
def alX2 : Cst:=⟨[snA,snB],0,false,smp plainC (smp plainC (cs0 plainC) (subF 100 0)) (subF 110 10)⟩
def alF1 : CS:=frm plainC alX2.cs 104
def alF2 : CS:=frm plainC alF1 113
def alF3 : CS:=frm plainC alF2 900
theorem al_1 : alF1.at0 = 4:=by kernel_rfl
theorem al_2 : alF2.at0 = 13:=by kernel_rfl
theorem al_3 : alF3.at0 = 800:=by kernel_rfl
theorem al_n1 : shNs plainC 4 [snA,snB] = 1:=by kernel_rfl
theorem al_n2 : shNs plainC 13 [snA,snB] = 1:=by kernel_rfl
theorem al_n3 : shNs plainC 800 [snA,snB] = 1:=by kernel_rfl
theorem al_p1 : shPs plainC 4 [snA,snB] 0 = ⟨1,4,0,0,0,1⟩:=by kernel_rfl
theorem al_p2 : shPs plainC 13 [snA,snB] 0 = ⟨1,13,0,0,0,3⟩:=by kernel_rfl
theorem al_p3 : shPs plainC 800 [snA,snB] 0 = ⟨1,15,0,0,0,4⟩:=by kernel_rfl
end Go.Proofs.YtklkooeimkedgaaGreat
namespace Go.Proofs.YtklkooeimkedgaaGreat
open Go.RowKit
set_option maxRecDepth 100000
theorem fullB_len (s : Sn) : ((fullB s).length : Int) ≤ 140737488355000:=by
 unfold fullB
 split
 ·rename_i h
  have hz : (be4 (crcSum (grBodB (fullG s).1))).length = 4:=rfl
  unfold grWrE at h
  split at h
  ·rename_i hh;exact absurd h hh
  split at h
  ·cases h
  ·unfold grWrB
   rw [List.length_append,hz];omega
 ·simp
theorem entsOne {w : World} {b : Nat} {e : Ent} (h : Blk w b (entA e) 33) (ho : e.Ok) : EntsL w (some ⟨b,0,none⟩) [e]:=by
 refine ⟨fun i hi=>?_,.inr ⟨b,0,rfl,h.lt,fun i hi=>?_⟩⟩
 ·obtain rfl : i = 0:=by simp at hi;exact hi
  exact ho
 ·obtain rfl : i = 0:=by simp at hi;exact hi
  unfold EntCells
  refine ⟨?_,?_,?_,?_,?_,?_,?_,?_,?_⟩ <;> (rw [h.cell];rfl)
theorem pose_cells {w : World} {s : Option Addr} {P : Nat → Po} {p : Po} (h : PosesAt w s 1 P) (hp : P 0 = p) : ∃ b o,s = some ⟨b,o,none⟩ ∧ b < w.heap.size ∧ PoCells w b o p:=by
 rcases h with h | ⟨b,o,e,hb,hc⟩
 ·cases h
 ·exact ⟨b,o,e,hb,by have:=hc 0 (by decide);rw [hp] at this;simpa using this⟩
set_option maxHeartbeats 4000000 in
theorem alive_f (w : World) : Calls Tryz.prog 8 #[] w fun e w'=>e = .returned (.bool true) ∧ Below w.heap.size w w':=by
 obtain ⟨w0,hw0⟩ : ∃ w0,(((w.alloc (.cells #[.int .i64 1,.int .i64 0,.int .i64 0,.int .i64 0,.int .i64 65536,.int .i64 0,.int .i64 0,.int .u16 0,.int .u8 0] 33)).alloc (.cells #[.int .i64 1,.int .i64 0,.slice (some ⟨w.heap.size,0,none⟩) 1 1] 36)).alloc (.cells #[.int .i64 1,.int .i64 10,.int .i64 0,.int .i64 0,.int .i64 65536,.int .i64 0,.int .i64 0,.int .u16 0,.int .u8 0] 33)).alloc (.cells #[.int .i64 2,.int .i64 10,.slice (some ⟨w.heap.size + 1 + 1,0,none⟩) 1 1] 36) = w0:=⟨_,rfl⟩
 have hB0 : Below w.heap.size w w0:=by rw [← hw0];exact ((((Below.refl _ _).alloc (Nat.le_refl _) _).alloc (by simp) _).alloc (by simp;omega) _).alloc (by simp;omega) _
 have hs0 : w0.heap.size = w.heap.size + 4:=by rw [← hw0];simp
 have hE1 : Blk w0 w.heap.size #[.int .i64 1,.int .i64 0,.int .i64 0,.int .i64 0,.int .i64 65536,.int .i64 0,.int .i64 0,.int .u16 0,.int .u8 0] 33:=by rw [← hw0];exact (((Blk.new _ _ _).alloc _).alloc _).alloc _
 have hA : Blk w0 (w.heap.size + 1) #[.int .i64 1,.int .i64 0,.slice (some ⟨w.heap.size,0,none⟩) 1 1] 36:=by
  rw [← hw0]
  have:=((Blk.new (w.alloc (.cells #[.int .i64 1,.int .i64 0,.int .i64 0,.int .i64 0,.int .i64 65536,.int .i64 0,.int .i64 0,.int .u16 0,.int .u8 0] 33)) #[.int .i64 1,.int .i64 0,.slice (some ⟨w.heap.size,0,none⟩) 1 1] 36).alloc (.cells #[.int .i64 1,.int .i64 10,.int .i64 0,.int .i64 0,.int .i64 65536,.int .i64 0,.int .i64 0,.int .u16 0,.int .u8 0] 33)).alloc (.cells #[.int .i64 2,.int .i64 10,.slice (some ⟨w.heap.size + 1 + 1,0,none⟩) 1 1] 36)
  simpa using this
 have hE2 : Blk w0 (w.heap.size + 1 + 1) #[.int .i64 1,.int .i64 10,.int .i64 0,.int .i64 0,.int .i64 65536,.int .i64 0,.int .i64 0,.int .u16 0,.int .u8 0] 33:=by
  rw [← hw0]
  have:=(Blk.new ((w.alloc (.cells #[.int .i64 1,.int .i64 0,.int .i64 0,.int .i64 0,.int .i64 65536,.int .i64 0,.int .i64 0,.int .u16 0,.int .u8 0] 33)).alloc (.cells #[.int .i64 1,.int .i64 0,.slice (some ⟨w.heap.size,0,none⟩) 1 1] 36)) #[.int .i64 1,.int .i64 10,.int .i64 0,.int .i64 0,.int .i64 65536,.int .i64 0,.int .i64 0,.int .u16 0,.int .u8 0] 33).alloc (.cells #[.int .i64 2,.int .i64 10,.slice (some ⟨w.heap.size + 1 + 1,0,none⟩) 1 1] 36)
  simpa using this
 have hBb : Blk w0 (w.heap.size + 1 + 1 + 1) #[.int .i64 2,.int .i64 10,.slice (some ⟨w.heap.size + 1 + 1,0,none⟩) 1 1] 36:=by
  rw [← hw0]
  have:=Blk.new (((w.alloc (.cells #[.int .i64 1,.int .i64 0,.int .i64 0,.int .i64 0,.int .i64 65536,.int .i64 0,.int .i64 0,.int .u16 0,.int .u8 0] 33)).alloc (.cells #[.int .i64 1,.int .i64 0,.slice (some ⟨w.heap.size,0,none⟩) 1 1] 36)).alloc (.cells #[.int .i64 1,.int .i64 10,.int .i64 0,.int .i64 0,.int .i64 65536,.int .i64 0,.int .i64 0,.int .u16 0,.int .u8 0] 33)) #[.int .i64 2,.int .i64 10,.slice (some ⟨w.heap.size + 1 + 1,0,none⟩) 1 1] 36
  simpa using this
 have pf:=fun W=>plain_f W
 have nw:=fun W=>clnew_ok plainC plainC_ok plainC_chk W
 have fa : ∀ W,EntsL W (some ⟨w.heap.size,0,none⟩) [enA] → Calls Tryz.prog 14 #[.agg #[.int .i64 1,.int .i64 0,.slice (some ⟨w.heap.size,0,none⟩) 1 1]] W fun e w'=>∃ v,e = .returned v ∧ OwnB w' W.heap.size v (fullB snA) ∧ Below W.heap.size W w':=fun W h=>full_f 1 0 ⟨by decide,by decide⟩ _ 1 [enA] W h (by decide)
 have fb : ∀ W,EntsL W (some ⟨w.heap.size + 1 + 1,0,none⟩) [enB] → Calls Tryz.prog 14 #[.agg #[.int .i64 2,.int .i64 10,.slice (some ⟨w.heap.size + 1 + 1,0,none⟩) 1 1]] W fun e w'=>∃ v,e = .returned v ∧ OwnB w' W.heap.size v (fullB snB) ∧ Below W.heap.size W w':=fun W h=>full_f 2 10 ⟨by decide,by decide⟩ _ 1 [enB] W h (by decide)
 have HE1:=Lib.hid (entsOne (e:=enA) hE1 enA_ok)
 have HE2:=Lib.hid (entsOne (e:=enB) hE2 enB_ok)
 have HA:=Lib.hid hA
 have HBb:=Lib.hid hBb
 have HB0:=Lib.hid hB0
 have HS0:=Lib.hid hs0
 clear hE1 hE2 hA hBb hB0 hs0
 go_enter Tryz.func8,Tryz.ntmps8
 go_wp2_with fail
 clear hw0
 refine (pf w0).mono ?_
 rintro e w1 ⟨rfl,hb1⟩
 have HW1 : Hid (Below w0.heap.size w0 w1):=Lib.hid hb1
 clear hb1 pf
 go_wp2_with fail
 refine (nw w1).mono ?_
 rintro e w2 ⟨C,S,rfl,hCl,hS,hb2⟩
 have hb02 : Below w0.heap.size w0 w2:=HW1.out.trans (hb2.mono HW1.out.size)
 have HS1 : Hid (∀ k,S k → w.heap.size + 4 ≤ k):=Lib.hid (fun k hk=>by have:=hS k hk;have:=HW1.out.size;have:=HS0.out;omega)
 have HC2:=Lib.hid hCl
 have hA2:=HA.out.below hb02 HA.out.lt
 have HE1b:=Lib.hid (HE1.out.below hb02)
 have HE2b:=Lib.hid (HE2.out.below hb02)
 have HA2:=Lib.hid hA2
 have HB2:=Lib.hid (HBb.out.below hb02 HBb.out.lt)
 have HBW2 : Hid (Below w.heap.size w w2):=Lib.hid (HB0.out.trans (hb02.mono HB0.out.size))
 have HSZ2 : Hid (w.heap.size + 4 ≤ w2.heap.size):=Lib.hid (by have:=hb02.size;have:=HS0.out;omega)
 have a0:=hA2.cell 0
 have a1:=hA2.cell 1
 have a2:=hA2.cell 2
 simp at a0 a1 a2
 clear hCl hS hb2 hb02 nw hA2 HE1 HE2 HA HBb HB0 HW1
 go_wp2_with fail
 refine (fa w2 HE1b.out).mono ?_
 rintro e w3 ⟨v,rfl,hO,hb⟩
 obtain ⟨va,vc,rfl,hBy,hvc,hvl,_⟩:=hO.cap
 have hC3:=HC2.out.below hb
 have ar:=arr_end (c:=plainC) (x:=cl0 plainC) plainC_chk snA_tell rfl (by simp [cl0]) (by simp [cl0]) (by decide) 100
 have ac:=carrive_f C plainC plainC_ok plainC_chk (cl0 plainC) S 100 ⟨by decide,by decide⟩ va (fullB snA).length vc (fullB snA) w3 hC3 hBy hvc hvl (fullB_len snA) (by decide) ar.2.1
 rw [ar.1,ar.2.2] at ac
 have HA3:=Lib.hid (HA2.out.below hb HA2.out.lt)
 have HB3:=Lib.hid (HB2.out.below hb HB2.out.lt)
 have HE3:=Lib.hid (HE2b.out.below hb)
 have HBW3 : Hid (Below w.heap.size w w3):=Lib.hid (HBW2.out.trans (hb.mono HBW2.out.size))
 have HSZ3 : Hid (w.heap.size + 4 ≤ w3.heap.size):=Lib.hid (Nat.le_trans HSZ2.out hb.size)
 clear hO hb hBy hvc hvl hC3 ar fa a0 a1 a2 HA2 HB2 HE2b HE1b
 go_wp2_with fail
 refine ac.mono ?_
 rintro e w4 ⟨rfl,hC4,hO4⟩
 have hnS : ∀ k,k < w.heap.size + 4 → ¬ S k:=fun k hk h=>by have:=HS1.out k h;omega
 have hB4:=hO4.blk HB3.out (hnS _ (by omega))
 have HC4:=Lib.hid hC4
 have HB4:=Lib.hid hB4
 have HE4:=Lib.hid (HE3.out.only hO4 (fun x hx=>by cases hx;exact hnS _ (show w.heap.size + 1 + 1 < w.heap.size + 4 by omega)))
 have HBW4 : Hid (Below w.heap.size w w4):=Lib.hid (HBW3.out.trans (hO4.below HBW3.out.size (fun k hk=>by have:=HS1.out k hk;omega)))
 have HSZ4 : Hid (w3.heap.size ≤ w4.heap.size):=Lib.hid hO4.size
 have b0:=hB4.cell 0
 have b1:=hB4.cell 1
 have b2:=hB4.cell 2
 simp at b0 b1 b2
 have HG4 : Hid (∀ k,Grow S w3 w4 k → w.heap.size + 4 ≤ k):=Lib.hid (fun k hk=>by
  rcases hk.1 with h | h
  ·exact HS1.out k h
  ·have:=HSZ3.out;omega)
 clear hC4 hO4 ac hB4 HA3 HB3 HE3 HC2 hnS
 go_wp2_with fail
 refine (fb w4 HE4.out).mono ?_
 rintro e w5 ⟨v,rfl,hO,hb⟩
 obtain ⟨va,vc,rfl,hBy,hvc,hvl,_⟩:=hO.cap
 have hC5:=HC4.out.below hb
 have ar:=arr_end (c:=plainC) (x:=⟨(cl0 plainC).ss ++ [snA],(cl0 plainC).floor,false,smp plainC (cl0 plainC).cs (subF 100 snA.time)⟩) plainC_chk snB_tell rfl (by intro y hy;simp [cl0] at hy;subst hy;decide) (by intro y hy;simp [cl0] at hy;subst hy;decide) (by decide) 110
 have ac:=carrive_f C plainC plainC_ok plainC_chk _ _ 110 ⟨by decide,by decide⟩ va (fullB snB).length vc (fullB snB) w5 hC5 hBy hvc hvl (fullB_len snB) (by decide) ar.2.1
 rw [ar.1,ar.2.2] at ac
 have HBW5 : Hid (Below w.heap.size w w5):=Lib.hid (HBW4.out.trans (hb.mono HBW4.out.size))
 have HSZ5 : Hid (w.heap.size + 4 ≤ w5.heap.size):=Lib.hid (by have:=hb.size;have:=HSZ4.out;have:=HSZ3.out;omega)
 clear hO hb hBy hvc hvl hC5 ar fb b0 b1 b2 HB4 HE4
 go_wp2_with fail
 refine ac.mono ?_
 rintro e w6 ⟨rfl,hC6,hO6⟩
 generalize hS6 : Grow (Grow S w3 w4) w5 w6 = S6 at hC6
 have HC6 : Hid (ClAt w6 C plainC alX2 S6):=Lib.hid hC6
 have HG6 : Hid (∀ k,S6 k → w.heap.size + 4 ≤ k):=Lib.hid (fun k hk=>by
  rw [← hS6] at hk
  rcases hk.1 with h | h
  ·exact HG4.out k h
  ·have:=HSZ5.out;omega)
 have HBW6 : Hid (Below w.heap.size w w6):=Lib.hid (HBW5.out.trans (hO6.below HBW5.out.size (fun k hk=>by have:=HG4.out k hk;omega)))
 clear hC6 hO6 ac hS6 HC4
 go_wp2_with fail
 have f1:=clframe_f C plainC plainC_ok plainC_chk alX2 S6 104 ⟨by decide,by decide⟩ w6 HC6.out (by decide)
 rw [show (frm plainC alX2.cs 104).at0 = 4 from al_1,show alX2.ss = [snA,snB] from rfl,al_n1] at f1
 refine f1.mono ?_
 rintro e w7 ⟨s7,c7,rfl,hP7,hC7,hO7⟩
 have HC7 : Hid (ClAt w7 C plainC { alX2 with cs:=alF1 } S6):=Lib.hid hC7
 have HP7:=Lib.hid hP7
 have HBW7 : Hid (Below w.heap.size w w7):=Lib.hid (HBW6.out.trans (hO7.below HBW6.out.size (fun k hk=>by have:=HG6.out k hk.1;omega)))
 clear f1 hP7 hC7 hO7 HC6
 go_wp2_with fail
 have f1:=clframe_f C plainC plainC_ok plainC_chk { alX2 with cs:=alF1 } S6 113 ⟨by decide,by decide⟩ w7 HC7.out (by decide)
 rw [show (frm plainC ({ alX2 with cs:=alF1 } : Cst).cs 113).at0 = 13 from al_2,show ({ alX2 with cs:=alF1 } : Cst).ss = [snA,snB] from rfl,al_n2] at f1
 refine f1.mono ?_
 rintro e w8 ⟨s8,c8,rfl,hP8,hC8,hO8⟩
 have HC8 : Hid (ClAt w8 C plainC { alX2 with cs:=alF2 } S6):=Lib.hid hC8
 have HP8:=Lib.hid hP8
 have HP7b:=Lib.hid (posesOnlyN HP7.out hO8 (fun k hk _=>hk.2))
 have HBW8 : Hid (Below w.heap.size w w8):=Lib.hid (HBW7.out.trans (hO8.below HBW7.out.size (fun k hk=>by have:=HG6.out k hk.1;omega)))
 clear f1 hP8 hC8 hO8 HC7 HP7
 go_wp2_with fail
 have f1:=clframe_f C plainC plainC_ok plainC_chk { alX2 with cs:=alF2 } S6 900 ⟨by decide,by decide⟩ w8 HC8.out (by decide)
 rw [show (frm plainC ({ alX2 with cs:=alF2 } : Cst).cs 900).at0 = 800 from al_3,show ({ alX2 with cs:=alF2 } : Cst).ss = [snA,snB] from rfl,al_n3] at f1
 refine f1.mono ?_
 rintro e w9 ⟨s9,c9,rfl,hP9,hC9,hO9⟩
 have hP7c:=posesOnlyN HP7b.out hO9 (fun k hk _=>hk.2)
 have hP8b:=posesOnlyN HP8.out hO9 (fun k hk _=>hk.2)
 have HBW9 : Hid (Below w.heap.size w w9):=Lib.hid (HBW8.out.trans (hO9.below HBW8.out.size (fun k hk=>by have:=HG6.out k hk.1;omega)))
 clear f1 hC9 hO9 HC8 HP7b HP8
 obtain ⟨b7,o7,rfl,l7,p7'⟩:=pose_cells hP7c al_p1
 obtain ⟨b8,o8,rfl,l8,p8'⟩:=pose_cells hP8b al_p2
 obtain ⟨b9,o9,rfl,l9,p9'⟩:=pose_cells hP9 al_p3
 obtain ⟨w10,hw10⟩ : ∃ u,((w9.alloc (.cells #[.bool true,.int .i64 4,.slice (some ⟨b7,o7,none⟩) 1 c7] 49)).alloc (.cells #[.bool true,.int .i64 13,.slice (some ⟨b8,o8,none⟩) 1 c8] 49)).alloc (.cells #[.bool true,.int .i64 800,.slice (some ⟨b9,o9,none⟩) 1 c9] 49) = u:=⟨_,rfl⟩
 have hb10 : Below w9.heap.size w9 w10:=by rw [← hw10];exact ((((Below.refl _ _).alloc (Nat.le_refl _) _).alloc (by simp) _).alloc (by simp;omega) _)
 have hX7 : Blk w10 w9.heap.size #[.bool true,.int .i64 4,.slice (some ⟨b7,o7,none⟩) 1 c7] 49:=by rw [← hw10];exact ((Blk.new _ _ _).alloc _).alloc _
 have hX8 : Blk w10 (w9.heap.size + 1) #[.bool true,.int .i64 13,.slice (some ⟨b8,o8,none⟩) 1 c8] 49:=by
  rw [← hw10]
  have:=(Blk.new (w9.alloc (.cells #[.bool true,.int .i64 4,.slice (some ⟨b7,o7,none⟩) 1 c7] 49)) #[.bool true,.int .i64 13,.slice (some ⟨b8,o8,none⟩) 1 c8] 49).alloc (.cells #[.bool true,.int .i64 800,.slice (some ⟨b9,o9,none⟩) 1 c9] 49)
  simpa using this
 have hX9 : Blk w10 (w9.heap.size + 1 + 1) #[.bool true,.int .i64 800,.slice (some ⟨b9,o9,none⟩) 1 c9] 49:=by
  rw [← hw10]
  have:=Blk.new ((w9.alloc (.cells #[.bool true,.int .i64 4,.slice (some ⟨b7,o7,none⟩) 1 c7] 49)).alloc (.cells #[.bool true,.int .i64 13,.slice (some ⟨b8,o8,none⟩) 1 c8] 49)) #[.bool true,.int .i64 800,.slice (some ⟨b9,o9,none⟩) 1 c9] 49
  simpa using this
 have s7:=hX7.cell 2
 have s8:=hX8.cell 2
 have s9:=hX9.cell 2
 simp at s7 s8 s9
 have p7:=p7'.below hb10 l7
 have p8:=p8'.below hb10 l8
 have p9:=p9'.below hb10 l9
 clear p7' p8' p9' hX7 hX8 hX9
 unfold PoCells at p7 p8 p9
 simp only at p7 p8 p9
 obtain ⟨p70,p71,p72,p73,p74,p75⟩:=p7
 obtain ⟨p80,p81,p82,p83,p84,p85⟩:=p8
 obtain ⟨p90,p91,p92,p93,p94,p95⟩:=p9
 have q7:=fun W=>eq_pose 1 4 0 0 0 1 1 4 0 0 0 1 W
 have q8:=fun W=>eq_pose 1 13 0 0 0 3 1 13 0 0 0 3 W
 have q9:=fun W=>eq_pose 1 15 0 0 0 4 1 15 0 0 0 4 W
 simp at q7 q8 q9
 have HF : Hid (Below w.heap.size w w10):=Lib.hid (HBW9.out.trans (hb10.mono HBW9.out.size))
 clear hb10
 clear hP7c hP8b hP9
 go_wp2
 exact bodyPost_ret (v:=.bool true) (by simp [results,Tryz.results8,go_sem]) rfl ⟨rfl,HF.out⟩
end Go.Proofs.YtklkooeimkedgaaGreat
namespace Go.Proofs.YtklkooeimkedgaaGreat
open Go.RowKit
set_option maxRecDepth 100000
theorem arr_of_snap {c : Cfg} {x : Cst} {s : Sn} {zs : List Int} (hc : cchk c = 0) (hs : snapS c.ring x.rg zs = (s,0)) (hg : x.gone = false) (h1 : ∀ y ∈ x.ss,y.tick < s.tick) (hl : (x.ss.length : Int) < c.ring) (loc : Int) :
  arrE c x zs = 0 ∧ ArrHyp c x zs ∧ arrX c x loc zs = ⟨x.ss ++ [s],x.floor,false,smp c x.cs (subF loc s.time)⟩:=by
 refine ⟨by unfold arrE;rw [hs],arrHyp_end hc (fun _=>by rw [hs];exact ⟨h1,hl,fun h=>by rw [hg] at h;cases h⟩),?_⟩
 unfold arrX
 rw [hs,if_pos rfl]
 have hin : insS x.ss s = x.ss ++ [s]:=insS_end h1
 have hle : ((insS x.ss s).length : Int) ≤ c.ring:=by rw [hin];simp;omega
 unfold layS
 simp only [Cst.rg]
 rw [if_pos hle,hin,hg]
section
variable (a0 a1 a2 b0 b1 b2 : Int)
def jmA : Ent:=⟨3,a0,a1,a2,0,0,0,0,0⟩
def jmB : Ent:=⟨3,b0,b1,b2,0,0,0,0,1⟩
def jmS : Sn:=⟨1,0,[jmA a0 a1 a2]⟩
def jmT : Sn:=⟨2,100,[jmB b0 b1 b2]⟩
def jmR : Rec:=⟨3,3,b0,b1,b2,0,0,0,0⟩
def jmG : Gr:=⟨2,100,1,[jmR b0 b1 b2]⟩
end
variable {a0 a1 a2 b0 b1 b2 : Int}
theorem jmA_ok (h0 : I64 a0) (h1 : I64 a1) (h2 : I64 a2) : (jmA a0 a1 a2).Ok:=⟨i64_3,h0,h1,h2,i64_zero,i64_zero,i64_zero,(show (0:Int) ≤ 0 ∧ (0:Int) ≤ 65535 by decide),(show (0:Int) ≤ 0 ∧ (0:Int) ≤ 255 by decide)⟩
theorem jmB_ok (h0 : I64 b0) (h1 : I64 b1) (h2 : I64 b2) : (jmB b0 b1 b2).Ok:=⟨i64_3,h0,h1,h2,i64_zero,i64_zero,i64_zero,(show (0:Int) ≤ 0 ∧ (0:Int) ≤ 65535 by decide),(show (0:Int) ≤ 1 ∧ (1:Int) ≤ 255 by decide)⟩
theorem jmR_ok (h0 : I64 b0) (h1 : I64 b1) (h2 : I64 b2) : (jmR b0 b1 b2).Ok:=⟨i64_3,i64_3,h0,h1,h2,i64_zero,i64_zero,i64_zero,(show (0:Int) ≤ 0 ∧ (0:Int) ≤ 65535 by decide)⟩
theorem jmS_tell (h0 : I64 a0) (h1 : I64 a1) (h2 : I64 a2) : Tellable (jmS a0 a1 a2):=tellable_one (by decide) (by decide) (show 0 ≤ (3 : Int) ∧ (3 : Int) ≤ 65535 by decide) (jmA_ok h0 h1 h2) rfl
theorem jmT_good : SnGood (jmT b0 b1 b2):=⟨show 0 ≤ (2 : Int) ∧ (2 : Int) ≤ 4294967295 by decide,show -2305843009213693952 ≤ (100 : Int) ∧ (100 : Int) ≤ 2305843009213693952 by decide,by show 1 ≤ 64;decide,fun e he=>by
 simp [jmT] at he;subst he;exact (show 0 ≤ (3 : Int) ∧ (3 : Int) ≤ 65535 by decide),List.pairwise_singleton _ _⟩
theorem jmS_good : SnGood (jmS a0 a1 a2):=⟨show 0 ≤ (1 : Int) ∧ (1 : Int) ≤ 4294967295 by decide,show -2305843009213693952 ≤ (0 : Int) ∧ (0 : Int) ≤ 2305843009213693952 by decide,by show 1 ≤ 64;decide,fun e he=>by
 simp [jmS] at he;subst he;exact (show 0 ≤ (3 : Int) ∧ (3 : Int) ≤ 65535 by decide),List.pairwise_singleton _ _⟩
theorem findE_one (e : Ent) : findE [e] e.id = some e:=by simp [findE]
theorem byIdF_one (e : Ent) : byIdF [e] = [e]:=by simp [byIdF,putE,findE]
theorem jm_diff : diffG (jmS a0 a1 a2) (jmT b0 b1 b2) = (jmG b0 b1 b2,0):=by
 unfold diffG
 rw [if_neg (by rw [snChk_iff.2 jmS_good];simp),if_neg (by rw [snChk_iff.2 jmT_good];simp),if_neg (by show ¬ (2 : Int) ≤ 1;decide)]
 have hf : findE (byIdF (jmS a0 a1 a2).ents) (jmB b0 b1 b2).id = some (jmA a0 a1 a2):=by
  show findE (byIdF [jmA a0 a1 a2]) (jmA a0 a1 a2).id = _
  rw [byIdF_one,findE_one]
 have hs : sameE (jmA a0 a1 a2) (jmB b0 b1 b2) = false:=by simp [sameE,jmA,jmB]
 have hd : recDif (jmA a0 a1 a2) (jmB b0 b1 b2) = (jmR b0 b1 b2,true):=by
  unfold recDif
  rw [if_neg (by rw [hs];simp)]
  unfold recDiff
  rw [if_neg (by simp [jmA,jmB])]
  rfl
 have ho : tlOne (byIdF (jmS a0 a1 a2).ents) [] (jmB b0 b1 b2) = some ([],[jmR b0 b1 b2]):=by
  unfold tlOne
  rw [hf]
  simp only
  rw [if_neg (by simp [jmA,jmB];decide),hd]
  simp only [if_true,List.nil_append]
  have hd2 : delE (byIdF (jmS a0 a1 a2).ents) (jmB b0 b1 b2).id = []:=by
   show delE (byIdF [jmA a0 a1 a2]) (jmA a0 a1 a2).id = _
   rw [byIdF_one]
   simp [delE]
  rw [hd2]
 have ht : tlAll (byIdF (jmS a0 a1 a2).ents) [] (jmT b0 b1 b2).ents = some ([],[jmR b0 b1 b2]):=by
  show tlAll _ [] [jmB b0 b1 b2] = _
  rw [tlAll,ho]
  rfl
 rw [ht]
 unfold tellFin
 simp only
 have hr : tellR ([],[jmR b0 b1 b2]) = [jmR b0 b1 b2]:=by unfold tellR;simp [srtR,List.mergeSort]
 rw [hr]
 rfl
theorem jmR_wr : recWrE (jmR b0 b1 b2) (-1) = 0:=by
 have hc : recChk (jmR b0 b1 b2) = 0:=by
  unfold recChk jmR
  simp
 unfold recWrE
 rw [if_neg (by rw [hc];simp),if_neg (by omega),if_neg (by simp [jmR])]
theorem jm_wr (h0 : I64 b0) (h1 : I64 b1) (h2 : I64 b2) : grWrE (jmG b0 b1 b2) = 0:=by
 have hh : grHdE 2 100 1 1 = 0:=by decide
 have hb : grBodE (jmG b0 b1 b2) = 0:=by
  unfold grBodE jmG
  simp only [List.length_singleton]
  rw [if_neg (by simpa using hh)]
  unfold recsE
  rw [if_neg (by rw [jmR_wr];simp)]
  rfl
 have hlen : (grBodB (jmG b0 b1 b2)).length ≤ 124:=by
  unfold grBodB
  have a:=grHdB_len 2 100 1 1 hh
  have b:=recWrB_len (jmR_ok h0 h1 h2) jmR_wr
  rw [List.length_append]
  simp only [jmG,List.length_singleton,recsB,List.append_nil]
  omega
 unfold grWrE
 rw [if_neg (by rw [hb];simp),if_neg (by omega)]
theorem jm_len (h0 : I64 b0) (h1 : I64 b1) (h2 : I64 b2) : ((grWrB (jmG b0 b1 b2)).length : Int) ≤ 140737488355000:=by
 have h:=jm_wr h0 h1 h2
 have hz : (be4 (crcSum (grBodB (jmG b0 b1 b2)))).length = 4:=rfl
 unfold grWrE at h
 split at h
 ·rename_i hh;exact absurd h hh
 split at h
 ·cases h
 ·unfold grWrB
  rw [List.length_append,hz];omega
theorem jm_snap (h0 : I64 b0) (h1 : I64 b1) (h2 : I64 b2) : snapS 8 ⟨[jmS a0 a1 a2],0,false⟩ (grWrB (jmG b0 b1 b2)) = (jmT b0 b1 b2,0):=by
 have hr : grRd (grWrB (jmG b0 b1 b2)) = (jmG b0 b1 b2,0):=grRd_wr (jm_wr h0 h1 h2) (fun r hr=>by simp [jmG] at hr;subst hr;exact ⟨jmR_ok h0 h1 h2,by simp [jmR]⟩)
 have hb : grBodE (jmG b0 b1 b2) = 0:=by
  have h:=jm_wr h0 h1 h2
  unfold grWrE at h
  split at h
  ·rename_i hh;exact absurd h hh
  ·rename_i hh;exact Decidable.of_not_not hh
 have hg : getK ([jmS a0 a1 a2].map toK) 1 = some (toK (jmS a0 a1 a2)):=rfl
 have hap : apF (baseSn (getK ([jmS a0 a1 a2].map toK) 1)) (jmG b0 b1 b2) = (jmT b0 b1 b2,0):=by
  rw [hg]
  show apF (jmS a0 a1 a2) (jmG b0 b1 b2) = _
  unfold apF
  rw [if_neg (by rw [hb];simp),if_pos (show 0 ≤ (jmG b0 b1 b2).base from (by decide : 0 ≤ (1 : Int))),if_neg (by rw [snChk_iff.2 jmS_good];simp),if_neg (show ¬ (jmS a0 a1 a2).tick ≠ (jmG b0 b1 b2).base from fun h=>h rfl)]
  have ho : apOne (byIdF (jmS a0 a1 a2).ents) (jmR b0 b1 b2) = some [jmB b0 b1 b2]:=by
   have hc : recChk (jmR b0 b1 b2) = 0:=by unfold recChk jmR;simp
   have ha : recApl (jmA a0 a1 a2) (jmR b0 b1 b2) = (jmB b0 b1 b2,0):=by
    unfold recApl
    rw [if_neg (by rw [hc];simp),if_neg (by simp [jmA,jmR]),if_pos (show (jmR b0 b1 b2).kind = 3 from rfl)]
    have : IntKind.u8.wrap (1 : Int) = 1:=by decide
    simp [jmA,jmB,jmR,this]
   have hf : findE (byIdF (jmS a0 a1 a2).ents) (jmR b0 b1 b2).id = some (jmA a0 a1 a2):=by
    show findE (byIdF [jmA a0 a1 a2]) (jmA a0 a1 a2).id = _
    rw [byIdF_one,findE_one]
   have hp : putE (byIdF (jmS a0 a1 a2).ents) (jmB b0 b1 b2) = [jmB b0 b1 b2]:=by
    show putE (byIdF [jmA a0 a1 a2]) _ = _
    rw [byIdF_one]
    have hh : findE [jmA a0 a1 a2] (jmB b0 b1 b2).id = some (jmA a0 a1 a2):=findE_one _
    unfold putE
    rw [hh]
    simp [jmA,jmB]
   unfold apOne
   rw [hf]
   simp only
   rw [if_neg (by simp [jmR]),if_neg (by simp [jmR]),ha]
   simp only
   rw [hp]
  unfold apFin
  have hal : apAll (byIdF (jmS a0 a1 a2).ents) (jmG b0 b1 b2).recs = some [jmB b0 b1 b2]:=by
   show apAll _ [jmR b0 b1 b2] = _
   rw [apAll,ho]
   rfl
  rw [hal]
  simp only
  rw [if_neg (by simp),srtE_self (List.pairwise_singleton _ _)]
  rfl
 unfold snapS snapF
 rw [hr]
 have hp : snpE ([jmS a0 a1 a2].map toK) 8 0 false (jmG b0 b1 b2).tick (jmG b0 b1 b2).base = 0:=rfl
 simp only [ne_eq,not_true_eq_false,if_false]
 rw [if_neg (by rw [hp];simp)]
 rw [show (jmG b0 b1 b2).base = 1 from rfl,hap]
 have ht : timelyF ([jmS a0 a1 a2].map toK) (jmT b0 b1 b2).tick (jmT b0 b1 b2).time = true:=rfl
 simp only [ht]
 simp
def jmC : CS:=smp plainC (smp plainC (cs0 plainC) (subF 0 0)) (subF 100 100)
theorem jm_least : leastF (lastN plainC.window.toNat jmC.L) = 0:=by kernel_rfl
theorem jm_dly : jmC.dly = 0:=by kernel_rfl
theorem jm_at (t : Int) (h0 : 0 ≤ t) (h1 : t ≤ 255) : (frm plainC jmC t).at0 = t:=by
 have hst : jmC.st = 0:=by kernel_rfl
 have hf : (frm plainC jmC t).at0 = wantF plainC jmC t:=by unfold frm;simp [hst]
 rw [hf]
 unfold wantF
 rw [jm_least,jm_dly]
 unfold subF sat
 omega
theorem jm_show : SsShow [jmS a0 a1 a2,jmT b0 b1 b2]:=⟨fun s hs=>by
 rcases List.mem_cons.1 hs with rfl | hs
 ·exact jmS_good
 ·simp at hs;subst hs;exact jmT_good,List.pairwise_cons.2 ⟨fun s hs=>by simp at hs;subst hs;show (0 : Int) < 100;decide,List.pairwise_singleton _ _⟩⟩
theorem jm_pose (t : Int) (h0 : 0 ≤ t) (h1 : t ≤ 255) (hA : (jmA a0 a1 a2).Ok) (hB : (jmB b0 b1 b2).Ok) : shNs plainC t [jmS a0 a1 a2,jmT b0 b1 b2] = 1 ∧
  ∃ m : Int,shPs plainC t [jmS a0 a1 a2,jmT b0 b1 b2] 0 = (if 100 ≤ t then ⟨3,b0,b1,b2,0,m⟩ else ⟨3,a0,a1,a2,0,m⟩) ∧ (m = 0 ↔ t ≤ 100):=by
 have hs:=jm_show (a0:=a0) (a1:=a1) (a2:=a2) (b0:=b0) (b1:=b1) (b2:=b2)
 have ht0 : tOf [jmS a0 a1 a2,jmT b0 b1 b2] 0 = 0:=rfl
 have ht1 : tOf [jmS a0 a1 a2,jmT b0 b1 b2] 1 = 100:=rfl
 by_cases h : 100 ≤ t
 ·have hl : lastLe (tOf [jmS a0 a1 a2,jmT b0 b1 b2]) t 2 = 2:=by rw [lastLe,if_pos (by rw [ht1];exact h)]
  obtain ⟨e1,e2⟩:=show_last hs (c:=plainC) plainC_chk (t:=t) (by show lastLe _ t 2 ≠ 0;rw [hl];decide) hl
  refine ⟨e1,byM plainC (subF t 100),?_,?_⟩
  ·rw [if_pos h,e2]
   show byP _ _ (jmB b0 b1 b2) = _
   have hz : ∀ d,mulF 0 d = 0:=fun d=>by unfold mulF;rw [Int.zero_mul];decide
   unfold byP
   simp only [jmB,hz]
   rw [addF_zero (show I64 b0 from hB.px),addF_zero (show I64 b1 from hB.py),addF_zero (show I64 b2 from hB.pz)]
   rfl
  ·unfold byM
   have : subF t 100 = t - 100:=by unfold subF sat;omega
   rw [this]
   split
   ·constructor <;> intro <;> omega
   ·split
    ·constructor <;> intro hh <;> omega
    ·constructor <;> intro hh <;> omega
 ·have hl : lastLe (tOf [jmS a0 a1 a2,jmT b0 b1 b2]) t 2 = 1:=by
   rw [lastLe,if_neg (by rw [ht1];exact h),lastLe,if_pos (by rw [ht0];exact h0)]
  obtain ⟨e1,e2⟩:=show_mid hs (c:=plainC) plainC_chk (t:=t) (m:=0) hl (by show 1 < 2;decide)
  refine ⟨e1,0,?_,?_⟩
  ·rw [if_neg h,e2]
   show btwP false (jmA a0 a1 a2) (fdE _ _ _) (fdB _ _ _) _ _ = _
   have hn : ¬ (fdB (eeOf [jmS a0 a1 a2,jmT b0 b1 b2] 1) (jmA a0 a1 a2).id 1 = true ∧ (fdE (eeOf [jmS a0 a1 a2,jmT b0 b1 b2] 1) (jmA a0 a1 a2).id 1).gen = (jmA a0 a1 a2).gen):=by
    have : fdE (eeOf [jmS a0 a1 a2,jmT b0 b1 b2] 1) (jmA a0 a1 a2).id 1 = jmB b0 b1 b2:=rfl
    rw [this]
    intro hh
    have:=hh.2
    simp [jmA,jmB] at this
   unfold btwP
   exact (if_neg hn).trans rfl
  ·constructor <;> intro <;> omega
end Go.Proofs.YtklkooeimkedgaaGreat
namespace Go.Proofs.YtklkooeimkedgaaGreat
open Go.RowKit
set_option maxRecDepth 100000
theorem OwnB.only {w w' : World} {base : Nat} {v : Value} {zs : List Int} {S : Nat → Prop} (h : OwnB w base v zs) (ho : Only S w w') (hS : ∀ k,S k → k < base) : OwnB w' base v zs:=by
 obtain ⟨⟨h1,h2⟩,h8⟩:=h
 refine ⟨⟨h1,?_⟩,h8⟩
 rcases h2 with h2 | ⟨g,cap,cur,hv,hg,hh,r⟩
 ·exact Or.inl h2
 ·exact Or.inr ⟨g,cap,cur,hv,hg,by rw [ho.block g (Array.getElem?_eq_some_iff.1 hh).1 (fun hs=>Nat.lt_irrefl _ (Nat.lt_of_le_of_lt hg (hS g hs)))];exact hh,r⟩
set_option maxHeartbeats 4000000 in
theorem topJumps_walk (a0 a1 a2 b0 b1 b2 at_ : Int) (ha0 : I64 a0) (ha1 : I64 a1) (ha2 : I64 a2) (hb0 : I64 b0) (hb1 : I64 b1) (hb2 : I64 b2) (hat : 0 ≤ at_ ∧ at_ ≤ 255) (w : World) :
  Calls Tryz.prog 3 #[.agg #[.int .i64 a0,.int .i64 a1,.int .i64 a2],.agg #[.int .i64 b0,.int .i64 b1,.int .i64 b2],.int .u8 at_] w fun e w'=>e = .returned (.bool true) ∧ Below w.heap.size w w':=by
 obtain ⟨w0,hw0⟩ : ∃ w0,(w.alloc (.cells #[.int .i64 a0,.int .i64 a1,.int .i64 a2] 22)).alloc (.cells #[.int .i64 b0,.int .i64 b1,.int .i64 b2] 22) = w0:=⟨_,rfl⟩
 have hB0 : Below w.heap.size w w0:=by rw [← hw0];exact ((Below.refl _ _).alloc (Nat.le_refl _) _).alloc (by simp) _
 have hA0 : Blk w0 w.heap.size #[.int .i64 a0,.int .i64 a1,.int .i64 a2] 22:=by rw [← hw0];exact (Blk.new _ _ _).alloc _
 have hA1 : Blk w0 (w.heap.size + 1) #[.int .i64 b0,.int .i64 b1,.int .i64 b2] 22:=by
  rw [← hw0]
  have:=Blk.new (w.alloc (.cells #[.int .i64 a0,.int .i64 a1,.int .i64 a2] 22)) #[.int .i64 b0,.int .i64 b1,.int .i64 b2] 22
  simpa using this
 have hs0 : w.heap.size + 2 ≤ w0.heap.size:=by rw [← hw0];simp
 have al:=fun W=>alive_f W
 have pf:=fun W=>plain_f W
 have nw:=fun W=>clnew_ok plainC plainC_ok plainC_chk W
 have HVA:=Lib.hid hA0
 have HVB:=Lib.hid hA1
 have HB0:=Lib.hid hB0
 have HS0:=Lib.hid hs0
 obtain ⟨g,hg⟩ : ∃ g,jmG b0 b1 b2 = g:=⟨_,rfl⟩
 have HGT : Hid (I64 g.time):=Lib.hid (by rw [← hg];exact (show I64 (100:Int) from ⟨by decide,by decide⟩))
 have HGW : Hid (grWrE g = 0):=Lib.hid (by rw [← hg];exact jm_wr hb0 hb1 hb2)
 have HGL : Hid (((grWrB g).length : Int) ≤ 140737488355000):=Lib.hid (by rw [← hg];exact jm_len hb0 hb1 hb2)
 have HGS : Hid (snapS 8 ⟨[jmS a0 a1 a2],0,false⟩ (grWrB g) = (jmT b0 b1 b2,0)):=Lib.hid (by rw [← hg];exact jm_snap hb0 hb1 hb2)
 have HGD : Hid (diffG (jmS a0 a1 a2) (jmT b0 b1 b2) = (g,0)):=Lib.hid (by rw [← hg];exact jm_diff)
 clear hg
 have HAT:=Lib.hid hat
 have HI:=Lib.hid (And.intro ha0 (And.intro ha1 (And.intro ha2 (And.intro hb0 (And.intro hb1 hb2)))))
 clear hA0 hA1 hB0 hs0 ha0 ha1 ha2 hb0 hb1 hb2 hat
 go_enter Tryz.func3,Tryz.ntmps3
 go_wp2_with fail
 clear hw0
 refine (al w0).mono ?_
 rintro e w1 ⟨rfl,hb1⟩
 have HVA1:=Lib.hid (HVA.out.below hb1 HVA.out.lt)
 have HVB1:=Lib.hid (HVB.out.below hb1 HVB.out.lt)
 have HB1:=Lib.hid (HB0.out.trans (hb1.mono HB0.out.size))
 have HS1 : Hid (w.heap.size + 2 ≤ w1.heap.size):=Lib.hid (Nat.le_trans HS0.out hb1.size)
 clear hb1 al HVA HVB HB0 HS0
 go_wp2_with fail
 refine (pf w1).mono ?_
 rintro e w2 ⟨rfl,hb2⟩
 have HW2 : Hid (Below w1.heap.size w1 w2):=Lib.hid hb2
 clear hb2 pf
 go_wp2_with fail
 refine (nw w2).mono ?_
 rintro e w3 ⟨C,S,rfl,hCl,hS,hb3⟩
 have hb13 : Below w1.heap.size w1 w3:=HW2.out.trans (hb3.mono HW2.out.size)
 have hva:=HVA1.out.below hb13 HVA1.out.lt
 have hvb:=HVB1.out.below hb13 HVB1.out.lt
 have HS3 : Hid (w.heap.size + 2 ≤ w3.heap.size):=Lib.hid (Nat.le_trans HS1.out hb13.size)
 have HB3:=Lib.hid (HB1.out.trans (hb13.mono HB1.out.size))
 have HSS : Hid (∀ k,S k → w.heap.size + 2 ≤ k ∧ k < w3.heap.size):=Lib.hid (fun k hk=>⟨by have:=hS k hk;have:=HW2.out.size;have:=HS1.out;omega,hCl.lt k hk⟩)
 obtain ⟨w4,hw4⟩ : ∃ u,(((w3.alloc (.cells #[.int .i64 3,.int .i64 a0,.int .i64 a1,.int .i64 a2,.int .i64 0,.int .i64 0,.int .i64 0,.int .u16 0,.int .u8 0] 33)).alloc (.cells #[.int .i64 1,.int .i64 0,.slice (some ⟨w3.heap.size,0,none⟩) 1 1] 36)).alloc (.cells #[.int .i64 3,.int .i64 b0,.int .i64 b1,.int .i64 b2,.int .i64 0,.int .i64 0,.int .i64 0,.int .u16 0,.int .u8 1] 33)).alloc (.cells #[.int .i64 2,.int .i64 100,.slice (some ⟨w3.heap.size + 1 + 1,0,none⟩) 1 1] 36) = u:=⟨_,rfl⟩
 have hb4 : Below w3.heap.size w3 w4:=by rw [← hw4];exact ((((Below.refl _ _).alloc (Nat.le_refl _) _).alloc (by simp) _).alloc (by simp;omega) _).alloc (by simp;omega) _
 have hE1 : Blk w4 w3.heap.size #[.int .i64 3,.int .i64 a0,.int .i64 a1,.int .i64 a2,.int .i64 0,.int .i64 0,.int .i64 0,.int .u16 0,.int .u8 0] 33:=by rw [← hw4];exact (((Blk.new _ _ _).alloc _).alloc _).alloc _
 have hA : Blk w4 (w3.heap.size + 1) #[.int .i64 1,.int .i64 0,.slice (some ⟨w3.heap.size,0,none⟩) 1 1] 36:=by
  rw [← hw4]
  have:=((Blk.new (w3.alloc (.cells #[.int .i64 3,.int .i64 a0,.int .i64 a1,.int .i64 a2,.int .i64 0,.int .i64 0,.int .i64 0,.int .u16 0,.int .u8 0] 33)) #[.int .i64 1,.int .i64 0,.slice (some ⟨w3.heap.size,0,none⟩) 1 1] 36).alloc (.cells #[.int .i64 3,.int .i64 b0,.int .i64 b1,.int .i64 b2,.int .i64 0,.int .i64 0,.int .i64 0,.int .u16 0,.int .u8 1] 33)).alloc (.cells #[.int .i64 2,.int .i64 100,.slice (some ⟨w3.heap.size + 1 + 1,0,none⟩) 1 1] 36)
  simpa using this
 have hE2 : Blk w4 (w3.heap.size + 1 + 1) #[.int .i64 3,.int .i64 b0,.int .i64 b1,.int .i64 b2,.int .i64 0,.int .i64 0,.int .i64 0,.int .u16 0,.int .u8 1] 33:=by
  rw [← hw4]
  have:=(Blk.new ((w3.alloc (.cells #[.int .i64 3,.int .i64 a0,.int .i64 a1,.int .i64 a2,.int .i64 0,.int .i64 0,.int .i64 0,.int .u16 0,.int .u8 0] 33)).alloc (.cells #[.int .i64 1,.int .i64 0,.slice (some ⟨w3.heap.size,0,none⟩) 1 1] 36)) #[.int .i64 3,.int .i64 b0,.int .i64 b1,.int .i64 b2,.int .i64 0,.int .i64 0,.int .i64 0,.int .u16 0,.int .u8 1] 33).alloc (.cells #[.int .i64 2,.int .i64 100,.slice (some ⟨w3.heap.size + 1 + 1,0,none⟩) 1 1] 36)
  simpa using this
 have hBb : Blk w4 (w3.heap.size + 1 + 1 + 1) #[.int .i64 2,.int .i64 100,.slice (some ⟨w3.heap.size + 1 + 1,0,none⟩) 1 1] 36:=by
  rw [← hw4]
  have:=Blk.new (((w3.alloc (.cells #[.int .i64 3,.int .i64 a0,.int .i64 a1,.int .i64 a2,.int .i64 0,.int .i64 0,.int .i64 0,.int .u16 0,.int .u8 0] 33)).alloc (.cells #[.int .i64 1,.int .i64 0,.slice (some ⟨w3.heap.size,0,none⟩) 1 1] 36)).alloc (.cells #[.int .i64 3,.int .i64 b0,.int .i64 b1,.int .i64 b2,.int .i64 0,.int .i64 0,.int .i64 0,.int .u16 0,.int .u8 1] 33)) #[.int .i64 2,.int .i64 100,.slice (some ⟨w3.heap.size + 1 + 1,0,none⟩) 1 1] 36
  simpa using this
 have hs4 : w3.heap.size + 4 = w4.heap.size:=by rw [← hw4];simp
 obtain ⟨i0,i1,i2,j0,j1,j2⟩:=HI.out
 have hEA:=entsOne (e:=jmA a0 a1 a2) hE1 (jmA_ok i0 i1 i2)
 have hEB:=entsOne (e:=jmB b0 b1 b2) hE2 (jmB_ok j0 j1 j2)
 have df : Calls Tryz.prog 11 #[.agg #[.int .i64 1,.int .i64 0,.slice (some ⟨w3.heap.size,0,none⟩) 1 1],.agg #[.int .i64 2,.int .i64 100,.slice (some ⟨w3.heap.size + 1 + 1,0,none⟩) 1 1]] w4 fun e w'=>∃ v,e = .returned (.tuple #[.agg #[.int .i64 g.tick,.int .i64 g.time,.int .i64 g.base,v],.int .i64 0]) ∧ OwnR w' w4.heap.size v g.recs ∧ Below w4.heap.size w4 w':=by
  have h:=ddiff_f 1 0 (some ⟨w3.heap.size,0,none⟩) 1 [jmA a0 a1 a2] 2 100 (some ⟨w3.heap.size + 1 + 1,0,none⟩) 1 [jmB b0 b1 b2] w4 hEA hEB (by simp) (by simp)
  have e:=HGD.out
  unfold jmS jmT at e
  rw [e] at h
  exact h
 have x0:=hva.cell 0
 have x1:=hva.cell 1
 have x2:=hva.cell 2
 have y0:=hvb.cell 0
 have y1:=hvb.cell 1
 have y2:=hvb.cell 2
 have p0:=hA.cell 0
 have p1:=hA.cell 1
 have p2:=hA.cell 2
 have q0:=hBb.cell 0
 have q1:=hBb.cell 1
 have q2:=hBb.cell 2
 simp at x0 x1 x2 y0 y1 y2 p0 p1 p2 q0 q1 q2
 have z1 : w.heap.size < w3.heap.size:=by have:=HS3.out;omega
 have z2 : w.heap.size + 1 < w3.heap.size:=by have:=HS3.out;omega
 have z3 : w.heap.size + 1 < w3.heap.size + 1:=by omega
 have z4 : w.heap.size + 1 < w3.heap.size + 1 + 1:=by omega
 have HC4:=Lib.hid (hCl.below hb4)
 have HVA4:=Lib.hid (hva.below hb4 hva.lt)
 have HVB4:=Lib.hid (hvb.below hb4 hvb.lt)
 have HA4:=Lib.hid hA
 have HEA4:=Lib.hid hEA
 have HB4:=Lib.hid (HB3.out.trans (hb4.mono HB3.out.size))
 have HS4:=Lib.hid hs4
 clear hCl hS hb3 hb13 hva hvb hb4 hE1 hA hE2 hBb hs4 hEA hEB i0 i1 i2 j0 j1 j2 HVA1 HVB1 HB1 HW2 nw
 go_wp2_with fail
 refine df.mono ?_
 rintro e w5 ⟨v,rfl,hR,hb⟩
 clear df x0 x1 x2 y0 y1 y2 p0 p1 p2 q0 q1 q2 hw4 z3 z4
 obtain ⟨ra,rc,rfl,_,_⟩:=hR.recs
 obtain ⟨v1,hv1⟩ : ∃ v,w5.alloc (.cells #[.int .i64 0,.int .i64 0,.int .i64 0,.slice none 0 0] 39) = v:=⟨_,rfl⟩
 have hBv : Below w5.heap.size w5 v1:=by rw [← hv1];exact (Below.refl _ _).alloc (Nat.le_refl _) _
 have hXv : Blk v1 w5.heap.size #[.int .i64 0,.int .i64 0,.int .i64 0,.slice none 0 0] 39:=by rw [← hv1];exact Blk.new _ _ _
 have f0:=hXv.free 0
 have f1:=hXv.free 1
 have f2:=hXv.free 2
 have f3:=hXv.free 3
 have q0:=hXv.cell 0
 have q1:=hXv.cell 1
 have q2:=hXv.cell 2
 have q3:=hXv.cell 3
 simp at q0 q1 q2 q3
 have hG:=blk4 (v0:=.int .i64 g.tick) (v1:=.int .i64 g.time) (v2:=.int .i64 g.base) (v3:=.slice ra g.recs.length rc) hXv
 have hb4:=below4 (v0:=.int .i64 g.tick) (v1:=.int .i64 g.time) (v2:=.int .i64 g.base) (v3:=.slice ra g.recs.length rc) hBv (Nat.le_refl _)
 obtain ⟨u0,hu0⟩ : ∃ u,((((v1.setCell ⟨w5.heap.size,0,none⟩ (.int .i64 g.tick)).setCell ⟨w5.heap.size,1,none⟩ (.int .i64 g.time)).setCell ⟨w5.heap.size,2,none⟩ (.int .i64 g.base)).setCell ⟨w5.heap.size,3,none⟩ (.slice ra g.recs.length rc)) = u:=⟨_,rfl⟩
 rw [hu0] at hG hb4
 have hR0:=hR.below hb4 (fun j e=>(hR.1.lt j e).2)
 have hrecs : RecsAt u0 ra g.recs:=by
  obtain ⟨a',c',e,h,_⟩:=hR0.recs
  injection e with e1
  rw [e1];exact h
 have wr:=gwrite_f g.tick g.time g.base HGT.out ra rc g.recs u0 hrecs
 rw [show (⟨g.tick,g.time,g.base,g.recs⟩ : Gr) = g from rfl,HGW.out,if_pos rfl] at wr
 have hbU : Below w4.heap.size w4 u0:=hb.trans (hb4.mono hb.size)
 have HBU:=Lib.hid hbU
 have y0:=hG.cell 0
 have y1:=hG.cell 1
 have y2:=hG.cell 2
 have y3:=hG.cell 3
 simp at y0 y1 y2 y3
 unfold grV at wr
 clear hR hb hBv hXv hG hb4 hR0 hrecs hbU
 go_wp2_with fail
 clear hv1 hu0 f0 f1 f2 f3 q0 q1 q2 q3 y0 y1 y2 y3
 refine wr.mono ?_
 rintro e w6 ⟨v,rfl,hO,hb⟩
 obtain ⟨xa,xc,rfl,_,_,_,_⟩:=hO.cap
 have hb46 : Below w4.heap.size w4 w6:=HBU.out.trans (hb.mono HBU.out.size)
 have hA6:=HA4.out.below hb46 HA4.out.lt
 have HX6 : Hid (OwnB w6 w4.heap.size (.slice xa (grWrB g).length xc) (grWrB g)):=Lib.hid (hO.base HBU.out.size)
 have HC6:=Lib.hid (HC4.out.below hb46)
 have HVA6:=Lib.hid (HVA4.out.below hb46 HVA4.out.lt)
 have HVB6:=Lib.hid (HVB4.out.below hb46 HVB4.out.lt)
 have HEA6:=Lib.hid (HEA4.out.below hb46)
 have HB6:=Lib.hid (HB4.out.trans (hb46.mono HB4.out.size))
 have HS6:=Lib.hid hb46.size
 have a0':=hA6.cell 0
 have a1':=hA6.cell 1
 have a2':=hA6.cell 2
 simp at a0' a1' a2'
 have fa:=full_f 1 0 ⟨by decide,by decide⟩ (some ⟨w3.heap.size,0,none⟩) 1 [jmA a0 a1 a2] w6 HEA6.out (by simp)
 rw [show (⟨1,0,[jmA a0 a1 a2]⟩ : Sn) = jmS a0 a1 a2 from rfl,show snapV 1 0 (some ⟨w3.heap.size,0,none⟩) [jmA a0 a1 a2].length 1 = .agg #[.int .i64 1,.int .i64 0,.slice (some ⟨w3.heap.size,0,none⟩) 1 1] from rfl] at fa
 clear hO hb hb46 hA6 wr HBU HA4 HC4 HVA4 HVB4 HEA4 HB4
 go_wp2_with fail
 refine fa.mono ?_
 rintro e w7 ⟨v,rfl,hO,hb⟩
 obtain ⟨va,vc,rfl,hBy,hvc,hvl,_⟩:=hO.cap
 have hC7:=HC6.out.below hb
 obtain ⟨i0,i1,i2,_⟩:=HI.out
 have ar:=arr_end (c:=plainC) (x:=cl0 plainC) plainC_chk (jmS_tell i0 i1 i2) rfl (by simp [cl0]) (by simp [cl0]) (by decide) 0
 have ac:=carrive_f C plainC plainC_ok plainC_chk (cl0 plainC) S 0 ⟨by decide,by decide⟩ va (fullB (jmS a0 a1 a2)).length vc (fullB (jmS a0 a1 a2)) w7 hC7 hBy hvc hvl (fullB_len (jmS a0 a1 a2)) (by decide) ar.2.1
 rw [ar.1,ar.2.2] at ac
 have HX7:=Lib.hid (HX6.out.below hb)
 have HVA7:=Lib.hid (HVA6.out.below hb HVA6.out.lt)
 have HVB7:=Lib.hid (HVB6.out.below hb HVB6.out.lt)
 have HB7:=Lib.hid (HB6.out.trans (hb.mono HB6.out.size))
 have HS7 : Hid (w4.heap.size ≤ w7.heap.size):=Lib.hid (Nat.le_trans HS6.out hb.size)
 clear hO hb hBy hvc hvl hC7 ar fa a0' a1' a2' i0 i1 i2 HX6 HC6 HVA6 HVB6 HB6 HS6 HEA6
 go_wp2_with fail
 refine ac.mono ?_
 rintro e w8 ⟨rfl,hC8,hO8⟩
 have HX8:=Lib.hid (HX7.out.only hO8 (fun k hk=>by have:=(HSS.out k hk).2;have:=HS4.out;omega))
 have HVA8:=Lib.hid (hO8.blk HVA7.out (fun h=>by have:=(HSS.out _ h).1;omega))
 have HVB8:=Lib.hid (hO8.blk HVB7.out (fun h=>by have:=(HSS.out _ h).1;omega))
 have HB8:=Lib.hid (HB7.out.trans (hO8.below HB7.out.size (fun k hk=>by have:=(HSS.out _ hk).1;omega)))
 obtain ⟨xa',xc',ex,hXB,hxc,hxl,_⟩:=HX8.out.cap
 obtain ⟨rfl,_,rfl⟩ : xa' = xa ∧ True ∧ xc' = xc:=by injection ex with e1 e2 e3;exact ⟨e1.symm,trivial,e3.symm⟩
 have ar:=arr_of_snap (c:=plainC) (x:=⟨(cl0 plainC).ss ++ [jmS a0 a1 a2],(cl0 plainC).floor,false,smp plainC (cl0 plainC).cs (subF 0 (jmS a0 a1 a2).time)⟩) (s:=jmT b0 b1 b2) (zs:=grWrB g) plainC_chk HGS.out rfl (by intro y hy;simp [cl0] at hy;subst hy;show (1 : Int) < 2;decide) (by show (1 : Int) < 8;decide) 100
 have ac:=carrive_f C plainC plainC_ok plainC_chk _ _ 100 ⟨by decide,by decide⟩ xa' (grWrB g).length xc' (grWrB g) w8 hC8 hXB hxc hxl HGL.out (show (smp plainC (cl0 plainC).cs (subF 0 0)).L.length < 1000 by decide) ar.2.1
 rw [ar.1,ar.2.2] at ac
 have HG8 : Hid (∀ k,Grow S w7 w8 k → w.heap.size + 2 ≤ k):=Lib.hid (fun k hk=>by
  rcases hk.1 with h | h
  ·exact (HSS.out k h).1
  ·have:=HS7.out;have:=HS4.out;have:=HS3.out;omega)
 clear hC8 hO8 hXB hxc hxl ex ar HX7 HX8 HVA7 HVB7 HB7
 go_wp2_with fail
 refine ac.mono ?_
 rintro e w9 ⟨rfl,hC9,hO9⟩
 have HVA9:=Lib.hid (hO9.blk HVA8.out (fun h=>by have:=HG8.out _ h;omega))
 have HVB9:=Lib.hid (hO9.blk HVB8.out (fun h=>by have:=HG8.out _ h;omega))
 have HB9:=Lib.hid (HB8.out.trans (hO9.below HB8.out.size (fun k hk=>by have:=HG8.out _ hk;omega)))
 generalize hS9 : Grow (Grow S w7 w8) w8 w9 = S9 at hC9
 have HC9 : Hid (ClAt w9 C plainC ⟨[jmS a0 a1 a2,jmT b0 b1 b2],(cl0 plainC).floor,false,jmC⟩ S9):=Lib.hid hC9
 have HG9 : Hid (∀ k,S9 k → w.heap.size + 2 ≤ k):=Lib.hid (fun k hk=>by
  rw [← hS9] at hk
  rcases hk.1 with h | h
  ·exact HG8.out k h
  ·have:=HB8.out.size;have:=HVA8.out.lt;have:=HVB8.out.lt;omega)
 clear hC9 hO9 ac hS9 HG8 HVA8 HVB8 HB8
 go_wp2_with fail
 have HI:=HI.out
 obtain ⟨i0,i1,i2,j0,j1,j2⟩:=HI
 obtain ⟨m,hpo,hm⟩:=(jm_pose at_ HAT.out.1 HAT.out.2 (jmA_ok i0 i1 i2) (jmB_ok j0 j1 j2)).2
 have hn:=(jm_pose at_ HAT.out.1 HAT.out.2 (jmA_ok i0 i1 i2) (jmB_ok j0 j1 j2)).1
 have f1:=clframe_f C plainC plainC_ok plainC_chk ⟨[jmS a0 a1 a2,jmT b0 b1 b2],(cl0 plainC).floor,false,jmC⟩ S9 at_ ⟨by have:=HAT.out.1;omega,by have:=HAT.out.2;omega⟩ w9 HC9.out (show jmC.L ≠ [] by decide)
 rw [show (⟨[jmS a0 a1 a2,jmT b0 b1 b2],(cl0 plainC).floor,false,jmC⟩ : Cst).cs = jmC from rfl,show (⟨[jmS a0 a1 a2,jmT b0 b1 b2],(cl0 plainC).floor,false,jmC⟩ : Cst).ss = [jmS a0 a1 a2,jmT b0 b1 b2] from rfl,jm_at at_ HAT.out.1 HAT.out.2,hn] at f1
 clear hn i0 i1 i2 j0 j1 j2
 have hwa : wrap64 at_ = at_:=by have:=HAT.out;unfold wrap64;omega
 have hwb : IntKind.i64.wrap at_ = at_:=by have:=HAT.out;rw [IntKind.wrap_i64];omega
 rw [hwa]
 refine f1.mono ?_
 rintro e w10 ⟨s,cp,rfl,hP,hC10,hO10⟩
 have hVA:=hO10.blk HVA9.out (fun h=>by have:=HG9.out _ h.1;omega)
 have hVB:=hO10.blk HVB9.out (fun h=>by have:=HG9.out _ h.1;omega)
 have HB10:=Lib.hid (HB9.out.trans (hO10.below HB9.out.size (fun k hk=>by have:=HG9.out _ hk.1;omega)))
 obtain ⟨pb,po,rfl,pl,pc⟩:=pose_cells hP hpo
 clear hC10 hO10 hP f1 HVA9 HVB9 HB9 HC9 HG9 hpo
 have HM:=Lib.hid hm
 clear hm
 obtain ⟨w11,hw11⟩ : ∃ u,(w10.alloc (.cells #[.bool true,.int .i64 at_,.slice (some ⟨pb,po,none⟩) 1 cp] 49)).alloc (.cells #[.int .i64 a0,.int .i64 a1,.int .i64 a2] 22) = u:=⟨_,rfl⟩
 have hb11 : Below w10.heap.size w10 w11:=by rw [← hw11];exact (((Below.refl _ _).alloc (Nat.le_refl _) _).alloc (by simp) _)
 have hY : Blk w11 w10.heap.size #[.bool true,.int .i64 at_,.slice (some ⟨pb,po,none⟩) 1 cp] 49:=by rw [← hw11];exact (Blk.new _ _ _).alloc _
 have hW : Blk w11 (w10.heap.size + 1) #[.int .i64 a0,.int .i64 a1,.int .i64 a2] 22:=by
  rw [← hw11]
  have:=Blk.new (w10.alloc (.cells #[.bool true,.int .i64 at_,.slice (some ⟨pb,po,none⟩) 1 cp] 49)) #[.int .i64 a0,.int .i64 a1,.int .i64 a2] 22
  simpa using this
 have x0:=hVA.cell 0
 have x1:=hVA.cell 1
 have x2:=hVA.cell 2
 simp at x0 x1 x2
 have z1' : w.heap.size < w10.heap.size:=hVA.lt
 rcases Int.lt_or_le at_ 100 with h | h
 rotate_left
 ·have hB11:=hVB.below hb11 hVB.lt
  have u0:=hB11.cell 0
  have u1:=hB11.cell 1
  have u2:=hB11.cell 2
  simp at u0 u1 u2
  have f0:=hW.free 0
  have f1:=hW.free 1
  have f2:=hW.free 2
  have q0:=hW.cell 0
  have q1:=hW.cell 1
  have q2:=hW.cell 2
  simp at q0 q1 q2
  have hG:=blk3 (v0:=.int .i64 b0) (v1:=.int .i64 b1) (v2:=.int .i64 b2) hW
  have hY2:=((hY.far (p:=⟨w10.heap.size + 1,0,none⟩) (by simp) (.int .i64 b0)).far (p:=⟨w10.heap.size + 1,1,none⟩) (by simp) (.int .i64 b1)).far (p:=⟨w10.heap.size + 1,2,none⟩) (by simp) (.int .i64 b2)
  have hb12:=below3 (b:=w10.heap.size + 1) (v0:=.int .i64 b0) (v1:=.int .i64 b1) (v2:=.int .i64 b2) hb11 (Nat.le_succ _)
  obtain ⟨w12,hw12⟩ : ∃ u,((w11.setCell ⟨w10.heap.size + 1,0,none⟩ (.int .i64 b0)).setCell ⟨w10.heap.size + 1,1,none⟩ (.int .i64 b1)).setCell ⟨w10.heap.size + 1,2,none⟩ (.int .i64 b2) = u:=⟨_,rfl⟩
  rw [hw12] at hG hb12 hY2
  rw [if_pos h] at pc
  have HG:=Lib.hid hG
  have HY:=Lib.hid hY2
  have HPC:=Lib.hid (pc.below hb12 pl)
  have HF : Hid (Below w.heap.size w w12):=Lib.hid (HB10.out.trans (hb12.mono HB10.out.size))
  clear hB11 hY hY2 hW hb11 hVA hVB hG hb12 pc
  go_wp2_with fail
  clear hw12 hw11 u0 u1 u2 f0 f1 f2 q0 q1 q2 x0 x1 x2 z1' z1 z2
  by_cases h2 : at_ ≤ 100
  ·have hm:=HM.out.2 h2
   subst hm
   have hmb : ((0 : Int) == 0) = true:=rfl
   have y1:=HY.out.cell 1
   have y2:=HY.out.cell 2
   have g0:=HG.out.cell 0
   have g1:=HG.out.cell 1
   have g2:=HG.out.cell 2
   simp at y1 y2 g0 g1 g2
   have pc:=HPC.out
   unfold PoCells at pc
   simp only at pc
   obtain ⟨p0,p1,p2,p3,p4,p5⟩:=pc
   refine wp_region_calm 31 (by kernel_rfl) (by kernel_rfl) ?_
   simp only [List.take_succ_cons,List.take_zero,List.drop_succ_cons,List.drop_zero]
   repeat (apply wpCalm_step;(next=>(intro W hW K hK;have y0:=hW.cell y1;have y1:=hW.cell y2;have y2:=hW.cell g0;have y3:=hW.cell g1;have y4:=hW.cell g2;have y5:=hW.cell p0;have y6:=hW.cell p1;have y7:=hW.cell p2;have y8:=hW.cell p3;have y9:=hW.cell p4;have y10:=hW.cell p5;go_simp;first | exact ⟨hW,hK⟩ | exact hK));(next=>exact CalmI.self _);(try go_simp);(try simp only [hwa,hwb,h2,hmb,decide_true,decide_false,beq_self_eq_true]))
   refine wpCalm_nil ?_
   intro WC hWC
   have HFW : Hid (Below w.heap.size w WC):=Lib.hid (HF.out.trans (Below.mono hWC HF.out.size))
   clear hWC y1 y2 g0 g1 g2 p0 p1 p2 p3 p4 p5
   go_wp2_with fail
   exact bodyPost_ret (v:=.bool true) (by simp [results,Tryz.results3,go_sem]) rfl ⟨rfl,HFW.out⟩
  ·have hm : ¬ m = 0:=fun hh=>h2 (HM.out.1 hh)
   have hmb : (m == 0) = false:=by simpa using hm
   have y1:=HY.out.cell 1
   have y2:=HY.out.cell 2
   have g0:=HG.out.cell 0
   have g1:=HG.out.cell 1
   have g2:=HG.out.cell 2
   simp at y1 y2 g0 g1 g2
   have pc:=HPC.out
   unfold PoCells at pc
   simp only at pc
   obtain ⟨p0,p1,p2,p3,p4,p5⟩:=pc
   refine wp_region_calm 31 (by kernel_rfl) (by kernel_rfl) ?_
   simp only [List.take_succ_cons,List.take_zero,List.drop_succ_cons,List.drop_zero]
   repeat (apply wpCalm_step;(next=>(intro W hW K hK;have y0:=hW.cell y1;have y1:=hW.cell y2;have y2:=hW.cell g0;have y3:=hW.cell g1;have y4:=hW.cell g2;have y5:=hW.cell p0;have y6:=hW.cell p1;have y7:=hW.cell p2;have y8:=hW.cell p3;have y9:=hW.cell p4;have y10:=hW.cell p5;go_simp;first | exact ⟨hW,hK⟩ | exact hK));(next=>exact CalmI.self _);(try go_simp);(try simp only [hwa,hwb,h2,hmb,decide_true,decide_false,beq_self_eq_true]))
   refine wpCalm_nil ?_
   intro WC hWC
   have HFW : Hid (Below w.heap.size w WC):=Lib.hid (HF.out.trans (Below.mono hWC HF.out.size))
   clear hWC y1 y2 g0 g1 g2 p0 p1 p2 p3 p4 p5
   go_wp2_with fail
   exact bodyPost_ret (v:=.bool true) (by simp [results,Tryz.results3,go_sem]) rfl ⟨rfl,HFW.out⟩
 ·have hd : ¬ 100 ≤ at_:=by omega
  rw [if_neg hd] at pc
  have HG:=Lib.hid hW
  have HY:=Lib.hid hY
  have HPC:=Lib.hid (pc.below hb11 pl)
  have HF : Hid (Below w.heap.size w w11):=Lib.hid (HB10.out.trans (hb11.mono HB10.out.size))
  clear hY hW hb11 hVA hVB pc h
  clear HSS HI HGT HGW HGL HGS HGD
  go_wp2_with fail
  clear hw11 x0 x1 x2 z1' z1 z2
  have h2 : at_ ≤ 100:=by omega
  have hm:=HM.out.2 h2
  subst hm
  have hmb : ((0 : Int) == 0) = true:=rfl
  have y1:=HY.out.cell 1
  have y2:=HY.out.cell 2
  have g0:=HG.out.cell 0
  have g1:=HG.out.cell 1
  have g2:=HG.out.cell 2
  simp at y1 y2 g0 g1 g2
  have pc:=HPC.out
  unfold PoCells at pc
  simp only at pc
  obtain ⟨p0,p1,p2,p3,p4,p5⟩:=pc
  refine wp_region_calm 31 (by kernel_rfl) (by kernel_rfl) ?_
  simp only [List.take_succ_cons,List.take_zero,List.drop_succ_cons,List.drop_zero]
  repeat (apply wpCalm_step;(next=>(intro W hW K hK;have y0:=hW.cell y1;have y1:=hW.cell y2;have y2:=hW.cell g0;have y3:=hW.cell g1;have y4:=hW.cell g2;have y5:=hW.cell p0;have y6:=hW.cell p1;have y7:=hW.cell p2;have y8:=hW.cell p3;have y9:=hW.cell p4;have y10:=hW.cell p5;go_simp;first | exact ⟨hW,hK⟩ | exact hK));(next=>exact CalmI.self _);(try go_simp);(try simp only [hwa,hwb,h2,hmb,decide_true,decide_false,beq_self_eq_true]))
  refine wpCalm_nil ?_
  intro WC hWC
  have HFW : Hid (Below w.heap.size w WC):=Lib.hid (HF.out.trans (Below.mono hWC HF.out.size))
  clear hWC y1 y2 g0 g1 g2 p0 p1 p2 p3 p4 p5
  go_wp2_with fail
  exact bodyPost_ret (v:=.bool true) (by simp [results,Tryz.results3,go_sem]) rfl ⟨rfl,HFW.out⟩
end Go.Proofs.YtklkooeimkedgaaGreat
