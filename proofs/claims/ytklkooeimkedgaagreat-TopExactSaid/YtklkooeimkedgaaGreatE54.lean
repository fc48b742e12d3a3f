/- Walk of TopExact. -/
import Derived.Test.YtklkooeimkedgaaGreatE11
import Derived.Test.YtklkooeimkedgaaGreatE53
set_option linter.unusedVariables false
set_option linter.unusedSimpArgs false
namespace Go.Proofs.YtklkooeimkedgaaGreat
open Go.RowKit
structure yg (w : World) (C : Nat) (c : aN) (n : Nat) (S : Nat -> Prop) (x : iA) (wx : World) : Prop where
 at_ : dH wx C c x S
 inv : sG x n
 ge : ∀ j,S j -> w.heap.size <= j
 qg : Below w.heap.size w wx
theorem yg.below {w : World} {C : Nat} {c : aN} {n : Nat} {S : Nat -> Prop} {x : iA} {wx wy : World} (h : yg w C c n S x wx) (hb : Below wx.heap.size wx wy) : yg w C c n S x wy :=
 ⟨h.at_.below hb,h.inv,h.ge,h.qg.trans (hb.mono h.qg.size)⟩
theorem aaE {k n : Nat} (h : k < n) : (k : Int) < n:=by omega
theorem abr {n : Nat} (h : n <= 64) : (n : Int) <= 4611686018427387904:=by omega
theorem XP {n : Nat} (h : n <= 64) : n <= 1000:=by omega
theorem aaF {k n : Nat} (h : k <= n) (h2 : ¬ k < n) : k = n:=by omega
theorem Vn (k : Nat) : ¬ (k : Int) < k:=by omega
theorem XQ {j : Nat} (h : 0 < j) : ∃ i,j = i + 1:=⟨j - 1,by omega⟩
theorem XR {i j n : Nat} (h : j = i + 1) (hj : j < n) (hn : n <= 64) : IntKind.i64.wrap ((j : Int) - 1) = (i : Int) /\ decide ((0 : Int) < (j : Int)) = true /\ decide (0 < j) = true /\ i < n /\ (i : Int) < n:=by
 refine ⟨by rw [IntKind.wrap_i64];omega,decide_eq_true (by omega),decide_eq_true (by omega),by omega,by omega⟩
theorem dec_lt {a b : Int} (h : a < b) : decide (b <= a) = false:=decide_eq_false (by omega)
theorem aaG (m n : Nat) (h : m < n) : (0 : Int) <= (m : Int) /\ ¬ (m : Int) < 0 /\ decide ((m : Int) < 0) = false /\ (m : Int) < n:=⟨by omega,by omega,decide_eq_false (by omega),by omega⟩
theorem abt {n : Nat} (h : n ≠ 0) : ¬ (n : Int) = 0 /\ ((n : Int) == 0) = false:=⟨by omega,by simpa using (show ¬ (n : Int) = 0 by omega)⟩
theorem aaH {b k n : Nat} (h : n <= b) (e : k = b) : n <= k:=by omega
def Vo (ss : List Sn) (m : Nat) : Int × Int:=((ss.getD m dI).tick,(ss.getD m dI).time)
structure KZ (w : World) (m g : Nat) (yt ym : Int) (ya : Option Addr) (yc n : Nat) (es : List aA) : Prop where
 lt : g < w.heap.size
 c0 : w.cell? ⟨g,m * 3,none⟩ = some (.int .i64 yt)
 c1 : w.cell? ⟨g,m * 3 + 1,none⟩ = some (.int .i64 ym)
 c2 : w.cell? ⟨g,m * 3 + 2,none⟩ = some (.slice ya n yc)
 ents : dx w ya n (λi=>es.getD i bK)
 le : n <= 64
 up : ∀ i j,i < j -> j < n -> (es.getD i bK).id < (es.getD j bK).id
theorem KZ.below {w w' : World} {m g : Nat} {yt ym : Int} {ya : Option Addr} {yc n : Nat} {es : List aA} (h : KZ w m g yt ym ya yc n es) (hb : Below w.heap.size w w') : KZ w' m g yt ym ya yc n es :=
 ⟨Nat.lt_of_lt_of_le h.lt hb.size,(hb.cell (p:=⟨g,m * 3,none⟩) h.lt).trans h.c0,(hb.cell (p:=⟨g,m * 3 + 1,none⟩) h.lt).trans h.c1,(hb.cell (p:=⟨g,m * 3 + 2,none⟩) h.lt).trans h.c2,h.ents.below hb,h.le,h.up⟩
theorem KZ.find {w : World} {m g : Nat} {yt ym : Int} {ya : Option Addr} {yc n : Nat} {es : List aA} (h : KZ w m g yt ym ya yc n es) {j : Nat} (hj : j < n) (W : World) (hW : Below w.heap.size w W) :
 Calls Tryz.prog 26 #[.agg #[.int .i64 yt,.int .i64 ym,.slice ya n yc],.int .i64 (es.getD j bK).id] W λe w'=>e = .returned (.tuple #[bN (es.getD j bK),.bool true]) /\ Below W.heap.size W w':=by
 obtain ⟨h1,h2⟩:=SG (E:=λi=>es.getD i bK) (len:=n) h.up hj
 have h3:=FU yt ym ya n yc (λi=>es.getD i bK) (es.getD j bK).id W (h.ents.below hW) (abr h.le)
 rw [h1,h2] at h3
 exact h3
theorem aaI {w : World} {base : Nat} {a : Option Addr} {cc : Nat} {ks : List aG} {ss : List Sn} (kU : gH w base (.slice a ks.length cc) ks) (hm : ks.map (·.sn) = ss) (hS : jc ss) {m : Nat} (hml : m < ss.length) :
 ∃ g ya yc,a = some ⟨g,0,none⟩ /\ KZ w m g (Vo ss m).1 (Vo ss m).2 ya yc (ss.getD m dI).ents.length (ss.getD m dI).ents /\ ∀ e ∈ (ss.getD m dI).ents,e.Ok:=by
 subst hm
 have hl : m < ks.length:=by simpa using hml
 have hy : ks[m]? = some ks[m]:=List.getElem?_eq_getElem hl
 have hsy : (ks.map (·.sn)).getD m dI = ks[m].sn:=by simp [List.getD,hl]
 obtain ⟨g,c',e,hg,k0,k1,k2⟩:=kU.cells hy
 injection e with e1 e2 e3
 obtain ⟨hye,hyo,hyl⟩:=kU.ents _ (List.getElem_mem hl)
 obtain ⟨ya',yc',he',hEL,_,_,_⟩:=hye.ents hyo
 injection he' with he1 he2 qY
 have hup:=aam (hS.good _ (List.mem_map_of_mem (f:=(·.sn)) (List.getElem_mem hl)))
 refine ⟨g,ks[m].a,ks[m].cap,e1,?_,by rw [hsy];exact hyo⟩
 unfold Vo
 rw [hsy]
 exact ⟨hg,k0,k1,k2,by rw [he1];exact hEL,hyl,hup⟩
theorem LC {w : World} {base : Nat} {a : Option Addr} {cc : Nat} {ks : List aG} {ss : List Sn} (kU : gH w base (.slice a ks.length cc) ks) (hm : ks.map (·.sn) = ss) (hS : jc ss) (h64 : ss.length <= 64) {c : aN} (hc : dF c = 0) {t : Int} {sn : Nat} (hsn : kN c t ss = sn) (hz : sn ≠ 0) :
 ∃ m g yt ym ya yc es,a = some ⟨g,0,none⟩ /\ m < ks.length /\ KZ w m g yt ym ya yc sn es /\
  (Calls Tryz.prog 25 #[.slice a ks.length cc,.int .i64 t] w λe w'=>e = .returned (.int .i64 m) /\ Below w.heap.size w w') /\
  ∀ i,i < sn -> (kP c t ss i).id = (es.getD i bK).id /\ ((kP c t ss i).mode = 0 -> kP c t ss i = lC (es.getD i bK)):=by
 have hkl : ks.length = ss.length:=by rw [← hm,List.length_map]
 obtain ⟨a',cc',e,hSn,_,_⟩:=kU.VY
 injection e with e1 e2 e3
 subst e1
 have ar:=U3 t a ks.length cc _ _ _ w hSn.1 (by omega)
 have hT : (λi=>(ks.getD i mO).sn.time) = dS ss:=by funext i;unfold dS;rw [← hm,zm]
 have aeG : ∀ s ∈ ss,∀ e ∈ s.ents,e.Ok:=λs hs e he=>by
  rw [← hm] at hs
  obtain ⟨k0,hk0,rfl⟩:=List.mem_map.1 hs
  exact (kU.ents k0 hk0).2.1 e he
 obtain ⟨m,hm1,hm2,Il,MS⟩:=Vk hS hc (Oy hc).1 aeG (t:=t) (by rw [hsn];exact hz)
 rw [hT,hkl,hm1,show (((m + 1 : Nat) : Int) - 1) = (m : Int) by omega,← hkl] at ar
 obtain ⟨g,ya,yc,hg,hA,_⟩:=aaI kU hm hS hm2
 rw [← Il,hsn] at hA
 exact ⟨m,g,_,_,ya,yc,_,hg,by omega,hA,ar,λi hi=>MS i (by rw [← Il,hsn];exact hi)⟩
theorem XT {sn : Nat} {P : Nat -> Po} {es : List aA} {Q : Nat -> Prop} (h : ∀ i,i < sn -> (P i).id = (es.getD i bK).id /\ Q i) (hu : ∀ i j,i < j -> j < sn -> (es.getD i bK).id < (es.getD j bK).id) {j : Nat} (hj : j < sn) : ∀ i,j = i + 1 -> (P i).id < (P j).id:=λi hi=>by
 rw [(h j hj).1,(h i (by omega)).1]
 exact hu i j (by omega) hj
theorem M6 {n k : Nat} (h : k < n) (hw : wrap64 ((k : Int) + 1) = (k : Int) + 1) : n - (intOf (Value.int .i64 (wrap64 ((k : Int) + 1)))).toNat < n - (intOf (Value.int .i64 (k : Int))).toNat:=by
 rw [hw];show n - ((k : Int) + 1).toNat < n - (k : Int).toNat;omega
set_option maxRecDepth 100000
set_option maxHeartbeats 8000000 in
theorem topExact_w (c : aN) (ok : c.Ok) (s0 : Option Addr) (len cap : Nat) (K T : Nat -> Int) (E : Nat -> Option Addr × Nat × Nat) (Z : Nat -> List Int) (w : World) (hS : gP w s0 len K T E) (hx : ∀ i,i < len -> ay (K i) /\ ay (T i) /\ Ar w (E i).1 (E i).2.1 (E i).2.2 (Z i)) (hl : (len : Int) <= 4611686018427387904) :
 Calls Tryz.prog 6 #[aY c,.slice s0 len cap] w λe w'=>e = .returned (.bool true) /\ Below w.heap.size w w':=by
 have al:=λW=>XO W
 obtain ⟨wb,hwb⟩ : ∃ wb,w.alloc (.cells #[.int .i64 c.ring,.int .i64 c.window,.int .i64 c.base,.int .i64 c.gain,.int .i64 c.least,.int .i64 c.most,.int .i64 c.aC,.int .i64 c.num,.int .i64 c.den,.int .i64 c.extra,.bool c.aB] 29) = wb:=⟨_,rfl⟩
 have hb0 : Below w.heap.size w wb:=by rw [← hwb];exact ah7
 have HB0:=ah6 hb0
 have Fx : Hid (ak wb w.heap.size #[.int .i64 c.ring,.int .i64 c.window,.int .i64 c.base,.int .i64 c.gain,.int .i64 c.least,.int .i64 c.most,.int .i64 c.aC,.int .i64 c.num,.int .i64 c.den,.int .i64 c.extra,.bool c.aB] 29):=ah6 (by rw [← hwb];exact ak.new _ _ _)
 have bg:=XE c ok s0 len cap K T E wb (hS.below hb0) hl;have HS:=ah6 (hS.below hb0)
 have HX : Hid (∀ i,i < len -> ay (K i) /\ ay (T i) /\ Ar wb (E i).1 (E i).2.1 (E i).2.2 (Z i)):=ah6 (λi hi=>⟨(hx i hi).1,(hx i hi).2.1,(hx i hi).2.2.1.below hb0,(hx i hi).2.2.2⟩)
 unfold aY at bg ⊢
 clear hb0 hS hx
 go_enter Tryz.func6,Tryz.ntmps6
 obtain ⟨q0,q1,q2,q3,q4,q5,q6,q7,q8,q9,ku⟩:=eH Fx.out
 go_wp2_with fail
 clear hwb q0 q1 q2 q3 q4 q5 q6 q7 q8 q9 ku
 refine bg.mono ?_
 rintro e w1 (⟨rfl,hb1⟩ | ⟨C,S,rfl,hc,KH,hA,hSS,hb1⟩)
 ·have HB1:=ah6 (HB0.out.trans (hb1.mono HB0.out.size))
  clear hb1 bg
  go_wp2_with fail
  refine (al w1).mono ?_
  rintro e w2 ⟨rfl,hb2⟩
  have HB2:=ah6 (HB1.out.trans (hb2.mono HB1.out.size));clear hb2
  go_wp2_with fail
  refine (al w2).mono ?_
  rintro e w3 ⟨rfl,hb3⟩
  have HF:=ah6 (HB2.out.trans (hb3.mono HB2.out.size));clear hb3
  go_wp2
  go_ret
  exact ⟨rfl,HF.out⟩
 ·have H0 : Hid (yg wb C c 0 S (uI c) w1):=ah6 ⟨hA,Vj c,hSS,hb1⟩
  have HC:=ah6 hc;have Ii:=ah6 KH;clear hc KH hA hSS hb1 bg
  go_wp2_with fail
  refine (al w1).mono ?_
  rintro e w2 ⟨rfl,hb2⟩
  have H1:=ah6 (H0.out.below hb2);clear hb2
  go_wp2_with fail
  go_loopw [28] (λi wx=>∃ (k : Nat) (S : Nat -> Prop) (x : iA),k <= len /\ i = .int .i64 k /\ yg wb C c k S x wx) (λi _=>len - (intOf i).toNat)
  case atStart=>exact ⟨0,S,_,Nat.zero_le _,rfl,H1.out⟩
  case round =>
   clear S H0 H1
   obtain ⟨k,S,x,hk,rfl,hI⟩:=hrel
   by_cases hlt : k < len
   ·have hlt' : (k : Int) < len:=by omega
    rcases HS.out with h0 | ⟨b,off,rfl,hbl,hcl⟩
    ·omega
    obtain ⟨c0,c1,c2⟩:=hcl k hlt
    obtain ⟨hk0,hk1,hby,hbn,hbc,Uh⟩:=HX.out k hlt
    have d0:=(hI.qg.cell (p:=⟨b,off + k * 3,none⟩) hbl).trans c0;have d1:=(hI.qg.cell (p:=⟨b,off + k * 3 + 1,none⟩) hbl).trans c1;have d2:=(hI.qg.cell (p:=⟨b,off + k * 3 + 2,none⟩) hbl).trans c2;have dz:=ah6 hlt;have HK1:=ah6 hk1
    obtain ⟨v1,hv1⟩ : ∃ v,wr.alloc (.cells #[.int .i64 (K k),.int .i64 (T k),.slice (E k).1 (E k).2.1 (E k).2.2] 69) = v:=⟨_,rfl⟩
    have hb1 : Below wr.heap.size wr v1:=by rw [← hv1];exact ah7
    have hX1 : ak v1 wr.heap.size #[.int .i64 (K k),.int .i64 (T k),.slice (E k).1 (E k).2.1 (E k).2.2] 69:=by rw [← hv1];exact ak.new _ _ _
    have HI:=ah6 (hI.below hb1)
    have do_:=aex C c ok HC.out x S (K k) (T k) hk1 (E k).1 (E k).2.1 (E k).2.2 (Z k) v1 HI.out.at_ (hby.below HI.out.qg) hbn hbc (by omega) (Nat.lt_of_le_of_lt HI.out.inv.len (by have:=Ii.out;omega))
    have fq:=ah6 hX1
    have HSL : Hid (∀ j,S j -> j < wr.heap.size):=ah6 hI.at_.lt
    have x0:=hX1.cell 0;have x1:=hX1.cell 1;have x2:=hX1.cell 2;simp at x0 x1 x2
    generalize (E k).1 = ea at *
    generalize (E k).2.1 = el at *
    generalize (E k).2.2 = ec at *
    generalize K k = kd at *
    generalize T k = loc at *
    clear hcl c0 c1 c2 hk0 hk1 hby hbn hbc Uh hb1 hX1 hI hlt
    go_wp2_with fail
    refine do_.mono ?_
    rintro e w2 ⟨v,er,rfl,hO,hcs⟩
    clear do_
    rcases hcs with ⟨rfl,rfl,S',hA,hS'⟩ | ⟨rfl,hV⟩ | ⟨hn0,hn1,rfl,hA⟩
    ·have HN : Hid (∃ S' x',yg wb C c (k + 1) S' x' w2):=ah6 ⟨S',_,hA,HI.out.inv.arr _ _,λj hj=>(hS' j hj).elim (HI.out.ge j) (λh=>Nat.le_trans HI.out.qg.size h),HI.out.qg.trans (hO.below HI.out.qg.size HI.out.ge)⟩
     obtain ⟨u1,hu1⟩ : ∃ u,w2.alloc (.cells #[.bool false,.int .i64 0,.slice none 0 0] 49) = u:=⟨_,rfl⟩
     have hbz : Below w2.heap.size w2 u1:=by rw [← hu1];exact ah7
     have gN : ak u1 w2.heap.size #[.bool false,.int .i64 0,.slice none 0 0] 49:=by rw [← hu1];exact ak.new _ _ _
     have f0:=gN.free 0;have f1:=gN.free 1;have f2:=gN.free 2;have p0:=gN.cell 0;have p1:=gN.cell 1;have p2:=gN.cell 2;simp at p0 p1 p2;have hX2:=fA (v0:=.bool false) (v1:=.int .i64 0) (v2:=.slice none 0 0) gN;have hb2:=dB (v0:=.bool false) (v1:=.int .i64 0) (v2:=.slice none 0 0) hbz (Nat.le_refl _)
     obtain ⟨u2,hu2⟩ : ∃ u,((u1.setCell ⟨w2.heap.size,0,none⟩ (.bool false)).setCell ⟨w2.heap.size,1,none⟩ (.int .i64 0)).setCell ⟨w2.heap.size,2,none⟩ (.slice none 0 0) = u:=⟨_,rfl⟩
     rw [hu2] at hX2 hb2
     have sH:=(hO.blk fq.out (λh=>Nat.lt_irrefl _ (HSL.out _ h))).below hb2 (hO.blk fq.out (λh=>Nat.lt_irrefl _ (HSL.out _ h))).lt
     have y0:=sH.cell 0;have z2:=hX2.cell 2;simp at y0 z2
     have HF : Hid (∃ S' x',yg wb C c (k + 1) S' x' u2):=ah6 (by obtain ⟨S',x',h⟩:=HN.out;exact ⟨S',x',h.below hb2⟩)
     have hw : wrap64 ((k : Int) + 1) = (k : Int) + 1:=Gm dz.out (Nat.le_trans Ii.out (by decide))
     clear hbz gN hb2 hX2 sH hO hA x0 x1 x2 d0 d1 d2 al
     go_wp2_with fail
     go_roundw
     case rel=>obtain ⟨S',x',h⟩:=HF.out;exact ⟨k + 1,S',x',dz.out,by go_num,h⟩
     case measure=>exact qQ dz.out
    ·unfold KO at hV
     rcases hV with ⟨hL,rfl,hA⟩ | ⟨hL,s,cp,rfl,hP,hA⟩
     ·have HN : Hid (∃ S' x',yg wb C c (k + 1) S' x' w2):=ah6 ⟨S,x,hA,HI.out.inv.succ,HI.out.ge,HI.out.qg.trans (hO.below HI.out.qg.size HI.out.ge)⟩
      obtain ⟨u1,hu1⟩ : ∃ u,w2.alloc (.cells #[.bool false,.int .i64 0,.slice none 0 0] 49) = u:=⟨_,rfl⟩
      have hbz : Below w2.heap.size w2 u1:=by rw [← hu1];exact ah7
      have gN : ak u1 w2.heap.size #[.bool false,.int .i64 0,.slice none 0 0] 49:=by rw [← hu1];exact ak.new _ _ _
      have f0:=gN.free 0;have f1:=gN.free 1;have f2:=gN.free 2;have p0:=gN.cell 0;have p1:=gN.cell 1;have p2:=gN.cell 2;simp at p0 p1 p2;have hX2:=fA (v0:=.bool false) (v1:=.int .i64 0) (v2:=.slice none 0 0) gN;have hb2:=dB (v0:=.bool false) (v1:=.int .i64 0) (v2:=.slice none 0 0) hbz (Nat.le_refl _)
      obtain ⟨u2,hu2⟩ : ∃ u,((u1.setCell ⟨w2.heap.size,0,none⟩ (.bool false)).setCell ⟨w2.heap.size,1,none⟩ (.int .i64 0)).setCell ⟨w2.heap.size,2,none⟩ (.slice none 0 0) = u:=⟨_,rfl⟩
      rw [hu2] at hX2 hb2
      have sH:=(hO.blk fq.out (λh=>Nat.lt_irrefl _ (HSL.out _ h))).below hb2 (hO.blk fq.out (λh=>Nat.lt_irrefl _ (HSL.out _ h))).lt
      have y0:=sH.cell 0;have z2:=hX2.cell 2;simp at y0 z2;clear hL
      have HF : Hid (∃ S' x',yg wb C c (k + 1) S' x' u2):=ah6 (by obtain ⟨S',x',h⟩:=HN.out;exact ⟨S',x',h.below hb2⟩)
      have hw : wrap64 ((k : Int) + 1) = (k : Int) + 1:=Gm dz.out (Nat.le_trans Ii.out (by decide))
      clear hbz gN hb2 hX2 sH hO hA x0 x1 x2 d0 d1 d2 al
      go_wp2
      go_roundw
      case rel=>obtain ⟨S',x',h⟩:=HF.out;exact ⟨k + 1,S',x',dz.out,by go_num,h⟩
      case measure=>exact qQ dz.out
     ·clear hL
      have hinv : sG { x with cs:=iy c x.cs loc } (k + 1):=HI.out.inv.iy loc
      have HSH : Hid (jc x.ss):=ah6 HI.out.inv.show
      have HAT : Hid (ay (iy c x.cs loc).au):=ah6 hA.ok.2.1.au
      generalize iy c x.cs loc = fc at *
      generalize fc.au = au at *
      obtain ⟨sn,hsn⟩ : ∃ n,kN c au x.ss = n:=⟨_,rfl⟩
      rw [hsn] at hP ⊢
      have Gs:=ah6 hsn;clear hsn
      by_cases hz : sn = 0
      ·subst hz
       have HN : Hid (∃ S' x',yg wb C c (k + 1) S' x' w2):=ah6 ⟨S,_,hA,hinv,HI.out.ge,HI.out.qg.trans (hO.below HI.out.qg.size HI.out.ge)⟩
       obtain ⟨u1,hu1⟩ : ∃ u,w2.alloc (.cells #[.bool false,.int .i64 0,.slice none 0 0] 49) = u:=⟨_,rfl⟩
       have hbz : Below w2.heap.size w2 u1:=by rw [← hu1];exact ah7
       have gN : ak u1 w2.heap.size #[.bool false,.int .i64 0,.slice none 0 0] 49:=by rw [← hu1];exact ak.new _ _ _
       have f0:=gN.free 0;have f1:=gN.free 1;have f2:=gN.free 2;have p0:=gN.cell 0;have p1:=gN.cell 1;have p2:=gN.cell 2;simp at p0 p1 p2;have hX2:=fA (v0:=.bool true) (v1:=.int .i64 au) (v2:=.slice s 0 cp) gN;have hb2:=dB (v0:=.bool true) (v1:=.int .i64 au) (v2:=.slice s 0 cp) hbz (Nat.le_refl _)
       obtain ⟨u2,hu2⟩ : ∃ u,((u1.setCell ⟨w2.heap.size,0,none⟩ (.bool true)).setCell ⟨w2.heap.size,1,none⟩ (.int .i64 au)).setCell ⟨w2.heap.size,2,none⟩ (.slice s 0 cp) = u:=⟨_,rfl⟩
       rw [hu2] at hX2 hb2
       have sH:=(hO.blk fq.out (λh=>Nat.lt_irrefl _ (HSL.out _ h))).below hb2 (hO.blk fq.out (λh=>Nat.lt_irrefl _ (HSL.out _ h))).lt
       have y0:=sH.cell 0;have z2:=hX2.cell 2;simp at y0 z2;clear hP hinv
       have HF : Hid (∃ S' x',yg wb C c (k + 1) S' x' u2):=ah6 (by obtain ⟨S',x',h⟩:=HN.out;exact ⟨S',x',h.below hb2⟩)
       have hw : wrap64 ((k : Int) + 1) = (k : Int) + 1:=Gm dz.out (Nat.le_trans Ii.out (by decide))
       clear hbz gN hb2 hX2 sH hO hA x0 x1 x2 d0 d1 d2 al
       go_wp2
       go_roundw
       case rel=>obtain ⟨S',x',h⟩:=HF.out;exact ⟨k + 1,S',x',dz.out,by go_num,h⟩
       case measure=>exact qQ dz.out
      ·have HZN : Hid (sn ≠ 0):=ah6 hz
       obtain ⟨hz1,hz2⟩:=abt hz
       have aaJ : Hid (yg wb C c (k + 1) S { x with cs:=fc } w2):=ah6 ⟨hA,hinv,HI.out.ge,HI.out.qg.trans (hO.below HI.out.qg.size HI.out.ge)⟩
       obtain ⟨u1,hu1⟩ : ∃ u,w2.alloc (.cells #[.bool false,.int .i64 0,.slice none 0 0] 49) = u:=⟨_,rfl⟩
       have hbz : Below w2.heap.size w2 u1:=by rw [← hu1];exact ah7
       have gN : ak u1 w2.heap.size #[.bool false,.int .i64 0,.slice none 0 0] 49:=by rw [← hu1];exact ak.new _ _ _
       have f0:=gN.free 0;have f1:=gN.free 1;have f2:=gN.free 2;have p0:=gN.cell 0;have p1:=gN.cell 1;have p2:=gN.cell 2;simp at p0 p1 p2;have hX2:=fA (v0:=.bool true) (v1:=.int .i64 au) (v2:=.slice s sn cp) gN;have hb2:=dB (v0:=.bool true) (v1:=.int .i64 au) (v2:=.slice s sn cp) hbz (Nat.le_refl _)
       obtain ⟨u2,hu2⟩ : ∃ u,((u1.setCell ⟨w2.heap.size,0,none⟩ (.bool true)).setCell ⟨w2.heap.size,1,none⟩ (.int .i64 au)).setCell ⟨w2.heap.size,2,none⟩ (.slice s sn cp) = u:=⟨_,rfl⟩
       rw [hu2] at hX2 hb2
       have sH:=(hO.blk fq.out (λh=>Nat.lt_irrefl _ (HSL.out _ h))).below hb2 (hO.blk fq.out (λh=>Nat.lt_irrefl _ (HSL.out _ h))).lt
       have y0:=sH.cell 0;have z2:=hX2.cell 2;simp at y0 z2;have dR:=ah6 hX2;have HST:=ah6 (aaJ.out.below hb2);have HPO:=ah6 (hP.below hb2);have kp:=ZR C c _ S u2 HST.out.at_;clear hbz gN hb2 hX2 sH hO hA x0 x1 x2 d0 d1 d2 hP hinv
       go_wp2_with fail
       refine kp.mono ?_
       rintro e w3 ⟨v,ks,rfl,kU,hm,hb3⟩
       clear kp hu1 hu2 f0 f1 f2 p0 p1 p2 y0 z2
       rcases HPO.out with h0 | ⟨pb,po,rfl,hpl,hpc⟩
       ·exact absurd h0 HZN.out
       have HPC:=ah6 (And.intro hpl hpc)
       obtain ⟨a,cc,rfl,_,_,_⟩:=kU.VY
       have h64 : x.ss.length <= 64:=HST.out.at_.ok.2.2
       obtain ⟨m,g,yt,ym,ya,yc,es,rfl,hml,hAM,ar,hmm⟩:=LC kU hm HSH.out h64 HC.out Gs.out HZN.out
       have HAM:=ah6 hAM;have HMM:=ah6 hmm;have iw:=ah6 (dR.out.below hb3 dR.out.lt);have aaK:=ah6 (HST.out.below hb3)
       have OA : Hid (pb < w3.heap.size /\ ∀ i,i < sn -> kH w3 pb (po + i * 6) (kP c au x.ss i)):=ah6 ⟨Nat.lt_of_lt_of_le hpl hb3.size,λi hi=>(hpc i hi).below hb3 hpl⟩
       obtain ⟨hm0,hmn,hmd,hmi⟩:=aaG m ks.length hml
       generalize ks.length = kn at *
       generalize kP c au x.ss = P at *
       have z1:=iw.out.cell 1;have z2:=iw.out.cell 2;simp at z1 z2;clear kU hm hb3 h64 dR HST aaJ HPO HPC hpl hpc hAM hmm hml
       go_wp2_with fail
       refine ar.mono ?_
       rintro e w4 ⟨rfl,hb4⟩
       clear ar z1 z2;have yZ:=ah6 (iw.out.below hb4 iw.out.lt);have aeH:=ah6 (aaK.out.below hb4)
       have OB : Hid (pb < w4.heap.size /\ ∀ i,i < sn -> kH w4 pb (po + i * 6) (P i)):=ah6 ⟨Nat.lt_of_lt_of_le OA.out.1 hb4.size,λi hi=>(OA.out.2 i hi).below hb4 OA.out.1⟩
       have yY:=ah6 (HAM.out.below hb4);clear hb4 HAM OA aaK iw;have d2:=yY.out.c2;have z2:=yZ.out.cell 2;simp at z2
       go_wp2_with fail
       go_quiet (fail)
       go_wp2_with fail
       clear z2 d2
       go_loopw [70] (λi wx=>∃ (j : Nat),j <= sn /\ i = .int .i64 j /\ Below w4.heap.size w4 wx) (λi _=>sn - (intOf i).toNat)
       case atStart=>exact ⟨0,Nat.zero_le _,rfl,by first | exact below_drewN ah8 _ | exact Below.refl _ _⟩
       case round =>
        obtain ⟨j,hj,rfl,hbj⟩:=hrel
        by_cases hlt2 : j < sn
        ·have abu : (j : Int) < sn:=aaE hlt2
         have hpj:=(OB.out.2 j hlt2).below hbj OB.out.1;have hmj:=HMM.out j hlt2;have S9:=yY.out.find hlt2;have yJ:=ah6 hlt2;have HBJ:=ah6 hbj
         have HPR : Hid (∀ i,j = i + 1 -> (P i).id < (P j).id):=ah6 (XT HMM.out yY.out.up hlt2)
         rw [← hmj.1] at S9
         generalize P j = pj at *
         generalize es.getD j bK = ej at *
         obtain ⟨qi,qx,qy,qz,qa,qm⟩:=pj
         obtain ⟨ei,e1,e2,e3,e4,e5,e6,e7,e8⟩:=ej
         unfold kH at hpj
         unfold bN at S9
         simp only at hpj hmj S9
         obtain ⟨c0,c1,c2,c3,c4,c5⟩:=hpj
         obtain ⟨rfl,hex⟩:=hmj
         have HEX:=ah6 hex;have FD:=ah6 S9
         obtain ⟨u1,hu1⟩ : ∃ v,wr.alloc (.cells #[.int .i64 qi,.int .i64 qx,.int .i64 qy,.int .i64 qz,.int .u16 qa,.int .i64 qm] 52) = v:=⟨_,rfl⟩
         have hb1 : Below wr.heap.size wr u1:=by rw [← hu1];exact ah7
         have hX1 : ak u1 wr.heap.size #[.int .i64 qi,.int .i64 qx,.int .i64 qy,.int .i64 qz,.int .u16 qa,.int .i64 qm] 52:=by rw [← hu1];exact ak.new _ _ _
         have HXP:=ah6 hX1
         have HB1 : Hid (Below w4.heap.size w4 u1):=ah6 (hbj.trans (hb1.mono hbj.size))
         have x0:=hX1.cell 0;simp at x0;have HA1:=yY.out.below HB1.out;have g0:=HA1.c0;have g1:=HA1.c1;have g2:=HA1.c2;clear hbj hb1 hX1 S9 hex HA1
         go_wp2_with fail
         clear hu1 c0 c1 c2 c3 c4 c5
         have HB : Hid (gK u1 33 #[.int .i64 0,.int .i64 0,.int .i64 0,.int .i64 0,.int .i64 0,.int .i64 0,.int .i64 0,.int .u16 0,.int .u8 0] #[.int .i64 qi,.int .i64 e1,.int .i64 e2,.int .i64 e3,.int .i64 e4,.int .i64 e5,.int .i64 e6,.int .u16 e7,.int .u8 e8] [] u1.drew):=ah6 (show Below u1.heap.size u1 u1.drew from below_drewN ah8 1)
         go_wp2_with fail
         apply jQ 12 [10,11] (gK u1 33 #[.int .i64 0,.int .i64 0,.int .i64 0,.int .i64 0,.int .i64 0,.int .i64 0,.int .i64 0,.int .u16 0,.int .u8 0] #[.int .i64 qi,.int .i64 e1,.int .i64 e2,.int .i64 e3,.int .i64 e4,.int .i64 e5,.int .i64 e6,.int .u16 e7,.int .u8 e8])
         case hm=>kernel_rfl
         case hB=>kernel_rfl
         case hp=>kernel_rfl
         case hI=>exact HB.out
         simp only [List.take_succ_cons,List.take_zero,List.drop_succ_cons,List.drop_zero]
         repeat (first
          | (apply bT;(next=>rfl);(next=>(intro b W hW K hK;have hb:=gK.base hW;have y0:=hb.cell g0;have y1:=hb.cell g1;have y2:=hb.cell g2;have y3:=hb.cell x0;go_simp;first | exact ⟨hW,hK⟩ | exact hK));(next=>exact ⟨_,HB.out⟩);(try go_simp))
          | (apply bT;(next=>rfl);(next=>(intro b W hW K hK;have hb:=gK.base hW;have y0:=hb.cell g0;have y1:=hb.cell g1;have y2:=hb.cell g2;have y3:=hb.cell x0;go_simp;first | exact ⟨hW,_,(FD.out W (HB1.out.trans (Below.mono hb HB1.out.size))).mono (λe w'' h=>⟨h.1,gK.below hW h.2⟩),hK⟩ | exact ⟨_,(FD.out W (HB1.out.trans (Below.mono hb HB1.out.size))).mono (λe w'' h=>⟨h.1,gK.below hW h.2⟩),hK⟩));(next=>exact ⟨_,HB.out⟩);(try go_simp)))
         apply dh (s:=λ_=>True)
         case hk=>rfl
         case hne=>exact ⟨undef,trivial⟩
         case hw=>rfl
         case h =>
          intro W hW
          have uD:=ah6 (gK.new hW)
          go_simp
          first | exact uD.out | exact ⟨trivial,uD.out⟩
         intro x1' _
         apply dh (s:=λ_=>True)
         case hk=>rfl
         case hne=>exact ⟨undef,trivial⟩
         case hw=>rfl
         case h =>
          intro W hW
          obtain ⟨hb,bx,rfl,hX,hlx⟩:=hW
          have r0:=hX.cell 0;have r1:=hX.cell 1;have r2:=hX.cell 2;have r3:=hX.cell 3;have r4:=hX.cell 4;have r5:=hX.cell 5;have r6:=hX.cell 6;have r7:=hX.cell 7;have r8:=hX.cell 8
          have f0:=hX.free 0;have f1:=hX.free 1;have f2:=hX.free 2;have f3:=hX.free 3;have f4:=hX.free 4;have f5:=hX.free 5;have f6:=hX.free 6;have f7:=hX.free 7;have f8:=hX.free 8
          simp at r0 r1 r2 r3 r4 r5 r6 r7 r8
          obtain ⟨fZ,HS2⟩:=FT W bx _ _ _ _ _ _ _ _ _ _ ⟨qi,e1,e2,e3,e4,e5,e6,e7,e8⟩ hX
          have uD:=ah6 (show gK u1 33 #[.int .i64 0,.int .i64 0,.int .i64 0,.int .i64 0,.int .i64 0,.int .i64 0,.int .i64 0,.int .u16 0,.int .u8 0] #[.int .i64 qi,.int .i64 e1,.int .i64 e2,.int .i64 e3,.int .i64 e4,.int .i64 e5,.int .i64 e6,.int .u16 e7,.int .u8 e8] [.pointer (some ⟨bx,0,none⟩),undef] _ from ⟨Below.trans hb (HS2.below (Below.size hb) (λk e=>aaH hlx e)),bx,rfl,fZ,hlx⟩)
          clear hb hX fZ HS2
          go_simp
          first | exact uD.out | exact ⟨trivial,uD.out⟩
         intro x2' _
         refine jF ?_
         intro u3 aL
         obtain ⟨hb,be,rfl,hX,hlx⟩:=aL
         have HB3 : Hid (Below w4.heap.size w4 u3):=ah6 (HB1.out.trans (Below.mono hb HB1.out.size))
         have wO:=ah6 (HXP.out.below hb HXP.out.lt);have Ah:=ah6 hX;have aeI:=ah6 (yZ.out.below HB3.out yZ.out.lt);clear hb hX x0 g0 g1 g2 HB hlx;have z2:=aeI.out.cell 2;have x0:=wO.out.cell 0;simp at z2 x0
         go_wp2_with fail
         have M7:=ah6 (Gm yJ.out (XP yY.out.le))
         rcases Nat.eq_zero_or_pos j with hj0 | hj0
         ·subst hj0
          have g0d : decide ((0 : Int) < ((0 : Nat) : Int)) = false:=rfl
          clear HPR
          go_quiet (fail)
          have l1:=wO.out.cell 1;have l2:=wO.out.cell 2;have l3:=wO.out.cell 3;have l4:=wO.out.cell 4;have l5:=wO.out.cell 5;have n1:=Ah.out.cell 1;have n2:=Ah.out.cell 2;have n3:=Ah.out.cell 3;have n7:=Ah.out.cell 7;simp at l1 l2 l3 l4 l5 n1 n2 n3 n7;have hw:=M7.out
          by_cases hqm : qm = 0
          ·have he:=HEX.out hqm
           unfold lC at he
           injection he with he0 he1 he2 qY Qw wI
           subst he1 he2 qY Qw wI
           go_wp2
           go_roundw
           case rel=>exact ⟨0 + 1,yJ.out,by go_num,by first | exact below_drewN HB3.out _ | exact HB3.out⟩
           case measure=>exact qQ yJ.out
          ·have hqb : (qm == 0) = false:=by simpa using hqm
           clear hqm
           go_wp2
           go_roundw
           case rel=>exact ⟨0 + 1,yJ.out,by go_num,by first | exact below_drewN HB3.out _ | exact HB3.out⟩
           case measure=>exact qQ yJ.out
         ·obtain ⟨i,hi⟩:=XQ hj0
          obtain ⟨hwi,g0d,gnd,hi2,g1d⟩:=XR hi yJ.out yY.out.le
          have hpi:=(OB.out.2 i hi2).below HB3.out OB.out.1;have Vp:=HPR.out i hi
          generalize P i = pi at *
          obtain ⟨ri,rx,ry,rz,ra,rm⟩:=pi
          unfold kH at hpi
          simp only at hpi Vp
          obtain ⟨c0,_,_,_,_,_⟩:=hpi
          have g2d:=dec_lt Vp;clear Vp hi2 hi hj0
          go_quiet (fail)
          have l1:=wO.out.cell 1;have l2:=wO.out.cell 2;have l3:=wO.out.cell 3;have l4:=wO.out.cell 4;have l5:=wO.out.cell 5;have n1:=Ah.out.cell 1;have n2:=Ah.out.cell 2;have n3:=Ah.out.cell 3;have n7:=Ah.out.cell 7;simp at l1 l2 l3 l4 l5 n1 n2 n3 n7;have hw:=M7.out
          by_cases hqm : qm = 0
          ·have he:=HEX.out hqm
           unfold lC at he
           injection he with he0 he1 he2 qY Qw wI
           subst he1 he2 qY Qw wI
           go_wp2
           go_roundw
           case rel=>exact ⟨j + 1,yJ.out,SY M7.out,by first | exact below_drewN HB3.out _ | exact HB3.out⟩
           case measure=>exact M6 yJ.out M7.out
          ·have hqb : (qm == 0) = false:=by simpa using hqm
           clear hqm
           go_wp2
           go_roundw
           case rel=>exact ⟨j + 1,yJ.out,SY M7.out,by first | exact below_drewN HB3.out _ | exact HB3.out⟩
           case measure=>exact M6 yJ.out M7.out
        ·obtain rfl:=aaF hj hlt2
         have HF:=ah6 (aeH.out.below hbj);have abu:=Vn j
         have hw : wrap64 ((k : Int) + 1) = (k : Int) + 1:=Gm dz.out (Nat.le_trans Ii.out (by decide))
         clear hbj
         go_wp2
         go_roundw
         case rel=>exact ⟨k + 1,S,_,dz.out,by go_num,HF.out⟩
         case measure=>exact qQ dz.out
    ·have HN : Hid (∃ S' x',yg wb C c (k + 1) S' x' w2):=ah6 ⟨S,x,hA,HI.out.inv.succ,HI.out.ge,HI.out.qg.trans (hO.below HI.out.qg.size HI.out.ge)⟩
     obtain ⟨u1,hu1⟩ : ∃ u,w2.alloc (.cells #[.bool false,.int .i64 0,.slice none 0 0] 49) = u:=⟨_,rfl⟩
     have hbz : Below w2.heap.size w2 u1:=by rw [← hu1];exact ah7
     have gN : ak u1 w2.heap.size #[.bool false,.int .i64 0,.slice none 0 0] 49:=by rw [← hu1];exact ak.new _ _ _
     have f0:=gN.free 0;have f1:=gN.free 1;have f2:=gN.free 2;have p0:=gN.cell 0;have p1:=gN.cell 1;have p2:=gN.cell 2;simp at p0 p1 p2;have hX2:=fA (v0:=.bool false) (v1:=.int .i64 0) (v2:=.slice none 0 0) gN;have hb2:=dB (v0:=.bool false) (v1:=.int .i64 0) (v2:=.slice none 0 0) hbz (Nat.le_refl _)
     obtain ⟨u2,hu2⟩ : ∃ u,((u1.setCell ⟨w2.heap.size,0,none⟩ (.bool false)).setCell ⟨w2.heap.size,1,none⟩ (.int .i64 0)).setCell ⟨w2.heap.size,2,none⟩ (.slice none 0 0) = u:=⟨_,rfl⟩
     rw [hu2] at hX2 hb2
     have sH:=(hO.blk fq.out (λh=>Nat.lt_irrefl _ (HSL.out _ h))).below hb2 (hO.blk fq.out (λh=>Nat.lt_irrefl _ (HSL.out _ h))).lt
     have y0:=sH.cell 0;have z2:=hX2.cell 2;simp at y0 z2
     have HF : Hid (∃ S' x',yg wb C c (k + 1) S' x' u2):=ah6 (by obtain ⟨S',x',h⟩:=HN.out;exact ⟨S',x',h.below hb2⟩)
     have hw : wrap64 ((k : Int) + 1) = (k : Int) + 1:=Gm dz.out (Nat.le_trans Ii.out (by decide))
     clear hbz gN hb2 hX2 sH hO hA x0 x1 x2 d0 d1 d2 al
     go_wp2
     go_roundw
     case rel=>obtain ⟨S',x',h⟩:=HF.out;exact ⟨k + 1,S',x',dz.out,by go_num,h⟩
     case measure=>exact qQ dz.out
   ·obtain rfl : k = len:=by omega
    have HF:=ah6 (HB0.out.trans (hI.qg.mono HB0.out.size))
    have hlt' : ¬ (k : Int) < k:=by omega
    clear hI
    go_wp2
    go_ret
    exact ⟨rfl,HF.out⟩
theorem topExact_walk (r wi bs g l m s n d e : Int) (cu : Bool) (a0 : Option Addr) (K3 cap0 : Nat) (K T : Nat -> Int) (E : Nat -> Option Addr × Nat × Nat) (Z : Nat -> List Int) (w : World) (h1 : ay r) (h2 : ay wi) (h3 : ay bs) (h4 : ay g) (h5 : ay l) (h6 : ay m) (h7 : ay s) (h8 : ay n) (h9 : ay d) (h10 : ay e) (hS : gP w a0 K3 K T E) (hx : ∀ i,i < K3 -> ay (K i) /\ ay (T i) /\ Ar w (E i).1 (E i).2.1 (E i).2.2 (Z i)) (hy : K3 * 40 <= 140737488351232) :
 Calls Tryz.prog 6 #[.agg #[.int .i64 r,.int .i64 wi,.int .i64 bs,.int .i64 g,.int .i64 l,.int .i64 m,.int .i64 s,.int .i64 n,.int .i64 d,.int .i64 e,.bool cu],.slice a0 K3 cap0] w λe w'=>e = .returned (.bool true) /\ Below w.heap.size w w' :=
 topExact_w ⟨r,wi,bs,g,l,m,s,n,d,e,cu⟩ ⟨h1,h2,h3,h4,h5,h6,h7,h8,h9,h10⟩ a0 K3 cap0 K T E Z w hS hx (by omega)
end Go.Proofs.YtklkooeimkedgaaGreat
