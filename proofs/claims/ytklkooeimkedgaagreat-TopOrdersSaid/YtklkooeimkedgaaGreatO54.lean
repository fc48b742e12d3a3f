/- Parts of the walk of TopOrders: Client4, Top0, ShowP, Ord0, Top1, Alive0, Alive1, Ord1. -/
import Derived.Test.YtklkooeimkedgaaGreatO0
import Derived.Test.YtklkooeimkedgaaGreatO2
import Derived.Test.YtklkooeimkedgaaGreatO27
import Derived.Test.YtklkooeimkedgaaGreatO28
import Derived.Test.YtklkooeimkedgaaGreatO45
import Derived.Test.YtklkooeimkedgaaGreatO52
import Derived.Test.YtklkooeimkedgaaGreatO53
set_option linter.unusedVariables false
set_option linter.unusedSimpArgs false
namespace Go.Proofs.YtklkooeimkedgaaGreat
open Go.RowKit
set_option maxRecDepth 100000
theorem IU {K T : Nat -> Int} {E E' : Nat -> Option Addr × Nat × Nat} {EE : Nat -> Nat -> ay} (h : ∀ i,(E i).2.1 = (E' i).2.1) : ∀ n i,qw K T E EE n i = qw K T E' EE n i
 | 0,i=>rfl
 | n + 1,i=>by unfold qw;rw [h i,IU h n (i + 1)]
theorem Co {c : aS} {K T : Nat -> Int} {E E' : Nat -> Option Addr × Nat × Nat} {EE : Nat -> Nat -> ay} (h : ∀ i,(E i).2.1 = (E' i).2.1) (n : Nat) : jH c K T E EE n = jH c K T E' EE n:=by
 unfold jH;rw [IU h]
theorem TJ {c : aS} {ka ta : Int} {aa Lg : Option Addr} {la ca Lh : Nat} {A : Nat -> ay} {au : Int} : oK c ka ta aa la ca A au = oK c ka ta Lg la Lh A au:=by
 have h : jH c (λ_=>ka) (λ_=>ta) (λ_=>(aa,la,ca)) (λ_=>A) 1 = jH c (λ_=>ka) (λ_=>ta) (λ_=>(Lg,la,Lh)) (λ_=>A) 1:=Co (λ_=>rfl) 1
 unfold oK ny;rw [h]
theorem TK {c : aS} {ka ta : Int} {aa Lg : Option Addr} {la ca Lh : Nat} {A : Nat -> ay} {kb tb : Int} {ab ab' : Option Addr} {lb cb cb' : Nat} {B : Nat -> ay} {au : Int} : oJ c ka ta aa la ca A kb tb ab lb cb B au = oJ c ka ta Lg la Lh A kb tb ab' lb cb' B au:=by
 unfold oJ oH
 rw [Co (E':=two (Lg,la,Lh) (ab',lb,cb')) (λi=>by unfold two;split <;> rfl)]
theorem VJ {c : aS} {au : Int} {K T : Nat -> Int} {E E' : Nat -> Option Addr × Nat × Nat} {EE : Nat -> Nat -> ay} {len : Nat} (h : ∀ i,(E i).2.1 = (E' i).2.1) : xZ c au K T E EE len = xZ c au K T E' EE len:=by
 unfold xZ
 rw [Co h,TJ (Lg:=(E' (dD T au len)).1) (Lh:=(E' (dD T au len)).2.2),TK (Lg:=(E' (dD T au len)).1) (Lh:=(E' (dD T au len)).2.2) (ab':=(E' (jD T au len)).1) (cb':=(E' (jD T au len)).2.2),h,h]
def IV (ss : List Sn) (i : Nat) : Int:=(ss.getD i eT).tick
def Cq (ss : List Sn) (i : Nat) : Int:=(ss.getD i eT).time
def NJ (ss : List Sn) (i : Nat) : Option Addr × Nat × Nat:=(none,(ss.getD i eT).ents.length,0)
def Cr (ss : List Sn) (i j : Nat) : ay:=(ss.getD i eT).ents.getD j bS
def VK (c : aS) (au : Int) (ss : List Sn) : Int:=xZ c au (IV ss) (Cq ss) (NJ ss) (Cr ss) ss.length
def tL (c : aS) (au : Int) (ss : List Sn) : Nat:=FW c au (IV ss) (Cq ss) (NJ ss) (Cr ss) ss.length
def Ad (c : aS) (au : Int) (ss : List Sn) : Nat -> Po:=NH c au (IV ss) (Cq ss) (NJ ss) (Cr ss) ss.length
theorem CZ (ks : List aG) (i : Nat) : (ks.map (·.sn)).getD i eT = (ks.getD i mZ).sn:=by
 simp only [List.getD,List.getElem?_map]
 cases ks[i]? <;> rfl
theorem GH (c : aS) (ok : c.Ok) (au : Int) (hat : aA au) (a : Option Addr) (cap : Nat) (ks : List aG) (ss : List Sn) (hm : ks.map (·.sn) = ss) (hT : ∀ s ∈ ss,aA s.time) (hl : ks.length <= 1000) (w : World) (h : Ld w a ks) :
  Calls Tryz.prog 19 #[bE c,.int .i64 au,.slice a ks.length cap] w (qA w (tL c au ss) (VK c au ss) (Ad c au ss)):=by
 have hK : (λi=>(ks.getD i mZ).sn.tick) = IV ss:=by funext i;unfold IV;rw [← hm,CZ]
 have hTT : (λi=>(ks.getD i mZ).sn.time) = Cq ss:=by funext i;unfold Cq;rw [← hm,CZ]
 have oC : (λi j=>(ks.getD i mZ).sn.ents.getD j bS) = Cr ss:=by funext i j;unfold Cr;rw [← hm,CZ]
 have hE : ∀ i,((λi=>((ks.getD i mZ).a,(ks.getD i mZ).sn.ents.length,(ks.getD i mZ).cap)) i : Option Addr × Nat × Nat).2.1 = (NJ ss i).2.1:=λi=>by unfold NJ;rw [← hm,CZ]
 have hlen : ks.length = ss.length:=by rw [← hm,List.length_map]
 unfold Ld at h
 rw [hK,hTT,oC] at h
 have hTi : ∀ i,i < ks.length -> aA (Cq ss i):=λi hi=>by
  unfold Cq
  have : i < ss.length:=by omega
  simp only [List.getD,List.getElem?_eq_getElem this,Option.getD_some]
  exact hT _ (List.getElem_mem this)
 have:=abX c ok au hat a ks.length cap _ _ _ _ w h hTi (by omega)
 have e1:=VJ (c:=c) (au:=au) (K:=IV ss) (T:=Cq ss) (EE:=Cr ss) (len:=ks.length) hE
 have e2 : FW c au (IV ss) (Cq ss) (λi=>((ks.getD i mZ).a,(ks.getD i mZ).sn.ents.length,(ks.getD i mZ).cap)) (Cr ss) ks.length = tL c au ss:=by
  unfold tL FW;rw [e1,hE,hlen]
 have e3 : NH c au (IV ss) (Cq ss) (λi=>((ks.getD i mZ).a,(ks.getD i mZ).sn.ents.length,(ks.getD i mZ).cap)) (Cr ss) ks.length = Ad c au ss:=by
  unfold Ad NH;rw [hE,hlen]
 rw [e2,e3,e1,hlen] at this
 rw [hlen]
 exact this
theorem VL {w : World} {base base' k n : Nat} {e : TypeId} {v : Value} {xs : List Value} (h : w.ownsRow base e k v n xs) (hb : base' <= base) : w.ownsRow base' e k v n xs:=by
 obtain ⟨h1,h2⟩:=h
 refine ⟨h1,?_⟩
 rcases h2 with h2 | ⟨g,cap,cur,rfl,a,b⟩
 ·exact .inl h2
 ·exact .inr ⟨g,cap,cur,rfl,Nat.le_trans hb a,b⟩
theorem TL {w w' : World} {s : Option Addr} {n : Nat} {P : Nat -> Po} {X : Nat} {cs : Array Value} (h : fO w s n P) (hX : ak w X cs 49) (hcs : cs.size = 3) (ho : Only (λk=>k = X) w w') : fO w' s n P:=by
 rcases h with h | ⟨b,off,e,hl,hc⟩
 ·exact .inl h
 ·by_cases hn : n = 0
  ·exact .inl hn
  ·refine .inr ⟨b,off,e,Nat.lt_of_lt_of_le hl ho.size,λi hi=>?_⟩
   have hbX : b ≠ X:=by
    rintro rfl
    have h0:=(hc 0 (by omega)).2.2.2.2.2
    rw [hX.cell,Array.getElem?_eq_none (by omega)] at h0
    cases h0
   have hh : ∀ o,w'.cell? ⟨b,o,none⟩ = w.cell? ⟨b,o,none⟩:=λo=>by
    simp only [World.cell?];rw [ho.block b hl hbX]
   have:=hc i hi
   unfold mo at this ⊢
   simp only [hh];exact this
def Li (w2 : World) (ss : List Sn) (n0 : Nat) (E0 : Int) (P0 : Nat -> Po) : List Value -> World -> Prop
 | [],W=>aO w2 W
 | [v],W=>aO w2 W /\ ∃ ks,iC W w2.heap.size v ks /\ ks.map (·.sn) = ss
 | [_,u],W=>aO w2 W /\ ∃ s cp,u = .tuple #[.slice s n0 cp,.int .i64 E0] /\ fO W s n0 P0
 | [_,_,u],W=>aO w2 W /\ ∃ s cp,u = .tuple #[.slice s n0 cp,.int .i64 E0] /\ fO W s n0 P0
 | [_,_,_,u],W=>aO w2 W /\ ∃ s cp,u = .slice s n0 cp /\ fO W s n0 P0
 | [_,_,_,_,u],W=>aO w2 W /\ ∃ s cp,u = .slice s n0 cp /\ fO W s n0 P0
 | _,_=>False
theorem Li.calm {w2 : World} {ss : List Sn} {n0 : Nat} {E0 : Int} {P0 : Nat -> Po} : ∀ {b : List Value} {W : World},Li w2 ss n0 E0 P0 b W -> aO w2 W
 | [],_,h=>h
 | [_],_,h=>h.1
 | [_,_],_,h=>h.1
 | [_,_,_],_,h=>h.1
 | [_,_,_,_],_,h=>h.1
 | [_,_,_,_,_],_,h=>h.1
 | _ :: _ :: _ :: _ :: _ :: _ :: _,_,h=>h.elim
theorem Mg (b : Nat) (c : aS) (hc : iU c = 0) (s : CS) (x : Int) (S : Nat -> Prop) (w : World) (h : sH w b c s S) (hL : s.L = []) :
  Calls Tryz.prog 42 #[.pointer (some ⟨b,0,none⟩),.int .i64 x] w λe w'=>e = .returned (.tuple #[.int .i64 0,.bool false]) /\ w = w':=by
 have co:=IK b c s S w h
 rw [hL,show bY c.window.toNat [] = [] by simp [bY],show decide (([] : List Int) ≠ []) = false from rfl] at co
 generalize dR [] = m at *
 go_enter Tryz.func42,Tryz.ntmps42
 go_wp2_with fail
 refine co.mono ?_;rintro e w' ⟨rfl,rfl⟩
 go_wp2
 go_ret2
 exact ⟨rfl,rfl⟩
theorem aaO (C : Nat) (c : aS) (hc : iU c = 0) (x : kG) (S : Nat -> Prop) (loc : Int) (w : World) (h : fZ w C c x S) (hL : x.cs.L = []) :
  Calls Tryz.prog 15 #[.pointer (some ⟨C,0,none⟩),.int .i64 loc] w λe w'=>e = .returned (.agg #[.bool false,.int .i64 0,.slice none 0 0]) /\ fZ w' C c x S /\ Only (λk=>S k /\ oD w k) w w':=by
 obtain ⟨T,R,K,l,fr,SS,SK,hP,hK⟩:=h
 have aaP:=hP.blk.cell 12
 simp at aaP
 obtain ⟨w0,hw0⟩ : ∃ w0,w.alloc (.cells #[.bool false,.int .i64 0,.slice none 0 0] 49) = w0:=⟨_,rfl⟩
 have hB0 : Below w.heap.size w w0:=by rw [← hw0];exact (Below.refl _ _).alloc (Nat.le_refl _) _
 have hX0 : ak w0 w.heap.size #[.bool false,.int .i64 0,.slice none 0 0] 49:=by rw [← hw0];exact ak.new _ _ _
 have Lj:=hP.lt C hP.sub.1
 have pK:=hP.only (Only.of_below (S:=λ_=>False) hB0) (λ_ _ h=>h)
 have hC0:=pK.blk
 have c13:=hC0.cell 13
 have f13:=hC0.free 13
 simp at c13
 have hset : ∀ v,K9 (w0.setCell ⟨C,13,none⟩ (.int .i64 v)) C c T R K l x.floor x.gone x.cs v S SS SK:=λv=>by
  have ho : Only (λk=>k = C) w0 (w0.setCell ⟨C,13,none⟩ (.int .i64 v)):=Only.setCell (S:=λk=>k = C) (p:=⟨C,13,none⟩) (Only.refl _ _) (.inl rfl) _
  exact ⟨by simpa using hC0.set 13 (.int .i64 v),pK.st.only ho (λk hk e=>pK.nC.1 (e ▸ hk)),pK.room,pK.ck.only ho (λk hk e=>pK.nC.2 (e ▸ hk)),pK.FU,pK.nC,pK.sub,λk hk=>by have:=pK.lt k hk;simpa [World.setCell] using this⟩
 have hX1 : ∀ v,ak (w0.setCell ⟨C,13,none⟩ (.int .i64 v)) w.heap.size #[.bool false,.int .i64 0,.slice none 0 0] 49:=λv=>hX0.far (p:=⟨C,13,none⟩) (by show w.heap.size ≠ C;omega) _
 have TM : oD w C:=Ew hP.blk (by intro v hv;simp at hv)
 have mR : ∀ v,Only (λk=>S k /\ oD w k) w (w0.setCell ⟨C,13,none⟩ (.int .i64 v)):=λv=>(Only.of_below (S:=λk=>S k /\ oD w k) hB0).setCell (p:=⟨C,13,none⟩) (.inl ⟨hP.sub.1,TM⟩) _
 obtain ⟨xu,hfr⟩ : ∃ v,wrap64 (fr + 1) = v:=⟨_,rfl⟩
 obtain ⟨w1,hw1⟩ : ∃ u,w0.setCell ⟨C,13,none⟩ (.int .i64 xu) = u:=⟨_,rfl⟩
 have hP1:=hset xu
 have zA:=hX1 xu
 have yQ:=mR xu
 rw [hw1] at hP1 zA yQ
 have cf:=Mg K c hc x.cs loc SK w1 hP1.ck hL
 have c12:=hP1.blk.cell 12
 simp at c12
 have f0:=zA.free 0
 have f1:=zA.free 1
 have f2:=zA.free 2
 have x0:=zA.cell 0
 have x1:=zA.cell 1
 have x2:=zA.cell 2
 simp at x0 x1 x2
 have hNS : ¬ S w.heap.size:=λh=>by have:=hP.lt _ h;omega
 have dU:=jf (v0:=.bool false) (v1:=.int .i64 0) (v2:=.slice none 0 0) zA
 obtain ⟨u3,hu3⟩ : ∃ u,((w1.setCell ⟨w.heap.size,0,none⟩ (.bool false)).setCell ⟨w.heap.size,1,none⟩ (.int .i64 0)).setCell ⟨w.heap.size,2,none⟩ (.slice none 0 0) = u:=⟨_,rfl⟩
 have IW : Only (λk=>k = w.heap.size) w1 u3:=by rw [← hu3];exact sw (Only.refl _ _) (.inl rfl)
 rw [hu3] at dU
 have HF : Hid (fZ u3 C c x S /\ Only (λk=>S k /\ oD w k) w u3):=ahZ ⟨fZ.only ⟨T,R,K,l,xu,SS,SK,hP1,hK⟩ IW (λk hk e=>hNS (e ▸ hk)),yQ.bQ IW (λi hi e=>by omega)⟩
 have g0:=dU.cell 0
 have g1:=dU.cell 1
 have g2:=dU.cell 2
 simp at g0 g1 g2
 have HNS : Hid (¬ S w.heap.size):=ahZ (λh=>by have:=hP.lt _ h;omega)
 clear TM hP pK hC0 hset hX1 mR hP1 zA yQ hK hX0 hB0 Lj dU IW hNS hL aaP
 go_enter Tryz.func15,Tryz.ntmps15
 go_wp2_with fail
 refine cf.mono ?_
 rintro e w2 ⟨rfl,rfl⟩
 clear cf
 go_wp2_with fail
 exact bodyPost_ret (v:=.agg #[.bool false,.int .i64 0,.slice none 0 0]) (by simp [results,Tryz.results15,go_sem,g0,g1,g2]) rfl ⟨rfl,HF.out⟩
set_option maxHeartbeats 4000000 in
theorem Ct (C : Nat) (c : aS) (NC : c.Ok) (hc : iU c = 0) (x : kG) (S : Nat -> Prop) (loc : Int) (hloc : aA loc) (w : World) (h : fZ w C c x S) (hL : x.cs.L ≠ []) :
  Calls Tryz.prog 15 #[.pointer (some ⟨C,0,none⟩),.int .i64 loc] w λe w'=>∃ s cp,e = .returned (.agg #[.bool true,.int .i64 (mY c x.cs loc).au,.slice s (tL c (mY c x.cs loc).au x.ss) cp]) /\ fO w' s (tL c (mY c x.cs loc).au x.ss) (Ad c (mY c x.cs loc).au x.ss) /\ fZ w' C c { x with cs:=mY c x.cs loc } S /\ Only (λk=>S k /\ oD w k) w w':=by
 obtain ⟨T,R,K,l,fr,SS,SK,hP,hK⟩:=h
 have GA:=aaB hK.cs hloc (c:=c)
 obtain ⟨w0,hw0⟩ : ∃ w0,w.alloc (.cells #[.bool false,.int .i64 0,.slice none 0 0] 49) = w0:=⟨_,rfl⟩
 have hB0 : Below w.heap.size w w0:=by rw [← hw0];exact (Below.refl _ _).alloc (Nat.le_refl _) _
 have hX0 : ak w0 w.heap.size #[.bool false,.int .i64 0,.slice none 0 0] 49:=by rw [← hw0];exact ak.new _ _ _
 have Lj:=hP.lt C hP.sub.1
 have pK:=hP.only (Only.of_below (S:=λ_=>False) hB0) (λ_ _ h=>h)
 have hC0:=pK.blk
 have c13:=hC0.cell 13
 have f13:=hC0.free 13
 simp at c13
 have hset : ∀ v,K9 (w0.setCell ⟨C,13,none⟩ (.int .i64 v)) C c T R K l x.floor x.gone x.cs v S SS SK:=λv=>by
  have ho : Only (λk=>k = C) w0 (w0.setCell ⟨C,13,none⟩ (.int .i64 v)):=Only.setCell (S:=λk=>k = C) (p:=⟨C,13,none⟩) (Only.refl _ _) (.inl rfl) _
  exact ⟨by simpa using hC0.set 13 (.int .i64 v),pK.st.only ho (λk hk e=>pK.nC.1 (e ▸ hk)),pK.room,pK.ck.only ho (λk hk e=>pK.nC.2 (e ▸ hk)),pK.FU,pK.nC,pK.sub,λk hk=>by have:=pK.lt k hk;simpa [World.setCell] using this⟩
 have hX1 : ∀ v,ak (w0.setCell ⟨C,13,none⟩ (.int .i64 v)) w.heap.size #[.bool false,.int .i64 0,.slice none 0 0] 49:=λv=>hX0.far (p:=⟨C,13,none⟩) (by show w.heap.size ≠ C;omega) _
 have TM : oD w C:=Ew hP.blk (by intro v hv;simp at hv)
 have mR : ∀ v,Only (λk=>S k /\ oD w k) w (w0.setCell ⟨C,13,none⟩ (.int .i64 v)):=λv=>(Only.of_below (S:=λk=>S k /\ oD w k) hB0).setCell (p:=⟨C,13,none⟩) (.inl ⟨hP.sub.1,TM⟩) _
 obtain ⟨xu,hfr⟩ : ∃ v,wrap64 (fr + 1) = v:=⟨_,rfl⟩
 obtain ⟨w1,hw1⟩ : ∃ u,w0.setCell ⟨C,13,none⟩ (.int .i64 xu) = u:=⟨_,rfl⟩
 have hP1:=hset xu
 have zA:=hX1 xu
 have yQ:=mR xu
 rw [hw1] at hP1 zA yQ
 have x9:=ahZ hP1
 have gJ:=ahZ zA
 have oO:=ahZ yQ
 have HK:=ahZ hK
 have VH:=ahZ GA
 have cf:=VI K c hc x.cs hK.cs loc hloc SK w1 hP1.ck hL
 have hsame : ∀ k,k < w.heap.size -> k ≠ C -> w1.heap[k]? = w.heap[k]?:=λk hk hne=>by
  rw [← hw1,Below.heap_setCell _ _ _ _ (show k ≠ (⟨C,13,none⟩ : Addr).block from hne)]
  exact hB0.block k hk
 have mG:=ahZ hsame
 clear hsame
 have HAT:=ahZ GA.au
 have c12:=hP1.blk.cell 12
 simp at c12
 have HCl:=ahZ Lj
 have HNS : Hid (¬ S w.heap.size):=ahZ (λh=>by have:=hP.lt _ h;omega)
 clear TM hP pK hC0 hset hX1 mR hP1 zA yQ hK GA hX0 hB0 Lj
 generalize hfm : mY c x.cs loc = cs2 at *
 have HT : Hid (∀ s ∈ x.ss,aA s.time):=ahZ (λs hs=>by have:=(jL.1 (HK.out.La s hs)).time;exact ⟨by omega,by omega⟩)
 have psh:=λa cap ks hm hl W h=>GH c NC cs2.au HAT.out a cap ks x.ss hm HT.out hl W h
 generalize tL c cs2.au x.ss = n0 at *
 generalize Ad c cs2.au x.ss = P0 at *
 generalize VK c cs2.au x.ss = E0 at *
 have HPS:=ahZ psh
 unfold bE at HPS
 clear psh
 go_enter Tryz.func15,Tryz.ntmps15
 go_wp2_with fail
 clear hw0 hw1 c13 f13 hfr
 refine cf.mono ?_
 rintro e w2 ⟨rfl,TF,hO2⟩
 have Px : Only SK w1 w2:=hO2.weaken (λk _ hk=>hk.1)
 have hP2 : K9 w2 C c T R K l x.floor x.gone cs2 xu S SS SK:=⟨Px.blk x9.out.blk x9.out.nC.2,x9.out.st.only Px x9.out.FU,x9.out.room,TF,x9.out.FU,x9.out.nC,x9.out.sub,λk hk=>Nat.lt_of_lt_of_le (x9.out.lt k hk) hO2.size⟩
 have yT : Hid (fZ w2 C c { x with cs:=cs2 } S):=ahZ ⟨T,R,K,l,xu,SS,SK,hP2,HK.out.map,HK.out.key,HK.out.La,VH.out⟩
 have gy:=ahZ (Px.blk gJ.out (λh=>HNS.out (x9.out.sub.2.2 _ h)))
 have bT : Hid (Only (λk=>S k /\ oD w k) w w2):=ahZ (oO.out.bQ hO2 (λi hi hk=>⟨x9.out.sub.2.2 i hk.1,λo v hh=>by
  have hne : i ≠ C:=λe=>x9.out.nC.2 (e ▸ hk.1)
  refine hk.2 o v ?_
  simp only [World.cell?] at hh ⊢
  rw [mG.out i hi hne];exact hh⟩))
 obtain ⟨c0,c1,c2,c3,c4,c5,c6,c7,c8,c9,c10⟩ : w2.cell? ⟨C,0,none⟩ = some (.int .i64 c.ring) /\ w2.cell? ⟨C,1,none⟩ = some (.int .i64 c.window) /\ w2.cell? ⟨C,2,none⟩ = some (.int .i64 c.base) /\ w2.cell? ⟨C,3,none⟩ = some (.int .i64 c.gain) /\ w2.cell? ⟨C,4,none⟩ = some (.int .i64 c.least) /\ w2.cell? ⟨C,5,none⟩ = some (.int .i64 c.most) /\ w2.cell? ⟨C,6,none⟩ = some (.int .i64 c.aF) /\ w2.cell? ⟨C,7,none⟩ = some (.int .i64 c.num) /\ w2.cell? ⟨C,8,none⟩ = some (.int .i64 c.den) /\ w2.cell? ⟨C,9,none⟩ = some (.int .i64 c.extra) /\ w2.cell? ⟨C,10,none⟩ = some (.bool c.aC):=by
  have h:=hP2.blk
  have e0:=h.cell 0
  have e1:=h.cell 1
  have e2:=h.cell 2
  have e3:=h.cell 3
  have e4:=h.cell 4
  have e5:=h.cell 5
  have e6:=h.cell 6
  have e7:=h.cell 7
  have e8:=h.cell 8
  have e9:=h.cell 9
  have e10:=h.cell 10
  simp at e0 e1 e2 e3 e4 e5 e6 e7 e8 e9 e10
  exact ⟨e0,e1,e2,e3,e4,e5,e6,e7,e8,e9,e10⟩
 have aeQ : Hid (x.ss.length <= 64):=ahZ yT.out.ok.2.2
 clear TF hO2 Px cf c12 hP2
 have HI : Hid (Li w2 x.ss n0 E0 P0 [] w2.drew):=ahZ (show aO w2 w2.drew from below_drewN (Below.refl _ _) 1)
 go_wp2_with fail
 apply En 12 [6,7,8,9,11] (Li w2 x.ss n0 E0 P0)
 case hm=>kernel_rfl
 case hB=>kernel_rfl
 case hp=>kernel_rfl
 case hI=>exact HI.out
 simp only [List.take_succ_cons,List.take_zero,List.drop_succ_cons,List.drop_zero]
 repeat (apply dw;(next=>rfl);(next=>(intro b W hW K hK;have hb:=Li.calm hW;have y0:=hb.cell c0;have y1:=hb.cell c1;have y2:=hb.cell c2;have y3:=hb.cell c3;have y4:=hb.cell c4;have y5:=hb.cell c5;have y6:=hb.cell c6;have y7:=hb.cell c7;have y8:=hb.cell c8;have y9:=hb.cell c9;have JZ:=hb.cell c10;go_simp;first | exact ⟨hW,hK⟩ | exact hK));(next=>exact ⟨_,HI.out⟩);(try go_simp))
 apply dM (s:=λ_=>True)
 case hk=>rfl
 case hne=>exact ⟨undef,trivial⟩
 case hw=>rfl
 case h =>
  intro W hW
  have hb : Below w2.heap.size w2 W:=hW
  have sn:=Le C c { x with cs:=cs2 } S W (yT.out.below hb)
  clear hW
  go_simp
  refine sn.mono ?_
  rintro e w3 ⟨v,ks,rfl,hO,hm,hB⟩
  first | refine ⟨_,rfl,?_⟩ | refine ⟨_,rfl,trivial,?_⟩
  exact ⟨hb.trans (hB.mono hb.size),ks,⟨VL hO.row hb.size,λk hk=>⟨aK.base (hO.ents k hk).1 hb.size,(hO.ents k hk).2⟩⟩,hm⟩
 intro v1 _
 apply dM (s:=λu=>∃ s cp,u = .tuple #[.slice s n0 cp,.int .i64 E0])
 case hk=>rfl
 case hne=>exact ⟨_,none,0,rfl⟩
 case hw=>rfl
 case h =>
  intro W hW
  obtain ⟨hb,ks,hO,hm⟩:=hW
  obtain ⟨a,cp,rfl,hS,_,_⟩:=hO.ND
  have hl : ks.length <= 1000:=by have:=congrArg List.length hm;rw [List.length_map] at this;have:=aeQ.out;omega
  have ps:=HPS.out a cp ks hm hl W hS
  have HCB : Hid (aO w2 W):=ahZ hb
  clear hb hO hS hm hl
  unfold qA at ps
  go_simp
  refine ps.mono ?_
  rintro e w3 ⟨s,cp2,rfl,Xb,hB⟩
  refine ⟨_,rfl,by first | exact ⟨s,cp2,rfl⟩ | simp,?_⟩
  exact ⟨Below.trans HCB.out (hB.mono (Below.size HCB.out)),s,cp2,rfl,Xb⟩
 intro v2 hv2
 obtain ⟨s2,cp2,rfl⟩:=hv2
 try go_simp
 apply dM (s:=λu=>∃ s cp,u = .tuple #[.slice s n0 cp,.int .i64 E0])
 case hk=>rfl
 case hne=>exact ⟨_,none,0,rfl⟩
 case hw=>rfl
 case h =>
  intro W hW
  have HW:=ahZ hW
  clear hW
  go_simp
  first | exact HW.out | exact ⟨⟨_,_,rfl⟩,HW.out⟩ | exact ⟨by simp,HW.out⟩
 intro v3 hv3
 obtain ⟨s3,cp3,rfl⟩:=hv3
 try go_simp
 apply dM (s:=λu=>∃ s cp,u = .slice s n0 cp)
 case hk=>rfl
 case hne=>exact ⟨_,none,0,rfl⟩
 case hw=>rfl
 case h =>
  intro W hW
  obtain ⟨hb,s',cp',he,hp⟩:=hW
  have HW : Hid (Li w2 x.ss n0 E0 P0 [undef,undef,undef,.slice s3 n0 cp3] W):=ahZ (by
   injection he with he
   have h2:=congrArg (λq : Array Value=>q[0]?) he
   simp at h2
   obtain ⟨h3,h4⟩:=h2
   exact ⟨hb,s3,cp3,rfl,by rw [h3];exact hp⟩)
  clear hb he hp
  go_simp
  first | exact HW.out | exact ⟨⟨_,_,rfl⟩,HW.out⟩ | exact ⟨by simp,HW.out⟩
 intro v4 hv4
 obtain ⟨s4,cp4,rfl⟩:=hv4
 try go_simp
 repeat (apply dw;(next=>rfl);(next=>(intro b W hW K hK;have hb:=Li.calm hW;have y0:=hb.cell c0;have y1:=hb.cell c1;have y2:=hb.cell c2;have y3:=hb.cell c3;have y4:=hb.cell c4;have y5:=hb.cell c5;have y6:=hb.cell c6;have y7:=hb.cell c7;have y8:=hb.cell c8;have y9:=hb.cell c9;have JZ:=hb.cell c10;go_simp;first | exact ⟨hW,hK⟩ | exact hK));(next=>exact ⟨_,HI.out⟩);(try go_simp))
 apply dM (s:=λu=>∃ s cp,u = .slice s n0 cp)
 case hk=>rfl
 case hne=>exact ⟨_,none,0,rfl⟩
 case hw=>rfl
 case h =>
  intro W hW
  have HW:=ahZ hW
  clear hW
  go_simp
  first | exact HW.out | exact ⟨⟨_,_,rfl⟩,HW.out⟩ | exact ⟨by simp,HW.out⟩
 intro v5 hv5
 refine kD ?_
 intro W hW
 obtain ⟨hb,s5,Xc,rfl,Xb⟩:=hW
 have aV : Below w2.heap.size w2 W:=hb
 have hX:=gy.out.below aV gy.out.lt
 have f0:=hX.free 0
 have f1:=hX.free 1
 have f2:=hX.free 2
 have x0:=hX.cell 0
 have x1:=hX.cell 1
 have x2:=hX.cell 2
 simp at x0 x1 x2
 have dU:=jf (v0:=.bool true) (v1:=.int .i64 cs2.au) (v2:=.slice s5 n0 Xc) hX
 obtain ⟨u3,hu3⟩ : ∃ u,((W.setCell ⟨w.heap.size,0,none⟩ (.bool true)).setCell ⟨w.heap.size,1,none⟩ (.int .i64 cs2.au)).setCell ⟨w.heap.size,2,none⟩ (.slice s5 n0 Xc) = u:=⟨_,rfl⟩
 have IW : Only (λk=>k = w.heap.size) W u3:=by rw [← hu3];exact sw (Only.refl _ _) (.inl rfl)
 rw [hu3] at dU
 have HF : Hid (fO u3 s5 n0 P0 /\ fZ u3 C c { x with cs:=cs2 } S /\ Only (λk=>S k /\ oD w k) w u3):=ahZ ⟨TL Xb hX rfl IW,(yT.out.below aV).only IW (λk hk e=>HNS.out (e ▸ hk)),(bT.out.fu aV).bQ IW (λi hi e=>by omega)⟩
 have g0:=dU.cell 0
 have g1:=dU.cell 1
 have g2:=dU.cell 2
 simp at g0 g1 g2
 clear hb Xb aV hX dU IW c0 c1 c2 c3 c4 c5 c6 c7 c8 c9 c10
 go_wp2_with fail
 exact bodyPost_ret (v:=.agg #[.bool true,.int .i64 cs2.au,.slice s5 n0 Xc]) (by simp [results,Tryz.results15,go_sem,g0,g1,g2]) rfl ⟨s5,Xc,rfl,HF.out⟩
end Go.Proofs.YtklkooeimkedgaaGreat
namespace Go.Proofs.YtklkooeimkedgaaGreat
open Go.RowKit
def lQ (x : ay) : Rec:=⟨0,x.id,x.px,x.py,x.pz,x.vx,x.vy,x.vz,x.aI⟩
theorem FX : ∀ (es : List ay) (out : List Rec),(∀ e ∈ es,e.gen = 0) -> fB [] out es = some ([],out ++ es.map lQ)
 | [],out,_=>by simp [fB]
 | x :: es,out,h=>by
  have h1 : lV [] out x = some ([],out ++ [lQ x]):=by
   unfold lV
   simp only [eF,List.find?_nil]
   rw [if_pos (h x (List.mem_cons_self ..))]
   rfl
  rw [fB,h1]
  simp only
  rw [FX es _ (λe he=>h e (List.mem_cons_of_mem _ he))]
  simp
theorem yg : ∀ (es : List ay) (out : List Rec),¬ (∀ e ∈ es,e.gen = 0) -> fB [] out es = none
 | [],out,h=>absurd (by simp) h
 | x :: es,out,h=>by
  by_cases hx : x.gen = 0
  ·have h1 : lV [] out x = some ([],out ++ [lQ x]):=by
    unfold lV
    simp only [eF,List.find?_nil]
    rw [if_pos hx]
    rfl
   rw [fB,h1]
   exact yg es _ (λhh=>h (λe he=>by
    rcases List.mem_cons.1 he with rfl | he
    ·exact hx
    ·exact hh e he))
  ·have h1 : lV [] out x = none:=by
    unfold lV
    simp only [eF,List.find?_nil]
    rw [if_neg hx]
   rw [fB,h1]
theorem VN (es : List ay) : (es.map lQ).map (·.id) = es.map (·.id):=by rw [List.map_map];rfl
theorem Py {es : List ay} (h : es.Pairwise (λa b=>a.id < b.id)) : lW ([],es.map lQ) = es.map lQ:=by
 unfold lW
 simp only [List.map_nil,List.append_nil]
 refine (Nv (List.Perm.refl _) ?_ ?_).symm
 ·exact List.pairwise_map.2 (h.imp (λh=>by show _ <= _;exact Int.le_of_lt h))
 ·rw [VN];exact zW h
theorem Ey {s : Sn} (h : pI s) (hg : ∀ e ∈ s.ents,e.gen = 0) : eH s = (⟨s.tick,s.time,-1,s.ents.map lQ⟩,0):=by
 unfold eH
 rw [if_neg (by rw [jL.2 h];simp),FX _ _ hg]
 simp only [List.nil_append]
 rw [Py h.up]
theorem FY : ∀ (es l : List ay),(∀ e ∈ es,e.gen = 0) -> ((l ++ es).map (·.id)).Nodup -> kR l (es.map lQ) = some (l ++ es)
 | [],l,_,_=>by simp [kR]
 | x :: es,l,hg,hn=>by
  have hx : eF l x.id = none:=by
   unfold eF
   rw [List.find?_eq_none]
   intro e he hh
   have heq : e.id = x.id:=by simpa using hh
   rw [List.map_append,List.map_cons] at hn
   exact (List.nodup_append.1 hn).2.2 e.id (List.mem_map_of_mem he) x.id (List.mem_cons_self ..) heq
  have h1 : je l (lQ x) = some (l ++ [x]):=by
   have hp : fJ l ⟨x.id,x.px,x.py,x.pz,x.vx,x.vy,x.vz,x.aI,0⟩ = l ++ [x]:=by
    unfold fJ
    simp only [hx]
    have:=hg x (List.mem_cons_self ..)
    obtain ⟨a,b,c,d,e,f,g,i,j⟩:=x
    simp only at this
    subst this
    simp
   unfold je
   show (match eF l x.id with | some y=>_ | none=>_) = _
   rw [hx]
   simp only [lQ]
   rw [if_pos trivial,hp]
  rw [List.map_cons,kR,h1]
  simp only
  rw [FY es (l ++ [x]) (λe he=>hg e (List.mem_cons_of_mem _ he)) (by simpa using hn)]
  simp
theorem TN {es : List ay} (h : es.Pairwise (λa b=>a.id < b.id)) : uQ es = es :=
 (Gs (List.Perm.refl _) (h.imp (λh=>Int.le_of_lt h)) (zW h)).symm
def fM (s : Sn) : List Int:=if jk (eH s).1 = 0 then rU (eH s).1 else []
structure gV (s : Sn) : Prop where
 good : pI s
 gen : ∀ e ∈ s.ents,e.gen = 0
 ok : ∀ e ∈ s.ents,e.Ok
 wr : jk (eH s).1 = 0
theorem gV.rd {s : Sn} (h : gV s) : bF (fM s) = (⟨s.tick,s.time,-1,s.ents.map lQ⟩,0):=by
 have hw:=h.wr
 unfold fM
 rw [if_pos hw]
 rw [Ey h.good h.gen] at hw ⊢
 refine XQ hw (λr hr=>?_)
 obtain ⟨e,he,rfl⟩:=List.mem_map.1 hr
 have ho:=h.ok e he
 exact ⟨⟨bq,ho.id,ho.px,ho.py,ho.pz,ho.vx,ho.vy,ho.vz,ho.aI⟩,by simp [lQ]⟩
theorem gV.ap {s : Sn} (h : gV s) (a : Sn) : jr a ⟨s.tick,s.time,-1,s.ents.map lQ⟩ = (s,0):=by
 have hw:=h.wr
 rw [Ey h.good h.gen] at hw
 have hb : dF ⟨s.tick,s.time,-1,s.ents.map lQ⟩ = 0:=by
  unfold jk at hw
  split at hw
  ·rename_i hh;exact absurd hw hh
  ·rename_i hh;exact Decidable.of_not_not hh
 unfold jr
 rw [if_neg (by simpa using hb),if_neg (by simp)]
 unfold fE
 simp only
 rw [FY s.ents [] h.gen (by simpa using zW h.good.up)]
 simp only [List.nil_append]
 rw [if_neg (by have:=h.good.len;omega),TN h.good.up]
theorem gV.snap {s : Sn} (h : gV s) (most : Int) (r : Rg) : gu most r (fM s) =
  if dY (r.ss.map fC) s.tick = true then (eT,12) else if gQ (r.ss.map fC) most r.floor r.gone s.tick = true then (eT,13) else (s,if fQ (r.ss.map fC) s.tick s.time = false then 16 else 0):=by
 unfold gu eG
 rw [h.rd]
 simp only [ne_eq,not_true_eq_false,if_false]
 rw [h.ap]
 unfold sD
 by_cases h1 : dY (r.ss.map fC) s.tick = true
 ·simp [h1]
 ·by_cases h2 : gQ (r.ss.map fC) most r.floor r.gone s.tick = true
  ·simp [h1,h2]
  ·simp [h1,h2]
theorem VO {ss : List Sn} {key : Int} (h : ∀ s ∈ ss,s.tick < key) : dz (ss.map fC) key = ss.length:=by
 have:=KN (l:=ss.map fC) (key:=key) (λk hk=>by
  obtain ⟨s,hs,rfl⟩:=List.mem_map.1 hk
  exact h s hs)
 rwa [List.length_map] at this
theorem Ll {ss : List Sn} {key : Int} (h : ∀ s ∈ ss,s.tick < key) : dY (ss.map fC) key = false :=
 Vh (λk hk=>by
  obtain ⟨s,hs,rfl⟩:=List.mem_map.1 hk
  exact h s hs)
theorem gV.VP {s : Sn} (h : gV s) {most : Int} {ss : List Sn} {floor : Int} (h1 : ∀ x ∈ ss,x.tick < s.tick) (h2 : ∀ x ∈ ss,x.time < s.time) (hl : (ss.length : Int) < most) : gu most ⟨ss,floor,false⟩ (fM s) = (s,0):=by
 rw [h.snap]
 have hu : dZ (ss.map fC) s.tick = ss.length:=by unfold dZ;rw [Ll h1,VO h1];simp
 have hs : gQ (ss.map fC) most floor false s.tick = false:=by
  unfold gQ
  have : ¬ (ss.length : Int) = most:=by omega
  simp [this]
 have ht : fQ (ss.map fC) s.tick s.time = true:=by
  unfold fQ
  rw [hu]
  have a2 : fq (ss.map fC) (ss.length : Int) = none:=by
   unfold fq
   rw [if_neg (by omega)]
   exact List.getElem?_eq_none (by simp)
  rw [a2]
  simp only [qZ]
  by_cases hn : ss.length = 0
  ·have a1 : fq (ss.map fC) ((ss.length : Int) - 1) = none:=by unfold fq;rw [if_pos (by omega)]
   rw [a1];simp [qZ]
  ·have hi : ss.length - 1 < ss.length:=by omega
   have a1 : fq (ss.map fC) ((ss.length : Int) - 1) = some (fC ss[ss.length - 1]):=by
    unfold fq
    rw [if_neg (by omega),show ((ss.length : Int) - 1).toNat = ss.length - 1 by omega,List.getElem?_map,List.getElem?_eq_getElem hi];rfl
   rw [a1]
   have:=h2 _ (List.getElem_mem hi)
   simp [qZ,mW,fC,this]
 simp only
 rw [Ll h1,hs,ht]
 simp
theorem NK {c : aS} {x : kG} {s : Sn} (hc : iU c = 0) (h : gV s) (hg : x.gone = false) (h1 : ∀ y ∈ x.ss,y.tick < s.tick) (h2 : ∀ y ∈ x.ss,y.time < s.time) (hl : (x.ss.length : Int) < c.ring) (loc : Int) :
  Eu c x (fM s) = 0 /\ Lc c x (fM s) /\ Cn c x loc (fM s) = ⟨x.ss ++ [s],x.floor,false,rD c x.cs (aN loc s.time)⟩:=by
 have hs : gu c.ring x.rg (fM s) = (s,0):=by
  have:=h.VP (most:=c.ring) (ss:=x.ss) (floor:=x.floor) h1 h2 hl
  rw [← hg] at this
  exact this
 refine ⟨by unfold Eu;rw [hs],Ab hc (Int.le_of_lt hl),?_⟩
 unfold Cn
 rw [hs,if_pos rfl]
 have hin : fF x.ss s = x.ss ++ [s]:=KV h1
 have hle : ((fF x.ss s).length : Int) <= c.ring:=by rw [hin];simp;omega
 unfold jK
 simp only [kG.rg]
 rw [if_pos hle,hin,hg]
theorem Cu {tick time : Int} {e : ay} (h1 : 0 <= tick /\ tick <= 4294967295) (h2 : -2305843009213693952 <= time /\ time <= 2305843009213693952) (hi : 0 <= e.id /\ e.id <= 65535) (ho : e.Ok) (hg : e.gen = 0) : gV ⟨tick,time,[e]⟩:=by
 have good : pI ⟨tick,time,[e]⟩:=⟨h1,h2,by simp,λx hx=>by simp at hx;subst hx;exact hi,List.pairwise_singleton _ _⟩
 have gen : ∀ x ∈ (⟨tick,time,[e]⟩ : Sn).ents,x.gen = 0:=λx hx=>by simp at hx;subst hx;exact hg
 refine ⟨good,gen,λx hx=>by simp at hx;subst hx;exact ho,?_⟩
 rw [Ey good gen]
 have hr : (lQ e).Ok:=⟨bq,ho.id,ho.px,ho.py,ho.pz,ho.vx,ho.vy,ho.vz,ho.aI⟩
 have hw : iq (lQ e) (-1) = 0:=by
  have hc : dI (lQ e) = 0:=by
   unfold dI lQ
   simp only
   rw [if_neg (by omega),if_neg (by omega),if_neg (by simp)]
  unfold iq
  rw [if_neg (by rw [hc];simp),if_neg (by omega),if_neg (by simp [lQ];omega)]
 have hh : iB tick time (-1) 1 = 0:=by
  unfold iB
  rw [if_neg (by omega),if_neg (by omega),if_neg (by omega)]
 have hb : dF ⟨tick,time,-1,[lQ e]⟩ = 0:=by
  unfold dF
  simp only [List.length_singleton]
  rw [if_neg (by simpa using hh)]
  unfold lU
  rw [if_neg (by rw [hw];simp)]
  rfl
 have hlen : (jq ⟨tick,time,-1,[lQ e]⟩).length <= 124:=by
  unfold jq
  have a:=Hr tick time (-1) 1 hh
  have b:=Fg hr hw
  rw [List.length_append]
  simp only [List.length_singleton,kQ,List.append_nil]
  omega
 simp only [List.map_cons,List.map_nil]
 unfold jk
 rw [if_neg (by rw [hb];simp),if_neg (by omega)]
end Go.Proofs.YtklkooeimkedgaaGreat
namespace Go.Proofs.YtklkooeimkedgaaGreat
open Go.RowKit
structure agk (ss : List Sn) : Prop where
 good : ∀ s ∈ ss,pI s
 time : ss.Pairwise (λa b=>a.time < b.time)
section
variable {ss : List Sn}
end
end Go.Proofs.YtklkooeimkedgaaGreat
namespace Go.Proofs.YtklkooeimkedgaaGreat
open Go.RowKit
def tN (ss : List Sn) : Prop:=ss.Pairwise (λa b=>a.tick < b.tick)
theorem Yp {y : Sn} {ss : List Sn} {x : Sn} (h : y.tick < x.tick) : fF (y :: ss) x = y :: fF ss x:=by
 unfold fF
 rw [List.takeWhile_cons_of_pos (by simpa using h),List.dropWhile_cons_of_pos (by simpa using h)];rfl
theorem Yq {y : Sn} {ss : List Sn} {x : Sn} (h : ¬ y.tick < x.tick) : fF (y :: ss) x = x :: y :: ss:=by
 unfold fF
 rw [List.takeWhile_cons_of_neg (by simpa using h),List.dropWhile_cons_of_neg (by simpa using h)];rfl
theorem VQ {ss : List Sn} {x s : Sn} (h : s ∈ fF ss x) : s = x \/ s ∈ ss:=by
 unfold fF at h
 rcases List.mem_append.1 h with h | h
 ·exact .inr ((List.takeWhile_sublist _).mem h)
 ·rcases List.mem_cons.1 h with h | h
  ·exact .inl h
  ·exact .inr ((List.dropWhile_sublist _).mem h)
theorem TP (ss : List Sn) (x : Sn) : (fF ss x).Perm (x :: ss):=by
 have h:=List.perm_middle (a:=x) (l₁:=ss.takeWhile (λs=>decide (s.tick < x.tick))) (l₂:=ss.dropWhile (λs=>decide (s.tick < x.tick)))
 rw [List.takeWhile_append_dropWhile] at h
 exact h
theorem NM : ∀ {ss : List Sn} {x : Sn},tN ss -> (∀ y ∈ ss,y.tick ≠ x.tick) -> tN (fF ss x)
 | [],x,_,_=>List.pairwise_singleton _ _
 | y :: ss,x,hu,hh=>by
  have hp:=List.pairwise_cons.1 hu
  by_cases hy : y.tick < x.tick
  ·rw [Yp hy]
   refine List.pairwise_cons.2 ⟨λz hz=>?_,NM hp.2 (λz hz=>hh z (List.mem_cons_of_mem _ hz))⟩
   rcases VQ hz with rfl | hz
   ·exact hy
   ·exact hp.1 z hz
  ·rw [Yq hy]
   have hne:=hh y (List.mem_cons_self ..)
   refine List.pairwise_cons.2 ⟨λz hz=>?_,hu⟩
   rcases List.mem_cons.1 hz with rfl | hz
   ·omega
   ·have:=hp.1 z hz;omega
theorem DV : ∀ (xs ys : List Sn),xs.Perm ys -> tN xs -> tN ys -> xs = ys
 | [],ys,hp,_,_=>by simpa using hp.symm
 | x :: xs,[],hp,_,_=>by simp at hp
 | x :: xs,y :: ys,hp,hx,hy=>by
  have a1:=List.pairwise_cons.1 hx
  have a2:=List.pairwise_cons.1 hy
  have hxy : x = y:=by
   have h1 : x ∈ y :: ys:=hp.subset (List.mem_cons_self ..)
   have h2 : y ∈ x :: xs:=hp.symm.subset (List.mem_cons_self ..)
   rcases List.mem_cons.1 h1 with h1 | h1
   ·exact h1
   rcases List.mem_cons.1 h2 with h2 | h2
   ·exact h2.symm
   have b1:=a2.1 x h1
   have b2:=a1.1 y h2
   omega
  subst hxy
  rw [DV xs ys hp.cons_inv a1.2 a2.2]
theorem TQ {l : List aG} {key : Int} (h : ∀ k ∈ l,k.key ≠ key) : dY l key = false:=by
 unfold dY
 cases hx : l[dz l key]? with
 | none=>rfl
 | some k=>exact beq_eq_false_iff_ne.2 (h k (List.mem_of_getElem? hx))
theorem Pz {ss : List Sn} (h : tN ss) : pE (ss.map fC):=List.pairwise_map.2 h
theorem Yr {c : aS} {x : kG} {s : Sn} (hc : iU c = 0) (h : gV s) (hg : x.gone = false) (hup : tN x.ss) (h1 : ∀ y ∈ x.ss,(y.tick < s.tick /\ y.time < s.time) \/ (s.tick < y.tick /\ s.time < y.time)) (hl : (x.ss.length : Int) < c.ring) (loc : Int) :
  Eu c x (fM s) = 0 /\ Cn c x loc (fM s) = ⟨fF x.ss s,x.floor,false,rD c x.cs (aN loc s.time)⟩:=by
 have hk:=Pz hup
 have hhas : dY (x.ss.map fC) s.tick = false:=TQ (λk hk=>by
  obtain ⟨y,hy,rfl⟩:=List.mem_map.1 hk
  rcases h1 y hy with h | h
  ·exact Int.ne_of_lt h.1
  ·exact Int.ne_of_gt h.1)
 have hst : gQ (x.ss.map fC) c.ring x.floor x.gone s.tick = false:=by
  unfold gQ
  have : ¬ (x.ss.length : Int) = c.ring:=by omega
  simp [hg,this]
 have hun : dZ (x.ss.map fC) s.tick = dz (x.ss.map fC) s.tick:=by unfold dZ;rw [hhas];rfl
 have hti : fQ (x.ss.map fC) s.tick s.time = true:=by
  unfold fQ
  rw [hun,Bool.and_eq_true]
  constructor
  ·by_cases h0 : dz (x.ss.map fC) s.tick = 0
   ·have a1 : fq (x.ss.map fC) ((dz (x.ss.map fC) s.tick : Nat) - 1) = none:=by unfold fq;rw [if_pos (by omega)]
    rw [a1];simp [qZ]
   ·have hle:=vI (x.ss.map fC) s.tick
    have hi : dz (x.ss.map fC) s.tick - 1 < (x.ss.map fC).length:=by omega
    have a1 : fq (x.ss.map fC) ((dz (x.ss.map fC) s.tick : Nat) - 1) = some ((x.ss.map fC)[dz (x.ss.map fC) s.tick - 1]):=by
     unfold fq
     rw [if_neg (by omega),show ((dz (x.ss.map fC) s.tick : Nat) - 1 : Int).toNat = dz (x.ss.map fC) s.tick - 1 by omega,List.getElem?_eq_getElem hi]
    have hlt:=(vJ (key:=s.tick) hk (List.getElem?_eq_getElem hi)).1 (by omega)
    rw [a1]
    obtain ⟨y,hy,he⟩:=List.mem_map.1 (List.getElem_mem hi)
    rw [← he] at hlt ⊢
    rcases h1 y hy with h | h
    ·simp [qZ,mW,fC,h.2]
    ·have : y.tick < s.tick:=hlt
     omega
  ·cases hx : fq (x.ss.map fC) ((dz (x.ss.map fC) s.tick : Nat) : Int) with
   | none=>simp [qZ]
   | some k =>
    have hx' : (x.ss.map fC)[dz (x.ss.map fC) s.tick]? = some k:=by
     unfold fq at hx
     rw [if_neg (by omega)] at hx
     simpa using hx
    have hnl : ¬ k.key < s.tick:=λhh=>Nat.lt_irrefl _ ((vJ (key:=s.tick) hk hx').2 hh)
    obtain ⟨y,hy,he⟩:=List.mem_map.1 (List.mem_of_getElem? hx')
    subst he
    rcases h1 y hy with h | h
    ·exact absurd h.1 hnl
    ·simp [qZ,mW,fC,h.2]
 have hs : gu c.ring x.rg (fM s) = (s,0):=by
  rw [h.snap]
  simp only [kG.rg]
  rw [hhas,hst,hti]
  simp
 refine ⟨by unfold Eu;rw [hs],?_⟩
 unfold Cn
 rw [hs,if_pos rfl]
 have hle : ((fF x.ss s).length : Int) <= c.ring:=by rw [Aa];omega
 unfold jK
 simp only [kG.rg]
 rw [if_pos hle,hg]
structure yh (own : List Sn) : Prop where
 tell : ∀ s ∈ own,gV s
 up : own.Pairwise (λa b=>a.tick < b.tick /\ a.time < b.time)
 len : own.length <= 8
theorem yh.two {own : List Sn} (h : yh own) {a b : Sn} (ha : a ∈ own) (hb : b ∈ own) (hne : a.tick ≠ b.tick) : (a.tick < b.tick /\ a.time < b.time) \/ (b.tick < a.tick /\ b.time < a.time):=by
 obtain ⟨i,hi,rfl⟩:=List.mem_iff_getElem.1 ha
 obtain ⟨j,hj,rfl⟩:=List.mem_iff_getElem.1 hb
 have hp:=List.pairwise_iff_getElem.1 h.up
 rcases Nat.lt_trichotomy i j with hij | rfl | hij
 ·exact .inl (hp i j hi hj hij)
 ·exact absurd rfl hne
 ·exact .inr (hp j i hj hi hij)
theorem yh.tN {own : List Sn} (h : yh own) : tN own:=h.up.imp (λh=>h.1)
theorem FZ {ss : List Sn} (h : tN ss) : (ss.map (·.tick)).Nodup:=List.pairwise_map.2 (h.imp (λh=>Int.ne_of_lt h))
def pO (ts : List Sn) (i : Nat) : List Sn:=(ts.take i).foldl fF []
theorem IX {ts : List Sn} {i : Nat} {s : Sn} (h : ts[i]? = some s) : pO ts (i + 1) = fF (pO ts i) s:=by
 unfold pO;rw [List.take_add_one,h,List.foldl_append];rfl
theorem GI {ts own : List Sn} (hp : ts.Perm own) (ho : yh own) : ∀ i,i <= ts.length -> (pO ts i).Perm (ts.take i) /\ tN (pO ts i)
 | 0,_=>⟨by simp [pO],List.Pairwise.nil⟩
 | i + 1,hi=>by
  obtain ⟨h1,h2⟩:=GI hp ho i (by omega)
  have hs : ts[i]? = some ts[i]:=List.getElem?_eq_getElem (by omega)
  have hnd : (ts.map (·.tick)).Nodup:=(hp.map _).nodup_iff.2 (FZ ho.tN)
  have hne : ∀ y ∈ pO ts i,y.tick ≠ (ts[i]).tick:=λy hy=>by
   have hy':=h1.subset hy
   obtain ⟨j,hj,rfl⟩:=List.mem_iff_getElem.1 hy'
   rw [List.getElem_take]
   rw [List.length_take] at hj
   intro e
   have:=(List.pairwise_iff_getElem.1 hnd) j i (by rw [List.length_map];omega) (by rw [List.length_map];omega) (by omega)
   simp only [List.getElem_map] at this
   exact this e
  rw [IX hs]
  refine ⟨?_,NM h2 hne⟩
  refine (TP _ _).trans ?_
  rw [List.take_add_one,hs]
  exact ((List.Perm.cons _ h1).trans (List.perm_append_singleton _ _).symm)
theorem Lm {ts own : List Sn} (hp : ts.Perm own) (ho : yh own) : pO ts own.length = own:=by
 have hl:=hp.length_eq
 obtain ⟨h1,h2⟩:=GI hp ho ts.length (Nat.le_refl _)
 rw [← hl]
 rw [List.take_length] at h1
 exact DV _ _ (h1.trans hp) h2 ho.tN
theorem Lp {c : aS} (hc : iU c = 0) (hr : c.ring = 8) {ts own : List Sn} (hp : ts.Perm own) (ho : yh own) {i : Nat} {s : Sn} (hs : ts[i]? = some s) (cs : CS) :
  Eu c ⟨pO ts i,0,false,cs⟩ (fM s) = 0 /\ Cn c ⟨pO ts i,0,false,cs⟩ 0 (fM s) = ⟨pO ts (i + 1),0,false,rD c cs (aN 0 s.time)⟩:=by
 have hi : i < ts.length:=(List.getElem?_eq_some_iff.1 hs).1
 obtain ⟨h1,h2⟩:=GI hp ho i (by omega)
 have hl:=hp.length_eq
 have hnd : (ts.map (·.tick)).Nodup:=(hp.map _).nodup_iff.2 (FZ ho.tN)
 have hsm : s ∈ own:=hp.subset (List.mem_of_getElem? hs)
 have h:=Yr (c:=c) (x:=⟨pO ts i,0,false,cs⟩) hc (ho.tell s hsm) rfl h2 (λy hy=>by
  have hy':=h1.subset hy
  refine ho.two (hp.subset (List.mem_of_mem_take hy')) hsm ?_
  obtain ⟨j,hj,rfl⟩:=List.mem_iff_getElem.1 hy'
  rw [List.getElem_take]
  rw [List.length_take] at hj
  intro e
  have:=(List.pairwise_iff_getElem.1 hnd) j i (by rw [List.length_map];omega) (by rw [List.length_map];omega) (by omega)
  simp only [List.getElem_map] at this
  have e2 : ts[i] = s:=by rw [List.getElem?_eq_getElem hi] at hs;exact Option.some.inj hs
  rw [e2] at this
  exact this e) (by show ((pO ts i).length : Int) < c.ring;rw [h1.length_eq,List.length_take,hr];have:=ho.len;omega) 0
 refine ⟨h.1,?_⟩
 rw [h.2,IX hs]
def okO (own : List Sn) (s : Sn) : Bool:=decide ((eH s).2 = 0) && decide (jk (eH s).1 = 0) && own.getLast?.elim true (λp=>decide (p.tick < s.tick) && decide (p.time < s.time))
def mO (own : List Sn) (s : Sn) : List Sn:=if okO own s = true then own ++ [s] else own
def yL (ss : List Sn) : List Sn:=ss.foldl mO []
theorem F3 {s : Sn} (h : (eH s).2 = 0) : pI s /\ ∀ e ∈ s.ents,e.gen = 0:=by
 unfold eH at h
 split at h
 ·rename_i hn;exact absurd h hn
 ·rename_i hn
  refine ⟨jL.1 (Decidable.of_not_not hn),?_⟩
  by_cases hg : ∀ e ∈ s.ents,e.gen = 0
  ·exact hg
  ·rw [yg _ _ hg] at h
   cases h
theorem Mi {s : Sn} (h1 : (eH s).2 = 0) (h2 : jk (eH s).1 = 0) (hok : ∀ e ∈ s.ents,e.Ok) : gV s:=⟨(F3 h1).1,(F3 h1).2,hok,h2⟩
theorem VR {s : Sn} (h : jk (eH s).1 = 0) : (fM s).length ≠ 0:=by
 unfold fM
 rw [if_pos h]
 unfold rU
 rw [List.length_append]
 have hz : ∀ n,(uT n).length = 4:=λn=>rfl
 rw [hz];omega
structure C9 (own : List Sn) : Prop where
 tell : ∀ s ∈ own,gV s
 up : own.Pairwise (λa b=>a.tick < b.tick /\ a.time < b.time)
theorem C9.add {own : List Sn} {s : Sn} (h : C9 own) (hok : ∀ e ∈ s.ents,e.Ok) : C9 (mO own s):=by
 unfold mO
 split
 ·rename_i hh
  unfold okO at hh
  simp only [Bool.and_eq_true,decide_eq_true_eq] at hh
  obtain ⟨⟨h1,h2⟩,h3⟩:=hh
  refine ⟨λx hx=>?_,List.pairwise_append.2 ⟨h.up,List.pairwise_singleton _ _,λa ha b hb=>?_⟩⟩
  ·rcases List.mem_append.1 hx with hx | hx
   ·exact h.tell x hx
   ·simp at hx;subst hx;exact Mi h1 h2 hok
  ·simp at hb;subst hb
   cases hl : own.getLast? with
   | none=>rw [List.getLast?_eq_none_iff] at hl;rw [hl] at ha;cases ha
   | some p =>
    rw [hl] at h3
    simp only [Option.elim,Bool.and_eq_true,decide_eq_true_eq] at h3
    obtain ⟨ys,rfl⟩:=List.getLast?_eq_some_iff.1 hl
    rcases List.mem_append.1 ha with ha | ha
    ·have:=(List.pairwise_append.1 h.up).2.2 a ha p (by simp)
     exact ⟨by omega,by omega⟩
    ·simp at ha;subst ha;exact h3
 ·exact h
theorem TS {ss : List Sn} {k : Nat} {s : Sn} (h : ss[k]? = some s) : yL (ss.take (k + 1)) = mO (yL (ss.take k)) s:=by
 unfold yL;rw [List.take_add_one,h,List.foldl_append];rfl
theorem Yt : ∀ (ss : List Sn),(∀ s ∈ ss,∀ e ∈ s.ents,e.Ok) -> C9 (yL ss) /\ (yL ss).length <= ss.length:=by
 intro ss h
 have key : ∀ (ss own : List Sn),(∀ s ∈ ss,∀ e ∈ s.ents,e.Ok) -> C9 own -> C9 (ss.foldl mO own) /\ (ss.foldl mO own).length <= own.length + ss.length:=by
  intro ss
  induction ss with
  | nil=>intro own _ h;exact ⟨h,by simp⟩
  | cons s ss ih =>
   intro own hs h
   have:=ih (mO own s) (λx hx=>hs x (List.mem_cons_of_mem _ hx)) (h.add (hs s (List.mem_cons_self ..)))
   refine ⟨this.1,Nat.le_trans this.2 ?_⟩
   have : (mO own s).length <= own.length + 1:=by unfold mO;split <;> simp
   simp only [List.length_cons];omega
 have:=key ss [] h ⟨by simp,List.Pairwise.nil⟩
 exact ⟨this.1,by have h2:=this.2;unfold yL;simpa using h2⟩
theorem Yu {c : aS} {au : Int} {ss : List Sn} (h : ∀ s ∈ ss,s.ents.length <= 64) : tL c au ss <= 64:=by
 unfold tL FW
 split
 ·unfold NJ
  simp only [List.getD]
  cases hx : ss[dD (Cq ss) au ss.length]? with
  | none=>simp [eT]
  | some s=>exact h s (List.mem_of_getElem? hx)
 ·omega
end Go.Proofs.YtklkooeimkedgaaGreat
namespace Go.Proofs.YtklkooeimkedgaaGreat
open Go.RowKit
set_option maxRecDepth 100000
def aU : aS:=⟨8,4,0,0,0,0,0,1,1,5,false⟩
theorem jM : aU.Ok:=⟨⟨by decide,by decide⟩,⟨by decide,by decide⟩,⟨by decide,by decide⟩,⟨by decide,by decide⟩,⟨by decide,by decide⟩,⟨by decide,by decide⟩,⟨by decide,by decide⟩,⟨by decide,by decide⟩,⟨by decide,by decide⟩,⟨by decide,by decide⟩⟩
theorem fG : iU aU = 0:=by decide
theorem GJ (w : World) : Calls Tryz.prog 10 #[] w λe w'=>e = .returned (bE aU) /\ Below w.heap.size w w':=by
 have HB : Hid (Below w.heap.size w (w.alloc (.cells #[.int .i64 8,.int .i64 4,.int .i64 0,.int .i64 0,.int .i64 0,.int .i64 0,.int .i64 0,.int .i64 1,.int .i64 1,.int .i64 5,.bool false] 29))):=ahZ ((Below.refl _ _).alloc (Nat.le_refl _) _)
 go_enter Tryz.func10,Tryz.ntmps10
 go_wp2
 exact bodyPost_ret (v:=.agg #[.int .i64 8,.int .i64 4,.int .i64 0,.int .i64 0,.int .i64 0,.int .i64 0,.int .i64 0,.int .i64 1,.int .i64 1,.int .i64 5,.bool false]) (by simp [results,Tryz.results10,go_sem]) rfl ⟨rfl,HB.out⟩
set_option maxHeartbeats 1000000 in
theorem F4 (tick time : Int) (ht : aA time) (a : Option Addr) (cap : Nat) (es : List ay) (w : World) (hE : dH w a es) :
  Calls Tryz.prog 14 #[bC tick time a es.length cap] w λe w'=>∃ v,e = .returned v /\ bf w' w.heap.size v (fM ⟨tick,time,es⟩) /\ Below w.heap.size w w':=by
 have fl:=λW h=>Nw tick time a cap es W h
 have HT : Hid (aA (eH ⟨tick,time,es⟩).1.time):=ahZ (by
  unfold eH
  split
  ·exact bq
  ·split
   ·exact bq
   ·exact ht)
 have HFB : Hid (fM ⟨tick,time,es⟩ = if jk (eH ⟨tick,time,es⟩).1 = 0 then rU (eH ⟨tick,time,es⟩).1 else []):=ahZ rfl
 generalize fM ⟨tick,time,es⟩ = bs at *
 generalize (eH ⟨tick,time,es⟩).2 = er at *
 generalize (eH ⟨tick,time,es⟩).1 = g at *
 obtain ⟨w0,hw0⟩ : ∃ w0,w.alloc (.cells #[.int .i64 tick,.int .i64 time,.slice a es.length cap] 36) = w0:=⟨_,rfl⟩
 have hB0 : Below w.heap.size w w0:=by rw [← hw0];exact (Below.refl _ _).alloc (Nat.le_refl _) _
 have hX0 : ak w0 w.heap.size #[.int .i64 tick,.int .i64 time,.slice a es.length cap] 36:=by rw [← hw0];exact ak.new _ _ _
 have x0:=hX0.cell 0
 have x1:=hX0.cell 1
 have x2:=hX0.cell 2
 simp at x0 x1 x2
 have fl0:=fl w0 (hE.below hB0)
 have HB0:=ahZ hB0
 clear hE hB0 hX0 fl
 unfold bC at *
 go_enter Tryz.func14,Tryz.ntmps14
 go_wp2_with fail
 clear hw0
 refine fl0.mono ?_
 rintro e w1 ⟨v,rfl,hR,hb⟩
 clear fl0 x0 x1 x2
 obtain ⟨ra,rc,rfl,_,_⟩:=hR.recs
 obtain ⟨v1,hv1⟩ : ∃ v,w1.alloc (.cells #[.int .i64 0,.int .i64 0,.int .i64 0,.slice none 0 0] 39) = v:=⟨_,rfl⟩
 have xU : Below w1.heap.size w1 v1:=by rw [← hv1];exact (Below.refl _ _).alloc (Nat.le_refl _) _
 have aY : ak v1 w1.heap.size #[.int .i64 0,.int .i64 0,.int .i64 0,.slice none 0 0] 39:=by rw [← hv1];exact ak.new _ _ _
 have f0:=aY.free 0
 have f1:=aY.free 1
 have f2:=aY.free 2
 have f3:=aY.free 3
 have q0:=aY.cell 0
 have q1:=aY.cell 1
 have q2:=aY.cell 2
 have q3:=aY.cell 3
 simp at q0 q1 q2 q3
 have hG:=zP (v0:=.int .i64 g.tick) (v1:=.int .i64 g.time) (v2:=.int .i64 g.base) (v3:=.slice ra g.recs.length rc) aY
 have hb4:=zo (v0:=.int .i64 g.tick) (v1:=.int .i64 g.time) (v2:=.int .i64 g.base) (v3:=.slice ra g.recs.length rc) xU (Nat.le_refl _)
 obtain ⟨u0,hu0⟩ : ∃ u,((((v1.setCell ⟨w1.heap.size,0,none⟩ (.int .i64 g.tick)).setCell ⟨w1.heap.size,1,none⟩ (.int .i64 g.time)).setCell ⟨w1.heap.size,2,none⟩ (.int .i64 g.base)).setCell ⟨w1.heap.size,3,none⟩ (.slice ra g.recs.length rc)) = u:=⟨_,rfl⟩
 rw [hu0] at hG hb4
 have hR0:=hR.below hb4 (λj e=>(hR.1.lt j e).2)
 have F5 : oU u0 ra g.recs:=by
  obtain ⟨a',c',e,h,_⟩:=hR0.recs
  injection e with e1
  rw [e1];exact h
 have wr:=Kj g.tick g.time g.base HT.out ra rc g.recs u0 F5
 have HB1:=ahZ (HB0.out.trans ((hb.trans (hb4.mono hb.size)).mono HB0.out.size))
 have y0:=hG.cell 0
 have y1:=hG.cell 1
 have y2:=hG.cell 2
 have y3:=hG.cell 3
 simp at y0 y1 y2 y3
 rw [show (⟨g.tick,g.time,g.base,g.recs⟩ : Gr) = g from rfl] at wr
 rw [← HFB.out] at wr
 generalize jk g = we at *
 unfold wD at wr
 clear hR hb xU aY hG hb4 hR0 F5
 go_wp2_with fail
 clear hv1 hu0 f0 f1 f2 f3 q0 q1 q2 q3 y0 y1 y2 y3
 refine wr.mono ?_
 rintro e w3 ⟨v,rfl,hO,hb⟩
 have HF : Hid (bf w3 w.heap.size v bs /\ Below w.heap.size w w3):=ahZ ⟨bf.base hO HB1.out.size,HB1.out.trans (hb.mono HB1.out.size)⟩
 clear hO hb wr
 go_wp2_with fail
 exact bodyPost_ret (v:=v) (by simp [results,Tryz.results14,go_sem]) rfl ⟨v,rfl,HF.out⟩
end Go.Proofs.YtklkooeimkedgaaGreat
namespace Go.Proofs.YtklkooeimkedgaaGreat
open Go.RowKit
set_option maxRecDepth 100000
def TW : ay:=⟨1,0,0,0,65536,0,0,0,0⟩
def TY : ay:=⟨1,10,0,0,65536,0,0,0,0⟩
def uO : Sn:=⟨1,0,[TW]⟩
def wR : Sn:=⟨2,10,[TY]⟩
theorem T9 : TW.Ok:=⟨⟨by decide,by decide⟩,⟨by decide,by decide⟩,⟨by decide,by decide⟩,⟨by decide,by decide⟩,⟨by decide,by decide⟩,⟨by decide,by decide⟩,⟨by decide,by decide⟩,⟨by decide,by decide⟩,⟨by decide,by decide⟩⟩
theorem Ua : TY.Ok:=⟨⟨by decide,by decide⟩,⟨by decide,by decide⟩,⟨by decide,by decide⟩,⟨by decide,by decide⟩,⟨by decide,by decide⟩,⟨by decide,by decide⟩,⟨by decide,by decide⟩,⟨by decide,by decide⟩,⟨by decide,by decide⟩⟩
theorem VX : gV uO:=Cu (by decide) (by decide) (by decide) T9 rfl
theorem VY : gV wR:=Cu (by decide) (by decide) (by decide) Ua rfl
def tT : kG:=⟨[uO,wR],0,false,rD aU (rD aU (cs0 aU) (aN 100 0)) (aN 110 10)⟩
def GK : CS:=mY aU tT.cs 104
def GL : CS:=mY aU GK 113
def aeV : CS:=mY aU GL 900
theorem aeW : GK.au = 4:=by kernel_rfl
theorem aeX : GL.au = 13:=by kernel_rfl
theorem aeY : aeV.au = 800:=by kernel_rfl
theorem abY : tL aU 4 [uO,wR] = 1:=by kernel_rfl
theorem abZ : tL aU 13 [uO,wR] = 1:=by kernel_rfl
theorem ab0 : tL aU 800 [uO,wR] = 1:=by kernel_rfl
theorem ab1 : Ad aU 4 [uO,wR] 0 = ⟨1,4,0,0,0,1⟩:=by kernel_rfl
theorem ab2 : Ad aU 13 [uO,wR] 0 = ⟨1,13,0,0,0,3⟩:=by kernel_rfl
theorem ab3 : Ad aU 800 [uO,wR] 0 = ⟨1,15,0,0,0,4⟩:=by kernel_rfl
end Go.Proofs.YtklkooeimkedgaaGreat
namespace Go.Proofs.YtklkooeimkedgaaGreat
open Go.RowKit
set_option maxRecDepth 100000
theorem yj (s : Sn) : ((fM s).length : Int) <= 140737488355000:=by
 unfold fM
 split
 ·rename_i h
  have hz : (uT (jm (jq (eH s).1))).length = 4:=rfl
  unfold jk at h
  split at h
  ·rename_i hh;exact absurd h hh
  split at h
  ·cases h
  ·unfold rU
   rw [List.length_append,hz];omega
 ·simp
theorem NP {w : World} {b : Nat} {e : ay} (h : ak w b (bO e) 33) (ho : e.Ok) : dH w (some ⟨b,0,none⟩) [e]:=by
 refine ⟨λi hi=>?_,.inr ⟨b,0,rfl,h.lt,λi hi=>?_⟩⟩
 ·obtain rfl : i = 0:=by simp at hi;exact hi
  exact ho
 ·obtain rfl : i = 0:=by simp at hi;exact hi
  unfold dh
  refine ⟨?_,?_,?_,?_,?_,?_,?_,?_,?_⟩ <;> (rw [h.cell];rfl)
theorem Ae {w : World} {s : Option Addr} {P : Nat -> Po} {p : Po} (h : fO w s 1 P) (hp : P 0 = p) : ∃ b o,s = some ⟨b,o,none⟩ /\ b < w.heap.size /\ mo w b o p:=by
 rcases h with h | ⟨b,o,e,hb,hc⟩
 ·cases h
 ·exact ⟨b,o,e,hb,by have:=hc 0 (by decide);rw [hp] at this;simpa using this⟩
set_option maxHeartbeats 4000000 in
theorem Yy (w : World) : Calls Tryz.prog 8 #[] w λe w'=>e = .returned (.bool true) /\ Below w.heap.size w w':=by
 obtain ⟨w0,hw0⟩ : ∃ w0,(((w.alloc (.cells #[.int .i64 1,.int .i64 0,.int .i64 0,.int .i64 0,.int .i64 65536,.int .i64 0,.int .i64 0,.int .u16 0,.int .u8 0] 33)).alloc (.cells #[.int .i64 1,.int .i64 0,.slice (some ⟨w.heap.size,0,none⟩) 1 1] 36)).alloc (.cells #[.int .i64 1,.int .i64 10,.int .i64 0,.int .i64 0,.int .i64 65536,.int .i64 0,.int .i64 0,.int .u16 0,.int .u8 0] 33)).alloc (.cells #[.int .i64 2,.int .i64 10,.slice (some ⟨w.heap.size + 1 + 1,0,none⟩) 1 1] 36) = w0:=⟨_,rfl⟩
 have hB0 : Below w.heap.size w w0:=by rw [← hw0];exact ((((Below.refl _ _).alloc (Nat.le_refl _) _).alloc (by simp) _).alloc (by simp;omega) _).alloc (by simp;omega) _
 have hs0 : w0.heap.size = w.heap.size + 4:=by rw [← hw0];simp
 have hE1 : ak w0 w.heap.size #[.int .i64 1,.int .i64 0,.int .i64 0,.int .i64 0,.int .i64 65536,.int .i64 0,.int .i64 0,.int .u16 0,.int .u8 0] 33:=by rw [← hw0];exact (((ak.new _ _ _).alloc _).alloc _).alloc _
 have hA : ak w0 (w.heap.size + 1) #[.int .i64 1,.int .i64 0,.slice (some ⟨w.heap.size,0,none⟩) 1 1] 36:=by
  rw [← hw0]
  have:=((ak.new (w.alloc (.cells #[.int .i64 1,.int .i64 0,.int .i64 0,.int .i64 0,.int .i64 65536,.int .i64 0,.int .i64 0,.int .u16 0,.int .u8 0] 33)) #[.int .i64 1,.int .i64 0,.slice (some ⟨w.heap.size,0,none⟩) 1 1] 36).alloc (.cells #[.int .i64 1,.int .i64 10,.int .i64 0,.int .i64 0,.int .i64 65536,.int .i64 0,.int .i64 0,.int .u16 0,.int .u8 0] 33)).alloc (.cells #[.int .i64 2,.int .i64 10,.slice (some ⟨w.heap.size + 1 + 1,0,none⟩) 1 1] 36)
  simpa using this
 have hE2 : ak w0 (w.heap.size + 1 + 1) #[.int .i64 1,.int .i64 10,.int .i64 0,.int .i64 0,.int .i64 65536,.int .i64 0,.int .i64 0,.int .u16 0,.int .u8 0] 33:=by
  rw [← hw0]
  have:=(ak.new ((w.alloc (.cells #[.int .i64 1,.int .i64 0,.int .i64 0,.int .i64 0,.int .i64 65536,.int .i64 0,.int .i64 0,.int .u16 0,.int .u8 0] 33)).alloc (.cells #[.int .i64 1,.int .i64 0,.slice (some ⟨w.heap.size,0,none⟩) 1 1] 36)) #[.int .i64 1,.int .i64 10,.int .i64 0,.int .i64 0,.int .i64 65536,.int .i64 0,.int .i64 0,.int .u16 0,.int .u8 0] 33).alloc (.cells #[.int .i64 2,.int .i64 10,.slice (some ⟨w.heap.size + 1 + 1,0,none⟩) 1 1] 36)
  simpa using this
 have hBb : ak w0 (w.heap.size + 1 + 1 + 1) #[.int .i64 2,.int .i64 10,.slice (some ⟨w.heap.size + 1 + 1,0,none⟩) 1 1] 36:=by
  rw [← hw0]
  have:=ak.new (((w.alloc (.cells #[.int .i64 1,.int .i64 0,.int .i64 0,.int .i64 0,.int .i64 65536,.int .i64 0,.int .i64 0,.int .u16 0,.int .u8 0] 33)).alloc (.cells #[.int .i64 1,.int .i64 0,.slice (some ⟨w.heap.size,0,none⟩) 1 1] 36)).alloc (.cells #[.int .i64 1,.int .i64 10,.int .i64 0,.int .i64 0,.int .i64 65536,.int .i64 0,.int .i64 0,.int .u16 0,.int .u8 0] 33)) #[.int .i64 2,.int .i64 10,.slice (some ⟨w.heap.size + 1 + 1,0,none⟩) 1 1] 36
  simpa using this
 have pf:=λW=>GJ W
 have nw:=λW=>Lb aU jM fG W
 have fa : ∀ W,dH W (some ⟨w.heap.size,0,none⟩) [TW] -> Calls Tryz.prog 14 #[.agg #[.int .i64 1,.int .i64 0,.slice (some ⟨w.heap.size,0,none⟩) 1 1]] W λe w'=>∃ v,e = .returned v /\ bf w' W.heap.size v (fM uO) /\ Below W.heap.size W w':=λW h=>F4 1 0 ⟨by decide,by decide⟩ _ 1 [TW] W h
 have fb : ∀ W,dH W (some ⟨w.heap.size + 1 + 1,0,none⟩) [TY] -> Calls Tryz.prog 14 #[.agg #[.int .i64 2,.int .i64 10,.slice (some ⟨w.heap.size + 1 + 1,0,none⟩) 1 1]] W λe w'=>∃ v,e = .returned v /\ bf w' W.heap.size v (fM wR) /\ Below W.heap.size W w':=λW h=>F4 2 10 ⟨by decide,by decide⟩ _ 1 [TY] W h
 have zx:=ahZ (NP (e:=TW) hE1 T9)
 have HE2:=ahZ (NP (e:=TY) hE2 Ua)
 have HA:=ahZ hA
 have Ls:=ahZ hBb
 have HB0:=ahZ hB0
 have zq:=ahZ hs0
 clear hE1 hE2 hA hBb hB0 hs0
 go_enter Tryz.func8,Tryz.ntmps8
 go_wp2_with fail
 clear hw0
 refine (pf w0).mono ?_
 rintro e w1 ⟨rfl,hb1⟩
 have HW1 : Hid (Below w0.heap.size w0 w1):=ahZ hb1
 clear hb1 pf
 go_wp2_with fail
 refine (nw w1).mono ?_
 rintro e w2 ⟨C,S,rfl,Lj,hS,hb2⟩
 have nJ : Below w0.heap.size w0 w2:=HW1.out.trans (hb2.mono HW1.out.size)
 have gX : Hid (∀ k,S k -> w.heap.size + 4 <= k):=ahZ (λk hk=>by have:=hS k hk;have:=HW1.out.size;have:=zq.out;omega)
 have qo:=ahZ Lj
 have hA2:=HA.out.below nJ HA.out.lt
 have aaT:=ahZ (zx.out.below nJ)
 have aaU:=ahZ (HE2.out.below nJ)
 have HA2:=ahZ hA2
 have HB2:=ahZ (Ls.out.below nJ Ls.out.lt)
 have aaV : Hid (Below w.heap.size w w2):=ahZ (HB0.out.trans (nJ.mono HB0.out.size))
 have VF : Hid (w.heap.size + 4 <= w2.heap.size):=ahZ (by have:=nJ.size;have:=zq.out;omega)
 have a0:=hA2.cell 0
 have a1:=hA2.cell 1
 have a2:=hA2.cell 2
 simp at a0 a1 a2
 clear Lj hS hb2 nJ nw hA2 zx HE2 HA Ls HB0 HW1
 go_wp2_with fail
 refine (fa w2 aaT.out).mono ?_
 rintro e w3 ⟨v,rfl,hO,hb⟩
 obtain ⟨va,vc,rfl,Cw,Cx,hvl,_⟩:=hO.cap
 have hC3:=qo.out.below hb
 have ar:=NK (c:=aU) (x:=Aw aU) fG VX rfl (by simp [Aw]) (by simp [Aw]) (by decide) 100
 have ac:=xY C aU jM fG (Aw aU) S 100 ⟨by decide,by decide⟩ va (fM uO).length vc (fM uO) w3 hC3 Cw Cx hvl (yj uO) (by decide) ar.2.1
 rw [ar.1,ar.2.2] at ac
 have E9:=ahZ (HA2.out.below hb HA2.out.lt)
 have HB3:=ahZ (HB2.out.below hb HB2.out.lt)
 have uK:=ahZ (aaU.out.below hb)
 have aaW : Hid (Below w.heap.size w w3):=ahZ (aaV.out.trans (hb.mono aaV.out.size))
 have Pv : Hid (w.heap.size + 4 <= w3.heap.size):=ahZ (Nat.le_trans VF.out hb.size)
 clear hO hb Cw Cx hvl hC3 ar fa a0 a1 a2 HA2 HB2 aaU aaT
 go_wp2_with fail
 refine ac.mono ?_
 rintro e w4 ⟨rfl,hC4,hO4⟩
 have hnS : ∀ k,k < w.heap.size + 4 -> ¬ S k:=λk hk h=>by have:=gX.out k h;omega
 have hB4:=hO4.blk HB3.out (hnS _ (by omega))
 have NQ:=ahZ hC4
 have gF:=ahZ hB4
 have Nh:=ahZ (uK.out.only hO4 (λx hx=>by cases hx;exact hnS _ (show w.heap.size + 1 + 1 < w.heap.size + 4 by omega)))
 have aaY : Hid (Below w.heap.size w w4):=ahZ (aaW.out.trans (hO4.below aaW.out.size (λk hk=>by have:=gX.out k hk;omega)))
 have aeZ : Hid (w3.heap.size <= w4.heap.size):=ahZ hO4.size
 have b0:=hB4.cell 0
 have b1:=hB4.cell 1
 have b2:=hB4.cell 2
 simp at b0 b1 b2
 have Kk : Hid (∀ k,Grow S w3 w4 k -> w.heap.size + 4 <= k):=ahZ (λk hk=>by
  rcases hk.1 with h | h
  ·exact gX.out k h
  ·have:=Pv.out;omega)
 clear hC4 hO4 ac hB4 E9 HB3 uK qo hnS
 go_wp2_with fail
 refine (fb w4 Nh.out).mono ?_
 rintro e w5 ⟨v,rfl,hO,hb⟩
 obtain ⟨va,vc,rfl,Cw,Cx,hvl,_⟩:=hO.cap
 have hC5:=NQ.out.below hb
 have ar:=NK (c:=aU) (x:=⟨(Aw aU).ss ++ [uO],(Aw aU).floor,false,rD aU (Aw aU).cs (aN 100 uO.time)⟩) fG VY rfl (by intro y hy;simp [Aw] at hy;subst hy;decide) (by intro y hy;simp [Aw] at hy;subst hy;decide) (by decide) 110
 have ac:=xY C aU jM fG _ _ 110 ⟨by decide,by decide⟩ va (fM wR).length vc (fM wR) w5 hC5 Cw Cx hvl (yj wR) (by decide) ar.2.1
 rw [ar.1,ar.2.2] at ac
 have aaZ : Hid (Below w.heap.size w w5):=ahZ (aaY.out.trans (hb.mono aaY.out.size))
 have ae0 : Hid (w.heap.size + 4 <= w5.heap.size):=ahZ (by have:=hb.size;have:=aeZ.out;have:=Pv.out;omega)
 clear hO hb Cw Cx hvl hC5 ar fb b0 b1 b2 gF Nh
 go_wp2_with fail
 refine ac.mono ?_
 rintro e w6 ⟨rfl,hC6,fU⟩
 generalize hS6 : Grow (Grow S w3 w4) w5 w6 = S6 at hC6
 have Ub : Hid (fZ w6 C aU tT S6):=ahZ hC6
 have HG6 : Hid (∀ k,S6 k -> w.heap.size + 4 <= k):=ahZ (λk hk=>by
  rw [← hS6] at hk
  rcases hk.1 with h | h
  ·exact Kk.out k h
  ·have:=ae0.out;omega)
 have aa2 : Hid (Below w.heap.size w w6):=ahZ (aaZ.out.trans (fU.below aaZ.out.size (λk hk=>by have:=Kk.out k hk;omega)))
 clear hC6 fU ac hS6 NQ
 go_wp2_with fail
 have f1:=Ct C aU jM fG tT S6 104 ⟨by decide,by decide⟩ w6 Ub.out (by decide)
 rw [show (mY aU tT.cs 104).au = 4 from aeW,show tT.ss = [uO,wR] from rfl,abY] at f1
 refine f1.mono ?_
 rintro e w7 ⟨s7,c7,rfl,hP7,NR,hO7⟩
 have HC7 : Hid (fZ w7 C aU { tT with cs:=GK } S6):=ahZ NR
 have HP7:=ahZ hP7
 have aa3 : Hid (Below w.heap.size w w7):=ahZ (aa2.out.trans (hO7.below aa2.out.size (λk hk=>by have:=HG6.out k hk.1;omega)))
 clear f1 hP7 NR hO7 Ub
 go_wp2_with fail
 have f1:=Ct C aU jM fG { tT with cs:=GK } S6 113 ⟨by decide,by decide⟩ w7 HC7.out (by decide)
 rw [show (mY aU ({ tT with cs:=GK } : kG).cs 113).au = 13 from aeX,show ({ tT with cs:=GK } : kG).ss = [uO,wR] from rfl,abZ] at f1
 refine f1.mono ?_
 rintro e w8 ⟨s8,c8,rfl,hP8,Uc,I5⟩
 have Xd : Hid (fZ w8 C aU { tT with cs:=GL } S6):=ahZ Uc
 have HP8:=ahZ hP8
 have aa4:=ahZ (Ac HP7.out I5 (λk hk _=>hk.2))
 have aa5 : Hid (Below w.heap.size w w8):=ahZ (aa3.out.trans (I5.below aa3.out.size (λk hk=>by have:=HG6.out k hk.1;omega)))
 clear f1 hP8 Uc I5 HC7 HP7
 go_wp2_with fail
 have f1:=Ct C aU jM fG { tT with cs:=GL } S6 900 ⟨by decide,by decide⟩ w8 Xd.out (by decide)
 rw [show (mY aU ({ tT with cs:=GL } : kG).cs 900).au = 800 from aeY,show ({ tT with cs:=GL } : kG).ss = [uO,wR] from rfl,ab0] at f1
 refine f1.mono ?_
 rintro e w9 ⟨s9,c9,rfl,hP9,hC9,mX⟩
 have aa6:=Ac aa4.out mX (λk hk _=>hk.2)
 have aa7:=Ac HP8.out mX (λk hk _=>hk.2)
 have aa8 : Hid (Below w.heap.size w w9):=ahZ (aa5.out.trans (mX.below aa5.out.size (λk hk=>by have:=HG6.out k hk.1;omega)))
 clear f1 hC9 mX Xd aa4 HP8
 obtain ⟨b7,o7,rfl,l7,p7'⟩:=Ae aa6 ab1
 obtain ⟨b8,o8,rfl,l8,p8'⟩:=Ae aa7 ab2
 obtain ⟨b9,o9,rfl,l9,p9'⟩:=Ae hP9 ab3
 obtain ⟨kC,PG⟩ : ∃ u,((w9.alloc (.cells #[.bool true,.int .i64 4,.slice (some ⟨b7,o7,none⟩) 1 c7] 49)).alloc (.cells #[.bool true,.int .i64 13,.slice (some ⟨b8,o8,none⟩) 1 c8] 49)).alloc (.cells #[.bool true,.int .i64 800,.slice (some ⟨b9,o9,none⟩) 1 c9] 49) = u:=⟨_,rfl⟩
 have Lu : Below w9.heap.size w9 kC:=by rw [← PG];exact ((((Below.refl _ _).alloc (Nat.le_refl _) _).alloc (by simp) _).alloc (by simp;omega) _)
 have hX7 : ak kC w9.heap.size #[.bool true,.int .i64 4,.slice (some ⟨b7,o7,none⟩) 1 c7] 49:=by rw [← PG];exact ((ak.new _ _ _).alloc _).alloc _
 have hX8 : ak kC (w9.heap.size + 1) #[.bool true,.int .i64 13,.slice (some ⟨b8,o8,none⟩) 1 c8] 49:=by
  rw [← PG]
  have:=(ak.new (w9.alloc (.cells #[.bool true,.int .i64 4,.slice (some ⟨b7,o7,none⟩) 1 c7] 49)) #[.bool true,.int .i64 13,.slice (some ⟨b8,o8,none⟩) 1 c8] 49).alloc (.cells #[.bool true,.int .i64 800,.slice (some ⟨b9,o9,none⟩) 1 c9] 49)
  simpa using this
 have hX9 : ak kC (w9.heap.size + 1 + 1) #[.bool true,.int .i64 800,.slice (some ⟨b9,o9,none⟩) 1 c9] 49:=by
  rw [← PG]
  have:=ak.new ((w9.alloc (.cells #[.bool true,.int .i64 4,.slice (some ⟨b7,o7,none⟩) 1 c7] 49)).alloc (.cells #[.bool true,.int .i64 13,.slice (some ⟨b8,o8,none⟩) 1 c8] 49)) #[.bool true,.int .i64 800,.slice (some ⟨b9,o9,none⟩) 1 c9] 49
  simpa using this
 have s7:=hX7.cell 2
 have s8:=hX8.cell 2
 have s9:=hX9.cell 2
 simp at s7 s8 s9
 have p7:=p7'.below Lu l7
 have p8:=p8'.below Lu l8
 have p9:=p9'.below Lu l9
 clear p7' p8' p9' hX7 hX8 hX9
 unfold mo at p7 p8 p9
 simp only at p7 p8 p9
 obtain ⟨p70,p71,p72,p73,p74,p75⟩:=p7
 obtain ⟨p80,p81,p82,p83,p84,p85⟩:=p8
 obtain ⟨p90,p91,p92,p93,p94,p95⟩:=p9
 have q7:=λW=>CP 1 4 0 0 0 1 1 4 0 0 0 1 W
 have q8:=λW=>CP 1 13 0 0 0 3 1 13 0 0 0 3 W
 have q9:=λW=>CP 1 15 0 0 0 4 1 15 0 0 0 4 W
 simp at q7 q8 q9
 have HF : Hid (Below w.heap.size w kC):=ahZ (aa8.out.trans (Lu.mono aa8.out.size))
 clear Lu
 clear aa6 aa7 hP9
 go_wp2
 exact bodyPost_ret (v:=.bool true) (by simp [results,Tryz.results8,go_sem]) rfl ⟨rfl,HF.out⟩
end Go.Proofs.YtklkooeimkedgaaGreat
namespace Go.Proofs.YtklkooeimkedgaaGreat
open Go.RowKit
set_option maxRecDepth 100000
def Lv (w : World) (a : Option Addr) (ks : List aG) : Prop := ∀ (i : Nat) (y : aG), ks[i]? = some y -> (dH w y.a y.sn.ents /\ aA y.sn.tick /\ aA y.sn.time) /\
  ∃ b off, a = some ⟨b, off, none⟩ /\ b < w.heap.size /\ w.cell? ⟨b, off + i * 3, none⟩ = some (.int .i64 y.sn.tick) /\ w.cell? ⟨b, off + i * 3 + 1, none⟩ = some (.int .i64 y.sn.time) /\ w.cell? ⟨b, off + i * 3 + 2, none⟩ = some (dV y)
theorem Lv.below {w w' : World} {a : Option Addr} {ks : List aG} (h : Lv w a ks) (hb : Below w.heap.size w w') : Lv w' a ks := by
  intro i y hy
  obtain ⟨⟨h1, h2⟩, b, off, rfl, hl, c0, c1, c2⟩ := h i y hy
  exact ⟨⟨h1.below hb, h2⟩, b, off, rfl, Nat.lt_of_lt_of_le hl hb.size, (hb.cell (p := ⟨b, _, none⟩) hl).trans c0, (hb.cell (p := ⟨b, _, none⟩) hl).trans c1, (hb.cell (p := ⟨b, _, none⟩) hl).trans c2⟩
def VZ (K T : Nat -> Int) (E : Nat -> Option Addr × Nat × Nat) (EE : Nat -> Nat -> ay) (i : Nat) : aG := ⟨K i, ⟨K i, T i, (List.range (E i).2.1).map (EE i)⟩, (E i).1, (E i).2.2⟩
theorem Yz {w : World} {a : Option Addr} {len : Nat} {K T : Nat -> Int} {E : Nat -> Option Addr × Nat × Nat} {EE : Nat -> Nat -> ay} (hS : jw w a len K T E) (hx : ∀ i, i < len -> aA (K i) /\ aA (T i) /\ bV w (E i).1 (E i).2.1 (EE i)) :
    Lv w a ((List.range len).map (VZ K T E EE)) := by
  intro i y hy
  rw [List.getElem?_map] at hy
  obtain ⟨j, hj, rfl⟩ := Option.map_eq_some_iff.1 hy
  obtain ⟨hl, hji⟩ := List.getElem?_eq_some_iff.1 hj
  rw [List.length_range] at hl
  rw [List.getElem_range] at hji
  subst hji
  obtain ⟨x1, x2, x3, x4⟩ := hx i hl
  have hlen : ((List.range (E i).2.1).map (EE i)).length = (E i).2.1 := by rw [List.length_map, List.length_range]
  have hget : ∀ j, j < (E i).2.1 -> ((List.range (E i).2.1).map (EE i)).getD j bS = EE i j := λj hj => by
    simp [List.getD, List.getElem?_map, List.getElem?_range hj]
  have hE : dH w (E i).1 ((List.range (E i).2.1).map (EE i)) := by
    unfold dH
    refine ⟨λj hj => ?_, ?_⟩
    · rw [hlen] at hj; show (((List.range (E i).2.1).map (EE i)).getD j bS).Ok; rw [hget j hj]; exact x3 j hj
    · rcases x4 with h | ⟨b, o, e, hb, hc⟩
      · exact .inl (by rw [hlen]; exact h)
      · exact .inr ⟨b, o, e, hb, λj hj => by rw [hlen] at hj; show dh w b (o + j * 9) (((List.range (E i).2.1).map (EE i)).getD j bS); rw [hget j hj]; exact hc j hj⟩
  refine ⟨⟨hE, x1, x2⟩, ?_⟩
  rcases hS with h | ⟨b, o, e, hb, hc⟩
  · omega
  · obtain ⟨c0, c1, c2⟩ := hc i hl
    refine ⟨b, o, e, hb, c0, c1, ?_⟩
    show _ = some (Value.slice (E i).1 ((List.range (E i).2.1).map (EE i)).length (E i).2.2)
    rw [hlen]; exact c2
theorem nW {w w' : World} {base k n : Nat} {e : TypeId} {v : Value} {xs : List Value} (h : w.ownsRow base e k v n xs) (hb : Below w.heap.size w w') : w'.ownsRow base e k v n xs := nE h (Only.of_below (S := λ_ => False) hb) (λ_ _ h => h)
def SwI (W0 W1 : World) (i : Nat) : List (Nat × Value) -> World -> Prop
  | [], W => W = W0
  | p :: _, W => p.1 = i /\ W = W1
set_option maxHeartbeats 8000000 in
theorem topOrders_w (s0 : Option Addr) (cap : Nat) (rE : List aG) (a1 : Option Addr) (len1 tK : Nat) (zs : List Int) (au : Int) (w : World) (hS : Lv w s0 rE) (hl0 : (rE.length : Int) <= 4611686018427387904) (hz : iI .u8 w a1 len1 zs) (hl1 : (len1 : Int) <= 4611686018427387904) (hat : aA au) :
    Calls Tryz.prog 4 #[.slice s0 rE.length cap, .slice a1 len1 tK, .int .i64 au] w λe w' => e = .returned (.bool true) /\ Below w.heap.size w w' := by
  have al := λW => Yy W
  have HS := ahZ hS
  have HZ := ahZ hz
  have HAT := ahZ hat
  by_cases hg : 8 < rE.length \/ 30 < len1
  · clear hS hz hat
    rcases (show (8 : Int) < rE.length \/ (¬ (8 : Int) < rE.length /\ (30 : Int) < len1) by omega) with h1 | ⟨h1, h2⟩
    all_goals
      (go_enter Tryz.func4, Tryz.ntmps4
       go_wp2_with fail
       refine (al w).mono ?_
       rintro e w1 ⟨rfl, hb1⟩
       have HB1 := ahZ hb1
       clear hb1
       go_wp2_with fail
       refine (al w1).mono ?_
       rintro e w2 ⟨rfl, hb2⟩
       have HF := ahZ (HB1.out.trans (hb2.mono HB1.out.size))
       clear hb2
       go_wp2
       go_ret
       exact ⟨rfl, HF.out⟩)
  have hn0 : ¬ (8 : Int) < rE.length := by omega
  have hn1 : ¬ (30 : Int) < len1 := by omega
  have NS : Hid (rE.length <= 8 /\ len1 <= 30) := ahZ (by omega)
  clear hS hz hat hg
  go_enter Tryz.func4, Tryz.ntmps4
  go_wp2_with fail
  refine (al w).mono ?_
  rintro e w1 ⟨rfl, hb1⟩
  have HB1 := ahZ hb1
  clear hb1 al
  go_wp2_with fail
  go_loopw [7, 47] (λv i wr => ∃ (k : Nat) (u : Value) (own : List aG), k <= rE.length /\ i = .int .i64 k /\ u = v /\ own.map (·.sn) = yL ((rE.take k).map (·.sn)) /\ (∀ q ∈ own, q ∈ rE) /\ own.length <= k /\ wr.ownsRow w.heap.size 36 3 u own.length (own.flatMap iV) /\ Below w.heap.size w wr) (λ_ i _ => rE.length - (intOf i).toNat)
  case atStart => exact ⟨0, _, [], Nat.zero_le _, rfl, rfl, by simp [yL], by simp, Nat.le_refl _, World.ownsRow_nil _ _ _ _, HB1.out⟩
  case round =>
    obtain ⟨k, v, own, hk, rfl, rfl, hm, hq, hol, hR, hb⟩ := hrel
    by_cases hlt : k < rE.length
    · have hlt' : (k : Int) < rE.length := Int.ofNat_lt.2 hlt
      obtain ⟨y, hy⟩ : ∃ y, rE[k]? = some y := ⟨_, List.getElem?_eq_getElem hlt⟩
      obtain ⟨⟨hE0, hI1, hI2⟩, b, off, rfl, hbl, c0, c1, c2⟩ := HS.out.below hb k y hy
      have HYM : Hid (y ∈ rE) := ahZ (List.mem_of_getElem? hy)
      have aa9 : yL ((rE.take (k + 1)).map (·.sn)) = mO (own.map (·.sn)) y.sn := by
        rw [List.map_take, TS (s := y.sn) (by rw [List.getElem?_map, hy]; rfl), hm, List.map_take]
      have Lx := ahZ aa9
      have HQ := ahZ hq
      have HR := ahZ hR
      have HB := ahZ hb
      have eB := ahZ hlt
      have HOL := ahZ hol
      have HMM := ahZ hm
      obtain ⟨yk, ⟨tk, tm, es⟩, ya, yc⟩ := y
      simp only at *
      obtain ⟨v1, hv1⟩ : ∃ v, wr.alloc (.cells #[.int .i64 0, .int .i64 0, .slice none 0 0] 36) = v := ⟨_, rfl⟩
      have hBb : Below wr.heap.size wr v1 := by rw [← hv1]; exact (Below.refl _ _).alloc (Nat.le_refl _) _
      have aY : ak v1 wr.heap.size #[.int .i64 0, .int .i64 0, .slice none 0 0] 36 := by rw [← hv1]; exact ak.new _ _ _
      have f0 := aY.free 0
      have f1 := aY.free 1
      have f2 := aY.free 2
      have q0 := aY.cell 0
      have q1 := aY.cell 1
      have q2 := aY.cell 2
      simp at q0 q1 q2
      have hX1 := jf (v0 := .int .i64 tk) (v1 := .int .i64 tm) (v2 := .slice ya es.length yc) aY
      have PI := dQ (v0 := .int .i64 tk) (v1 := .int .i64 tm) (v2 := .slice ya es.length yc) hBb (Nat.le_refl _)
      obtain ⟨u1, hu1⟩ : ∃ u, ((v1.setCell ⟨wr.heap.size, 0, none⟩ (.int .i64 tk)).setCell ⟨wr.heap.size, 1, none⟩ (.int .i64 tm)).setCell ⟨wr.heap.size, 2, none⟩ (.slice ya es.length yc) = u := ⟨_, rfl⟩
      rw [hu1] at hX1 PI
      clear hBb aY
      have x0 := hX1.cell 0
      have x1 := hX1.cell 1
      have x2 := hX1.cell 2
      simp at x0 x1 x2
      have fl := Nw tk tm ya yc es u1 (hE0.below PI)
      have HT : Hid (aA (eH ⟨tk, tm, es⟩).1.time) := ahZ (by
        unfold eH
        split
        · exact bq
        · split
          · exact bq
          · exact hI2)
      have DK : Hid (okO (own.map (·.sn)) ⟨tk, tm, es⟩ = (decide ((eH ⟨tk, tm, es⟩).2 = 0) && decide (jk (eH ⟨tk, tm, es⟩).1 = 0) && (own.map (·.sn)).getLast?.elim true (λp => decide (p.tick < tk) && decide (p.time < tm)))) := ahZ rfl
      have nO : Hid (jk (eH ⟨tk, tm, es⟩).1 = 0 -> (if jk (eH ⟨tk, tm, es⟩).1 = 0 then rU (eH ⟨tk, tm, es⟩).1 else []).length ≠ 0) := ahZ (λh => VR h)
      generalize (eH ⟨tk, tm, es⟩).2 = er at *
      generalize (eH ⟨tk, tm, es⟩).1 = g at *
      have gJ := ahZ hX1
      have Ci := ahZ PI
      unfold bC at fl
      clear hE0 hI1 hI2 hy hm hq hR hb hol aa9 hX1 PI
      go_wp2_with fail
      clear hv1 hu1 f0 f1 f2 q0 q1 q2
      refine fl.mono ?_
      rintro e w2 ⟨v, rfl, hR, hb⟩
      clear fl x0 x1 x2
      obtain ⟨ra, rc, rfl, _, _⟩ := hR.recs
      obtain ⟨v2, hv2⟩ : ∃ v, w2.alloc (.cells #[.int .i64 0, .int .i64 0, .int .i64 0, .slice none 0 0] 39) = v := ⟨_, rfl⟩
      have xU : Below w2.heap.size w2 v2 := by rw [← hv2]; exact (Below.refl _ _).alloc (Nat.le_refl _) _
      have aY : ak v2 w2.heap.size #[.int .i64 0, .int .i64 0, .int .i64 0, .slice none 0 0] 39 := by rw [← hv2]; exact ak.new _ _ _
      have f0 := aY.free 0
      have f1 := aY.free 1
      have f2 := aY.free 2
      have f3 := aY.free 3
      have q0 := aY.cell 0
      have q1 := aY.cell 1
      have q2 := aY.cell 2
      have q3 := aY.cell 3
      simp at q0 q1 q2 q3
      have hG := zP (v0 := .int .i64 g.tick) (v1 := .int .i64 g.time) (v2 := .int .i64 g.base) (v3 := .slice ra g.recs.length rc) aY
      have hb4 := zo (v0 := .int .i64 g.tick) (v1 := .int .i64 g.time) (v2 := .int .i64 g.base) (v3 := .slice ra g.recs.length rc) xU (Nat.le_refl _)
      obtain ⟨u2, hu2⟩ : ∃ u, ((((v2.setCell ⟨w2.heap.size, 0, none⟩ (.int .i64 g.tick)).setCell ⟨w2.heap.size, 1, none⟩ (.int .i64 g.time)).setCell ⟨w2.heap.size, 2, none⟩ (.int .i64 g.base)).setCell ⟨w2.heap.size, 3, none⟩ (.slice ra g.recs.length rc)) = u := ⟨_, rfl⟩
      rw [hu2] at hG hb4
      have hR0 := hR.below hb4 (λj e => (hR.1.lt j e).2)
      have F5 : oU u2 ra g.recs := by
        obtain ⟨a', c', e, h, _⟩ := hR0.recs
        injection e with e1
        rw [e1]; exact h
      have wt := Kj g.tick g.time g.base HT.out ra rc g.recs u2 F5
      rw [show (⟨g.tick, g.time, g.base, g.recs⟩ : Gr) = g from rfl] at wt
      have yK : Below u1.heap.size u1 u2 := hb.trans (hb4.mono hb.size)
      have gy := ahZ (gJ.out.below yK gJ.out.lt)
      have abb := ahZ (Ci.out.trans (yK.mono Ci.out.size))
      generalize (if jk g = 0 then rU g else []) = bs at *
      generalize jk g = we at *
      have y0 := hG.cell 0
      have y1 := hG.cell 1
      have y2 := hG.cell 2
      have y3 := hG.cell 3
      simp at y0 y1 y2 y3
      unfold wD at wt
      clear hR hb xU aY hG hb4 hR0 F5 yK
      go_wp2_with fail
      clear hv2 hu2 f0 f1 f2 f3 q0 q1 q2 q3 y0 y1 y2 y3
      refine wt.mono ?_
      rintro e w3 ⟨v, rfl, hO, hb⟩
      obtain ⟨va, vc, rfl, _, _, _, _⟩ := hO.cap
      have V3 := abb.out.trans (hb.mono abb.out.size)
      have HR3 := ahZ (nW HR.out V3)
      have dU := gy.out.below hb gy.out.lt
      have iN := ahZ dU
      have HB3 := ahZ (HB.out.trans (V3.mono HB.out.size))
      have x0 := dU.cell 0
      have x1 := dU.cell 1
      have x2 := dU.cell 2
      simp at x0 x1 x2
      have hw := aeS eB.out (Nat.le_trans NS.out.1 (by decide))
      clear wt hO hb V3 dU
      have hcase := Yw er we
      rcases hcase with hcase | ⟨rfl, rfl⟩
      · have KC : Hid (mO (own.map (·.sn)) ⟨tk, tm, es⟩ = own.map (·.sn)) := ahZ (by
          unfold mO
          rw [if_neg]
          rw [DK.out]
          rcases hcase with h | h <;> simp [h])
        have e3 : (er != 0) = true \/ ((er != 0) = false /\ (we != 0) = true /\ er = 0 /\ ¬ we = 0) := by
          by_cases h : er = 0
          · exact .inr ⟨by simp [h], by rcases hcase with h' | h'; exact absurd h h'; simpa using h', h, by rcases hcase with h' | h'; exact absurd h h'; exact h'⟩
          · exact .inl (by simpa using h)
        clear hcase
        rcases e3 with e3 | ⟨e3, e4, rfl, e5⟩
        case' inl => have e5 : ¬ er = 0 := by simpa using e3
        all_goals
          (go_wp2_with fail
           go_quiet (fail)
           rename_i nq
           obtain ⟨WC, nK⟩ : ∃ W, w3.drewN nq = W := ⟨_, rfl⟩
           have aV : Below w3.heap.size w3 WC := by rw [← nK]; exact below_drewN (Below.refl _ _) _
           rw [nK]
           have HF := ahZ (And.intro (nW HR3.out aV) (HB3.out.trans (aV.mono HB3.out.size)))
           clear aV nK
           go_wp2
           go_roundw
           case rel => exact ⟨k + 1, _, own, eB.out, rfl, rfl, by rw [Lx.out, KC.out], HQ.out, Nat.le_succ_of_le HOL.out, (by first | exact HF.out.1 | (have h := HF.out.1; rw [HLEN.out] at h ⊢; exact h)), HF.out.2⟩
           case measure => exact lS eB.out)
      · have e3 : bs.length ≠ 0 := nO.out rfl
        have e4 : ((bs.length : Int) == 0) = false := by simpa using e3
        have e5 : ¬ (bs.length : Int) = 0 := aaR e3
        have e6 : ¬ bs = [] := λh => e3 (by rw [h]; rfl)
        rcases List.eq_nil_or_concat own with hon | ⟨ow, p, hop⟩
        · have hok : mO (own.map (·.sn)) ⟨tk, tm, es⟩ = own.map (·.sn) ++ [⟨tk, tm, es⟩] := by
            unfold mO
            rw [if_pos]
            rw [DK.out, hon]; rfl
          have Nz := ahZ hok
          have hlen : own.length = 0 := by rw [hon]; rfl
          have HLEN : Hid (own.length = 0) := ahZ hlen
          have hbr := HR3.out
          obtain ⟨vo, vn, vcc, rfl⟩ : ∃ a n c, v = .slice a n c := by
            obtain ⟨_, ⟨rfl, hn⟩ | ⟨g, cap, cur, rfl, q1, q2, q3⟩⟩ := hbr
            · exact ⟨none, 0, 0, rfl⟩
            · exact ⟨_, _, _, rfl⟩
          obtain rfl : vn = 0 := by
            obtain ⟨_, ⟨he, hn⟩ | ⟨g, cap, cur, he, q1, q2, q3⟩⟩ := hbr
            · cases he; rfl
            · cases he; exact hlen
          clear hok hon hbr hlen
          go_wp2_with fail
          go_quiet (fail)
          rename_i nq
          obtain ⟨WC, nK⟩ : ∃ W, w3.drewN nq = W := ⟨_, rfl⟩
          have aV : Below w3.heap.size w3 WC := by rw [← nK]; exact below_drewN (Below.refl _ _) _
          rw [nK]
          have dG := iN.out.below aV iN.out.lt
          have z0 := dG.cell 0
          have z1 := dG.cell 1
          have z2 := dG.cell 2
          simp at z0 z1 z2
          obtain ⟨u4, Ud⟩ : ∃ v, WC.alloc (.cells #[.int .i64 tk, .int .i64 tm, .slice ya es.length yc] 36) = v := ⟨_, rfl⟩
          have hb4 : Below WC.heap.size WC u4 := by rw [← Ud]; exact (Below.refl _ _).alloc (Nat.le_refl _) _
          have fH : Hid (ak u4 WC.heap.size #[.int .i64 tk, .int .i64 tm, .slice ya es.length yc] 36) := ahZ (by rw [← Ud]; exact ak.new _ _ _)
          have EA := aV.trans (hb4.mono aV.size)
          have dS := ahZ (nW HR3.out EA)
          have kZ := ahZ (HB3.out.trans (EA.mono HB3.out.size))
          clear aV nK dG hb4 EA x0 x1 x2
          go_wp2_with (at_builtin; refine IY _ rfl (.tmp 101) (.tmp 103) rfl w.heap.size _ own (by first | rfl | (rw [HLEN.out]; rfl)) dS.out _ ⟨yk, ⟨tk, tm, es⟩, ya, yc⟩ rfl fH.out (TV HOL.out eB.out NS.out.1) kZ.out.size ?_)
          intro v' w' hr hg
          have HF := ahZ (And.intro hr (kZ.out.grown hg kZ.out.size (λj e => (dS.out.lt j e).1)))
          clear hr hg
          go_wp2
          go_roundw
          case rel => exact ⟨k + 1, _, own ++ [⟨yk, ⟨tk, tm, es⟩, ya, yc⟩], eB.out, rfl, rfl, by rw [List.map_append, Lx.out, Nz.out]; rfl, λq hq => by
            rcases List.mem_append.1 hq with hq | hq
            · exact HQ.out q hq
            · simp at hq; subst hq; exact HYM.out, by rw [List.length_append]; exact Nat.add_le_add_right HOL.out 1, (by have h := HF.out.1; rw [List.length_append, List.flatMap_append]; simpa using h), HF.out.2⟩
          case measure => exact lS eB.out
        · rw [List.concat_eq_append] at hop
          obtain ⟨m, hmo⟩ : ∃ m, ow.length = m := ⟨_, rfl⟩
          have hlen : own.length = m + 1 := by rw [hop, List.length_append, hmo]; rfl
          obtain ⟨gO, cO, rfl, hgl, o0, o1, _⟩ := DW HR3.out (i := m) (x := p) (by rw [hop, ← hmo]; simp)
          have MO := aeU hlen HOL.out eB.out NS.out.1
          have hlast : (own.map (·.sn)).getLast? = some p.sn := by rw [hop, List.map_append]; simp
          obtain ⟨w1', w2', w3', w4', w5', w6', w7'⟩ := aeT MO
          have HLEN : Hid (own.length = m + 1) := ahZ hlen
          rw [HLEN.out]
          by_cases k1 : tk <= p.sn.tick
          · have KC : Hid (mO (own.map (·.sn)) ⟨tk, tm, es⟩ = own.map (·.sn)) := ahZ (by
              unfold mO
              rw [if_neg]
              rw [DK.out, hlast]
              simp [Int.not_lt.2 k1])
            clear hop hlast hlen
            go_wp2_with fail
            go_quiet (fail)
            rename_i nq
            obtain ⟨WC, nK⟩ : ∃ W, w3.drewN nq = W := ⟨_, rfl⟩
            have aV : Below w3.heap.size w3 WC := by rw [← nK]; exact below_drewN (Below.refl _ _) _
            rw [nK]
            have HF := ahZ (And.intro (nW HR3.out aV) (HB3.out.trans (aV.mono HB3.out.size)))
            clear aV nK
            go_wp2
            go_roundw
            case rel => exact ⟨k + 1, _, own, eB.out, rfl, rfl, by rw [Lx.out, KC.out], HQ.out, Nat.le_succ_of_le HOL.out, (by first | exact HF.out.1 | (have h := HF.out.1; rw [HLEN.out] at h ⊢; exact h)), HF.out.2⟩
            case measure => exact lS eB.out
          by_cases k2 : tm <= p.sn.time
          · have KC : Hid (mO (own.map (·.sn)) ⟨tk, tm, es⟩ = own.map (·.sn)) := ahZ (by
              unfold mO
              rw [if_neg]
              rw [DK.out, hlast]
              simp [Int.not_lt.2 k2])
            clear hop hlast hlen
            go_wp2_with fail
            go_quiet (fail)
            rename_i nq
            obtain ⟨WC, nK⟩ : ∃ W, w3.drewN nq = W := ⟨_, rfl⟩
            have aV : Below w3.heap.size w3 WC := by rw [← nK]; exact below_drewN (Below.refl _ _) _
            rw [nK]
            have HF := ahZ (And.intro (nW HR3.out aV) (HB3.out.trans (aV.mono HB3.out.size)))
            clear aV nK
            go_wp2
            go_roundw
            case rel => exact ⟨k + 1, _, own, eB.out, rfl, rfl, by rw [Lx.out, KC.out], HQ.out, Nat.le_succ_of_le HOL.out, (by first | exact HF.out.1 | (have h := HF.out.1; rw [HLEN.out] at h ⊢; exact h)), HF.out.2⟩
            case measure => exact lS eB.out
          have Nz : Hid (mO (own.map (·.sn)) ⟨tk, tm, es⟩ = own.map (·.sn) ++ [⟨tk, tm, es⟩]) := ahZ (by
            unfold mO
            rw [if_pos]
            rw [DK.out, hlast]
            simp [Int.not_le.1 k1, Int.not_le.1 k2])
          clear hop hlast hlen
          go_wp2_with fail
          go_quiet (fail)
          rename_i nq
          obtain ⟨WC, nK⟩ : ∃ W, w3.drewN nq = W := ⟨_, rfl⟩
          have aV : Below w3.heap.size w3 WC := by rw [← nK]; exact below_drewN (Below.refl _ _) _
          rw [nK]
          have dG := iN.out.below aV iN.out.lt
          have z0 := dG.cell 0
          have z1 := dG.cell 1
          have z2 := dG.cell 2
          simp at z0 z1 z2
          obtain ⟨u4, Ud⟩ : ∃ v, WC.alloc (.cells #[.int .i64 tk, .int .i64 tm, .slice ya es.length yc] 36) = v := ⟨_, rfl⟩
          have hb4 : Below WC.heap.size WC u4 := by rw [← Ud]; exact (Below.refl _ _).alloc (Nat.le_refl _) _
          have fH : Hid (ak u4 WC.heap.size #[.int .i64 tk, .int .i64 tm, .slice ya es.length yc] 36) := ahZ (by rw [← Ud]; exact ak.new _ _ _)
          have EA := aV.trans (hb4.mono aV.size)
          have dS := ahZ (nW HR3.out EA)
          have kZ := ahZ (HB3.out.trans (EA.mono HB3.out.size))
          clear aV nK dG hb4 EA x0 x1 x2
          go_wp2_with (at_builtin; refine IY _ rfl (.tmp 101) (.tmp 103) rfl w.heap.size _ own (by first | rfl | (rw [HLEN.out]; rfl)) dS.out _ ⟨yk, ⟨tk, tm, es⟩, ya, yc⟩ rfl fH.out (TV HOL.out eB.out NS.out.1) kZ.out.size ?_)
          intro v' w' hr hg
          have HF := ahZ (And.intro hr (kZ.out.grown hg kZ.out.size (λj e => (dS.out.lt j e).1)))
          clear hr hg
          go_wp2
          go_roundw
          case rel => exact ⟨k + 1, _, own ++ [⟨yk, ⟨tk, tm, es⟩, ya, yc⟩], eB.out, rfl, rfl, by rw [List.map_append, Lx.out, Nz.out]; rfl, λq hq => by
            rcases List.mem_append.1 hq with hq | hq
            · exact HQ.out q hq
            · simp at hq; subst hq; exact HYM.out, by rw [List.length_append]; exact Nat.add_le_add_right HOL.out 1, (by have h := HF.out.1; rw [List.length_append, List.flatMap_append]; simpa using h), HF.out.2⟩
          case measure => exact lS eB.out
    · obtain rfl : k = rE.length := by omega
      generalize wr = we at *
      have LA : own.map (·.sn) = yL (rE.map (·.sn)) := by rw [List.take_length] at hm; exact hm
      have iT : ∀ q ∈ own, dH w q.a q.sn.ents /\ aA q.sn.time := λq hqm => by
        obtain ⟨i, hi, rfl⟩ := List.mem_iff_getElem.1 (hq q hqm)
        have := HS.out i _ (List.getElem?_eq_getElem hi)
        exact ⟨this.1.1, this.1.2.2⟩
      have hoo := Yt (rE.map (·.sn)) (λs hs => by
        obtain ⟨q, hq', rfl⟩ := List.mem_map.1 hs
        obtain ⟨i, hi, rfl⟩ := List.mem_iff_getElem.1 hq'
        exact (HS.out i _ (List.getElem?_eq_getElem hi)).1.1.ok)
      have hon : own.length <= 8 := by have := NS.out; omega
      have HO : Hid (yh (own.map (·.sn))) := ahZ ⟨by rw [LA]; exact hoo.1.tell, by rw [LA]; exact hoo.1.up, by rw [List.length_map]; exact hon⟩
      have HE := ahZ iT
      have HR := ahZ hR
      have HB := ahZ hb
      obtain ⟨vo, vc, rfl⟩ : ∃ a c, v = .slice a own.length c := by
        obtain ⟨_, ⟨rfl, hn⟩ | ⟨g, cap, cur, rfl, q1, q2, q3⟩⟩ := hR
        · exact ⟨none, 0, by rw [hn]⟩
        · exact ⟨_, _, rfl⟩
      obtain ⟨u1, hu1⟩ : ∃ v, we.alloc (.cells #[] 36) = v := ⟨_, rfl⟩
      have hb1 : Below we.heap.size we u1 := by rw [← hu1]; exact (Below.refl _ _).alloc (Nat.le_refl _) _
      have HZ1 : Hid (u1.ownsRow we.heap.size 36 3 (.slice (some ⟨we.heap.size, 0, none⟩) 0 0) 0 []) := ahZ ⟨rfl, .inr ⟨we.heap.size, 0, #[], rfl, Nat.le_refl _, by rw [← hu1]; exact heap_alloc_new we _, Nat.le_refl _, Nat.zero_le _, rfl, rfl⟩⟩
      have HR1 := ahZ (nW hR hb1)
      have PO := ahZ hb1
      have K5 := ahZ hon
      clear hm hq hol LA iT hoo hb hR hb1
      go_wp2_with (at_builtin; refine Lr u1 rfl (.tmp 106) (.tmp 107) rfl we.heap.size _ rfl HZ1.out w.heap.size _ own rfl HR1.out (by omega) PO.out.size ?_)
      intro vt w2 hrt hgt
      obtain ⟨ta, tc, rfl⟩ : ∃ a c, vt = .slice a own.length c := by
        obtain ⟨_, ⟨rfl, hn⟩ | ⟨g, cap, cur, rfl, q1, q2, q3⟩⟩ := hrt
        · exact ⟨none, 0, by rw [hn]⟩
        · exact ⟨_, _, rfl⟩
      have HT2 := ahZ hrt
      have HB2 : Hid (Below we.heap.size we w2) := ahZ (PO.out.grown hgt PO.out.size (λj e => (HZ1.out.lt j e).1))
      clear hrt hgt hu1 HZ1 HR1 PO
      go_wp2_with fail
      go_loopw [111] (λi wx => ∃ (k : Nat) (ts : List aG), k <= len1 /\ i = .int .i64 k /\ ts.Perm own /\ wx.ownsRow we.heap.size 36 3 (.slice ta own.length tc) own.length (ts.flatMap iV) /\ Below we.heap.size we wx) (λi _ => len1 - (intOf i).toNat)
      case atStart => exact ⟨0, own, Nat.zero_le _, rfl, List.Perm.refl _, HT2.out, HB2.out⟩
      case round =>
        obtain ⟨k, ts, hk, rfl, hp, hT, hb⟩ := hrel
        by_cases hlt : k < len1
        · have hlt' : (k : Int) < len1 := by omega
          obtain ⟨zl, zw, zc⟩ := HZ.out
          obtain ⟨b1, o1, rfl, hbl, zc⟩ : ∃ b off, a1 = some ⟨b, off, none⟩ /\ b < w.heap.size /\ ∀ i, i < len1 -> w.cell? ⟨b, off + i, none⟩ = some (.int .u8 (zs.getD i 0)) := by
            rcases zc with h | h
            · omega
            · exact h
          have hbw := HB.out.trans (hb.mono HB.out.size)
          have d0 := (hbw.cell (p := ⟨b1, o1 + k, none⟩) hbl).trans (zc k hlt)
          obtain ⟨z, hz⟩ : ∃ z, zs.getD k 0 = z := ⟨_, rfl⟩
          have Ms : 0 <= z /\ z <= 255 := by
            have hm : z ∈ zs := by
              have : k < zs.length := by omega
              rw [← hz]
              simp [List.getD, List.getElem?_eq_getElem this]
            have h := zw _ hm
            simp [Lit.wf, IntKind.min, IntKind.max, IntKind.bits, IntKind.signed] at h
            exact ⟨h.1, by omega⟩
          obtain ⟨zn, hzn⟩ : ∃ zn : Nat, z = zn := ⟨z.toNat, by omega⟩
          have hzb : zn <= 255 := by omega
          rw [hz] at d0
          rw [hzn] at d0 Ms hz
          have hw : wrap64 ((k : Int) + 1) = (k : Int) + 1 := by have := NS.out; unfold wrap64; omega
          have eB := ahZ hlt
          have HP := ahZ hp
          have HT := ahZ hT
          have Xe := ahZ hb
          have TT : Hid (ts.length = own.length) := ahZ hp.length_eq
          clear zl zw zc hbw hp hT hb hzn
          clear Ms hz
          rcases Nat.eq_zero_or_pos own.length with h0 | h0
          · have n0 : ¬ (0 : Int) < (own.length : Int) := by omega
            clear h0
            go_wp2
            go_roundw
            case rel => exact ⟨k + 1, ts, eB.out, by go_num, HP.out, HT.out, Xe.out⟩
            case measure => exact lS eB.out
          · have n0 : (0 : Int) < (own.length : Int) := by omega
            have n1 : ¬ (own.length : Int) = 0 := by omega
            have n2 : ¬ own = [] := λh => by rw [h] at h0; exact Nat.lt_irrefl 0 h0
            obtain ⟨a, ha⟩ : ∃ a, k % own.length = a := ⟨_, rfl⟩
            obtain ⟨b, hb⟩ : ∃ b, zn % own.length = b := ⟨_, rfl⟩
            have hal : a < own.length := by rw [← ha]; exact Nat.mod_lt _ h0
            have OQ : b < own.length := by rw [← hb]; exact Nat.mod_lt _ h0
            have m1 : Int.tmod (k : Int) (own.length : Int) = (a : Int) := by rw [← ha]; exact (Int.ofNat_tmod k own.length).symm
            have m2 : Int.tmod (zn : Int) (own.length : Int) = (b : Int) := by rw [← hb]; exact (Int.ofNat_tmod zn own.length).symm
            have hab : a <= 8 /\ b <= 8 := by have := K5.out; omega
            have m3 : IntKind.i64.wrap (a : Int) = a := by rw [IntKind.wrap_i64]; omega
            have m4 : IntKind.i64.wrap (b : Int) = b := by rw [IntKind.wrap_i64]; omega
            have m5 : IntKind.i64.wrap (zn : Int) = zn := by rw [IntKind.wrap_i64]; omega
            have Xf := ahZ (And.intro hal OQ)
            clear h0 ha hb hab hal OQ
            go_wp2_with fail
            refine aR 10 (by kernel_rfl) (by kernel_rfl) ?_
            simp only [List.take_succ_cons, List.take_zero, List.drop_succ_cons, List.drop_zero]
            repeat (apply aB; (next => (intro W hW K hK; go_simp; first | exact ⟨hW, hK⟩ | exact hK)); (next => exact aO.self _); (try go_simp))
            refine aW ?_
            intro WC aM
            have aV : Below wr.heap.size wr WC := aM
            obtain ⟨gT, rfl⟩ : ∃ g, ta = some ⟨g, 0, none⟩ := by
              obtain ⟨_, ⟨_, h⟩ | ⟨g, cap, cur, e, _⟩⟩ := HT.out
              · omega
              · cases e; exact ⟨g, rfl⟩
            have ha' : a < ts.length := by rw [TT.out]; exact Xf.out.1
            have hb' : b < ts.length := by rw [TT.out]; exact Xf.out.2
            have hxa : ts[a]? = some ts[a] := List.getElem?_eq_getElem ha'
            have hyb : ts[b]? = some ts[b] := List.getElem?_eq_getElem hb'
            have hperm : ((ts.set a ts[b]).set b ts[a]).Perm own := (List.set_set_perm ha' hb').trans HP.out
            obtain ⟨x, hx⟩ : ∃ x, ts[a] = x := ⟨_, rfl⟩
            obtain ⟨y, hy⟩ : ∃ y, ts[b] = y := ⟨_, rfl⟩
            rw [hx] at hxa
            rw [hy] at hyb
            rw [hx, hy] at hperm
            obtain ⟨W0, hW0⟩ : ∃ W0, WC.drew = W0 := ⟨_, rfl⟩
            have hB0 : Below WC.heap.size WC W0 := by rw [← hW0]; exact Below.drew (Below.refl _ _)
            have hT0 := nW (nW HT.out aV) hB0
            obtain ⟨xk, ⟨xt, xm, xe⟩, xa, xc⟩ := x
            obtain ⟨yk, ⟨yt, ym, ye⟩, ya, yc⟩ := y
            obtain ⟨ca0, ca1, Zw⟩ := tQ hT0 hxa
            obtain ⟨cb0, cb1, cb2⟩ := tQ hT0 hyb
            have fa0 := qg hT0 (a * 3)
            have fa1 := qg hT0 (a * 3 + 1)
            have fa2 := qg hT0 (a * 3 + 2)
            have s1 := I4 hT0 ha' ⟨yk, ⟨yt, ym, ye⟩, ya, yc⟩
            obtain ⟨W1, hW1⟩ : ∃ W1, ((W0.setCell ⟨gT, a * 3, none⟩ (.int .i64 yt)).setCell ⟨gT, a * 3 + 1, none⟩ (.int .i64 ym)).setCell ⟨gT, a * 3 + 2, none⟩ (.slice ya ye.length yc) = W1 := ⟨_, rfl⟩
            simp only [dV] at s1 Zw cb2
            rw [hW1] at s1
            have hb1 : b < (ts.set a ⟨yk, ⟨yt, ym, ye⟩, ya, yc⟩).length := by rw [List.length_set]; exact hb'
            have hqb : (ts.set a ⟨yk, ⟨yt, ym, ye⟩, ya, yc⟩)[b]? = some (ts.set a ⟨yk, ⟨yt, ym, ye⟩, ya, yc⟩)[b] := List.getElem?_eq_getElem hb1
            generalize (ts.set a ⟨yk, ⟨yt, ym, ye⟩, ya, yc⟩)[b] = q at hqb
            obtain ⟨cc0, cc1, cc2⟩ := tQ s1.1 hqb
            have fb0 := qg s1.1 (b * 3)
            have fb1 := qg s1.1 (b * 3 + 1)
            have fb2 := qg s1.1 (b * 3 + 2)
            have s2 := I4 s1.1 hb1 ⟨xk, ⟨xt, xm, xe⟩, xa, xc⟩
            obtain ⟨W2, hW2⟩ : ∃ W2, ((W1.setCell ⟨gT, b * 3, none⟩ (.int .i64 xt)).setCell ⟨gT, b * 3 + 1, none⟩ (.int .i64 xm)).setCell ⟨gT, b * 3 + 2, none⟩ (.slice xa xe.length xc) = W2 := ⟨_, rfl⟩
            simp only [dV] at s2
            rw [hW2] at s2
            have hg : we.heap.size <= gT := (HT.out.lt gT rfl).1
            have HF : Hid (((ts.set a ⟨yk, ⟨yt, ym, ye⟩, ya, yc⟩).set b ⟨xk, ⟨xt, xm, xe⟩, xa, xc⟩).Perm own /\ W2.ownsRow we.heap.size 36 3 (.slice (some ⟨gT, 0, none⟩) own.length tc) own.length (((ts.set a ⟨yk, ⟨yt, ym, ye⟩, ya, yc⟩).set b ⟨xk, ⟨xt, xm, xe⟩, xa, xc⟩).flatMap iV) /\ Below we.heap.size we W2) := ahZ ⟨hperm, s2.1, by
              have e1 := Xe.out
              have e2 : Below we.heap.size we W0 := (e1.trans (aV.mono e1.size)).trans (hB0.mono (Nat.le_trans e1.size aV.size))
              exact e2.trans (((s1.2.trans s2.2)).below (Nat.le_trans e2.size (Nat.le_refl _)) (λk hk => by rw [hk]; exact hg))⟩
            have aP : (0 : Int) <= (a : Int) := by omega
            have bP : (0 : Int) <= (b : Int) := by omega
            have aL : (a : Int) < own.length := by have := Xf.out.1; omega
            have bL : (b : Int) < own.length := by have := Xf.out.2; omega
            clear aM aV ha' hb' hxa hyb hperm hx hy hB0 hT0 s1 s2 hb1 hqb hg
            go_wp2_with fail
            apply wG 15 [13] (SwI W0 W1 13)
            case hm => kernel_rfl
            case hB => kernel_rfl
            case hp => kernel_rfl
            case hI => exact hW0
            simp only [List.take_succ_cons, List.take_zero, List.drop_succ_cons, List.drop_zero]
            repeat (apply eD; (next => rfl); (next => (intro b W hf hW K hK; match b, hW with
              | [], hW => (obtain rfl : W = W0 := hW; go_simp; first | exact ⟨rfl, hK⟩ | exact hK)
              | p :: r, hW => first | (go_simp; first | exact ⟨hW, hK⟩ | exact hK) | (exfalso; have e := hf p (List.mem_cons_self ..); rw [hW.1] at e; exact absurd (e.symm.trans (by kernel_rfl : _ = true)) (by decide)))); (next => exact ⟨W0, rfl⟩); (try go_simp))
            apply rZ (s := λ_ => True)
            case hk => rfl
            case hne => exact ⟨undef, trivial⟩
            case hw => rfl
            case h =>
              intro W hW
              obtain rfl : W = W0 := hW
              go_simp
              first | exact ⟨rfl, hW1⟩ | exact ⟨trivial, rfl, hW1⟩ | exact ⟨rfl, rfl⟩ | exact ⟨trivial, rfl, rfl⟩
            intro u1 _
            repeat (apply eD; (next => rfl); (next => (intro b W hf hW K hK; match b, hW with
              | [], hW => (obtain rfl : W = W0 := hW; go_simp; first | exact ⟨rfl, hK⟩ | exact hK)
              | p :: r, hW => first | (go_simp; first | exact ⟨hW, hK⟩ | exact hK) | (exfalso; have e := hf p (List.mem_cons_self ..); rw [hW.1] at e; exact absurd (e.symm.trans (by kernel_rfl : _ = true)) (by decide)))); (next => exact ⟨W0, rfl⟩); (try go_simp))
            refine Bp ?_
            intro W hW
            obtain rfl : W = W1 := hW.2
            go_wp2
            go_roundw
            case rel => exact ⟨k + 1, _, eB.out, by go_num, HF.out⟩
            case measure => exact lS eB.out
        · obtain rfl : k = len1 := by omega
          generalize wr = wf at *
          have HP := ahZ hp
          have HPM : Hid ((ts.map (·.sn)).Perm (own.map (·.sn))) := ahZ (hp.map _)
          have HTf := ahZ hT
          have hef := hb
          have NT := ahZ (nW HR.out hb)
          have I6 := ahZ (HB.out.trans (hb.mono HB.out.size))
          have pf := λW => GJ W
          have nw := λW => Lb aU jM fG W
          clear hp hT hb hef HR HB HT2 HB2
          go_wp2_with fail
          refine (pf wf).mono ?_
          rintro e w3 ⟨rfl, hb3⟩
          have HB3 := ahZ hb3
          clear hb3
          go_wp2_with fail
          refine (nw w3).mono ?_
          rintro e w4 ⟨C, SC, rfl, hC, IB, hb4⟩
          have NQ := ahZ hC
          have BI : Hid (∀ j, SC j -> wf.heap.size <= j) := ahZ (λj hj => Nat.le_trans HB3.out.size (IB j hj))
          have gF := ahZ (HB3.out.trans (hb4.mono HB3.out.size))
          clear hC IB hb4
          go_wp2_with fail
          refine (pf w4).mono ?_
          rintro e w5 ⟨rfl, hb5⟩
          have HC5 := ahZ (NQ.out.below hb5)
          have kZ := ahZ (gF.out.trans (hb5.mono gF.out.size))
          have H45 : Hid (w4.heap.size <= w5.heap.size) := ahZ hb5.size
          clear hb5 pf
          go_wp2_with fail
          refine (nw w5).mono ?_
          rintro e w6 ⟨D, SD, rfl, hD, hSD, hb6⟩
          have Ub := ahZ (HC5.out.below hb6)
          have HD6 := ahZ hD
          have lg := ahZ (kZ.out.trans (hb6.mono kZ.out.size))
          have abg : Hid (∀ j, SC j -> ¬ SD j) := ahZ (λj h1 h2 => by
            have a1 := NQ.out.lt j h1
            have a2 := hSD j h2
            have a3 := H45.out
            omega)
          have HSD : Hid (∀ j, SC j \/ SD j -> wf.heap.size <= j) := ahZ (λj hj => by
            rcases hj with hj | hj
            · exact BI.out j hj
            · exact Nat.le_trans kZ.out.size (hSD j hj))
          clear hD hSD hb6 nw
          go_wp2_with fail
          go_loopw [169] (λi wx => ∃ (k : Nat) (SC SD : Nat -> Prop) (cc cd : CS), k <= own.length /\ i = .int .i64 k /\ fZ wx C aU ⟨pO (own.map (·.sn)) k, 0, false, cc⟩ SC /\ fZ wx D aU ⟨pO (ts.map (·.sn)) k, 0, false, cd⟩ SD /\ (∀ j, SC j -> ¬ SD j) /\ (∀ j, SC j \/ SD j -> wf.heap.size <= j) /\ cc.L.length = k /\ cd.L.length = k /\ Below wf.heap.size wf wx) (λi _ => own.length - (intOf i).toNat)
          case atStart => exact ⟨0, SC, SD, cs0 aU, cs0 aU, Nat.zero_le _, rfl, Ub.out, HD6.out, abg.out, HSD.out, rfl, rfl, lg.out⟩
          case round =>
            obtain ⟨k, NU, NV, cc, cd, hk, rfl, hC, hD, V4, hge, hcc, hcd, hb⟩ := hrel
            clear Ub HD6 abg HSD lg HC5 kZ H45 NQ BI gF HB3
            by_cases hlt : k < own.length
            · have hlt' : (k : Int) < own.length := by omega
              obtain ⟨gO, rfl⟩ : ∃ g, vo = some ⟨g, 0, none⟩ := by
                obtain ⟨_, ⟨_, h⟩ | ⟨g, cap, cur, e, _⟩⟩ := NT.out
                · omega
                · cases e; exact ⟨g, rfl⟩
              obtain ⟨gT, rfl⟩ : ∃ g, ta = some ⟨g, 0, none⟩ := by
                obtain ⟨_, ⟨_, h⟩ | ⟨g, cap, cur, e, _⟩⟩ := HTf.out
                · omega
                · cases e; exact ⟨g, rfl⟩
              have I7 := (NT.out.lt gO rfl).2
              have hgT := (HTf.out.lt gT rfl).2
              obtain ⟨y, hy⟩ : ∃ y, own[k]? = some y := ⟨_, List.getElem?_eq_getElem hlt⟩
              obtain ⟨z, hz⟩ : ∃ z, ts[k]? = some z := ⟨_, List.getElem?_eq_getElem (by rw [HP.out.length_eq]; exact hlt)⟩
              obtain ⟨c0, c1, c2⟩ := tQ NT.out hy
              obtain ⟨e0, e1, e2⟩ := tQ HTf.out hz
              have d0 := (hb.cell (p := ⟨gO, k * 3, none⟩) I7).trans c0
              have d1 := (hb.cell (p := ⟨gO, k * 3 + 1, none⟩) I7).trans c1
              have d2 := (hb.cell (p := ⟨gO, k * 3 + 2, none⟩) I7).trans c2
              have LB := HE.out y (List.mem_of_getElem? hy)
              have hEz := HE.out z (HP.out.subset (List.mem_of_getElem? hz))
              have hsy : (own.map (·.sn))[k]? = some y.sn := by rw [List.getElem?_map, hy]; rfl
              have hsz : (ts.map (·.sn))[k]? = some z.sn := by rw [List.getElem?_map, hz]; rfl
              have ary := Lp (c := aU) fG rfl (List.Perm.refl (own.map (·.sn))) HO.out hsy cc
              have arz := Lp (c := aU) fG rfl HPM.out HO.out hsz cd
              obtain ⟨yk, ⟨yt, ym, ye⟩, ya, yc⟩ := y
              obtain ⟨zk, ⟨zt, zm, ze⟩, za, zc⟩ := z
              have hbw : Below w.heap.size w wr := I6.out.trans (hb.mono I6.out.size)
              have fa := F4 yt ym LB.2 ya yc ye wr (LB.1.below hbw)
              unfold bC at fa
              have HEZ : Hid (dH w za ze /\ aA zm) := ahZ hEz
              have HAY := ahZ ary
              have HAZ := ahZ arz
              have HCx := ahZ hC
              have HDx := ahZ hD
              have HDI := ahZ V4
              have Xg := ahZ hge
              have Xh := ahZ (And.intro hcc hcd)
              have I8 := ahZ hb
              have eB := ahZ hlt
              have HK8 : Hid (k < 1000) := ahZ (by have := K5.out; omega)
              have HTC := ahZ (And.intro e0 (And.intro e1 e2))
              try simp only [dV] at d0 d1 d2
              clear hC hD V4 hge hcc hcd hb hy hz c0 c1 c2 e0 e1 e2 LB hEz hsy hsz ary arz hbw
              go_wp2_with fail
              refine fa.mono ?_
              rintro e w7 ⟨v, rfl, hO, hb⟩
              obtain ⟨va, vb, rfl, Cw, Cx, hvl, _⟩ := hO.cap
              have NR := HCx.out.below hb
              have ac := xY C aU jM fG _ NU 0 ⟨by decide, by decide⟩ va (fM ⟨yt, ym, ye⟩).length vb (fM ⟨yt, ym, ye⟩) w7 NR Cw Cx hvl (yj _) (by rw [Xh.out.1]; exact HK8.out) (Ab fG NR.room)
              rw [HAY.out.1, HAY.out.2] at ac
              have HD7 := ahZ (HDx.out.below hb)
              have lT := ahZ (I8.out.trans (hb.mono I8.out.size))
              clear hO hb Cw Cx hvl NR fa d0 d1 d2
              go_wp2_with fail
              refine ac.mono ?_
              rintro e w8 ⟨rfl, Uc, I5⟩
              have Xd := ahZ Uc
              have hD8 := HD7.out.only I5 (λj hj hs => HDI.out j hs hj)
              have YK := ahZ hD8
              have DX : Below wf.heap.size wf w8 := lT.out.trans (I5.below lT.out.size (λj hj => Xg.out j (.inl hj)))
              have vT := ahZ DX
              obtain ⟨c0, c1, c2⟩ := HTC.out
              have d0 := (DX.cell (p := ⟨gT, k * 3, none⟩) hgT).trans c0
              have d1 := (DX.cell (p := ⟨gT, k * 3 + 1, none⟩) hgT).trans c1
              have d2 := (DX.cell (p := ⟨gT, k * 3 + 2, none⟩) hgT).trans c2
              have fa := F4 zt zm HEZ.out.2 za zc ze w8 (HEZ.out.1.below (I6.out.trans (DX.mono I6.out.size)))
              unfold bC at fa
              have H78 : Hid (w7.heap.size <= w8.heap.size) := ahZ I5.size
              try simp only [dV] at d0 d1 d2
              clear ac Uc I5 hD8 DX c0 c1 c2
              go_wp2_with fail
              refine fa.mono ?_
              rintro e w9 ⟨v, rfl, hO, hb⟩
              obtain ⟨va, vb, rfl, Cw, Cx, hvl, _⟩ := hO.cap
              have hD9 := YK.out.below hb
              have ac := xY D aU jM fG _ NV 0 ⟨by decide, by decide⟩ va (fM ⟨zt, zm, ze⟩).length vb (fM ⟨zt, zm, ze⟩) w9 hD9 Cw Cx hvl (yj _) (by rw [Xh.out.2]; exact HK8.out) (Ab fG hD9.room)
              rw [HAZ.out.1, HAZ.out.2] at ac
              have HC9 := ahZ (Xd.out.below hb)
              have vU := ahZ (vT.out.trans (hb.mono vT.out.size))
              have H89 : Hid (w8.heap.size <= w9.heap.size) := ahZ hb.size
              clear hO hb Cw Cx hvl hD9 fa d0 d1 d2
              go_wp2_with fail
              refine ac.mono ?_
              rintro e wa ⟨rfl, hDa, hOa⟩
              have V5 : ∀ j, Grow NU w7 w8 j -> ¬ NV j := λj hj hs => by
                rcases hj.1 with h | h
                · exact HDI.out j h hs
                · have := HD7.out.lt j hs; omega
              have HF : Hid (fZ wa C aU ⟨pO (own.map (·.sn)) (k + 1), 0, false, rD aU cc (aN 0 ym)⟩ (Grow NU w7 w8) /\ fZ wa D aU ⟨pO (ts.map (·.sn)) (k + 1), 0, false, rD aU cd (aN 0 zm)⟩ (Grow NV w9 wa) /\ (∀ j, Grow NU w7 w8 j -> ¬ Grow NV w9 wa j) /\ (∀ j, Grow NU w7 w8 j \/ Grow NV w9 wa j -> wf.heap.size <= j) /\ (rD aU cc (aN 0 ym)).L.length = k + 1 /\ (rD aU cd (aN 0 zm)).L.length = k + 1 /\ Below wf.heap.size wf wa) := ahZ
                ⟨HC9.out.only hOa V5, hDa, λj h1 h2 => by
                  rcases h2.1 with h | h
                  · exact V5 j h1 h
                  · have := h1.2; have := H89.out; omega, λj hj => by
                  rcases hj with hj | hj
                  · rcases hj.1 with h | h
                    · exact Xg.out j (.inl h)
                    · exact Nat.le_trans lT.out.size h
                  · rcases hj.1 with h | h
                    · exact Xg.out j (.inr h)
                    · exact Nat.le_trans vU.out.size h, by show (cc.L ++ [_]).length = _; rw [List.length_append, Xh.out.1]; rfl, by show (cd.L ++ [_]).length = _; rw [List.length_append, Xh.out.2]; rfl, vU.out.trans (hOa.below vU.out.size (λj hj => Xg.out j (.inr hj)))⟩
              have hw : wrap64 ((k : Int) + 1) = (k : Int) + 1 := by have := HK8.out; unfold wrap64; omega
              clear ac hDa hOa V5
              go_wp2
              go_roundw
              case rel => exact ⟨k + 1, _, _, _, _, eB.out, by go_num, HF.out⟩
              case measure => exact lS eB.out
            · obtain rfl : k = own.length := by omega
              generalize wr = wg at *
              have hl1 : (own.map (·.sn)).length = own.length := List.length_map _
              have hA := Lm (List.Perm.refl (own.map (·.sn))) HO.out
              have hB := Lm HPM.out HO.out
              rw [hl1] at hA hB
              rw [hA] at hC
              rw [hB] at hD
              have ka := TU C aU _ NU wg hC
              have HDg := ahZ hD
              have HBg := ahZ hb
              clear hC hD V4 hge hcc hcd hb hl1 hA hB
              go_wp2_with fail
              refine ka.mono ?_
              rintro e w7 ⟨v, kA, rfl, Nb, LA, RQ⟩
              clear ka
              have kb := TU D aU _ NV w7 (HDg.out.below RQ)
              obtain ⟨aa, ca, rfl, _, _, _⟩ := Nb.ND
              have HKA := ahZ Nb
              have hlA : kA.length = own.length := by have := congrArg List.length LA; simpa using this
              have HMA := ahZ LA
              have lT := ahZ (HBg.out.trans (RQ.mono HBg.out.size))
              clear Nb LA RQ
              go_wp2_with fail
              refine kb.mono ?_
              rintro e w8 ⟨v, kB, rfl, hKB, hmB, DX⟩
              clear kb
              obtain ⟨ab, cb, rfl, _, _, _⟩ := hKB.ND
              have V6 := ahZ (HKA.out.below DX)
              have HKB := ahZ hKB
              have hlB : kB.length = own.length := by have := congrArg List.length hmB; simpa using this
              have HMB := ahZ hmB
              have vT := ahZ (lT.out.trans (DX.mono lT.out.size))
              have HLA := ahZ hlA
              have HLB := ahZ hlB
              clear hKB hmB DX HKA HDg
              go_wp2_with fail
              go_loopw [209] (λi wx => ∃ k : Nat, k <= own.length /\ i = .int .i64 k /\ Below w8.heap.size w8 wx) (λi _ => own.length - (intOf i).toNat)
              case atStart => exact ⟨0, Nat.zero_le _, rfl, Below.refl _ _⟩
              case round =>
                obtain ⟨k, hk, rfl, hb⟩ := hrel
                by_cases hlt : k < own.length
                · have hlt' : (k : Int) < own.length := by omega
                  obtain ⟨gO, rfl⟩ : ∃ g, vo = some ⟨g, 0, none⟩ := by
                    obtain ⟨_, ⟨_, h⟩ | ⟨g, cap, cur, e, _⟩⟩ := NT.out
                    · omega
                    · cases e; exact ⟨g, rfl⟩
                  have I7 := (NT.out.lt gO rfl).2
                  obtain ⟨y, hy⟩ : ∃ y, own[k]? = some y := ⟨_, List.getElem?_eq_getElem hlt⟩
                  obtain ⟨p, hp⟩ : ∃ p, kA[k]? = some p := ⟨_, List.getElem?_eq_getElem (by rw [HLA.out]; exact hlt)⟩
                  obtain ⟨q, hq⟩ : ∃ q, kB[k]? = some q := ⟨_, List.getElem?_eq_getElem (by rw [HLB.out]; exact hlt)⟩
                  have hps : p.sn = y.sn := by
                    have h := congrArg (λl : List Sn => l[k]?) HMA.out
                    simp only [List.getElem?_map, hp, hy, Option.map_some] at h
                    exact Option.some.inj h
                  have hqs : q.sn = y.sn := by
                    have h := congrArg (λl : List Sn => l[k]?) HMB.out
                    simp only [List.getElem?_map, hq, hy, Option.map_some] at h
                    exact Option.some.inj h
                  obtain ⟨gA, cA, e1, hgA, a0, a1, a2⟩ := V6.out.cells hp
                  obtain ⟨gB, cB, e2, hgB, b0, b1, b2⟩ := HKB.out.cells hq
                  injection e1 with e1 _ e3
                  injection e2 with e2 _ e4
                  subst e1 e2 e3 e4
                  obtain ⟨c0, c1, c2⟩ := tQ NT.out hy
                  have hbf : Below wf.heap.size wf wr := vT.out.trans (hb.mono vT.out.size)
                  have d0 := (hbf.cell (p := ⟨gO, k * 3, none⟩) I7).trans c0
                  have d1 := (hbf.cell (p := ⟨gO, k * 3 + 1, none⟩) I7).trans c1
                  have d2 := (hbf.cell (p := ⟨gO, k * 3 + 2, none⟩) I7).trans c2
                  have i0 := (hb.cell (p := ⟨gA, k * 3, none⟩) hgA).trans a0
                  have i1 := (hb.cell (p := ⟨gA, k * 3 + 1, none⟩) hgA).trans a1
                  have i2 := (hb.cell (p := ⟨gA, k * 3 + 2, none⟩) hgA).trans a2
                  have j0 := (hb.cell (p := ⟨gB, k * 3, none⟩) hgB).trans b0
                  have j1 := (hb.cell (p := ⟨gB, k * 3 + 1, none⟩) hgB).trans b1
                  have j2 := (hb.cell (p := ⟨gB, k * 3 + 2, none⟩) hgB).trans b2
                  have LB := (HE.out y (List.mem_of_getElem? hy)).1.below (I6.out.trans (hbf.mono I6.out.size))
                  have Xi := V6.out.ents p (List.mem_of_getElem? hp)
                  have V7 := HKB.out.ents q (List.mem_of_getElem? hq)
                  have hpe : dH wr p.a p.sn.ents := by
                    obtain ⟨a', c', e, h, _⟩ := (Xi.1.below hb).ents Xi.2.1
                    injection e with e1
                    rw [e1]; exact h
                  have hqe : dH wr q.a q.sn.ents := by
                    obtain ⟨a', c', e, h, _⟩ := (V7.1.below hb).ents V7.2.1
                    injection e with e1
                    rw [e1]; exact h
                  have h64 : y.sn.ents.length <= 1000 := by rw [← hps]; have := Xi.2.2; omega
                  obtain ⟨yk, ⟨yt, ym, ye⟩, ya, yc⟩ := y
                  obtain ⟨pk, psn, pa, pc⟩ := p
                  obtain ⟨qk, qsn, qa, qc⟩ := q
                  simp only at hps hqs hpe hqe LB h64
                  subst hps hqs
                  have HEY := ahZ LB
                  have HEP := ahZ hpe
                  have HEQ := ahZ hqe
                  have Lf := ahZ h64
                  have I8 := ahZ hb
                  have eB := ahZ hlt
                  have hw : wrap64 ((k : Int) + 1) = (k : Int) + 1 := by have := K5.out; unfold wrap64; omega
                  try simp only [dV] at d0 d1 d2 i0 i1 i2 j0 j1 j2
                  clear hb hy hp hq a0 a1 a2 b0 b1 b2 c0 c1 c2 hbf LB Xi V7 hpe hqe h64
                  go_wp2_with fail
                  refine aR 19 (by kernel_rfl) (by kernel_rfl) ?_
                  simp only [List.take_succ_cons, List.take_zero, List.drop_succ_cons, List.drop_zero]
                  repeat (apply aB; (next => (intro W hW K hK; have y0 := hW.cell d0; have y1 := hW.cell d1; have y2 := hW.cell d2; have y3 := hW.cell i0; have y4 := hW.cell i1; have y5 := hW.cell i2; have y6 := hW.cell j0; have y7 := hW.cell j1; have y8 := hW.cell j2; go_simp; first | exact ⟨hW, hK⟩ | exact hK)); (next => exact aO.self _); (try go_simp))
                  (apply aB; (next => (intro W hW K hK; go_simp; first | exact ⟨_, hW.call (Ez yt ym ye pa ya pc yc Lf.out W (HEP.out.below hW) (HEY.out.below hW)), hK⟩ | exact ⟨hW, _, hW.call (Ez yt ym ye pa ya pc yc Lf.out W (HEP.out.below hW) (HEY.out.below hW)), hK⟩)); (next => exact aO.self _); (try go_simp))
                  repeat (apply aB; (next => (intro W hW K hK; have y0 := hW.cell d0; have y1 := hW.cell d1; have y2 := hW.cell d2; have y3 := hW.cell i0; have y4 := hW.cell i1; have y5 := hW.cell i2; have y6 := hW.cell j0; have y7 := hW.cell j1; have y8 := hW.cell j2; go_simp; first | exact ⟨hW, hK⟩ | exact hK)); (next => exact aO.self _); (try go_simp))
                  refine aW ?_
                  intro WC aM
                  have aV : Below wr.heap.size wr WC := aM
                  have sm := Ez yt ym ye qa ya qc yc Lf.out WC (HEQ.out.below aV) (HEY.out.below aV)
                  unfold bC at sm
                  have HBy := ahZ (I8.out.trans (aV.mono I8.out.size))
                  clear aM aV
                  go_wp2_with fail
                  refine sm.mono ?_
                  rintro e w9 ⟨rfl, EO⟩
                  have HF := ahZ (HBy.out.trans (EO.mono HBy.out.size))
                  clear EO sm d0 d1 d2 i0 i1 i2 j0 j1 j2 I7 hgA hgB hlt' hlt
                  go_wp2
                  go_roundw
                  case rel => exact ⟨k + 1, eB.out, by go_num, HF.out⟩
                  case measure => exact lS eB.out
                · obtain rfl : k = own.length := by omega
                  generalize wr = wg2 at *
                  have hgood : ∀ s ∈ own.map (·.sn), pI s := λs hs => (HO.out.tell s hs).good
                  have hT : ∀ s ∈ own.map (·.sn), aA s.time := λs hs => by
                    have := (hgood s hs).time
                    exact ⟨by omega, by omega⟩
                  have hSA : ∀ W, Below w8.heap.size w8 W -> Ld W aa kA := λW hW => by
                    obtain ⟨a', c', e, h, _⟩ := (V6.out.below hW).ND
                    injection e with e1
                    rw [e1]; exact h
                  have hSB : ∀ W, Below w8.heap.size w8 W -> Ld W ab kB := λW hW => by
                    obtain ⟨a', c', e, h, _⟩ := (HKB.out.below hW).ND
                    injection e with e1
                    rw [e1]; exact h
                  have sa := λW hW => GH aU jM au HAT.out aa ca kA (own.map (·.sn)) HMA.out hT (by have := HLA.out; have := K5.out; omega) W (hSA W hW)
                  have sb := λW hW => GH aU jM au HAT.out ab cb kB (own.map (·.sn)) HMB.out hT (by have := HLB.out; have := K5.out; omega) W (hSB W hW)
                  have abt : tL aU au (own.map (·.sn)) <= 64 := Yu (λs hs => (hgood s hs).len)
                  generalize tL aU au (own.map (·.sn)) = n at *
                  generalize VK aU au (own.map (·.sn)) = E at *
                  generalize Ad aU au (own.map (·.sn)) = P at *
                  rw [HLA.out] at sa
                  rw [HLB.out] at sb
                  unfold qA bE aU at sa sb
                  have I8 := ahZ hb
                  have HN := ahZ abt
                  have pf := λW => GJ W
                  unfold bE aU at pf
                  clear hb hgood hT hSA hSB abt
                  go_wp2_with fail
                  refine (pf wg2).mono ?_
                  rintro e w9 ⟨rfl, EO⟩
                  have vU := ahZ (I8.out.trans (EO.mono I8.out.size))
                  clear EO
                  go_wp2_with fail
                  refine (sa w9 vU.out).mono ?_
                  rintro e wa ⟨s1, p1, rfl, hP1, hba⟩
                  have x9 := ahZ hP1
                  have HBa := ahZ (vU.out.trans (hba.mono vU.out.size))
                  clear hP1 hba sa
                  go_wp2_with fail
                  refine (pf wa).mono ?_
                  rintro e wb ⟨rfl, hbb⟩
                  have ae1 := ahZ (x9.out.below hbb)
                  have Ls := ahZ (HBa.out.trans (hbb.mono HBa.out.size))
                  clear hbb pf
                  go_wp2_with fail
                  refine (sb wb Ls.out).mono ?_
                  rintro e wc ⟨s2, p2, rfl, hP2, hbc⟩
                  have ae2 := ahZ (ae1.out.below hbc)
                  have vP := ahZ hP2
                  have HBc := ahZ (vT.out.trans ((Ls.out.trans (hbc.mono Ls.out.size)).mono vT.out.size))
                  clear hP2 hbc sb
                  go_wp2_with fail
                  go_loopw [261] (λi wx => ∃ k : Nat, k <= n /\ i = .int .i64 k /\ Below wc.heap.size wc wx) (λi _ => n - (intOf i).toNat)
                  case atStart => exact ⟨0, Nat.zero_le _, rfl, Below.refl _ _⟩
                  case round =>
                    obtain ⟨k, hk, rfl, hb⟩ := hrel
                    by_cases hlt : k < n
                    · have hlt' : (k : Int) < n := by omega
                      obtain ⟨b1, o1, rfl, abu, hc1⟩ : ∃ b off, s1 = some ⟨b, off, none⟩ /\ b < wc.heap.size /\ ∀ i, i < n -> mo wc b (off + i * 6) (P i) := by
                        rcases ae2.out with h | h
                        · omega
                        · exact h
                      obtain ⟨b2, o2, rfl, abv, hc2⟩ : ∃ b off, s2 = some ⟨b, off, none⟩ /\ b < wc.heap.size /\ ∀ i, i < n -> mo wc b (off + i * 6) (P i) := by
                        rcases vP.out with h | h
                        · omega
                        · exact h
                      obtain ⟨a0, a1', a2, a3, a4, a5⟩ := (hc1 k hlt).below hb abu
                      obtain ⟨c0, c1, c2, c3, c4, c5⟩ := (hc2 k hlt).below hb abv
                      have hEq := Yx (P k)
                      have Xe := ahZ hb
                      have eB := ahZ hlt
                      have hw : wrap64 ((k : Int) + 1) = (k : Int) + 1 := by have := HN.out; unfold wrap64; omega
                      clear hb hc1 hc2
                      go_wp2_with fail
                      go_quiet (fail)
                      clear a0 a1' a2 a3 a4 a5 c0 c1 c2 c3 c4 c5 hEq abu abv hlt' hlt
                      go_wp2
                      go_roundw
                      case rel => exact ⟨k + 1, eB.out, aaS hw, below_drewN Xe.out _⟩
                      case measure => rw [hw]; exact lS eB.out
                    · obtain rfl : k = n := by omega
                      have HF : Hid (Below w.heap.size w wr) := ahZ (I6.out.trans ((HBc.out.trans (hb.mono HBc.out.size)).mono I6.out.size))
                      clear hb
                      go_wp2
                      go_ret
                      exact ⟨rfl, HF.out⟩
theorem topOrders_walk (a0 : Option Addr) (yM cap0 : Nat) (K T : Nat -> Int) (E : Nat -> Option Addr × Nat × Nat) (EE : Nat -> Nat -> ay) (a1 : Option Addr) (len1 tK : Nat) (zs : List Int) (au : Int) (w : World) (hS : jw w a0 yM K T E) (hx : ∀ i, i < yM -> aA (K i) /\ aA (T i) /\ bV w (E i).1 (E i).2.1 (EE i)) (hy : yM * 40 <= 140737488351232) (hz : iI .u8 w a1 len1 zs) (hy1 : len1 * 1 <= 140737488351232) (hat : aA au) :
    Calls Tryz.prog 4 #[.slice a0 yM cap0, .slice a1 len1 tK, .int .i64 au] w λe w' => e = .returned (.bool true) /\ Below w.heap.size w w' := by
  have hl : ((List.range yM).map (VZ K T E EE)).length = yM := by simp
  have h := topOrders_w a0 cap0 ((List.range yM).map (VZ K T E EE)) a1 len1 tK zs au w (Yz hS hx) (by rw [hl]; omega) hz (by omega) hat
  rw [hl] at h
  exact h
end Go.Proofs.YtklkooeimkedgaaGreat
