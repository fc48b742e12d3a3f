/- Walk of TopBeyond. -/
import Derived.Test.YtklkooeimkedgaaGreatB51
import Derived.Test.YtklkooeimkedgaaGreatB52
set_option linter.unusedVariables false
set_option linter.unusedSimpArgs false
namespace Go.Proofs.YtklkooeimkedgaaGreat
open Go.RowKit
set_option maxRecDepth 100000
set_option maxHeartbeats 2000000 in
theorem Vo (s : Option Addr) (len cap : Nat) (K T : Nat -> Int) (E : Nat -> Option Addr × Nat × Nat) (w : World) (h : iC w s len K T E) (hlen : (len : Int) <= 4611686018427387904) :
 Calls Tryz.prog 52 #[.slice s len cap] w λe w'=>(∃ v : Int,e = .returned (.int .i64 v) /\ (v = 0 /\ len <= 60 \/ v = 1)) /\ Below w.heap.size w w':=by
 have H:=aiS h;clear h
 go_enter Tryz.func52,Tryz.ntmps52
 go_wp2_with fail
 go_loopw [3,8] (λv i wr=>∃ (k : Nat) (m : Int),k <= len /\ i = .int .i64 k /\ v = .int .i64 m /\ Below w.heap.size w wr) (λ_ i _=>len - (intOf i).toNat)
 case atStart=>exact ⟨0,0,Nat.zero_le _,rfl,rfl,Below.refl _ _⟩
 case round =>
  obtain ⟨k,m,hk,rfl,rfl,hb⟩:=hrel
  by_cases hlt : k < len
  ·have hlt' : (k : Int) < len:=by omega
   rcases H.out with h0 | ⟨b,off,rfl,hbl,hc⟩
   ·omega
   ·obtain ⟨c0,c1,c2⟩:=hc k hlt
    have d0:=(hb.cell (p:=⟨b,off + k * 3,none⟩) hbl).trans c0;have d1:=(hb.cell (p:=⟨b,off + k * 3 + 1,none⟩) hbl).trans c1;have d2:=(hb.cell (p:=⟨b,off + k * 3 + 2,none⟩) hbl).trans c2;have dI:=aiS hlt
    obtain ⟨v1,hv1⟩ : ∃ v,wr.alloc (.cells #[.int .i64 (K k),.int .i64 (T k),.slice (E k).1 (E k).2.1 (E k).2.2] 69) = v:=⟨_,rfl⟩
    have hBb : Below wr.heap.size wr v1:=by rw [← hv1];exact aiT
    have bE : ak v1 wr.heap.size #[.int .i64 (K k),.int .i64 (T k),.slice (E k).1 (E k).2.1 (E k).2.2] 69:=by rw [← hv1];exact ak.new _ _ _
    have x2:=bE.cell 2;simp at x2
    have HF : Hid (Below w.heap.size w v1):=aiS (hb.trans (hBb.mono hb.size))
    have hw : wrap64 ((k : Int) + 1) = (k : Int) + 1:=by unfold wrap64;omega
    clear hc hb hBb bE c0 c1 c2
    go_wp2
    go_roundw
    case rel=>exact ⟨k + 1,_,dI.out,by go_num,rfl,HF.out⟩
    case measure=>show len - ((k : Int) + 1).toNat < len - (k : Int).toNat;have h1:=dI.out;omega
  ·obtain rfl : k = len:=by omega
   have HF : Hid (Below w.heap.size w wr):=aiS hb
   have hlt' : ¬ (k : Int) < k:=by omega
   clear hb
   by_cases KL : (k : Int) <= 60
   ·have HH : Hid (k <= 60):=aiS (by omega)
    by_cases hm : 12000 < m
    ·go_wp2
     exact bodyPost_ret (v:=.int .i64 1) (by simp [results,Tryz.results52,go_sem]) rfl ⟨⟨1,rfl,.inr rfl⟩,HF.out⟩
    ·go_wp2
     exact bodyPost_ret (v:=.int .i64 0) (by simp [results,Tryz.results52,go_sem]) rfl ⟨⟨0,rfl,.inl ⟨rfl,HH.out⟩⟩,HF.out⟩
   ·go_wp2
    exact bodyPost_ret (v:=.int .i64 1) (by simp [results,Tryz.results52,go_sem]) rfl ⟨⟨1,rfl,.inr rfl⟩,HF.out⟩
end Go.Proofs.YtklkooeimkedgaaGreat
namespace Go.Proofs.YtklkooeimkedgaaGreat
open Go.RowKit
set_option maxRecDepth 100000
def Yi (w : World) (c : aO) (len : Nat) (e : Ending) (w' : World) : Prop :=
 (e = .returned (.pointer none) /\ Below w.heap.size w w') \/ ∃ C S,e = .returned (.pointer (some ⟨C,0,none⟩)) /\ dB c = 0 /\ len <= 60 /\ dG w' C c (uM c) S /\ (∀ k,S k -> w.heap.size <= k) /\ Below w.heap.size w w'
set_option maxHeartbeats 2000000 in
theorem Yj (c : aO) (ok : c.Ok) (s : Option Addr) (len cap : Nat) (K T : Nat -> Int) (E : Nat -> Option Addr × Nat × Nat) (w : World) (h : iC w s len K T E) (hlen : (len : Int) <= 4611686018427387904) :
 Calls Tryz.prog 23 #[aZ c,.slice s len cap] w (Yi w c len):=by
 obtain ⟨wb,hwb⟩ : ∃ wb,w.alloc (.cells #[.int .i64 c.ring,.int .i64 c.window,.int .i64 c.base,.int .i64 c.gain,.int .i64 c.least,.int .i64 c.most,.int .i64 c.aD,.int .i64 c.num,.int .i64 c.den,.int .i64 c.extra,.bool c.aC] 29) = wb:=⟨_,rfl⟩
 have hb0 : Below w.heap.size w wb:=by rw [← hwb];exact aiT
 have HB0:=aiS hb0
 have Ak : Hid (ak wb w.heap.size #[.int .i64 c.ring,.int .i64 c.window,.int .i64 c.base,.int .i64 c.gain,.int .i64 c.least,.int .i64 c.most,.int .i64 c.aD,.int .i64 c.num,.int .i64 c.den,.int .i64 c.extra,.bool c.aC] 29):=aiS (by rw [← hwb];exact ak.new _ _ _)
 have gr:=Vo s len cap K T E wb (h.below hb0) hlen
 unfold aZ
 clear h hlen hb0
 by_cases hc : dB c = 0
 rotate_left
 ·have nb:=λW=>Sm c hc W
  have h0' : (dB c != 0) = true:=by simpa using hc
  clear hc
  unfold aZ at nb
  generalize hkc : dB c = kc at *
  clear hkc
  go_enter Tryz.func23,Tryz.ntmps23
  go_wp2_with fail
  clear hwb
  refine gr.mono ?_
  rintro e w1 ⟨⟨v,rfl,⟨rfl,KL⟩ | rfl⟩,hb1⟩
  ·have Vp:=aiS (Ak.out.below hb1 Ak.out.lt)
   have HB1:=aiS (HB0.out.trans (hb1.mono HB0.out.size));clear hb1 gr
   obtain ⟨q0,q1,q2,q3,q4,q5,q6,q7,q8,q9,kr⟩:=eu Vp.out
   go_wp2_with fail
   refine (nb w1).mono ?_
   rintro e w2 ⟨rfl,hb2⟩
   have HB2:=aiS (HB1.out.trans (hb2.mono HB1.out.size));clear hb2 q0 q1 q2 q3 q4 q5 q6 q7 q8 q9 kr
   go_wp2
   exact bodyPost_ret (v:=.pointer none) (by simp [results,Tryz.results23,go_sem]) rfl (.inl ⟨rfl,HB2.out⟩)
  ·have HB1:=aiS (HB0.out.trans (hb1.mono HB0.out.size))
   clear hb1 gr
   go_wp2
   exact bodyPost_ret (v:=.pointer none) (by simp [results,Tryz.results23,go_sem]) rfl (.inl ⟨rfl,HB1.out⟩)
 ·have nw:=λW=>KF c ok hc W
  have HC:=aiS hc;clear hc
  unfold aZ at nw
  go_enter Tryz.func23,Tryz.ntmps23
  go_wp2_with fail
  clear hwb
  refine gr.mono ?_
  rintro e w1 ⟨⟨v,rfl,⟨rfl,KL⟩ | rfl⟩,hb1⟩
  ·have Vp:=aiS (Ak.out.below hb1 Ak.out.lt)
   have HB1:=aiS (HB0.out.trans (hb1.mono HB0.out.size));have Io:=aiS KL;clear hb1 gr KL
   obtain ⟨q0,q1,q2,q3,q4,q5,q6,q7,q8,q9,kr⟩:=eu Vp.out
   go_wp2_with fail
   refine (nw w1).mono ?_
   rintro e w2 ⟨C,S,rfl,hA,hS,hb2⟩
   have HF : Hid (dB c = 0 /\ len <= 60 /\ dG w2 C c (uM c) S /\ (∀ k,S k -> w.heap.size <= k) /\ Below w.heap.size w w2):=aiS ⟨HC.out,Io.out,hA,λk hk=>Nat.le_trans HB1.out.size (hS k hk),HB1.out.trans (hb2.mono HB1.out.size)⟩
   clear hb2 hA hS q0 q1 q2 q3 q4 q5 q6 q7 q8 q9 kr
   go_wp2
   exact bodyPost_ret (v:=.pointer (some ⟨C,0,none⟩)) (by simp [results,Tryz.results23,go_sem]) rfl (.inr ⟨C,S,rfl,HF.out⟩)
  ·have HB1:=aiS (HB0.out.trans (hb1.mono HB0.out.size))
   clear hb1 gr
   go_wp2
   exact bodyPost_ret (v:=.pointer none) (by simp [results,Tryz.results23,go_sem]) rfl (.inl ⟨rfl,HB1.out⟩)
end Go.Proofs.YtklkooeimkedgaaGreat
namespace Go.Proofs.YtklkooeimkedgaaGreat
open Go.RowKit
set_option maxRecDepth 100000
theorem Iq {K T : Nat -> Int} {E E' : Nat -> Option Addr × Nat × Nat} {EE : Nat -> Nat -> aB} (h : ∀ i,(E i).2.1 = (E' i).2.1) : ∀ n i,nR K T E EE n i = nR K T E' EE n i
 | 0,i=>rfl
 | n + 1,i=>by unfold nR;rw [h i,Iq h n (i + 1)]
theorem Cm {c : aO} {K T : Nat -> Int} {E E' : Nat -> Option Addr × Nat × Nat} {EE : Nat -> Nat -> aB} (h : ∀ i,(E i).2.1 = (E' i).2.1) (n : Nat) : gD c K T E EE n = gD c K T E' EE n:=by
 unfold gD;rw [Iq h]
theorem SI {c : aO} {ka ta : Int} {aa KM : Option Addr} {la ca wN : Nat} {A : Nat -> aB} {au : Int} : nT c ka ta aa la ca A au = nT c ka ta KM la wN A au:=by
 have h : gD c (λ_=>ka) (λ_=>ta) (λ_=>(aa,la,ca)) (λ_=>A) 1 = gD c (λ_=>ka) (λ_=>ta) (λ_=>(KM,la,wN)) (λ_=>A) 1:=Cm (λ_=>rfl) 1
 unfold nT lS;rw [h]
theorem SL {c : aO} {ka ta : Int} {aa KM : Option Addr} {la ca wN : Nat} {A : Nat -> aB} {kb tb : Int} {ab ab' : Option Addr} {lb cb cb' : Nat} {B : Nat -> aB} {au : Int} : nS c ka ta aa la ca A kb tb ab lb cb B au = nS c ka ta KM la wN A kb tb ab' lb cb' B au:=by
 unfold nS nu
 rw [Cm (E':=two (KM,la,wN) (ab',lb,cb')) (λi=>by unfold two;split <;> rfl)]
theorem Vr {c : aO} {au : Int} {K T : Nat -> Int} {E E' : Nat -> Option Addr × Nat × Nat} {EE : Nat -> Nat -> aB} {len : Nat} (h : ∀ i,(E i).2.1 = (E' i).2.1) : rE c au K T E EE len = rE c au K T E' EE len:=by
 unfold rE
 rw [Cm h,SI (KM:=(E' (cK T au len)).1) (wN:=(E' (cK T au len)).2.2),SL (KM:=(E' (cK T au len)).1) (wN:=(E' (cK T au len)).2.2) (ab':=(E' (je T au len)).1) (cb':=(E' (je T au len)).2.2),h,h]
def uN (ss : List Sn) (i : Nat) : Int:=(ss.getD i dD).tick
def dP (ss : List Sn) (i : Nat) : Int:=(ss.getD i dD).time
def qG (ss : List Sn) (i : Nat) : Option Addr × Nat × Nat:=(none,(ss.getD i dD).ents.length,0)
def kM (ss : List Sn) (i j : Nat) : aB:=(ss.getD i dD).ents.getD j bK
def Cn (c : aO) (au : Int) (ss : List Sn) : Int:=rE c au (uN ss) (dP ss) (qG ss) (kM ss) ss.length
def jS (c : aO) (au : Int) (ss : List Sn) : Nat:=Am c au (uN ss) (dP ss) (qG ss) (kM ss) ss.length
def jJ (c : aO) (au : Int) (ss : List Sn) : Nat -> Po:=Ip c au (uN ss) (dP ss) (qG ss) (kM ss) ss.length
theorem CW (ks : List aG) (i : Nat) : (ks.map (·.sn)).getD i dD = (ks.getD i mZ).sn:=by
 simp only [List.getD,List.getElem?_map]
 cases ks[i]? <;> rfl
theorem Yk (c : aO) (ok : c.Ok) (au : Int) (hat : ay au) (a : Option Addr) (cap : Nat) (ks : List aG) (ss : List Sn) (hm : ks.map (·.sn) = ss) (hT : ∀ s ∈ ss,ay s.time) (hl : ks.length <= 1000) (w : World) (h : Vl w a ks) :
 Calls Tryz.prog 19 #[aZ c,.int .i64 au,.slice a ks.length cap] w (qU w (jS c au ss) (Cn c au ss) (jJ c au ss)):=by
 have hK : (λi=>(ks.getD i mZ).sn.tick) = uN ss:=by funext i;unfold uN;rw [← hm,CW]
 have hTT : (λi=>(ks.getD i mZ).sn.time) = dP ss:=by funext i;unfold dP;rw [← hm,CW]
 have oz : (λi j=>(ks.getD i mZ).sn.ents.getD j bK) = kM ss:=by funext i j;unfold kM;rw [← hm,CW]
 have hE : ∀ i,((λi=>((ks.getD i mZ).a,(ks.getD i mZ).sn.ents.length,(ks.getD i mZ).cap)) i : Option Addr × Nat × Nat).2.1 = (qG ss i).2.1:=λi=>by unfold qG;rw [← hm,CW]
 have hlen : ks.length = ss.length:=by rw [← hm,List.length_map]
 unfold Vl at h
 rw [hK,hTT,oz] at h
 have hTi : ∀ i,i < ks.length -> ay (dP ss i):=λi hi=>by
  unfold dP
  have : i < ss.length:=by omega
  simp only [List.getD,List.getElem?_eq_getElem this,Option.getD_some]
  exact hT _ (List.getElem_mem this)
 have:=abY c ok au hat a ks.length cap _ _ _ _ w h hTi (by omega)
 have e1:=Vr (c:=c) (au:=au) (K:=uN ss) (T:=dP ss) (EE:=kM ss) (len:=ks.length) hE
 have e2 : Am c au (uN ss) (dP ss) (λi=>((ks.getD i mZ).a,(ks.getD i mZ).sn.ents.length,(ks.getD i mZ).cap)) (kM ss) ks.length = jS c au ss:=by
  unfold jS Am;rw [e1,hE,hlen]
 have e3 : Ip c au (uN ss) (dP ss) (λi=>((ks.getD i mZ).a,(ks.getD i mZ).sn.ents.length,(ks.getD i mZ).cap)) (kM ss) ks.length = jJ c au ss:=by
  unfold jJ Ip;rw [hE,hlen]
 rw [e2,e3,e1,hlen] at this
 rw [hlen]
 exact this
theorem Vs {w : World} {base base' k n : Nat} {e : TypeId} {v : Value} {xs : List Value} (h : w.ownsRow base e k v n xs) (hb : base' <= base) : w.ownsRow base' e k v n xs:=by
 obtain ⟨h1,h2⟩:=h
 refine ⟨h1,?_⟩
 rcases h2 with h2 | ⟨g,cap,cur,rfl,a,b⟩
 ·exact .inl h2
 ·exact .inr ⟨g,cap,cur,rfl,Nat.le_trans hb a,b⟩
theorem Co {w w' : World} {s : Option Addr} {n : Nat} {P : Nat -> Po} {X : Nat} {cs : Array Value} (h : dZ w s n P) (hX : ak w X cs 49) (hcs : cs.size = 3) (ho : Only (λk=>k = X) w w') : dZ w' s n P:=by
 rcases h with h | ⟨b,off,e,hl,hc⟩
 ·exact .inl h
 ·by_cases hn : n = 0
  ·exact .inl hn
  ·refine .inr ⟨b,off,e,Nat.lt_of_lt_of_le hl ho.size,λi hi=>?_⟩
   have hbX : b ≠ X:=by
    rintro rfl
    have h0:=(hc 0 (by omega)).2.2.2.2.2
    rw [hX.cell,Array.getElem?_eq_none (by omega)] at h0
    cases h0
   have hh : ∀ o,w'.cell? ⟨b,o,none⟩ = w.cell? ⟨b,o,none⟩:=λo=>by
    simp only [World.cell?];rw [ho.block b hl hbX]
   have:=hc i hi
   unfold mF at this ⊢
   simp only [hh];exact this
def KN (w2 : World) (ss : List Sn) (n0 : Nat) (E0 : Int) (P0 : Nat -> Po) : List Value -> World -> Prop
 | [],W=>aH w2 W
 | [v],W=>aH w2 W /\ ∃ ks,gH W w2.heap.size v ks /\ ks.map (·.sn) = ss
 | [_,u],W=>aH w2 W /\ ∃ s cp,u = .tuple #[.slice s n0 cp,.int .i64 E0] /\ dZ W s n0 P0
 | [_,_,u],W=>aH w2 W /\ ∃ s cp,u = .tuple #[.slice s n0 cp,.int .i64 E0] /\ dZ W s n0 P0
 | [_,_,_,u],W=>aH w2 W /\ ∃ s cp,u = .slice s n0 cp /\ dZ W s n0 P0
 | [_,_,_,_,u],W=>aH w2 W /\ ∃ s cp,u = .slice s n0 cp /\ dZ W s n0 P0
 | _,_=>False
theorem KN.calm {w2 : World} {ss : List Sn} {n0 : Nat} {E0 : Int} {P0 : Nat -> Po} : ∀ {b : List Value} {W : World},KN w2 ss n0 E0 P0 b W -> aH w2 W
 | [],_,h=>h
 | [_],_,h=>h.1
 | [_,_],_,h=>h.1
 | [_,_,_],_,h=>h.1
 | [_,_,_,_],_,h=>h.1
 | [_,_,_,_,_],_,h=>h.1
 | _ :: _ :: _ :: _ :: _ :: _ :: _,_,h=>h.elim
theorem KO (C : Nat) (c : aO) (hc : dB c = 0) (x : iq) (S : Nat -> Prop) (loc : Int) (w : World) (h : dG w C c x S) (hL : x.cs.L = []) :
 Calls Tryz.prog 15 #[.pointer (some ⟨C,0,none⟩),.int .i64 loc] w λe w'=>e = .returned (.agg #[.bool false,.int .i64 0,.slice none 0 0]) /\ dG w' C c x S /\ Only (λk=>S k /\ ou w k) w w':=by
 obtain ⟨T,R,K,l,fr,SS,SK,hP,hK⟩:=h
 have aaA:=hP.blk.cell 12;simp at aaA
 obtain ⟨w0,hw0⟩ : ∃ w0,w.alloc (.cells #[.bool false,.int .i64 0,.slice none 0 0] 49) = w0:=⟨_,rfl⟩
 have hB0 : Below w.heap.size w w0:=by rw [← hw0];exact aiT
 have hX0 : ak w0 w.heap.size #[.bool false,.int .i64 0,.slice none 0 0] 49:=by rw [← hw0];exact ak.new _ _ _
 have KP:=hP.lt C hP.sub.1
 have pE:=hP.only (Only.of_below (S:=λ_=>False) hB0) (λ_ _ h=>h)
 have hC0:=pE.blk;have c13:=hC0.cell 13;have f13:=hC0.free 13;simp at c13
 have hset : ∀ v,KD (w0.setCell ⟨C,13,none⟩ (.int .i64 v)) C c T R K l x.floor x.gone x.cs v S SS SK:=λv=>by
  have ho : Only (λk=>k = C) w0 (w0.setCell ⟨C,13,none⟩ (.int .i64 v)):=Only.setCell (S:=λk=>k = C) (p:=⟨C,13,none⟩) (Only.refl _ _) (.inl rfl) _
  exact ⟨by simpa using hC0.set 13 (.int .i64 v),pE.st.only ho (λk hk e=>pE.nC.1 (e ▸ hk)),pE.room,pE.ck.only ho (λk hk e=>pE.nC.2 (e ▸ hk)),pE.Fz,pE.nC,pE.sub,λk hk=>by have:=pE.lt k hk;simpa [World.setCell] using this⟩
 have hX1 : ∀ v,ak (w0.setCell ⟨C,13,none⟩ (.int .i64 v)) w.heap.size #[.bool false,.int .i64 0,.slice none 0 0] 49:=λv=>hX0.far (p:=⟨C,13,none⟩) (by show w.heap.size ≠ C;omega) _
 have SN : ou w C:=Eo hP.blk (by intro v hv;simp at hv)
 have mU : ∀ v,Only (λk=>S k /\ ou w k) w (w0.setCell ⟨C,13,none⟩ (.int .i64 v)):=λv=>(Only.of_below (S:=λk=>S k /\ ou w k) hB0).setCell (p:=⟨C,13,none⟩) (.inl ⟨hP.sub.1,SN⟩) _
 obtain ⟨xu,hfr⟩ : ∃ v,wrap64 (fr + 1) = v:=⟨_,rfl⟩
 obtain ⟨w1,hw1⟩ : ∃ u,w0.setCell ⟨C,13,none⟩ (.int .i64 xu) = u:=⟨_,rfl⟩
 have hP1:=hset xu;have zo:=hX1 xu;have yN:=mU xu
 rw [hw1] at hP1 zo yN
 have cf:=LD K c hc x.cs loc SK w1 hP1.ck hL;have c12:=hP1.blk.cell 12;simp at c12;have f0:=zo.free 0;have f1:=zo.free 1;have f2:=zo.free 2;have x0:=zo.cell 0;have x1:=zo.cell 1;have x2:=zo.cell 2;simp at x0 x1 x2
 have hNS : ¬ S w.heap.size:=λh=>by have:=hP.lt _ h;omega
 have aS:=fB (v0:=.bool false) (v1:=.int .i64 0) (v2:=.slice none 0 0) zo
 obtain ⟨u3,hu3⟩ : ∃ u,((w1.setCell ⟨w.heap.size,0,none⟩ (.bool false)).setCell ⟨w.heap.size,1,none⟩ (.int .i64 0)).setCell ⟨w.heap.size,2,none⟩ (.slice none 0 0) = u:=⟨_,rfl⟩
 have jf : Only (λk=>k = w.heap.size) w1 u3:=by rw [← hu3];exact kS (Only.refl _ _) (.inl rfl)
 rw [hu3] at aS
 have HF : Hid (dG u3 C c x S /\ Only (λk=>S k /\ ou w k) w u3):=aiS ⟨dG.only ⟨T,R,K,l,xu,SS,SK,hP1,hK⟩ jf (λk hk e=>hNS (e ▸ hk)),yN.aW jf (λi hi e=>by omega)⟩
 have g0:=aS.cell 0;have g1:=aS.cell 1;have g2:=aS.cell 2;simp at g0 g1 g2
 have HNS : Hid (¬ S w.heap.size):=aiS (λh=>by have:=hP.lt _ h;omega)
 clear SN hP pE hC0 hset hX1 mU hP1 zo yN hK hX0 hB0 KP aS jf hNS hL aaA
 go_enter Tryz.func15,Tryz.ntmps15
 go_wp2_with fail
 refine cf.mono ?_
 rintro e w2 ⟨rfl,rfl⟩
 clear cf
 go_wp2_with fail
 exact bodyPost_ret (v:=.agg #[.bool false,.int .i64 0,.slice none 0 0]) (by simp [results,Tryz.results15,go_sem,g0,g1,g2]) rfl ⟨rfl,HF.out⟩
set_option maxHeartbeats 4000000 in
theorem xZ (C : Nat) (c : aO) (zn : c.Ok) (hc : dB c = 0) (x : iq) (S : Nat -> Prop) (loc : Int) (hloc : ay loc) (w : World) (h : dG w C c x S) (hL : x.cs.L ≠ []) :
 Calls Tryz.prog 15 #[.pointer (some ⟨C,0,none⟩),.int .i64 loc] w λe w'=>∃ s cp,e = .returned (.agg #[.bool true,.int .i64 (gZ c x.cs loc).au,.slice s (jS c (gZ c x.cs loc).au x.ss) cp]) /\ dZ w' s (jS c (gZ c x.cs loc).au x.ss) (jJ c (gZ c x.cs loc).au x.ss) /\ dG w' C c { x with cs:=gZ c x.cs loc } S /\ Only (λk=>S k /\ ou w k) w w':=by
 obtain ⟨T,R,K,l,fr,SS,SK,hP,hK⟩:=h
 have Gj:=aaj hK.cs hloc (c:=c)
 obtain ⟨w0,hw0⟩ : ∃ w0,w.alloc (.cells #[.bool false,.int .i64 0,.slice none 0 0] 49) = w0:=⟨_,rfl⟩
 have hB0 : Below w.heap.size w w0:=by rw [← hw0];exact aiT
 have hX0 : ak w0 w.heap.size #[.bool false,.int .i64 0,.slice none 0 0] 49:=by rw [← hw0];exact ak.new _ _ _
 have KP:=hP.lt C hP.sub.1
 have pE:=hP.only (Only.of_below (S:=λ_=>False) hB0) (λ_ _ h=>h)
 have hC0:=pE.blk;have c13:=hC0.cell 13;have f13:=hC0.free 13;simp at c13
 have hset : ∀ v,KD (w0.setCell ⟨C,13,none⟩ (.int .i64 v)) C c T R K l x.floor x.gone x.cs v S SS SK:=λv=>by
  have ho : Only (λk=>k = C) w0 (w0.setCell ⟨C,13,none⟩ (.int .i64 v)):=Only.setCell (S:=λk=>k = C) (p:=⟨C,13,none⟩) (Only.refl _ _) (.inl rfl) _
  exact ⟨by simpa using hC0.set 13 (.int .i64 v),pE.st.only ho (λk hk e=>pE.nC.1 (e ▸ hk)),pE.room,pE.ck.only ho (λk hk e=>pE.nC.2 (e ▸ hk)),pE.Fz,pE.nC,pE.sub,λk hk=>by have:=pE.lt k hk;simpa [World.setCell] using this⟩
 have hX1 : ∀ v,ak (w0.setCell ⟨C,13,none⟩ (.int .i64 v)) w.heap.size #[.bool false,.int .i64 0,.slice none 0 0] 49:=λv=>hX0.far (p:=⟨C,13,none⟩) (by show w.heap.size ≠ C;omega) _
 have SN : ou w C:=Eo hP.blk (by intro v hv;simp at hv)
 have mU : ∀ v,Only (λk=>S k /\ ou w k) w (w0.setCell ⟨C,13,none⟩ (.int .i64 v)):=λv=>(Only.of_below (S:=λk=>S k /\ ou w k) hB0).setCell (p:=⟨C,13,none⟩) (.inl ⟨hP.sub.1,SN⟩) _
 obtain ⟨xu,hfr⟩ : ∃ v,wrap64 (fr + 1) = v:=⟨_,rfl⟩
 obtain ⟨w1,hw1⟩ : ∃ u,w0.setCell ⟨C,13,none⟩ (.int .i64 xu) = u:=⟨_,rfl⟩
 have hP1:=hset xu;have zo:=hX1 xu;have yN:=mU xu
 rw [hw1] at hP1 zo yN
 have Ao:=aiS hP1;have fu:=aiS zo;have oK:=aiS yN;have HK:=aiS hK;have Vk:=aiS Gj;have cf:=Vq K c hc x.cs hK.cs loc hloc SK w1 hP1.ck hL
 have hsame : ∀ k,k < w.heap.size -> k ≠ C -> w1.heap[k]? = w.heap[k]?:=λk hk hne=>by
  rw [← hw1,Below.heap_setCell _ _ _ _ (show k ≠ (⟨C,13,none⟩ : Addr).block from hne)]
  exact hB0.block k hk
 have mK:=aiS hsame;clear hsame;have HAT:=aiS Gj.au;have c12:=hP1.blk.cell 12;simp at c12;have HCl:=aiS KP
 have HNS : Hid (¬ S w.heap.size):=aiS (λh=>by have:=hP.lt _ h;omega)
 clear SN hP pE hC0 hset hX1 mU hP1 zo yN hK Gj hX0 hB0 KP
 generalize hfm : gZ c x.cs loc = cs2 at *
 have HT : Hid (∀ s ∈ x.ss,ay s.time):=aiS (λs hs=>by have:=(jI.1 (HK.out.KE s hs)).time;exact ⟨by omega,by omega⟩)
 have psh:=λa cap ks hm hl W h=>Yk c zn cs2.au HAT.out a cap ks x.ss hm HT.out hl W h
 generalize jS c cs2.au x.ss = n0 at *
 generalize jJ c cs2.au x.ss = P0 at *
 generalize Cn c cs2.au x.ss = E0 at *
 have HPS:=aiS psh
 unfold aZ at HPS
 clear psh
 go_enter Tryz.func15,Tryz.ntmps15
 go_wp2_with fail
 clear hw0 hw1 c13 f13 hfr
 refine cf.mono ?_
 rintro e w2 ⟨rfl,Sq,hO2⟩
 have OD : Only SK w1 w2:=hO2.weaken (λk _ hk=>hk.1)
 have hP2 : KD w2 C c T R K l x.floor x.gone cs2 xu S SS SK:=⟨OD.blk Ao.out.blk Ao.out.nC.2,Ao.out.st.only OD Ao.out.Fz,Ao.out.room,Sq,Ao.out.Fz,Ao.out.nC,Ao.out.sub,λk hk=>Nat.lt_of_lt_of_le (Ao.out.lt k hk) hO2.size⟩
 have yR : Hid (dG w2 C c { x with cs:=cs2 } S):=aiS ⟨T,R,K,l,xu,SS,SK,hP2,HK.out.map,HK.out.key,HK.out.KE,Vk.out⟩
 have dU:=aiS (OD.blk fu.out (λh=>HNS.out (Ao.out.sub.2.2 _ h)))
 have bQ : Hid (Only (λk=>S k /\ ou w k) w w2):=aiS (oK.out.aW hO2 (λi hi hk=>⟨Ao.out.sub.2.2 i hk.1,λo v hh=>by
  have hne : i ≠ C:=λe=>Ao.out.nC.2 (e ▸ hk.1)
  refine hk.2 o v ?_
  simp only [World.cell?] at hh ⊢
  rw [mK.out i hi hne];exact hh⟩))
 obtain ⟨c0,c1,c2,c3,c4,c5,c6,c7,c8,c9,c10⟩ : w2.cell? ⟨C,0,none⟩ = some (.int .i64 c.ring) /\ w2.cell? ⟨C,1,none⟩ = some (.int .i64 c.window) /\ w2.cell? ⟨C,2,none⟩ = some (.int .i64 c.base) /\ w2.cell? ⟨C,3,none⟩ = some (.int .i64 c.gain) /\ w2.cell? ⟨C,4,none⟩ = some (.int .i64 c.least) /\ w2.cell? ⟨C,5,none⟩ = some (.int .i64 c.most) /\ w2.cell? ⟨C,6,none⟩ = some (.int .i64 c.aD) /\ w2.cell? ⟨C,7,none⟩ = some (.int .i64 c.num) /\ w2.cell? ⟨C,8,none⟩ = some (.int .i64 c.den) /\ w2.cell? ⟨C,9,none⟩ = some (.int .i64 c.extra) /\ w2.cell? ⟨C,10,none⟩ = some (.bool c.aC):=by
  have h:=hP2.blk;have e0:=h.cell 0;have e1:=h.cell 1;have e2:=h.cell 2;have e3:=h.cell 3;have e4:=h.cell 4;have e5:=h.cell 5;have e6:=h.cell 6;have e7:=h.cell 7;have e8:=h.cell 8;have e9:=h.cell 9;have e10:=h.cell 10;simp at e0 e1 e2 e3 e4 e5 e6 e7 e8 e9 e10
  exact ⟨e0,e1,e2,e3,e4,e5,e6,e7,e8,e9,e10⟩
 have afd : Hid (x.ss.length <= 64):=aiS yR.out.ok.2.2
 clear Sq hO2 OD cf c12 hP2
 have HI : Hid (KN w2 x.ss n0 E0 P0 [] w2.drew):=aiS (show aH w2 w2.drew from below_drewN aiU 1)
 go_wp2_with fail
 apply En 12 [6,7,8,9,11] (KN w2 x.ss n0 E0 P0)
 case hm=>kernel_rfl
 case hB=>kernel_rfl
 case hp=>kernel_rfl
 case hI=>exact HI.out
 simp only [List.take_succ_cons,List.take_zero,List.drop_succ_cons,List.drop_zero]
 repeat (apply bZ;(next=>rfl);(next=>(intro b W hW K hK;have hb:=KN.calm hW;have y0:=hb.cell c0;have y1:=hb.cell c1;have y2:=hb.cell c2;have y3:=hb.cell c3;have y4:=hb.cell c4;have y5:=hb.cell c5;have y6:=hb.cell c6;have y7:=hb.cell c7;have y8:=hb.cell c8;have y9:=hb.cell c9;have JA:=hb.cell c10;go_simp;first | exact ⟨hW,hK⟩ | exact hK));(next=>exact ⟨_,HI.out⟩);(try go_simp))
 apply dL (s:=λ_=>True)
 case hk=>rfl
 case hne=>exact ⟨undef,trivial⟩
 case hw=>rfl
 case h =>
  intro W hW
  have hb : Below w2.heap.size w2 W:=hW
  have sn:=KJ C c { x with cs:=cs2 } S W (yR.out.below hb);clear hW
  go_simp
  refine sn.mono ?_
  rintro e w3 ⟨v,ks,rfl,hO,hm,hB⟩
  first | refine ⟨_,rfl,?_⟩ | refine ⟨_,rfl,trivial,?_⟩
  exact ⟨hb.trans (hB.mono hb.size),ks,⟨Vs hO.row hb.size,λk hk=>⟨aM.base (hO.ents k hk).1 hb.size,(hO.ents k hk).2⟩⟩,hm⟩
 intro v1 _
 apply dL (s:=λu=>∃ s cp,u = .tuple #[.slice s n0 cp,.int .i64 E0])
 case hk=>rfl
 case hne=>exact ⟨_,none,0,rfl⟩
 case hw=>rfl
 case h =>
  intro W hW
  obtain ⟨hb,ks,hO,hm⟩:=hW
  obtain ⟨a,cp,rfl,hS,_,_⟩:=hO.sns
  have hl : ks.length <= 1000:=by have:=congrArg List.length hm;rw [List.length_map] at this;have:=afd.out;omega
  have ps:=HPS.out a cp ks hm hl W hS
  have Ak : Hid (aH w2 W):=aiS hb
  clear hb hO hS hm hl
  unfold qU at ps
  go_simp
  refine ps.mono ?_
  rintro e w3 ⟨s,cp2,rfl,WJ,hB⟩
  refine ⟨_,rfl,by first | exact ⟨s,cp2,rfl⟩ | simp,?_⟩
  exact ⟨Below.trans Ak.out (hB.mono (Below.size Ak.out)),s,cp2,rfl,WJ⟩
 intro v2 hv2
 obtain ⟨s2,cp2,rfl⟩:=hv2
 try go_simp
 apply dL (s:=λu=>∃ s cp,u = .tuple #[.slice s n0 cp,.int .i64 E0])
 case hk=>rfl
 case hne=>exact ⟨_,none,0,rfl⟩
 case hw=>rfl
 case h =>
  intro W hW
  have HW:=aiS hW;clear hW
  go_simp
  first | exact HW.out | exact ⟨⟨_,_,rfl⟩,HW.out⟩ | exact ⟨by simp,HW.out⟩
 intro v3 hv3
 obtain ⟨s3,cp3,rfl⟩:=hv3
 try go_simp
 apply dL (s:=λu=>∃ s cp,u = .slice s n0 cp)
 case hk=>rfl
 case hne=>exact ⟨_,none,0,rfl⟩
 case hw=>rfl
 case h =>
  intro W hW
  obtain ⟨hb,s',cp',he,hp⟩:=hW
  have HW : Hid (KN w2 x.ss n0 E0 P0 [undef,undef,undef,.slice s3 n0 cp3] W):=aiS (by
   injection he with he
   have h2:=congrArg (λq : Array Value=>q[0]?) he
   simp at h2
   obtain ⟨h3,h4⟩:=h2
   exact ⟨hb,s3,cp3,rfl,by rw [h3];exact hp⟩)
  clear hb he hp
  go_simp
  first | exact HW.out | exact ⟨⟨_,_,rfl⟩,HW.out⟩ | exact ⟨by simp,HW.out⟩
 intro v4 hv4
 obtain ⟨s4,cp4,rfl⟩:=hv4
 try go_simp
 repeat (apply bZ;(next=>rfl);(next=>(intro b W hW K hK;have hb:=KN.calm hW;have y0:=hb.cell c0;have y1:=hb.cell c1;have y2:=hb.cell c2;have y3:=hb.cell c3;have y4:=hb.cell c4;have y5:=hb.cell c5;have y6:=hb.cell c6;have y7:=hb.cell c7;have y8:=hb.cell c8;have y9:=hb.cell c9;have JA:=hb.cell c10;go_simp;first | exact ⟨hW,hK⟩ | exact hK));(next=>exact ⟨_,HI.out⟩);(try go_simp))
 apply dL (s:=λu=>∃ s cp,u = .slice s n0 cp)
 case hk=>rfl
 case hne=>exact ⟨_,none,0,rfl⟩
 case hw=>rfl
 case h =>
  intro W hW
  have HW:=aiS hW;clear hW
  go_simp
  first | exact HW.out | exact ⟨⟨_,_,rfl⟩,HW.out⟩ | exact ⟨by simp,HW.out⟩
 intro v5 hv5
 refine kC ?_
 intro W hW
 obtain ⟨hb,s5,WK,rfl,WJ⟩:=hW
 have bP : Below w2.heap.size w2 W:=hb
 have hX:=dU.out.below bP dU.out.lt;have f0:=hX.free 0;have f1:=hX.free 1;have f2:=hX.free 2;have x0:=hX.cell 0;have x1:=hX.cell 1;have x2:=hX.cell 2;simp at x0 x1 x2;have aS:=fB (v0:=.bool true) (v1:=.int .i64 cs2.au) (v2:=.slice s5 n0 WK) hX
 obtain ⟨u3,hu3⟩ : ∃ u,((W.setCell ⟨w.heap.size,0,none⟩ (.bool true)).setCell ⟨w.heap.size,1,none⟩ (.int .i64 cs2.au)).setCell ⟨w.heap.size,2,none⟩ (.slice s5 n0 WK) = u:=⟨_,rfl⟩
 have jf : Only (λk=>k = w.heap.size) W u3:=by rw [← hu3];exact kS (Only.refl _ _) (.inl rfl)
 rw [hu3] at aS
 have HF : Hid (dZ u3 s5 n0 P0 /\ dG u3 C c { x with cs:=cs2 } S /\ Only (λk=>S k /\ ou w k) w u3):=aiS ⟨Co WJ hX rfl jf,(yR.out.below bP).only jf (λk hk e=>HNS.out (e ▸ hk)),(bQ.out.eX bP).aW jf (λi hi e=>by omega)⟩
 have g0:=aS.cell 0;have g1:=aS.cell 1;have g2:=aS.cell 2;simp at g0 g1 g2;clear hb WJ bP hX aS jf c0 c1 c2 c3 c4 c5 c6 c7 c8 c9 c10
 go_wp2_with fail
 exact bodyPost_ret (v:=.agg #[.bool true,.int .i64 cs2.au,.slice s5 n0 WK]) (by simp [results,Tryz.results15,go_sem,g0,g1,g2]) rfl ⟨s5,WK,rfl,HF.out⟩
end Go.Proofs.YtklkooeimkedgaaGreat
namespace Go.Proofs.YtklkooeimkedgaaGreat
open Go.RowKit
set_option maxRecDepth 100000
set_option maxHeartbeats 2000000 in
theorem Yl (C : Nat) (c : aO) (zn : c.Ok) (hcc : dB c = 0) (x : iq) (S : Nat -> Prop) (kd loc : Int) (hloc : ay loc) (a : Option Addr) (len cap : Nat) (zs : List Int) (w : World) (h : dG w C c x S)
 (hz : BytesAt w a len zs) (hc : a = none -> cap = 0) (hlc : len <= cap) (hl : (len : Int) <= 140737488355000) (hL : x.cs.L.length < 1000) :
 Calls Tryz.prog 53 #[.pointer (some ⟨C,0,none⟩),.agg #[.int .i64 kd,.int .i64 loc,.slice a len cap]] w λe w'=>e = .returned (.tuple #[.agg #[.bool false,.int .i64 0,.slice none 0 0],.int .i64 (El c x zs)]) /\ (∃ S',dG w' C c (wM c x loc zs) S' /\ ∀ k,S' k -> S k \/ w.heap.size <= k) /\ Only S w w':=by
 obtain ⟨w1,hw1⟩ : ∃ v,w.alloc (.cells #[.int .i64 kd,.int .i64 loc,.slice a len cap] 69) = v:=⟨_,rfl⟩
 have hb1 : Below w.heap.size w w1:=by rw [← hw1];exact aiT
 have hX1 : ak w1 w.heap.size #[.int .i64 kd,.int .i64 loc,.slice a len cap] 69:=by rw [← hw1];exact ak.new _ _ _
 obtain ⟨w2,hw2⟩ : ∃ v,w1.alloc (.cells #[.bool false,.int .i64 0,.slice none 0 0] 49) = v:=⟨_,rfl⟩
 have hb2 : Below w1.heap.size w1 w2:=by rw [← hw2];exact aiT
 have hX2 : ak w2 w1.heap.size #[.bool false,.int .i64 0,.slice none 0 0] 49:=by rw [← hw2];exact ak.new _ _ _
 have gU : Below w.heap.size w w2:=hb1.trans (hb2.mono hb1.size)
 have ar:=Cj C c zn hcc x S loc hloc a len cap zs w2 (h.below gU) (hz.below gU) hc hlc hl hL (FE hcc h.room);have hx1:=hX1.below hb2 hX1.lt;have q1:=hx1.cell 1;have q2:=hx1.cell 2;simp at q1 q2;have dU:=aiS hX2;have HB:=aiS gU
 have HS : Hid (∀ k,S k -> k < w.heap.size):=aiS h.lt
 have dI : Hid (w.heap.size < w1.heap.size):=aiS hX1.lt
 clear hb1 hX1 hb2 hX2 gU hx1 h hz hc hlc hl hL
 generalize El c x zs = er at *
 go_enter Tryz.func53,Tryz.ntmps53
 go_wp2_with fail
 refine ar.mono ?_
 rintro e w3 ⟨rfl,hA,hO⟩
 have kT : ¬ S w1.heap.size:=λh=>Nat.lt_irrefl _ (Nat.lt_trans (HS.out _ h) dI.out)
 have aS : ak w3 w1.heap.size #[.bool false,.int .i64 0,.slice none 0 0] 49:=hO.blk dU.out kT
 have f0:=aS.free 0;have f1:=aS.free 1;have f2:=aS.free 2;have x0:=aS.cell 0;have x1:=aS.cell 1;have x2:=aS.cell 2;simp at x0 x1 x2;have bA:=fB (v0:=.bool false) (v1:=.int .i64 0) (v2:=.slice none 0 0) aS
 obtain ⟨u3,hu3⟩ : ∃ u,((w3.setCell ⟨w1.heap.size,0,none⟩ (.bool false)).setCell ⟨w1.heap.size,1,none⟩ (.int .i64 0)).setCell ⟨w1.heap.size,2,none⟩ (.slice none 0 0) = u:=⟨_,rfl⟩
 have jf : Only (λk=>k = w1.heap.size) w3 u3:=by rw [← hu3];exact kS (Only.refl _ _) (.inl rfl)
 rw [hu3] at bA
 have HF : Hid ((∃ S',dG u3 C c (wM c x loc zs) S' /\ ∀ k,S' k -> S k \/ w.heap.size <= k) /\ Only S w u3):=aiS ⟨⟨Grow S w2 w3,hA.only jf (λk hk e=>by
  subst e
  rcases hk.1 with h | h
  ·exact kT h
  ·exact Nat.lt_irrefl _ (Nat.lt_of_lt_of_le dU.out.lt h)),λk hk=>hk.1.imp id (λh=>Nat.le_trans HB.out.size h)⟩,((Only.of_below (S:=S) HB.out).trans hO).aW jf (λi hi e=>absurd (e ▸ hi) (Nat.lt_asymm dI.out))⟩
 have g0:=bA.cell 0;have g1:=bA.cell 1;have g2:=bA.cell 2;simp at g0 g1 g2;clear hA hO aS jf bA ar kT
 go_wp2_with fail
 exact bodyPost_ret (v:=.tuple #[.agg #[.bool false,.int .i64 0,.slice none 0 0],.int .i64 er]) (by simp [results,Tryz.results53,go_sem,g0,g1,g2]) rfl ⟨rfl,HF.out⟩
def KQ (w : World) (C : Nat) (c : aO) (x : iq) (S : Nat -> Prop) (loc : Int) (v : Value) (w' : World) : Prop :=
 (x.cs.L = [] /\ v = .agg #[.bool false,.int .i64 0,.slice none 0 0] /\ dG w' C c x S) \/
 (x.cs.L ≠ [] /\ ∃ s cp,v = .agg #[.bool true,.int .i64 (gZ c x.cs loc).au,.slice s (jS c (gZ c x.cs loc).au x.ss) cp] /\ dZ w' s (jS c (gZ c x.cs loc).au x.ss) (jJ c (gZ c x.cs loc).au x.ss) /\ dG w' C c { x with cs:=gZ c x.cs loc } S)
set_option maxHeartbeats 2000000 in
theorem aaC (C : Nat) (c : aO) (zn : c.Ok) (hcc : dB c = 0) (x : iq) (S : Nat -> Prop) (kd loc : Int) (hloc : ay loc) (a : Option Addr) (len cap : Nat) (w : World) (h : dG w C c x S) :
 Calls Tryz.prog 54 #[.pointer (some ⟨C,0,none⟩),.agg #[.int .i64 kd,.int .i64 loc,.slice a len cap]] w λe w'=>∃ v,e = .returned (.tuple #[v,.int .i64 0]) /\ KQ w C c x S loc v w' /\ Only S w w':=by
 obtain ⟨w1,hw1⟩ : ∃ v,w.alloc (.cells #[.int .i64 kd,.int .i64 loc,.slice a len cap] 69) = v:=⟨_,rfl⟩
 have hb1 : Below w.heap.size w w1:=by rw [← hw1];exact aiT
 have hX1 : ak w1 w.heap.size #[.int .i64 kd,.int .i64 loc,.slice a len cap] 69:=by rw [← hw1];exact ak.new _ _ _
 obtain ⟨w2,hw2⟩ : ∃ v,w1.alloc (.cells #[.bool false,.int .i64 0,.slice none 0 0] 49) = v:=⟨_,rfl⟩
 have hb2 : Below w1.heap.size w1 w2:=by rw [← hw2];exact aiT
 have hX2 : ak w2 w1.heap.size #[.bool false,.int .i64 0,.slice none 0 0] 49:=by rw [← hw2];exact ak.new _ _ _
 have gU : Below w.heap.size w w2:=hb1.trans (hb2.mono hb1.size)
 have hA:=h.below gU;have hx1:=hX1.below hb2 hX1.lt;have q1:=hx1.cell 1;simp at q1;have dU:=aiS hX2;have HB:=aiS gU
 have HS : Hid (∀ k,S k -> k < w.heap.size):=aiS h.lt
 have dI : Hid (w.heap.size < w1.heap.size):=aiS hX1.lt
 clear hb1 hX1 hb2 hX2 gU hx1 h
 by_cases hL : x.cs.L = []
 ·have fr:=KO C c hcc x S loc w2 hA hL
  have HL:=aiS hL;clear hL hA
  go_enter Tryz.func54,Tryz.ntmps54
  go_wp2_with fail
  refine fr.mono ?_
  rintro e w3 ⟨rfl,hA,hO⟩
  have kT : ¬ S w1.heap.size:=λh=>Nat.lt_irrefl _ (Nat.lt_trans (HS.out _ h) dI.out)
  have aS : ak w3 w1.heap.size #[.bool false,.int .i64 0,.slice none 0 0] 49:=hO.blk dU.out (λh=>kT h.1)
  have f0:=aS.free 0;have f1:=aS.free 1;have f2:=aS.free 2;have x0:=aS.cell 0;have x1:=aS.cell 1;have x2:=aS.cell 2;simp at x0 x1 x2;have bA:=fB (v0:=.bool false) (v1:=.int .i64 0) (v2:=.slice none 0 0) aS
  obtain ⟨u3,hu3⟩ : ∃ u,((w3.setCell ⟨w1.heap.size,0,none⟩ (.bool false)).setCell ⟨w1.heap.size,1,none⟩ (.int .i64 0)).setCell ⟨w1.heap.size,2,none⟩ (.slice none 0 0) = u:=⟨_,rfl⟩
  have jf : Only (λk=>k = w1.heap.size) w3 u3:=by rw [← hu3];exact kS (Only.refl _ _) (.inl rfl)
  rw [hu3] at bA
  have HF : Hid (dG u3 C c x S /\ Only S w u3):=aiS ⟨hA.only jf (λk hk e=>kT (e ▸ hk)),((Only.of_below (S:=S) HB.out).trans (hO.weaken (λk _ h=>h.1))).aW jf (λi hi e=>absurd (e ▸ hi) (Nat.lt_asymm dI.out))⟩
  have g0:=bA.cell 0;have g1:=bA.cell 1;have g2:=bA.cell 2;simp at g0 g1 g2;clear hA hO aS jf bA fr kT
  go_wp2_with fail
  exact bodyPost_ret (v:=.tuple #[.agg #[.bool false,.int .i64 0,.slice none 0 0],.int .i64 0]) (by simp [results,Tryz.results54,go_sem,g0,g1,g2]) rfl ⟨_,rfl,.inl ⟨HL.out,rfl,HF.out.1⟩,HF.out.2⟩
 ·have fr:=xZ C c zn hcc x S loc hloc w2 hA hL
  have HL:=aiS hL;clear hL hA
  unfold KQ
  generalize gZ c x.cs loc = fc at *
  generalize jS c fc.au x.ss = sn at *
  generalize jJ c fc.au x.ss = sp at *
  generalize hat : fc.au = au at *
  go_enter Tryz.func54,Tryz.ntmps54
  go_wp2_with fail
  refine fr.mono ?_
  rintro e w3 ⟨s,cp,rfl,hP,hA,hO⟩
  have kT : ¬ S w1.heap.size:=λh=>Nat.lt_irrefl _ (Nat.lt_trans (HS.out _ h) dI.out)
  have aS : ak w3 w1.heap.size #[.bool false,.int .i64 0,.slice none 0 0] 49:=hO.blk dU.out (λh=>kT h.1)
  have f0:=aS.free 0;have f1:=aS.free 1;have f2:=aS.free 2;have x0:=aS.cell 0;have x1:=aS.cell 1;have x2:=aS.cell 2;simp at x0 x1 x2;have bA:=fB (v0:=.bool true) (v1:=.int .i64 au) (v2:=.slice s sn cp) aS
  obtain ⟨u3,hu3⟩ : ∃ u,((w3.setCell ⟨w1.heap.size,0,none⟩ (.bool true)).setCell ⟨w1.heap.size,1,none⟩ (.int .i64 au)).setCell ⟨w1.heap.size,2,none⟩ (.slice s sn cp) = u:=⟨_,rfl⟩
  have jf : Only (λk=>k = w1.heap.size) w3 u3:=by rw [← hu3];exact kS (Only.refl _ _) (.inl rfl)
  rw [hu3] at bA
  have hPA : dZ u3 s sn sp:=Co hP aS rfl jf
  have HF : Hid (dZ u3 s sn sp /\ dG u3 C c { x with cs:=fc } S /\ Only S w u3):=aiS ⟨hPA,hA.only jf (λk hk e=>kT (e ▸ hk)),((Only.of_below (S:=S) HB.out).trans (hO.weaken (λk _ h=>h.1))).aW jf (λi hi e=>absurd (e ▸ hi) (Nat.lt_asymm dI.out))⟩
  have g0:=bA.cell 0;have g1:=bA.cell 1;have g2:=bA.cell 2;simp at g0 g1 g2;clear hA hO aS jf bA fr kT hPA hP
  go_wp2_with fail
  exact bodyPost_ret (v:=.tuple #[.agg #[.bool true,.int .i64 au,.slice s sn cp],.int .i64 0]) (by simp [results,Tryz.results54,go_sem,g0,g1,g2]) rfl ⟨_,rfl,.inr ⟨HL.out,s,cp,rfl,HF.out.1,HF.out.2.1⟩,HF.out.2.2⟩
end Go.Proofs.YtklkooeimkedgaaGreat
namespace Go.Proofs.YtklkooeimkedgaaGreat
open Go.RowKit
set_option maxRecDepth 8000
abbrev M0 : TypeId:=110
abbrev fnT : TypeId:=71
theorem wO (w : World) : (underlying M0).run Tryz.prog w = .ok (.map 3 fnT) w:=run_underlying Tryz.underlying110 w
theorem Cq (w : World) (id : Int) (es : List MapEntry) : (Instr.findKey 3 (.int .i64 id) es).run Tryz.prog w = (match Instr.findNow (.int .i64) (.int .i64 id) es 0 with | some r=>.ok r w | none=>(Instr.findKey 3 (.int .i64 id) es).run Tryz.prog w):=by
 have hu : (underlying 3).run Tryz.prog w = .ok (.int .i64) w:=run_underlying Tryz.underlying3 w
 cases h : Instr.findNow (.int .i64) (.int .i64 id) es 0 with
 | none=>rfl
 | some r=>simp [Instr.findKey,hu,h]
theorem Ym {w : World} {b : Nat} (hb : w.heap[b]? = some (.map #[] 0)) (v : Value) : (Instr.mapUpdate M0 (.map (some b)) (.int .i64 0) v).run Tryz.prog w = .ok () (w.putObj b (.map #[⟨.int .i64 0,v,0⟩] 1)):=by
 have c:=Cq w 0 []
 rw [show Instr.findNow (.int .i64) (.int .i64 0) [] 0 = some none from rfl] at c
 simp only at c
 simp [Instr.mapUpdate,wO,MapKept.run_getObj_map hb,gy,c,MapKept.run_setObj_map _ hb,World.putObj]
theorem Yn {w : World} {b : Nat} {v0 : Value} (hb : w.heap[b]? = some (.map #[⟨.int .i64 0,v0,0⟩] 1)) (v : Value) : (Instr.mapUpdate M0 (.map (some b)) (.int .i64 1) v).run Tryz.prog w = .ok () (w.putObj b (.map #[⟨.int .i64 0,v0,0⟩,⟨.int .i64 1,v,1⟩] 2)):=by
 have c:=Cq w 1 [⟨.int .i64 0,v0,0⟩]
 rw [show Instr.findNow (.int .i64) (.int .i64 1) [⟨.int .i64 0,v0,0⟩] 0 = some none from rfl] at c
 simp only at c
 simp [Instr.mapUpdate,wO,MapKept.run_getObj_map hb,gy,c,MapKept.run_setObj_map _ hb,World.putObj]
theorem Vt {w : World} {b : Nat} {v0 v1 : Value} (hb : w.heap[b]? = some (.map #[⟨.int .i64 0,v0,0⟩,⟨.int .i64 1,v1,1⟩] 2)) : (Instr.lookup M0 (.map (some b)) (.int .i64 0) true).run Tryz.prog w = .ok (.tuple #[v0,.bool true]) w:=by
 have c:=Cq w 0 [⟨.int .i64 0,v0,0⟩,⟨.int .i64 1,v1,1⟩]
 rw [show Instr.findNow (.int .i64) (.int .i64 0) [⟨.int .i64 0,v0,0⟩,⟨.int .i64 1,v1,1⟩] 0 = some (some (0,v0)) from rfl] at c
 simp only at c
 simp [Instr.lookup,wO,MapKept.run_getObj_map hb,gy,c]
theorem Vu {w : World} {b : Nat} {v0 v1 : Value} (hb : w.heap[b]? = some (.map #[⟨.int .i64 0,v0,0⟩,⟨.int .i64 1,v1,1⟩] 2)) : (Instr.lookup M0 (.map (some b)) (.int .i64 1) true).run Tryz.prog w = .ok (.tuple #[v1,.bool true]) w:=by
 have c:=Cq w 1 [⟨.int .i64 0,v0,0⟩,⟨.int .i64 1,v1,1⟩]
 rw [show Instr.findNow (.int .i64) (.int .i64 1) [⟨.int .i64 0,v0,0⟩,⟨.int .i64 1,v1,1⟩] 0 = some (some (1,v1)) from rfl] at c
 simp only at c
 simp [Instr.lookup,wO,MapKept.run_getObj_map hb,gy,c]
theorem Vv {w : World} {b : Nat} {v0 v1 : Value} (hb : w.heap[b]? = some (.map #[⟨.int .i64 0,v0,0⟩,⟨.int .i64 1,v1,1⟩] 2)) {k : Int} (h0 : k ≠ 0) (h1 : k ≠ 1) : ∃ z,(Instr.lookup M0 (.map (some b)) (.int .i64 k) true).run Tryz.prog w = .ok (.tuple #[z,.bool false]) w:=by
 have c:=Cq w k [⟨.int .i64 0,v0,0⟩,⟨.int .i64 1,v1,1⟩]
 rw [show Instr.findNow (.int .i64) (.int .i64 k) [⟨.int .i64 0,v0,0⟩,⟨.int .i64 1,v1,1⟩] 0 = some none from by simp [Instr.findNow,Instr.sameNow,show (k == 0) = false by simpa using h0,show (k == 1) = false by simpa using h1]] at c
 simp only at c
 obtain ⟨z,hz⟩ : ∃ z,(zeroValue fnT).run Tryz.prog w = .ok z w:=⟨_,rfl⟩
 exact ⟨z,by simp [Instr.lookup,wO,MapKept.run_getObj_map hb,gy,c,hz]⟩
end Go.Proofs.YtklkooeimkedgaaGreat
namespace Go.Proofs.YtklkooeimkedgaaGreat
open Go.RowKit
set_option maxRecDepth 100000
def aaD (w : World) (C : Nat) (c : aO) (x : iq) (S : Nat -> Prop) (kd loc : Int) (zs : List Int) (e : Ending) (w' : World) : Prop :=
 ∃ v er,e = .returned (.tuple #[v,.int .i64 er]) /\ Only S w w' /\
  ((kd = 0 /\ v = .agg #[.bool false,.int .i64 0,.slice none 0 0] /\ ∃ S',dG w' C c (wM c x loc zs) S' /\ ∀ k,S' k -> S k \/ w.heap.size <= k) \/
   (kd = 1 /\ KQ w C c x S loc v w') \/
   (kd ≠ 0 /\ kd ≠ 1 /\ v = .agg #[.bool false,.int .i64 0,.slice none 0 0] /\ dG w' C c x S))
set_option maxHeartbeats 2000000 in
theorem afe (C : Nat) (c : aO) (zn : c.Ok) (hcc : dB c = 0) (x : iq) (S : Nat -> Prop) (kd loc : Int) (hloc : ay loc) (a : Option Addr) (len cap : Nat) (zs : List Int) (w : World) (h : dG w C c x S)
 (hz : BytesAt w a len zs) (hc : a = none -> cap = 0) (hlc : len <= cap) (hl : (len : Int) <= 140737488355000) (hL : x.cs.L.length < 1000) :
 Calls Tryz.prog 24 #[.pointer (some ⟨C,0,none⟩),.agg #[.int .i64 kd,.int .i64 loc,.slice a len cap]] w (aaD w C c x S kd loc zs):=by
 have hmf : ∀ (fn : Fn) (first cap : Array Value) (w : World),(Instr.makeFunc fn first cap).run Tryz.prog w = .ok (.func fn first cap) w:=λ_ _ _ _=>rfl
 obtain ⟨w1,hw1⟩ : ∃ v,w.alloc (.cells #[.int .i64 kd,.int .i64 loc,.slice a len cap] 69) = v:=⟨_,rfl⟩
 have hb1 : Below w.heap.size w w1:=by rw [← hw1];exact aiT
 have hX1 : ak w1 w.heap.size #[.int .i64 kd,.int .i64 loc,.slice a len cap] 69:=by rw [← hw1];exact ak.new _ _ _
 obtain ⟨w2,hw2⟩ : ∃ v,w1.alloc (.cells #[.bool false,.int .i64 0,.slice none 0 0] 49) = v:=⟨_,rfl⟩
 have hb2 : Below w1.heap.size w1 w2:=by rw [← hw2];exact aiT
 have hX2 : ak w2 w1.heap.size #[.bool false,.int .i64 0,.slice none 0 0] 49:=by rw [← hw2];exact ak.new _ _ _
 have gU : Below w.heap.size w w2:=hb1.trans (hb2.mono hb1.size)
 obtain ⟨w3,hw3⟩ : ∃ v,w2.alloc (.map #[] 0) = v:=⟨_,rfl⟩
 have SQ : w3.heap[w2.heap.size]? = some (.map #[] 0):=by rw [← hw3];exact heap_alloc_new w2 _
 have hlt3 : w2.heap.size < w3.heap.size:=(Array.getElem?_eq_some_iff.1 SQ).1
 have hb3 : Below w2.heap.size w2 w3:=by rw [← hw3];exact aiT
 have u0:=Ym SQ (.func (.func 53) #[.pointer (some ⟨C,0,none⟩)] #[])
 obtain ⟨w4,hw4⟩ : ∃ v,w3.putObj w2.heap.size (.map #[⟨.int .i64 0,.func (.func 53) #[.pointer (some ⟨C,0,none⟩)] #[],0⟩] 1) = v:=⟨_,rfl⟩
 have KR : w4.heap[w2.heap.size]? = some (.map #[⟨.int .i64 0,.func (.func 53) #[.pointer (some ⟨C,0,none⟩)] #[],0⟩] 1):=by rw [← hw4];exact World.putObj_heap_same hlt3
 have WL : Only (λk=>k = w2.heap.size) w3 w4:=by rw [← hw4];exact nO _ _ _
 rw [hw4] at u0
 have u1:=Yn KR (.func (.func 54) #[.pointer (some ⟨C,0,none⟩)] #[])
 obtain ⟨w5,qC⟩ : ∃ v,w4.putObj w2.heap.size (.map #[⟨.int .i64 0,.func (.func 53) #[.pointer (some ⟨C,0,none⟩)] #[],0⟩,⟨.int .i64 1,.func (.func 54) #[.pointer (some ⟨C,0,none⟩)] #[],1⟩] 2) = v:=⟨_,rfl⟩
 have Ir : w5.heap[w2.heap.size]? = some (.map #[⟨.int .i64 0,.func (.func 53) #[.pointer (some ⟨C,0,none⟩)] #[],0⟩,⟨.int .i64 1,.func (.func 54) #[.pointer (some ⟨C,0,none⟩)] #[],1⟩] 2):=by rw [← qC];exact World.putObj_heap_same (Nat.lt_of_lt_of_le hlt3 WL.size)
 have lY : Only (λk=>k = w2.heap.size) w4 w5:=by rw [← qC];exact nO _ _ _
 rw [qC] at u1
 have OG : Below w2.heap.size w2 w5:=(hb3.trans (WL.below (Nat.le_of_lt hlt3) (λk e=>Nat.le_of_eq e.symm))).trans (lY.below (Nat.le_trans (Nat.le_of_lt hlt3) WL.size) (λk e=>Nat.le_of_eq e.symm))
 have hb5 : Below w.heap.size w w5:=gU.trans (OG.mono gU.size)
 have hx5:=(hX1.below hb2 hX1.lt).below OG (Nat.lt_of_lt_of_le hX1.lt hb2.size);have q0:=hx5.cell 0;have q1:=hx5.cell 1;have q2:=hx5.cell 2;simp at q0 q1 q2;have dU:=aiS (hX2.below OG hX2.lt);have HB:=aiS hb5
 have HS : Hid (∀ k,S k -> k < w.heap.size):=aiS h.lt
 have dI : Hid (w.heap.size < w1.heap.size):=aiS hX1.lt
 have HA:=aiS (h.below hb5);have HZ:=aiS (hz.below hb5);clear hb1 hX1 hb2 hX2 gU hx5 h hz hb3 WL lY OG hb5 SQ KR hlt3
 by_cases h0 : kd = 0
 ·subst h0
  have lk:=Vt Ir;have ar:=Yl C c zn hcc x S 0 loc hloc a len cap zs w5 HA.out HZ.out hc hlc hl hL;clear Ir hc hlc hl hL
  generalize El c x zs = er at *
  go_enter Tryz.func24,Tryz.ntmps24
  go_wp2_with fail
  refine ar.mono ?_
  rintro e w6 ⟨rfl,⟨S',hA,hS'⟩,hO⟩
  have kT : ¬ S w1.heap.size:=λh=>Nat.lt_irrefl _ (Nat.lt_trans (HS.out _ h) dI.out)
  have aS : ak w6 w1.heap.size #[.bool false,.int .i64 0,.slice none 0 0] 49:=hO.blk dU.out kT
  have f0:=aS.free 0;have f1:=aS.free 1;have f2:=aS.free 2;have x0:=aS.cell 0;have x1:=aS.cell 1;have x2:=aS.cell 2;simp at x0 x1 x2;have bA:=fB (v0:=.bool false) (v1:=.int .i64 0) (v2:=.slice none 0 0) aS
  obtain ⟨u3,hu3⟩ : ∃ u,((w6.setCell ⟨w1.heap.size,0,none⟩ (.bool false)).setCell ⟨w1.heap.size,1,none⟩ (.int .i64 0)).setCell ⟨w1.heap.size,2,none⟩ (.slice none 0 0) = u:=⟨_,rfl⟩
  have jf : Only (λk=>k = w1.heap.size) w6 u3:=by rw [← hu3];exact kS (Only.refl _ _) (.inl rfl)
  rw [hu3] at bA
  have g0:=bA.cell 0;have g1:=bA.cell 1;have g2:=bA.cell 2;simp at g0 g1 g2
  have HF : Hid (Only S w u3 /\ ∃ S',dG u3 C c (wM c x loc zs) S' /\ ∀ k,S' k -> S k \/ w.heap.size <= k):=aiS ⟨((Only.of_below (S:=S) HB.out).trans hO).aW jf (λi hi e=>absurd (e ▸ hi) (Nat.lt_asymm dI.out)),S',hA.only jf (λk hk e=>by
   subst e
   rcases hS' _ hk with h | h
   ·exact kT h
   ·exact Nat.lt_irrefl _ (Nat.lt_of_lt_of_le dU.out.lt h)),λk hk=>(hS' k hk).imp id (λh=>Nat.le_trans HB.out.size h)⟩
  clear hA hO aS jf bA ar kT hS'
  go_wp2_with fail
  exact bodyPost_ret (v:=.tuple #[.agg #[.bool false,.int .i64 0,.slice none 0 0],.int .i64 er]) (by simp [results,Tryz.results24,go_sem,g0,g1,g2]) rfl ⟨_,er,rfl,HF.out.1,.inl ⟨rfl,rfl,HF.out.2⟩⟩
 by_cases h1 : kd = 1
 ·subst h1
  have lk:=Vu Ir;have ar:=aaC C c zn hcc x S 1 loc hloc a len cap w5 HA.out;clear Ir hc hlc hl hL h0
  go_enter Tryz.func24,Tryz.ntmps24
  go_wp2_with fail
  refine ar.mono ?_
  rintro e w6 ⟨v,rfl,hV,hO⟩
  unfold KQ at hV
  rcases hV with ⟨hL,rfl,hA⟩ | ⟨hL,s,cp,rfl,hP,hA⟩
  ·have HL:=aiS hL
   have kT : ¬ S w1.heap.size:=λh=>Nat.lt_irrefl _ (Nat.lt_trans (HS.out _ h) dI.out)
   have aS : ak w6 w1.heap.size #[.bool false,.int .i64 0,.slice none 0 0] 49:=hO.blk dU.out kT
   have f0:=aS.free 0;have f1:=aS.free 1;have f2:=aS.free 2;have x0:=aS.cell 0;have x1:=aS.cell 1;have x2:=aS.cell 2;simp at x0 x1 x2;have bA:=fB (v0:=.bool false) (v1:=.int .i64 0) (v2:=.slice none 0 0) aS
   obtain ⟨u3,hu3⟩ : ∃ u,((w6.setCell ⟨w1.heap.size,0,none⟩ (.bool false)).setCell ⟨w1.heap.size,1,none⟩ (.int .i64 0)).setCell ⟨w1.heap.size,2,none⟩ (.slice none 0 0) = u:=⟨_,rfl⟩
   have jf : Only (λk=>k = w1.heap.size) w6 u3:=by rw [← hu3];exact kS (Only.refl _ _) (.inl rfl)
   rw [hu3] at bA
   have g0:=bA.cell 0;have g1:=bA.cell 1;have g2:=bA.cell 2;simp at g0 g1 g2
   have HF : Hid (Only S w u3 /\ dG u3 C c x S):=aiS ⟨((Only.of_below (S:=S) HB.out).trans hO).aW jf (λi hi e=>absurd (e ▸ hi) (Nat.lt_asymm dI.out)),hA.only jf (λk hk e=>kT (e ▸ hk))⟩
   clear hA hO aS jf bA ar kT hL
   go_wp2_with fail
   exact bodyPost_ret (v:=.tuple #[.agg #[.bool false,.int .i64 0,.slice none 0 0],.int .i64 0]) (by simp [results,Tryz.results24,go_sem,g0,g1,g2]) rfl ⟨_,0,rfl,HF.out.1,.inr (.inl ⟨rfl,.inl ⟨HL.out,rfl,HF.out.2⟩⟩)⟩
  ·have HL:=aiS hL
   obtain ⟨au,hat⟩ : ∃ a,(gZ c x.cs loc).au = a:=⟨_,rfl⟩
   rw [hat] at hP ⊢
   obtain ⟨sn,hsn⟩ : ∃ n,jS c au x.ss = n:=⟨_,rfl⟩
   rw [hsn] at hP ⊢
   have HAT:=aiS hat;have Gw:=aiS hsn;clear hat hsn
   have kT : ¬ S w1.heap.size:=λh=>Nat.lt_irrefl _ (Nat.lt_trans (HS.out _ h) dI.out)
   have aS : ak w6 w1.heap.size #[.bool false,.int .i64 0,.slice none 0 0] 49:=hO.blk dU.out kT
   have f0:=aS.free 0;have f1:=aS.free 1;have f2:=aS.free 2;have x0:=aS.cell 0;have x1:=aS.cell 1;have x2:=aS.cell 2;simp at x0 x1 x2;have bA:=fB (v0:=.bool true) (v1:=.int .i64 au) (v2:=.slice s sn cp) aS
   obtain ⟨u3,hu3⟩ : ∃ u,((w6.setCell ⟨w1.heap.size,0,none⟩ (.bool true)).setCell ⟨w1.heap.size,1,none⟩ (.int .i64 au)).setCell ⟨w1.heap.size,2,none⟩ (.slice s sn cp) = u:=⟨_,rfl⟩
   have jf : Only (λk=>k = w1.heap.size) w6 u3:=by rw [← hu3];exact kS (Only.refl _ _) (.inl rfl)
   rw [hu3] at bA
   have g0:=bA.cell 0;have g1:=bA.cell 1;have g2:=bA.cell 2;simp at g0 g1 g2
   have HF : Hid (Only S w u3 /\ dZ u3 s sn (jJ c au x.ss) /\ dG u3 C c { x with cs:=gZ c x.cs loc } S):=aiS ⟨((Only.of_below (S:=S) HB.out).trans hO).aW jf (λi hi e=>absurd (e ▸ hi) (Nat.lt_asymm dI.out)),Co hP aS rfl jf,hA.only jf (λk hk e=>kT (e ▸ hk))⟩
   clear hA hO aS jf bA ar kT hL hP
   go_wp2_with fail
   exact bodyPost_ret (v:=.tuple #[.agg #[.bool true,.int .i64 au,.slice s sn cp],.int .i64 0]) (by simp [results,Tryz.results24,go_sem,g0,g1,g2]) rfl ⟨_,0,rfl,HF.out.1,.inr (.inl ⟨rfl,.inr ⟨HL.out,s,cp,by rw [HAT.out,Gw.out],by rw [HAT.out,Gw.out];exact HF.out.2.1,HF.out.2.2⟩⟩)⟩
 ·obtain ⟨z,lk⟩:=Vv Ir h0 h1
  have HK : Hid (kd ≠ 0 /\ kd ≠ 1):=aiS ⟨h0,h1⟩
  have kT : ¬ S w1.heap.size:=λh=>Nat.lt_irrefl _ (Nat.lt_trans (HS.out _ h) dI.out)
  have aS : ak w5 w1.heap.size #[.bool false,.int .i64 0,.slice none 0 0] 49:=dU.out
  have f0:=aS.free 0;have f1:=aS.free 1;have f2:=aS.free 2;have x0:=aS.cell 0;have x1:=aS.cell 1;have x2:=aS.cell 2;simp at x0 x1 x2;have bA:=fB (v0:=.bool false) (v1:=.int .i64 0) (v2:=.slice none 0 0) aS
  obtain ⟨u3,hu3⟩ : ∃ u,((w5.setCell ⟨w1.heap.size,0,none⟩ (.bool false)).setCell ⟨w1.heap.size,1,none⟩ (.int .i64 0)).setCell ⟨w1.heap.size,2,none⟩ (.slice none 0 0) = u:=⟨_,rfl⟩
  have jf : Only (λk=>k = w1.heap.size) w5 u3:=by rw [← hu3];exact kS (Only.refl _ _) (.inl rfl)
  rw [hu3] at bA
  have g0:=bA.cell 0;have g1:=bA.cell 1;have g2:=bA.cell 2;simp at g0 g1 g2
  have HF : Hid (Only S w u3 /\ dG u3 C c x S):=aiS ⟨(Only.of_below (S:=S) HB.out).aW jf (λi hi e=>absurd (e ▸ hi) (Nat.lt_asymm dI.out)),HA.out.only jf (λk hk e=>kT (e ▸ hk))⟩
  clear Ir hc hlc hl hL h0 h1 aS jf bA kT
  go_enter Tryz.func24,Tryz.ntmps24
  go_wp2_with fail
  exact bodyPost_ret (v:=.tuple #[.agg #[.bool false,.int .i64 0,.slice none 0 0],.int .i64 11]) (by simp [results,Tryz.results24,go_sem,g0,g1,g2]) rfl ⟨_,11,rfl,HF.out.1,.inr (.inr ⟨HK.out.1,HK.out.2,rfl,HF.out.2⟩)⟩
end Go.Proofs.YtklkooeimkedgaaGreat
namespace Go.Proofs.YtklkooeimkedgaaGreat
open Go.RowKit
def mQ (x : aB) : Rec:=⟨0,x.id,x.px,x.py,x.pz,x.vx,x.vy,x.vz,x.aJ⟩
theorem FK : ∀ (es : List aB) (out : List Rec),(∀ e ∈ es,e.gen = 0) -> fU [] out es = some ([],out ++ es.map mQ)
 | [],out,_=>by simp [fU]
 | x :: es,out,h=>by
   have h1 : qM [] out x = some ([],out ++ [mQ x]):=by
    unfold qM
    simp only [eZ,List.find?_nil]
    rw [if_pos (h x (List.mem_cons_self ..))]
    rfl
   rw [fU,h1]
   simp only
   rw [FK es _ (λe he=>h e (List.mem_cons_of_mem _ he))]
   simp
theorem Vx (es : List aB) : (es.map mQ).map (·.id) = es.map (·.id):=by rw [List.map_map];rfl
theorem OM {es : List aB} (h : es.Pairwise (λa b=>a.id < b.id)) : mo ([],es.map mQ) = es.map mQ:=by
 unfold mo
 simp only [List.map_nil,List.append_nil]
 refine (M9 (List.Perm.refl _) ?_ ?_).symm
 ·exact List.pairwise_map.2 (h.imp (λh=>by show _ <= _;exact Int.le_of_lt h))
 ·rw [Vx];exact zW h
theorem Er {s : Sn} (h : pq s) (hg : ∀ e ∈ s.ents,e.gen = 0) : j5 s = (⟨s.tick,s.time,-1,s.ents.map mQ⟩,0):=by
 unfold j5
 rw [if_neg (by rw [jI.2 h];simp),FK _ _ hg]
 simp only [List.nil_append]
 rw [OM h.up]
theorem FL : ∀ (es l : List aB),(∀ e ∈ es,e.gen = 0) -> ((l ++ es).map (·.id)).Nodup -> kR l (es.map mQ) = some (l ++ es)
 | [],l,_,_=>by simp [kR]
 | x :: es,l,hg,hn=>by
   have hx : eZ l x.id = none:=by
    unfold eZ
    rw [List.find?_eq_none]
    intro e he hh
    have heq : e.id = x.id:=by simpa using hh
    rw [List.map_append,List.map_cons] at hn
    exact (List.nodup_append.1 hn).2.2 e.id (List.mem_map_of_mem he) x.id (List.mem_cons_self ..) heq
   have h1 : iV l (mQ x) = some (l ++ [x]):=by
    have hp : fG l ⟨x.id,x.px,x.py,x.pz,x.vx,x.vy,x.vz,x.aJ,0⟩ = l ++ [x]:=by
     unfold fG
     simp only [hx]
     have:=hg x (List.mem_cons_self ..)
     obtain ⟨a,b,c,d,e,f,g,i,j⟩:=x
     simp only at this
     subst this
     simp
    unfold iV
    show (match eZ l x.id with | some y=>_ | none=>_) = _
    rw [hx]
    simp only [mQ]
    rw [if_pos trivial,hp]
   rw [List.map_cons,kR,h1]
   simp only
   rw [FL es (l ++ [x]) (λe he=>hg e (List.mem_cons_of_mem _ he)) (by simpa using hn)]
   simp
theorem Te {es : List aB} (h : es.Pairwise (λa b=>a.id < b.id)) : uQ es = es :=
 (Gc (List.Perm.refl _) (h.imp (λh=>Int.le_of_lt h)) (zW h)).symm
def j6 (s : Sn) : List Int:=if nZ (j5 s).1 = 0 then xI (j5 s).1 else []
structure iX (s : Sn) : Prop where
 good : pq s
 gen : ∀ e ∈ s.ents,e.gen = 0
 ok : ∀ e ∈ s.ents,e.Ok
 wr : nZ (j5 s).1 = 0
theorem iX.rd {s : Sn} (h : iX s) : bD (j6 s) = (⟨s.tick,s.time,-1,s.ents.map mQ⟩,0):=by
 have hw:=h.wr
 unfold j6
 rw [if_pos hw]
 rw [Er h.good h.gen] at hw ⊢
 refine XH hw (λr hr=>?_)
 obtain ⟨e,he,rfl⟩:=List.mem_map.1 hr
 have ho:=h.ok e he
 exact ⟨⟨bB,ho.id,ho.px,ho.py,ho.pz,ho.vx,ho.vy,ho.vz,ho.aJ⟩,by simp [mQ]⟩
theorem iX.ap {s : Sn} (h : iX s) (a : Sn) : jo a ⟨s.tick,s.time,-1,s.ents.map mQ⟩ = (s,0):=by
 have hw:=h.wr
 rw [Er h.good h.gen] at hw
 have hb : dx ⟨s.tick,s.time,-1,s.ents.map mQ⟩ = 0:=by
  unfold nZ at hw
  split at hw
  ·rename_i hh;exact absurd hw hh
  ·rename_i hh;exact Decidable.of_not_not hh
 unfold jo
 rw [if_neg (by simpa using hb),if_neg (by simp)]
 unfold fD
 simp only
 rw [FL s.ents [] h.gen (by simpa using zW h.good.up)]
 simp only [List.nil_append]
 rw [if_neg (by have:=h.good.len;omega),Te h.good.up]
theorem iX.snap {s : Sn} (h : iX s) (most : Int) (r : Rg) : fT most r (j6 s) =
 if eF (r.ss.map iP) s.tick = true then (dD,12) else if iI (r.ss.map iP) most r.floor r.gone s.tick = true then (dD,13) else (s,if fJ (r.ss.map iP) s.tick s.time = false then 16 else 0):=by
 unfold fT dS
 rw [h.rd]
 simp only [ne_eq,not_true_eq_false,if_false]
 rw [h.ap]
 unfold rZ
 by_cases h1 : eF (r.ss.map iP) s.tick = true
 ·simp [h1]
 ·by_cases h2 : iI (r.ss.map iP) most r.floor r.gone s.tick = true
  ·simp [h1,h2]
  ·simp [h1,h2]
theorem Vy {ss : List Sn} {key : Int} (h : ∀ s ∈ ss,s.tick < key) : dX (ss.map iP) key = ss.length:=by
 have:=Ki (l:=ss.map iP) (key:=key) (λk hk=>by
  obtain ⟨s,hs,rfl⟩:=List.mem_map.1 hk
  exact h s hs)
 rwa [List.length_map] at this
theorem KY {ss : List Sn} {key : Int} (h : ∀ s ∈ ss,s.tick < key) : eF (ss.map iP) key = false :=
 UQ (λk hk=>by
  obtain ⟨s,hs,rfl⟩:=List.mem_map.1 hk
  exact h s hs)
theorem iX.Vz {s : Sn} (h : iX s) {most : Int} {ss : List Sn} {floor : Int} (h1 : ∀ x ∈ ss,x.tick < s.tick) (h2 : ∀ x ∈ ss,x.time < s.time) (hl : (ss.length : Int) < most) : fT most ⟨ss,floor,false⟩ (j6 s) = (s,0):=by
 rw [h.snap]
 have hu : eB (ss.map iP) s.tick = ss.length:=by unfold eB;rw [KY h1,Vy h1];simp
 have hs : iI (ss.map iP) most floor false s.tick = false:=by
  unfold iI
  have : ¬ (ss.length : Int) = most:=by omega
  simp [this]
 have ht : fJ (ss.map iP) s.tick s.time = true:=by
  unfold fJ
  rw [hu]
  have a2 : fA (ss.map iP) (ss.length : Int) = none:=by
   unfold fA
   rw [if_neg (by omega)]
   exact List.getElem?_eq_none (by simp)
  rw [a2]
  simp only [sQ]
  by_cases hn : ss.length = 0
  ·have a1 : fA (ss.map iP) ((ss.length : Int) - 1) = none:=by unfold fA;rw [if_pos (by omega)]
   rw [a1];simp [sQ]
  ·have hi : ss.length - 1 < ss.length:=by omega
   have a1 : fA (ss.map iP) ((ss.length : Int) - 1) = some (iP ss[ss.length - 1]):=by
    unfold fA
    rw [if_neg (by omega),show ((ss.length : Int) - 1).toNat = ss.length - 1 by omega,List.getElem?_map,List.getElem?_eq_getElem hi];rfl
   rw [a1]
   have:=h2 _ (List.getElem_mem hi)
   simp [sQ,mX,iP,this]
 simp only
 rw [KY h1,hs,ht]
 simp
theorem Na {c : aO} {x : iq} {s : Sn} (hc : dB c = 0) (h : iX s) (hg : x.gone = false) (h1 : ∀ y ∈ x.ss,y.tick < s.tick) (h2 : ∀ y ∈ x.ss,y.time < s.time) (hl : (x.ss.length : Int) < c.ring) (loc : Int) :
 El c x (j6 s) = 0 /\ KH c x (j6 s) /\ wM c x loc (j6 s) = ⟨x.ss ++ [s],x.floor,false,vw c x.cs (aK loc s.time)⟩:=by
 have hs : fT c.ring x.rg (j6 s) = (s,0):=by
  have:=h.Vz (most:=c.ring) (ss:=x.ss) (floor:=x.floor) h1 h2 hl
  rw [← hg] at this
  exact this
 refine ⟨by unfold El;rw [hs],FE hc (Int.le_of_lt hl),?_⟩
 unfold wM
 rw [hs,if_pos rfl]
 have hin : jg x.ss s = x.ss ++ [s]:=Kt h1
 have hle : ((jg x.ss s).length : Int) <= c.ring:=by rw [hin];simp;omega
 unfold jA
 simp only [iq.rg]
 rw [if_pos hle,hin,hg]
theorem Cr {tick time : Int} {e : aB} (h1 : 0 <= tick /\ tick <= 4294967295) (h2 : -2305843009213693952 <= time /\ time <= 2305843009213693952) (hi : 0 <= e.id /\ e.id <= 65535) (ho : e.Ok) (hg : e.gen = 0) : iX ⟨tick,time,[e]⟩:=by
 have good : pq ⟨tick,time,[e]⟩:=⟨h1,h2,by simp,λx hx=>by simp at hx;subst hx;exact hi,List.pairwise_singleton _ _⟩
 have gen : ∀ x ∈ (⟨tick,time,[e]⟩ : Sn).ents,x.gen = 0:=λx hx=>by simp at hx;subst hx;exact hg
 refine ⟨good,gen,λx hx=>by simp at hx;subst hx;exact ho,?_⟩
 rw [Er good gen]
 have hr : (mQ e).Ok:=⟨bB,ho.id,ho.px,ho.py,ho.pz,ho.vx,ho.vy,ho.vz,ho.aJ⟩
 have hw : gQ (mQ e) (-1) = 0:=by
  have hc : dH (mQ e) = 0:=by
   unfold dH mQ
   simp only
   rw [if_neg (by omega),if_neg (by omega),if_neg (by simp)]
  unfold gQ
  rw [if_neg (by rw [hc];simp),if_neg (by omega),if_neg (by simp [mQ];omega)]
 have hh : gX tick time (-1) 1 = 0:=by
  unfold gX
  rw [if_neg (by omega),if_neg (by omega),if_neg (by omega)]
 have hb : dx ⟨tick,time,-1,[mQ e]⟩ = 0:=by
  unfold dx
  simp only [List.length_singleton]
  rw [if_neg (by simpa using hh)]
  unfold lZ
  rw [if_neg (by rw [hw];simp)]
  rfl
 have hlen : (jm ⟨tick,time,-1,[mQ e]⟩).length <= 124:=by
  unfold jm
  have a:=GQ tick time (-1) 1 hh;have b:=ES hr hw
  rw [List.length_append]
  simp only [List.length_singleton,kQ,List.append_nil]
  omega
 simp only [List.map_cons,List.map_nil]
 unfold nZ
 rw [if_neg (by rw [hb];simp),if_neg (by omega)]
end Go.Proofs.YtklkooeimkedgaaGreat
namespace Go.Proofs.YtklkooeimkedgaaGreat
open Go.RowKit
structure iY (ss : List Sn) : Prop where
 good : ∀ s ∈ ss,pq s
 time : ss.Pairwise (λa b=>a.time < b.time)
theorem yh {K T : Nat -> Int} {E : Nat -> Option Addr × Nat × Nat} {EE : Nat -> Nat -> aB} : ∀ (n i : Nat),(∀ j,i <= j -> j < i + n -> dh (K j) (T j) (E j).2.1 (EE j) = 0) -> nR K T E EE n i = 0
 | 0,_,_=>rfl
 | n + 1,i,h=>by
   unfold nR
   rw [if_pos (h i (Nat.le_refl _) (by omega))]
   exact yh n (i + 1) (λj h1 h2=>h j (by omega) (by omega))
theorem sF {T : Nat -> Int} : ∀ (n i : Nat),(∀ j,i <= j -> j < i + n -> (-2305843009213693952 <= T j /\ T j <= 2305843009213693952) /\ (0 < j -> T (j - 1) < T j)) -> mq T n i = 0
 | 0,_,_=>rfl
 | n + 1,i,h=>by
   have h0:=h i (Nat.le_refl _) (by omega)
   unfold mq
   rw [if_neg (by omega),if_neg (by intro hh;have:=h0.2 hh.1;omega)]
   exact sF n (i + 1) (λj h1 h2=>h j (by omega) (by omega))
section
variable {ss : List Sn}
theorem getD_lt {i : Nat} (h : i < ss.length) : ss.getD i dD = ss[i]:=by simp [List.getD,h]
theorem iY.snap (h : iY ss) {i : Nat} (hi : i < ss.length) : dh (uN ss i) (dP ss i) (qG ss i).2.1 (kM ss i) = 0:=by
 have:=jI.2 (h.good _ (List.getElem_mem hi))
 unfold fZ at this
 unfold uN dP qG kM
 rw [getD_lt hi]
 exact this
theorem iY.mono (h : iY ss) {i j : Nat} (hij : i < j) (hj : j < ss.length) : dP ss i < dP ss j:=by
 unfold dP
 rw [getD_lt hj,getD_lt (show i < ss.length by omega)]
 exact List.pairwise_iff_getElem.1 h.time i j (by omega) hj hij
theorem iY.bound (h : iY ss) {i : Nat} (hi : i < ss.length) : -2305843009213693952 <= dP ss i /\ dP ss i <= 2305843009213693952:=by
 unfold dP
 rw [getD_lt hi]
 exact (h.good _ (List.getElem_mem hi)).time
theorem iY.eD (h : iY ss) : eD (dP ss) ss.length = 0 :=
 sF _ _ (λj _ hj=>⟨h.bound (by omega),λhp=>h.mono (by omega) (by omega)⟩)
theorem iY.gD (h : iY ss) {c : aO} (hc : dB c = 0) : gD c (uN ss) (dP ss) (qG ss) (kM ss) ss.length = 0:=by
 unfold Go.Proofs.YtklkooeimkedgaaGreat.gD
 rw [if_pos hc]
 exact yh _ _ (λj _ hj=>h.snap (by omega))
theorem Yq {a t : Int} (h : -2305843009213693952 <= a /\ a <= 2305843009213693952) : kV a t = if t < a then 3 else 0:=by
 unfold kV
 have h0 : Go.Proofs.YtklkooeimkedgaaGreat.eD (λ_=>a) 1 = 0:=sF _ _ (λj _ hj=>⟨h,λhp=>by omega⟩)
 rw [if_pos h0]
theorem Tf (h : iY ss) {c : aO} (hc : dB c = 0) {t : Int} (hm : bS (dP ss) t ss.length = 0) : jS c t ss = 0:=by
 have hE : Cn c t ss = 5:=by
  unfold Cn rE
  rw [if_pos (h.gD hc)]
  have hp : iL (dP ss) t ss.length = 5:=by unfold iL;rw [if_pos h.eD,if_pos hm]
  rw [if_neg (by rw [hp];decide),hp]
 unfold jS Am
 rw [show rE c t (uN ss) (dP ss) (qG ss) (kM ss) ss.length = 5 from hE,if_neg (by decide)]
theorem KZ (h : iY ss) {t : Int} (hm : bS (dP ss) t ss.length ≠ 0) : iL (dP ss) t ss.length = 0 /\ cK (dP ss) t ss.length = bS (dP ss) t ss.length - 1:=by
 constructor
 ·unfold iL;rw [if_pos h.eD,if_neg hm]
 ·unfold cK pI;rw [if_pos h.eD,if_neg hm];omega
theorem Tg (h : iY ss) {c : aO} (hc : dB c = 0) {t : Int} (hm : bS (dP ss) t ss.length ≠ 0) (hl : bS (dP ss) t ss.length = ss.length) :
 jS c t ss = (ss.getD (ss.length - 1) dD).ents.length /\ jJ c t ss = yT (xC c (aK t (dP ss (ss.length - 1)))) (yU c (aK t (dP ss (ss.length - 1)))) (kM ss (ss.length - 1)):=by
 obtain ⟨hp,ha⟩:=KZ h hm
 have hb : iT (dP ss) t ss.length = -1:=by unfold iT;rw [if_pos h.eD,if_neg hm,if_pos hl]
 rw [hl] at ha
 have hlt : ss.length - 1 < ss.length:=by omega
 have hE : Cn c t ss = 0:=by
  unfold Cn rE
  rw [if_pos (h.gD hc),if_pos hp,if_pos (by rw [hb];decide),ha]
  have hk:=h.snap hlt
  have h1 : lS c (uN ss (ss.length - 1)) (dP ss (ss.length - 1)) (qG ss (ss.length - 1)).1 (qG ss (ss.length - 1)).2.1 (qG ss (ss.length - 1)).2.2 (kM ss (ss.length - 1)) = 0:=by
   unfold lS Go.Proofs.YtklkooeimkedgaaGreat.gD
   rw [if_pos hc]
   exact yh _ _ (λj _ _=>hk)
  unfold nT
  rw [if_pos h1,Yq (h.bound hlt)]
  have:=tT hm
  rw [hl] at this
  rw [if_neg (by omega)]
 constructor
 ·unfold jS Am
  rw [show rE c t (uN ss) (dP ss) (qG ss) (kM ss) ss.length = 0 from hE,if_pos rfl,ha]
  rfl
 ·unfold jJ Ip
  rw [if_pos (by rw [hb];decide),ha]
theorem VA (h : iY ss) {c : aO} (hc : dB c = 0) {t : Int} {m : Nat} (hm : bS (dP ss) t ss.length = m + 1) (hl : m + 1 < ss.length) :
 jS c t ss = (ss.getD m dD).ents.length /\ jJ c t ss = tq c.aC (kM ss m) (kM ss (m + 1)) (ss.getD (m + 1) dD).ents.length (t - dP ss m) (dP ss (m + 1) - dP ss m):=by
 have hm0 : bS (dP ss) t ss.length ≠ 0:=by omega
 obtain ⟨hp,ha⟩:=KZ h hm0
 have hb : iT (dP ss) t ss.length = ((m + 1 : Nat) : Int):=by
  unfold iT;rw [if_pos h.eD,if_neg hm0,if_neg (by omega),hm]
 have hbs : je (dP ss) t ss.length = m + 1:=by unfold je;rw [hb];rfl
 rw [hm] at ha
 simp only [Nat.add_sub_cancel] at ha
 have h1 : dP ss m <= t:=by have:=tT hm0;rw [hm] at this;simpa using this
 have h2 : t < dP ss (m + 1):=by
  have key : ∀ n,m + 1 < n -> bS (dP ss) t n = m + 1 -> t < dP ss (m + 1):=by
   intro n
   induction n with
   | zero=>intro a;omega
   | succ n ih =>
     intro a b
     rw [bS] at b
     split at b
     ·omega
     ·rename_i hh
      by_cases e : n = m + 1
      ·subst e;omega
      ·exact ih (by omega) b
  exact key _ hl hm
 have hE : Cn c t ss = 0:=by
  unfold Cn rE
  rw [if_pos (h.gD hc),if_pos hp,if_neg (by rw [hb];omega),ha,hbs]
  have hc2 : nu c (uN ss m) (dP ss m) (qG ss m).1 (qG ss m).2.1 (qG ss m).2.2 (kM ss m) (uN ss (m + 1)) (dP ss (m + 1)) (qG ss (m + 1)).1 (qG ss (m + 1)).2.1 (qG ss (m + 1)).2.2 (kM ss (m + 1)) = 0:=by
   unfold nu Go.Proofs.YtklkooeimkedgaaGreat.gD
   rw [if_pos hc]
   refine yh _ _ (λj _ hj=>?_)
   rcases (show j = 0 \/ j = 1 by omega) with rfl | rfl
   ·exact h.snap (show m < ss.length by omega)
   ·exact h.snap hl
  unfold nS
  rw [if_pos hc2]
  unfold jh
  have ht2 : Go.Proofs.YtklkooeimkedgaaGreat.eD (two (dP ss m) (dP ss (m + 1))) 2 = 0:=sF _ _ (λj _ hj=>by
   rcases (show j = 0 \/ j = 1 by omega) with rfl | rfl
   ·exact ⟨h.bound (show m < ss.length by omega),λhp=>by omega⟩
   ·exact ⟨h.bound hl,λ_=>h.mono (by omega) hl⟩)
  rw [if_pos ht2,if_neg (by omega)]
 constructor
 ·unfold jS Am
  rw [show rE c t (uN ss) (dP ss) (qG ss) (kM ss) ss.length = 0 from hE,if_pos rfl,ha]
  rfl
 ·unfold jJ Ip
  rw [if_neg (by rw [hb];omega),ha,hbs]
  rfl
end
end Go.Proofs.YtklkooeimkedgaaGreat
namespace Go.Proofs.YtklkooeimkedgaaGreat
open Go.RowKit
structure ahE (own : List Sn) : Prop where
 tell : ∀ s ∈ own,iX s
 up : own.Pairwise (λa b=>a.tick < b.tick /\ a.time < b.time)
 len : own.length <= 8
structure ahF (own : List Sn) : Prop where
 tell : ∀ s ∈ own,iX s
 up : own.Pairwise (λa b=>a.tick < b.tick /\ a.time < b.time)
theorem Yr {c : aO} {au : Int} {ss : List Sn} (h : ∀ s ∈ ss,s.ents.length <= 64) : jS c au ss <= 64:=by
 unfold jS Am
 split
 ·unfold qG
  simp only [List.getD]
  cases hx : ss[cK (dP ss) au ss.length]? with
  | none=>simp [dD]
  | some s=>exact h s (List.mem_of_getElem? hx)
 ·omega
end Go.Proofs.YtklkooeimkedgaaGreat
namespace Go.Proofs.YtklkooeimkedgaaGreat
open Go.RowKit
def Gp (ss : List Sn) : Prop:=ss.Pairwise (λa b=>a.time < b.time)
theorem aaS {ss a b : List Sn} {x : Sn} (h : Gp ss) (he : a ++ b = ss) (ha : ∀ y,a.getLast? = some y -> y.time < x.time) (hb : ∀ y,b.head? = some y -> x.time < y.time) : Gp (a ++ x :: b):=by
 subst he
 have hp:=List.pairwise_append.1 h
 have ha' : ∀ y ∈ a,y.time < x.time:=λy hy=>by
  obtain ⟨z,hz⟩ : ∃ z,a.getLast? = some z:=by
   cases hl : a.getLast? with
   | none=>rw [List.getLast?_eq_none_iff] at hl;subst hl;cases hy
   | some z=>exact ⟨z,rfl⟩
  obtain ⟨a',rfl⟩ : ∃ a',a = a' ++ [z]:=by
   obtain ⟨hne,e⟩:=List.getLast?_eq_some_iff.1 hz
   exact ⟨hne,e⟩
  have hz2:=ha z hz
  rcases List.mem_append.1 hy with h1 | h1
  ·have:=(List.pairwise_append.1 hp.1).2.2 y h1 z (List.mem_singleton.2 rfl)
   exact Int.lt_trans this hz2
  ·rw [List.mem_singleton.1 h1];exact hz2
 have hb' : ∀ y ∈ b,x.time < y.time:=λy hy=>by
  cases b with
  | nil=>cases hy
  | cons z b =>
    have hz:=hb z rfl
    rcases List.mem_cons.1 hy with rfl | h1
    ·exact hz
    ·exact Int.lt_trans hz ((List.pairwise_cons.1 hp.2.1).1 y h1)
 refine List.pairwise_append.2 ⟨hp.1,List.pairwise_cons.2 ⟨hb',hp.2.1⟩,λy hy z hz=>?_⟩
 rcases List.mem_cons.1 hz with rfl | hz
 ·exact ha' y hy
 ·exact hp.2.2 y hy z hz
theorem Ti {ss : List Sn} {x : Sn} (hu : Gp ss) (hh : eF (ss.map iP) x.tick = false) (ht : fJ (ss.map iP) x.tick x.time = true) : Gp (jg ss x):=by
 have hs : ss.takeWhile (λs=>decide (s.tick < x.tick)) ++ ss.dropWhile (λs=>decide (s.tick < x.tick)) = ss:=List.takeWhile_append_dropWhile
 unfold fJ eB at ht
 rw [hh] at ht
 simp only [Bool.false_eq_true,if_false] at ht
 rw [KG] at ht
 unfold jg
 generalize ss.takeWhile (λs=>decide (s.tick < x.tick)) = a at *
 generalize ss.dropWhile (λs=>decide (s.tick < x.tick)) = b at *
 have h1:=Bool.and_eq_true_iff.1 ht
 refine aaS hu hs (λy hy=>?_) (λy hy=>?_)
 ·obtain ⟨a',e⟩:=List.getLast?_eq_some_iff.1 hy
  have hat : fA (ss.map iP) ((a.length : Int) - 1) = some (iP y):=by
   unfold fA
   rw [if_neg (by rw [e];simp),← hs,e]
   have : (((a' ++ [y]).length : Int) - 1).toNat = a'.length:=by simp
   rw [this];simp
  rw [hat] at h1
  have h2:=h1.1
  simp [sQ,mX,iP] at h2
  exact (by first | exact h2 | exact of_decide_eq_true h2)
 ·obtain ⟨b',rfl⟩ : ∃ b',b = y :: b':=by
   cases b with
   | nil=>simp at hy
   | cons z b=>simp at hy;subst hy;exact ⟨_,rfl⟩
  have hat : fA (ss.map iP) (a.length : Int) = some (iP y):=by
   unfold fA
   rw [if_neg (by omega),← hs]
   simp
  rw [hat] at h1
  have h2:=h1.2
  simp [sQ,mX,iP] at h2
  exact (by first | exact h2 | exact of_decide_eq_true h2)
structure sG (x : iq) (n : Nat) : Prop where
 good : ∀ s ∈ x.ss,pq s
 time : Gp x.ss
 len : x.cs.L.length <= n
theorem sG.show {x : iq} {n : Nat} (h : sG x n) : iY x.ss:=⟨h.good,h.time⟩
theorem VB (c : aO) : sG (uM c) 0:=⟨λs hs=>(by cases hs),List.Pairwise.nil,by simp [uM,cs0]⟩
theorem sG.succ {x : iq} {n : Nat} (h : sG x n) : sG x (n + 1):=⟨h.good,h.time,Nat.le_succ_of_le h.len⟩
theorem sG.arr {c : aO} {x : iq} {n : Nat} (h : sG x n) (loc : Int) (zs : List Int) : sG (wM c x loc zs) (n + 1):=by
 unfold wM
 split
 ·rename_i h0
  have h0' : (dS (x.ss.map iP) c.ring x.floor x.gone zs).2 = 0:=h0
  have h1:=xY h0';have hgd:=FC h0';have h2:=Ci h1.2.1
  have h3 : (dS (x.ss.map iP) c.ring x.floor x.gone zs).1.tick = (bD zs).1.tick:=by
   rw [h1.2.2.2.1];exact (zR h1.2.2.1).2.1
  have hti:=h1.2.2.2.2
  rw [← h3] at h2
  have hins:=Ti h.time h2.1 hti
  refine ⟨λs hs=>?_,?_,?_⟩
  ·rcases Il hs with rfl | hs
   ·exact hgd
   ·exact h.good s hs
  ·show Gp (jA c.ring x.rg (fT c.ring x.rg zs).1).ss
   unfold jA
   split
   ·exact hins
   ·exact List.Pairwise.sublist (List.drop_sublist _ _) hins
  ·show (vw c x.cs _).L.length <= n + 1
   unfold vw
   simp only [List.length_append,List.length_singleton]
   exact Nat.succ_le_succ h.len
 ·exact h.succ
theorem sG.gZ {c : aO} {x : iq} {n : Nat} (h : sG x n) (loc : Int) : sG { x with cs:=gZ c x.cs loc } (n + 1):=by
 refine ⟨h.good,h.time,?_⟩
 show (Go.Proofs.YtklkooeimkedgaaGreat.gZ c x.cs loc).L.length <= n + 1
 unfold Go.Proofs.YtklkooeimkedgaaGreat.gZ
 exact Nat.le_succ_of_le h.len
end Go.Proofs.YtklkooeimkedgaaGreat
namespace Go.Proofs.YtklkooeimkedgaaGreat
open Go.RowKit
theorem OP {c : aO} (hc : dB c = 0) : 0 <= c.extra /\ c.extra <= 2305843009213693952:=by
 unfold dB at hc
 split at hc
 ·split at hc
  ·contradiction
  ·split at hc
   ·rename_i h3
    simp only [Bool.and_eq_true] at h3
    have:=h3.2
    unfold pY at this
    simpa using this
   ·exact absurd hc (by decide)
 ·exact absurd hc (by decide)
theorem K3 {E : Nat -> aB} {len : Nat} (h : ∀ i j,i < j -> j < len -> (E i).id < (E j).id) {k : Nat} (hk : k < len) : ∀ n i,i <= k -> k < i + n -> i + n <= len -> jC E (E k).id n i = k
 | 0,i,h1,h2,_=>by omega
 | n + 1,i,h1,h2,h3=>by
   rw [jC]
   by_cases e : i = k
   ·subst e;rw [if_pos rfl]
   ·have:=h i k (by omega) hk
    rw [if_neg (by omega)]
    exact K3 h hk n (i + 1) (by omega) (by omega) (by omega)
theorem Tj {E : Nat -> aB} {len : Nat} (h : ∀ i j,i < j -> j < len -> (E i).id < (E j).id) {k : Nat} (hk : k < len) : Dl E (E k).id len = true /\ wY E (E k).id len = E k:=by
 have:=K3 h hk len 0 (by omega) (by omega) (by omega)
 unfold Dl wY
 rw [this,if_pos hk]
 exact ⟨decide_eq_true hk,rfl⟩
theorem aaT {s : Sn} (h : pq s) : ∀ i j,i < j -> j < s.ents.length -> (s.ents.getD i bK).id < (s.ents.getD j bK).id:=λi j hij hj=>by
 rw [getD_get (by omega),getD_get hj]
 exact List.pairwise_iff_getElem.1 h.up i j (by omega) hj hij
end Go.Proofs.YtklkooeimkedgaaGreat
namespace Go.Proofs.YtklkooeimkedgaaGreat
open Go.RowKit
set_option maxRecDepth 100000
def dA : aO:=⟨8,4,0,0,0,0,0,1,1,5,false⟩
theorem rG : dA.Ok:=⟨⟨by decide,by decide⟩,⟨by decide,by decide⟩,⟨by decide,by decide⟩,⟨by decide,by decide⟩,⟨by decide,by decide⟩,⟨by decide,by decide⟩,⟨by decide,by decide⟩,⟨by decide,by decide⟩,⟨by decide,by decide⟩,⟨by decide,by decide⟩⟩
theorem lM : dB dA = 0:=by decide
theorem Yt (w : World) : Calls Tryz.prog 10 #[] w λe w'=>e = .returned (aZ dA) /\ Below w.heap.size w w':=by
 have HB : Hid (Below w.heap.size w (w.alloc (.cells #[.int .i64 8,.int .i64 4,.int .i64 0,.int .i64 0,.int .i64 0,.int .i64 0,.int .i64 0,.int .i64 1,.int .i64 1,.int .i64 5,.bool false] 29))):=aiS (aiT)
 go_enter Tryz.func10,Tryz.ntmps10
 go_wp2
 exact bodyPost_ret (v:=.agg #[.int .i64 8,.int .i64 4,.int .i64 0,.int .i64 0,.int .i64 0,.int .i64 0,.int .i64 0,.int .i64 1,.int .i64 1,.int .i64 5,.bool false]) (by simp [results,Tryz.results10,go_sem]) rfl ⟨rfl,HB.out⟩
set_option maxHeartbeats 1000000 in
theorem Tk (tick time : Int) (ht : ay time) (a : Option Addr) (cap : Nat) (es : List aB) (w : World) (hE : fP w a es) :
 Calls Tryz.prog 14 #[bO tick time a es.length cap] w λe w'=>∃ v,e = .returned v /\ aY w' w.heap.size v (j6 ⟨tick,time,es⟩) /\ Below w.heap.size w w':=by
 have fl:=λW h=>Yp tick time a cap es W h
 have HT : Hid (ay (j5 ⟨tick,time,es⟩).1.time):=aiS (by
  unfold j5
  split
  ·exact bB
  ·split
   ·exact bB
   ·exact ht)
 have HFB : Hid (j6 ⟨tick,time,es⟩ = if nZ (j5 ⟨tick,time,es⟩).1 = 0 then xI (j5 ⟨tick,time,es⟩).1 else []):=aiS rfl
 generalize j6 ⟨tick,time,es⟩ = bs at *
 generalize (j5 ⟨tick,time,es⟩).2 = er at *
 generalize (j5 ⟨tick,time,es⟩).1 = g at *
 obtain ⟨w0,hw0⟩ : ∃ w0,w.alloc (.cells #[.int .i64 tick,.int .i64 time,.slice a es.length cap] 36) = w0:=⟨_,rfl⟩
 have hB0 : Below w.heap.size w w0:=by rw [← hw0];exact aiT
 have hX0 : ak w0 w.heap.size #[.int .i64 tick,.int .i64 time,.slice a es.length cap] 36:=by rw [← hw0];exact ak.new _ _ _
 have x0:=hX0.cell 0;have x1:=hX0.cell 1;have x2:=hX0.cell 2;simp at x0 x1 x2;have fl0:=fl w0 (hE.below hB0);have HB0:=aiS hB0;clear hE hB0 hX0 fl
 unfold bO at *
 go_enter Tryz.func14,Tryz.ntmps14
 go_wp2_with fail
 clear hw0
 refine fl0.mono ?_
 rintro e w1 ⟨v,rfl,hR,hb⟩
 clear fl0 x0 x1 x2
 obtain ⟨ra,rc,rfl,_,_⟩:=hR.recs
 obtain ⟨v1,hv1⟩ : ∃ v,w1.alloc (.cells #[.int .i64 0,.int .i64 0,.int .i64 0,.slice none 0 0] 39) = v:=⟨_,rfl⟩
 have BP : Below w1.heap.size w1 v1:=by rw [← hv1];exact aiT
 have bE : ak v1 w1.heap.size #[.int .i64 0,.int .i64 0,.int .i64 0,.slice none 0 0] 39:=by rw [← hv1];exact ak.new _ _ _
 have f0:=bE.free 0;have f1:=bE.free 1;have f2:=bE.free 2;have f3:=bE.free 3;have q0:=bE.cell 0;have q1:=bE.cell 1;have q2:=bE.cell 2;have q3:=bE.cell 3;simp at q0 q1 q2 q3;have hG:=Bo (v0:=.int .i64 g.tick) (v1:=.int .i64 g.time) (v2:=.int .i64 g.base) (v3:=.slice ra g.recs.length rc) bE;have hb4:=Bp (v0:=.int .i64 g.tick) (v1:=.int .i64 g.time) (v2:=.int .i64 g.base) (v3:=.slice ra g.recs.length rc) BP (Nat.le_refl _)
 obtain ⟨u0,hu0⟩ : ∃ u,((((v1.setCell ⟨w1.heap.size,0,none⟩ (.int .i64 g.tick)).setCell ⟨w1.heap.size,1,none⟩ (.int .i64 g.time)).setCell ⟨w1.heap.size,2,none⟩ (.int .i64 g.base)).setCell ⟨w1.heap.size,3,none⟩ (.slice ra g.recs.length rc)) = u:=⟨_,rfl⟩
 rw [hu0] at hG hb4
 have hR0:=hR.below hb4 (λj e=>(hR.1.lt j e).2)
 have WX : qD u0 ra g.recs:=by
  obtain ⟨a',c',e,h,_⟩:=hR0.recs
  injection e with e1
  rw [e1];exact h
 have wr:=Uw g.tick g.time g.base HT.out ra rc g.recs u0 WX;have HB1:=aiS (HB0.out.trans ((hb.trans (hb4.mono hb.size)).mono HB0.out.size));have y0:=hG.cell 0;have y1:=hG.cell 1;have y2:=hG.cell 2;have y3:=hG.cell 3;simp at y0 y1 y2 y3
 rw [show (⟨g.tick,g.time,g.base,g.recs⟩ : Gr) = g from rfl] at wr
 rw [← HFB.out] at wr
 generalize nZ g = we at *
 unfold xL at wr
 clear hR hb BP bE hG hb4 hR0 WX
 go_wp2_with fail
 clear hv1 hu0 f0 f1 f2 f3 q0 q1 q2 q3 y0 y1 y2 y3
 refine wr.mono ?_
 rintro e w3 ⟨v,rfl,hO,hb⟩
 have HF : Hid (aY w3 w.heap.size v bs /\ Below w.heap.size w w3):=aiS ⟨aY.base hO HB1.out.size,HB1.out.trans (hb.mono HB1.out.size)⟩
 clear hO hb wr
 go_wp2_with fail
 exact bodyPost_ret (v:=v) (by simp [results,Tryz.results14,go_sem]) rfl ⟨v,rfl,HF.out⟩
end Go.Proofs.YtklkooeimkedgaaGreat
namespace Go.Proofs.YtklkooeimkedgaaGreat
open Go.RowKit
set_option maxRecDepth 100000
def Tn : aB:=⟨1,0,0,0,65536,0,0,0,0⟩
def Tp : aB:=⟨1,10,0,0,65536,0,0,0,0⟩
def uO : Sn:=⟨1,0,[Tn]⟩
def wR : Sn:=⟨2,10,[Tp]⟩
theorem Tq : Tn.Ok:=⟨⟨by decide,by decide⟩,⟨by decide,by decide⟩,⟨by decide,by decide⟩,⟨by decide,by decide⟩,⟨by decide,by decide⟩,⟨by decide,by decide⟩,⟨by decide,by decide⟩,⟨by decide,by decide⟩,⟨by decide,by decide⟩⟩
theorem Tt : Tp.Ok:=⟨⟨by decide,by decide⟩,⟨by decide,by decide⟩,⟨by decide,by decide⟩,⟨by decide,by decide⟩,⟨by decide,by decide⟩,⟨by decide,by decide⟩,⟨by decide,by decide⟩,⟨by decide,by decide⟩,⟨by decide,by decide⟩⟩
theorem VD : iX uO:=Cr (by decide) (by decide) (by decide) Tq rfl
theorem VE : iX wR:=Cr (by decide) (by decide) (by decide) Tt rfl
def tN : iq:=⟨[uO,wR],0,false,vw dA (vw dA (cs0 dA) (aK 100 0)) (aK 110 10)⟩
def Gq : CS:=gZ dA tN.cs 104
def Gs : CS:=gZ dA Gq 113
def afh : CS:=gZ dA Gs 900
theorem afi : Gq.au = 4:=by kernel_rfl
theorem afj : Gs.au = 13:=by kernel_rfl
theorem afk : afh.au = 800:=by kernel_rfl
theorem ab2 : jS dA 4 [uO,wR] = 1:=by kernel_rfl
theorem ab3 : jS dA 13 [uO,wR] = 1:=by kernel_rfl
theorem ab4 : jS dA 800 [uO,wR] = 1:=by kernel_rfl
theorem ab5 : jJ dA 4 [uO,wR] 0 = ⟨1,4,0,0,0,1⟩:=by kernel_rfl
theorem ab6 : jJ dA 13 [uO,wR] 0 = ⟨1,13,0,0,0,3⟩:=by kernel_rfl
theorem ab7 : jJ dA 800 [uO,wR] 0 = ⟨1,15,0,0,0,4⟩:=by kernel_rfl
end Go.Proofs.YtklkooeimkedgaaGreat
namespace Go.Proofs.YtklkooeimkedgaaGreat
open Go.RowKit
set_option maxRecDepth 100000
theorem Iz (s : Sn) : ((j6 s).length : Int) <= 140737488355000:=by
 unfold j6
 split
 ·rename_i h
  have hz : (vL (jk (jm (j5 s).1))).length = 4:=rfl
  unfold nZ at h
  split at h
  ·rename_i hh;exact absurd h hh
  split at h
  ·cases h
  ·unfold xI
   rw [List.length_append,hz];omega
 ·simp
theorem Nb {w : World} {b : Nat} {e : aB} (h : ak w b (bN e) 33) (ho : e.Ok) : fP w (some ⟨b,0,none⟩) [e]:=by
 refine ⟨λi hi=>?_,.inr ⟨b,0,rfl,h.lt,λi hi=>?_⟩⟩
 ·obtain rfl : i = 0:=by simp at hi;exact hi
  exact ho
 ·obtain rfl : i = 0:=by simp at hi;exact hi
  unfold dF
  refine ⟨?_,?_,?_,?_,?_,?_,?_,?_,?_⟩ <;> (rw [h.cell];rfl)
theorem zX {w : World} {s : Option Addr} {P : Nat -> Po} {p : Po} (h : dZ w s 1 P) (hp : P 0 = p) : ∃ b o,s = some ⟨b,o,none⟩ /\ b < w.heap.size /\ mF w b o p:=by
 rcases h with h | ⟨b,o,e,hb,hc⟩
 ·cases h
 ·exact ⟨b,o,e,hb,by have:=hc 0 (by decide);rw [hp] at this;simpa using this⟩
set_option maxHeartbeats 4000000 in
theorem Yu (w : World) : Calls Tryz.prog 8 #[] w λe w'=>e = .returned (.bool true) /\ Below w.heap.size w w':=by
 obtain ⟨w0,hw0⟩ : ∃ w0,(((w.alloc (.cells #[.int .i64 1,.int .i64 0,.int .i64 0,.int .i64 0,.int .i64 65536,.int .i64 0,.int .i64 0,.int .u16 0,.int .u8 0] 33)).alloc (.cells #[.int .i64 1,.int .i64 0,.slice (some ⟨w.heap.size,0,none⟩) 1 1] 36)).alloc (.cells #[.int .i64 1,.int .i64 10,.int .i64 0,.int .i64 0,.int .i64 65536,.int .i64 0,.int .i64 0,.int .u16 0,.int .u8 0] 33)).alloc (.cells #[.int .i64 2,.int .i64 10,.slice (some ⟨w.heap.size + 1 + 1,0,none⟩) 1 1] 36) = w0:=⟨_,rfl⟩
 have hB0 : Below w.heap.size w w0:=by rw [← hw0];exact (((aiT).alloc (by simp) _).alloc (by simp;omega) _).alloc (by simp;omega) _
 have hs0 : w0.heap.size = w.heap.size + 4:=by rw [← hw0];simp
 have hE1 : ak w0 w.heap.size #[.int .i64 1,.int .i64 0,.int .i64 0,.int .i64 0,.int .i64 65536,.int .i64 0,.int .i64 0,.int .u16 0,.int .u8 0] 33:=by rw [← hw0];exact (((ak.new _ _ _).alloc _).alloc _).alloc _
 have hA : ak w0 (w.heap.size + 1) #[.int .i64 1,.int .i64 0,.slice (some ⟨w.heap.size,0,none⟩) 1 1] 36:=by
  rw [← hw0]
  have:=((ak.new (w.alloc (.cells #[.int .i64 1,.int .i64 0,.int .i64 0,.int .i64 0,.int .i64 65536,.int .i64 0,.int .i64 0,.int .u16 0,.int .u8 0] 33)) #[.int .i64 1,.int .i64 0,.slice (some ⟨w.heap.size,0,none⟩) 1 1] 36).alloc (.cells #[.int .i64 1,.int .i64 10,.int .i64 0,.int .i64 0,.int .i64 65536,.int .i64 0,.int .i64 0,.int .u16 0,.int .u8 0] 33)).alloc (.cells #[.int .i64 2,.int .i64 10,.slice (some ⟨w.heap.size + 1 + 1,0,none⟩) 1 1] 36)
  simpa using this
 have hE2 : ak w0 (w.heap.size + 1 + 1) #[.int .i64 1,.int .i64 10,.int .i64 0,.int .i64 0,.int .i64 65536,.int .i64 0,.int .i64 0,.int .u16 0,.int .u8 0] 33:=by
  rw [← hw0]
  have:=(ak.new ((w.alloc (.cells #[.int .i64 1,.int .i64 0,.int .i64 0,.int .i64 0,.int .i64 65536,.int .i64 0,.int .i64 0,.int .u16 0,.int .u8 0] 33)).alloc (.cells #[.int .i64 1,.int .i64 0,.slice (some ⟨w.heap.size,0,none⟩) 1 1] 36)) #[.int .i64 1,.int .i64 10,.int .i64 0,.int .i64 0,.int .i64 65536,.int .i64 0,.int .i64 0,.int .u16 0,.int .u8 0] 33).alloc (.cells #[.int .i64 2,.int .i64 10,.slice (some ⟨w.heap.size + 1 + 1,0,none⟩) 1 1] 36)
  simpa using this
 have hBb : ak w0 (w.heap.size + 1 + 1 + 1) #[.int .i64 2,.int .i64 10,.slice (some ⟨w.heap.size + 1 + 1,0,none⟩) 1 1] 36:=by
  rw [← hw0]
  have:=ak.new (((w.alloc (.cells #[.int .i64 1,.int .i64 0,.int .i64 0,.int .i64 0,.int .i64 65536,.int .i64 0,.int .i64 0,.int .u16 0,.int .u8 0] 33)).alloc (.cells #[.int .i64 1,.int .i64 0,.slice (some ⟨w.heap.size,0,none⟩) 1 1] 36)).alloc (.cells #[.int .i64 1,.int .i64 10,.int .i64 0,.int .i64 0,.int .i64 65536,.int .i64 0,.int .i64 0,.int .u16 0,.int .u8 0] 33)) #[.int .i64 2,.int .i64 10,.slice (some ⟨w.heap.size + 1 + 1,0,none⟩) 1 1] 36
  simpa using this
 have pf:=λW=>Yt W
 have nw:=λW=>KF dA rG lM W
 have fa : ∀ W,fP W (some ⟨w.heap.size,0,none⟩) [Tn] -> Calls Tryz.prog 14 #[.agg #[.int .i64 1,.int .i64 0,.slice (some ⟨w.heap.size,0,none⟩) 1 1]] W λe w'=>∃ v,e = .returned v /\ aY w' W.heap.size v (j6 uO) /\ Below W.heap.size W w':=λW h=>Tk 1 0 ⟨by decide,by decide⟩ _ 1 [Tn] W h
 have fb : ∀ W,fP W (some ⟨w.heap.size + 1 + 1,0,none⟩) [Tp] -> Calls Tryz.prog 14 #[.agg #[.int .i64 2,.int .i64 10,.slice (some ⟨w.heap.size + 1 + 1,0,none⟩) 1 1]] W λe w'=>∃ v,e = .returned v /\ aY w' W.heap.size v (j6 wR) /\ Below W.heap.size W w':=λW h=>Tk 2 10 ⟨by decide,by decide⟩ _ 1 [Tp] W h
 have zl:=aiS (Nb (e:=Tn) hE1 Tq);have HE2:=aiS (Nb (e:=Tp) hE2 Tt);have HA:=aiS hA;have HBb:=aiS hBb;have HB0:=aiS hB0;have zi:=aiS hs0;clear hE1 hE2 hA hBb hB0 hs0
 go_enter Tryz.func8,Tryz.ntmps8
 go_wp2_with fail
 clear hw0
 refine (pf w0).mono ?_
 rintro e w1 ⟨rfl,hb1⟩
 have HW1 : Hid (Below w0.heap.size w0 w1):=aiS hb1
 clear hb1 pf
 go_wp2_with fail
 refine (nw w1).mono ?_
 rintro e w2 ⟨C,S,rfl,KP,hS,hb2⟩
 have gU : Below w0.heap.size w0 w2:=HW1.out.trans (hb2.mono HW1.out.size)
 have gL : Hid (∀ k,S k -> w.heap.size + 4 <= k):=aiS (λk hk=>by have:=hS k hk;have:=HW1.out.size;have:=zi.out;omega)
 have qd:=aiS KP;have hA2:=HA.out.below gU HA.out.lt;have aaV:=aiS (zl.out.below gU);have aaW:=aiS (HE2.out.below gU);have HA2:=aiS hA2;have HB2:=aiS (HBb.out.below gU HBb.out.lt)
 have aaX : Hid (Below w.heap.size w w2):=aiS (HB0.out.trans (gU.mono HB0.out.size))
 have Vj : Hid (w.heap.size + 4 <= w2.heap.size):=aiS (by have:=gU.size;have:=zi.out;omega)
 have a0:=hA2.cell 0;have a1:=hA2.cell 1;have a2:=hA2.cell 2;simp at a0 a1 a2;clear KP hS hb2 gU nw hA2 zl HE2 HA HBb HB0 HW1
 go_wp2_with fail
 refine (fa w2 aaV.out).mono ?_
 rintro e w3 ⟨v,rfl,hO,hb⟩
 obtain ⟨va,vc,rfl,Tv,Tw,hvl,_⟩:=hO.cap
 have hC3:=qd.out.below hb
 have ar:=Na (c:=dA) (x:=uM dA) lM VD rfl (by simp [uM]) (by simp [uM]) (by decide) 100
 have ac:=Cj C dA rG lM (uM dA) S 100 ⟨by decide,by decide⟩ va (j6 uO).length vc (j6 uO) w3 hC3 Tv Tw hvl (Iz uO) (by decide) ar.2.1
 rw [ar.1,ar.2.2] at ac
 have EO:=aiS (HA2.out.below hb HA2.out.lt);have HB3:=aiS (HB2.out.below hb HB2.out.lt);have uI:=aiS (aaW.out.below hb)
 have aaY : Hid (Below w.heap.size w w3):=aiS (aaX.out.trans (hb.mono aaX.out.size))
 have OA : Hid (w.heap.size + 4 <= w3.heap.size):=aiS (Nat.le_trans Vj.out hb.size)
 clear hO hb Tv Tw hvl hC3 ar fa a0 a1 a2 HA2 HB2 aaW aaV
 go_wp2_with fail
 refine ac.mono ?_
 rintro e w4 ⟨rfl,hC4,hO4⟩
 have kT : ∀ k,k < w.heap.size + 4 -> ¬ S k:=λk hk h=>by have:=gL.out k h;omega
 have hB4:=hO4.blk HB3.out (kT _ (by omega))
 have HC4:=aiS hC4;have gP:=aiS hB4
 have M5:=aiS (uI.out.only hO4 (λx hx=>by cases hx;exact kT _ (show w.heap.size + 1 + 1 < w.heap.size + 4 by omega)))
 have aaZ : Hid (Below w.heap.size w w4):=aiS (aaY.out.trans (hO4.below aaY.out.size (λk hk=>by have:=gL.out k hk;omega)))
 have afl : Hid (w3.heap.size <= w4.heap.size):=aiS hO4.size
 have b0:=hB4.cell 0;have b1:=hB4.cell 1;have b2:=hB4.cell 2;simp at b0 b1 b2
 have JR : Hid (∀ k,Grow S w3 w4 k -> w.heap.size + 4 <= k):=aiS (λk hk=>by
  rcases hk.1 with h | h
  ·exact gL.out k h
  ·have:=OA.out;omega)
 clear hC4 hO4 ac hB4 EO HB3 uI qd kT
 go_wp2_with fail
 refine (fb w4 M5.out).mono ?_
 rintro e w5 ⟨v,rfl,hO,hb⟩
 obtain ⟨va,vc,rfl,Tv,Tw,hvl,_⟩:=hO.cap
 have hC5:=HC4.out.below hb
 have ar:=Na (c:=dA) (x:=⟨(uM dA).ss ++ [uO],(uM dA).floor,false,vw dA (uM dA).cs (aK 100 uO.time)⟩) lM VE rfl (by intro y hy;simp [uM] at hy;subst hy;decide) (by intro y hy;simp [uM] at hy;subst hy;decide) (by decide) 110
 have ac:=Cj C dA rG lM _ _ 110 ⟨by decide,by decide⟩ va (j6 wR).length vc (j6 wR) w5 hC5 Tv Tw hvl (Iz wR) (by decide) ar.2.1
 rw [ar.1,ar.2.2] at ac
 have aa0 : Hid (Below w.heap.size w w5):=aiS (aaZ.out.trans (hb.mono aaZ.out.size))
 have afm : Hid (w.heap.size + 4 <= w5.heap.size):=aiS (by have:=hb.size;have:=afl.out;have:=OA.out;omega)
 clear hO hb Tv Tw hvl hC5 ar fb b0 b1 b2 gP M5
 go_wp2_with fail
 refine ac.mono ?_
 rintro e w6 ⟨rfl,hC6,fM⟩
 generalize hS6 : Grow (Grow S w3 w4) w5 w6 = S6 at hC6
 have HC6 : Hid (dG w6 C dA tN S6):=aiS hC6
 have HG6 : Hid (∀ k,S6 k -> w.heap.size + 4 <= k):=aiS (λk hk=>by
  rw [← hS6] at hk
  rcases hk.1 with h | h
  ·exact JR.out k h
  ·have:=afm.out;omega)
 have aa3 : Hid (Below w.heap.size w w6):=aiS (aa0.out.trans (fM.below aa0.out.size (λk hk=>by have:=JR.out k hk;omega)))
 clear hC6 fM ac hS6 HC4
 go_wp2_with fail
 have f1:=xZ C dA rG lM tN S6 104 ⟨by decide,by decide⟩ w6 HC6.out (by decide)
 rw [show (gZ dA tN.cs 104).au = 4 from afi,show tN.ss = [uO,wR] from rfl,ab2] at f1
 refine f1.mono ?_
 rintro e w7 ⟨s7,c7,rfl,hP7,hC7,hO7⟩
 have HC7 : Hid (dG w7 C dA { tN with cs:=Gq } S6):=aiS hC7
 have HP7:=aiS hP7
 have aa4 : Hid (Below w.heap.size w w7):=aiS (aa3.out.trans (hO7.below aa3.out.size (λk hk=>by have:=HG6.out k hk.1;omega)))
 clear f1 hP7 hC7 hO7 HC6
 go_wp2_with fail
 have f1:=xZ C dA rG lM { tN with cs:=Gq } S6 113 ⟨by decide,by decide⟩ w7 HC7.out (by decide)
 rw [show (gZ dA ({ tN with cs:=Gq } : iq).cs 113).au = 13 from afj,show ({ tN with cs:=Gq } : iq).ss = [uO,wR] from rfl,ab3] at f1
 refine f1.mono ?_
 rintro e w8 ⟨s8,c8,rfl,hP8,hC8,hO8⟩
 have HC8 : Hid (dG w8 C dA { tN with cs:=Gs } S6):=aiS hC8
 have HP8:=aiS hP8
 have aa6:=aiS (zV HP7.out hO8 (λk hk _=>hk.2))
 have aa7 : Hid (Below w.heap.size w w8):=aiS (aa4.out.trans (hO8.below aa4.out.size (λk hk=>by have:=HG6.out k hk.1;omega)))
 clear f1 hP8 hC8 hO8 HC7 HP7
 go_wp2_with fail
 have f1:=xZ C dA rG lM { tN with cs:=Gs } S6 900 ⟨by decide,by decide⟩ w8 HC8.out (by decide)
 rw [show (gZ dA ({ tN with cs:=Gs } : iq).cs 900).au = 800 from afk,show ({ tN with cs:=Gs } : iq).ss = [uO,wR] from rfl,ab4] at f1
 refine f1.mono ?_
 rintro e w9 ⟨s9,c9,rfl,hP9,hC9,mY⟩
 have aa8:=zV aa6.out mY (λk hk _=>hk.2)
 have aa9:=zV HP8.out mY (λk hk _=>hk.2)
 have abb : Hid (Below w.heap.size w w9):=aiS (aa7.out.trans (mY.below aa7.out.size (λk hk=>by have:=HG6.out k hk.1;omega)))
 clear f1 hC9 mY HC8 aa6 HP8
 obtain ⟨b7,o7,rfl,l7,p7'⟩:=zX aa8 ab5
 obtain ⟨b8,o8,rfl,l8,p8'⟩:=zX aa9 ab6
 obtain ⟨b9,o9,rfl,l9,p9'⟩:=zX hP9 ab7
 obtain ⟨ku,OQ⟩ : ∃ u,((w9.alloc (.cells #[.bool true,.int .i64 4,.slice (some ⟨b7,o7,none⟩) 1 c7] 49)).alloc (.cells #[.bool true,.int .i64 13,.slice (some ⟨b8,o8,none⟩) 1 c8] 49)).alloc (.cells #[.bool true,.int .i64 800,.slice (some ⟨b9,o9,none⟩) 1 c9] 49) = u:=⟨_,rfl⟩
 have K4 : Below w9.heap.size w9 ku:=by rw [← OQ];exact (((aiT).alloc (by simp) _).alloc (by simp;omega) _)
 have hX7 : ak ku w9.heap.size #[.bool true,.int .i64 4,.slice (some ⟨b7,o7,none⟩) 1 c7] 49:=by rw [← OQ];exact ((ak.new _ _ _).alloc _).alloc _
 have hX8 : ak ku (w9.heap.size + 1) #[.bool true,.int .i64 13,.slice (some ⟨b8,o8,none⟩) 1 c8] 49:=by
  rw [← OQ]
  have:=(ak.new (w9.alloc (.cells #[.bool true,.int .i64 4,.slice (some ⟨b7,o7,none⟩) 1 c7] 49)) #[.bool true,.int .i64 13,.slice (some ⟨b8,o8,none⟩) 1 c8] 49).alloc (.cells #[.bool true,.int .i64 800,.slice (some ⟨b9,o9,none⟩) 1 c9] 49)
  simpa using this
 have hX9 : ak ku (w9.heap.size + 1 + 1) #[.bool true,.int .i64 800,.slice (some ⟨b9,o9,none⟩) 1 c9] 49:=by
  rw [← OQ]
  have:=ak.new ((w9.alloc (.cells #[.bool true,.int .i64 4,.slice (some ⟨b7,o7,none⟩) 1 c7] 49)).alloc (.cells #[.bool true,.int .i64 13,.slice (some ⟨b8,o8,none⟩) 1 c8] 49)) #[.bool true,.int .i64 800,.slice (some ⟨b9,o9,none⟩) 1 c9] 49
  simpa using this
 have s7:=hX7.cell 2;have s8:=hX8.cell 2;have s9:=hX9.cell 2;simp at s7 s8 s9;have p7:=p7'.below K4 l7;have p8:=p8'.below K4 l8;have p9:=p9'.below K4 l9;clear p7' p8' p9' hX7 hX8 hX9
 unfold mF at p7 p8 p9
 simp only at p7 p8 p9
 obtain ⟨p70,p71,p72,p73,p74,p75⟩:=p7
 obtain ⟨p80,p81,p82,p83,p84,p85⟩:=p8
 obtain ⟨p90,p91,p92,p93,p94,p95⟩:=p9
 have q7:=λW=>F6 1 4 0 0 0 1 1 4 0 0 0 1 W
 have q8:=λW=>F6 1 13 0 0 0 3 1 13 0 0 0 3 W
 have q9:=λW=>F6 1 15 0 0 0 4 1 15 0 0 0 4 W
 simp at q7 q8 q9
 have HF : Hid (Below w.heap.size w ku):=aiS (abb.out.trans (K4.mono abb.out.size))
 clear K4;clear aa8 aa9 hP9
 go_wp2
 exact bodyPost_ret (v:=.bool true) (by simp [results,Tryz.results8,go_sem]) rfl ⟨rfl,HF.out⟩
end Go.Proofs.YtklkooeimkedgaaGreat
