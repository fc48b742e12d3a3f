/- Walk of TopExact. -/
import Derived.Test.YtklkooeimkedgaaGreatE51
import Derived.Test.YtklkooeimkedgaaGreatE52
set_option linter.unusedVariables false
set_option linter.unusedSimpArgs false
namespace Go.Proofs.YtklkooeimkedgaaGreat
open Go.RowKit
set_option maxRecDepth 100000
set_option maxHeartbeats 2000000 in
theorem U3 (au : Int) (s : Option Addr) (len cap : Nat) (K T : Nat -> Int) (E : Nat -> Option Addr × Nat × Nat) (w : World) (h : gP w s len K T E) (hlen : (len : Int) <= 1000000) :
 Calls Tryz.prog 25 #[.slice s len cap,.int .i64 au] w λe w'=>e = .returned (.int .i64 ((bE T au len : Int) - 1)) /\ Below w.heap.size w w':=by
 have H:=ah6 h;clear h
 go_enter Tryz.func25,Tryz.ntmps25
 go_wp2_with fail
 go_loopw [5,10] (λv i wr=>∃ k : Nat,k <= len /\ i = .int .i64 k /\ v = .int .i64 ((bE T au k : Int) - 1) /\ Below w.heap.size w wr) (λ_ i _=>len - (intOf i).toNat)
 case atStart=>exact ⟨0,Nat.zero_le _,rfl,rfl,Below.refl _ _⟩
 case round =>
  obtain ⟨k,hk,rfl,rfl,hb⟩:=hrel
  by_cases hlt : k < len
  ·have hlt' : (k : Int) < len:=by omega
   rcases H.out with h0 | ⟨b,off,rfl,hbl,hc⟩
   ·omega
   ·obtain ⟨c0,c1,c2⟩:=hc k hlt
    have d0:=(hb.cell (p:=⟨b,off + k * 3,none⟩) hbl).trans c0;have d1:=(hb.cell (p:=⟨b,off + k * 3 + 1,none⟩) hbl).trans c1;have d2:=(hb.cell (p:=⟨b,off + k * 3 + 2,none⟩) hbl).trans c2;have dz:=ah6 hlt
    obtain ⟨v1,hv1⟩ : ∃ v,wr.alloc (.cells #[.int .i64 (K k),.int .i64 (T k),.slice (E k).1 (E k).2.1 (E k).2.2] 36) = v:=⟨_,rfl⟩
    have hBb : Below wr.heap.size wr v1:=by rw [← hv1];exact ah7
    have bC : ak v1 wr.heap.size #[.int .i64 (K k),.int .i64 (T k),.slice (E k).1 (E k).2.1 (E k).2.2] 36:=by rw [← hv1];exact ak.new _ _ _
    have x1:=bC.cell 1;simp at x1
    have HF : Hid (Below w.heap.size w v1):=ah6 (hb.trans (hBb.mono hb.size))
    have hw : wrap64 ((k : Int) + 1) = (k : Int) + 1:=by unfold wrap64;omega
    have hll : bE T au (k + 1) = if T k <= au then k + 1 else bE T au k:=rfl
    have uT:=ah6 hll;clear hc hb hBb bC c0 c1 c2 hll
    by_cases ht : T k <= au
    ·have HE : Hid (((k : Int)) = (bE T au (k + 1) : Int) - 1):=ah6 (by rw [uT.out,if_pos ht];omega)
     go_wp2
     go_roundw
     case rel=>exact ⟨k + 1,dz.out,by go_num,by rw [← HE.out],HF.out⟩
     case measure=>show len - ((k : Int) + 1).toNat < len - (k : Int).toNat;have h1:=dz.out;omega
    ·have HE : Hid (bE T au k = bE T au (k + 1)):=ah6 (by rw [uT.out,if_neg ht])
     have htd : decide (T k <= au) = false:=decide_eq_false ht
     clear ht
     go_wp2
     go_roundw
     case rel=>exact ⟨k + 1,dz.out,by go_num,by rw [← HE.out],HF.out⟩
     case measure=>show len - ((k : Int) + 1).toNat < len - (k : Int).toNat;have h1:=dz.out;omega
  ·obtain rfl : k = len:=by omega
   have HF : Hid (Below w.heap.size w wr):=ah6 hb
   have hlt' : ¬ (k : Int) < k:=by omega
   clear hb
   go_wp2
   exact bodyPost_ret (v:=.int .i64 ((bE T au k : Int) - 1)) (by simp [results,Tryz.results25,go_sem]) rfl ⟨rfl,HF.out⟩
end Go.Proofs.YtklkooeimkedgaaGreat
namespace Go.Proofs.YtklkooeimkedgaaGreat
open Go.RowKit
set_option maxRecDepth 100000
set_option maxHeartbeats 2000000 in
theorem U4 (s : Option Addr) (len cap : Nat) (K T : Nat -> Int) (E : Nat -> Option Addr × Nat × Nat) (w : World) (h : gP w s len K T E) (hlen : (len : Int) <= 4611686018427387904) :
 Calls Tryz.prog 52 #[.slice s len cap] w λe w'=>(∃ v : Int,e = .returned (.int .i64 v) /\ (v = 0 /\ len <= 60 \/ v = 1)) /\ Below w.heap.size w w':=by
 have H:=ah6 h;clear h
 go_enter Tryz.func52,Tryz.ntmps52
 go_wp2_with fail
 go_loopw [3,8] (λv i wr=>∃ (k : Nat) (m : Int),k <= len /\ i = .int .i64 k /\ v = .int .i64 m /\ Below w.heap.size w wr) (λ_ i _=>len - (intOf i).toNat)
 case atStart=>exact ⟨0,0,Nat.zero_le _,rfl,rfl,Below.refl _ _⟩
 case round =>
  obtain ⟨k,m,hk,rfl,rfl,hb⟩:=hrel
  by_cases hlt : k < len
  ·have hlt' : (k : Int) < len:=by omega
   rcases H.out with h0 | ⟨b,off,rfl,hbl,hc⟩
   ·omega
   ·obtain ⟨c0,c1,c2⟩:=hc k hlt
    have d0:=(hb.cell (p:=⟨b,off + k * 3,none⟩) hbl).trans c0;have d1:=(hb.cell (p:=⟨b,off + k * 3 + 1,none⟩) hbl).trans c1;have d2:=(hb.cell (p:=⟨b,off + k * 3 + 2,none⟩) hbl).trans c2;have dz:=ah6 hlt
    obtain ⟨v1,hv1⟩ : ∃ v,wr.alloc (.cells #[.int .i64 (K k),.int .i64 (T k),.slice (E k).1 (E k).2.1 (E k).2.2] 69) = v:=⟨_,rfl⟩
    have hBb : Below wr.heap.size wr v1:=by rw [← hv1];exact ah7
    have bC : ak v1 wr.heap.size #[.int .i64 (K k),.int .i64 (T k),.slice (E k).1 (E k).2.1 (E k).2.2] 69:=by rw [← hv1];exact ak.new _ _ _
    have x2:=bC.cell 2;simp at x2
    have HF : Hid (Below w.heap.size w v1):=ah6 (hb.trans (hBb.mono hb.size))
    have hw : wrap64 ((k : Int) + 1) = (k : Int) + 1:=by unfold wrap64;omega
    clear hc hb hBb bC c0 c1 c2
    go_wp2
    go_roundw
    case rel=>exact ⟨k + 1,_,dz.out,by go_num,rfl,HF.out⟩
    case measure=>show len - ((k : Int) + 1).toNat < len - (k : Int).toNat;have h1:=dz.out;omega
  ·obtain rfl : k = len:=by omega
   have HF : Hid (Below w.heap.size w wr):=ah6 hb
   have hlt' : ¬ (k : Int) < k:=by omega
   clear hb
   by_cases KH : (k : Int) <= 60
   ·have HH : Hid (k <= 60):=ah6 (by omega)
    by_cases hm : 12000 < m
    ·go_wp2
     exact bodyPost_ret (v:=.int .i64 1) (by simp [results,Tryz.results52,go_sem]) rfl ⟨⟨1,rfl,.inr rfl⟩,HF.out⟩
    ·go_wp2
     exact bodyPost_ret (v:=.int .i64 0) (by simp [results,Tryz.results52,go_sem]) rfl ⟨⟨0,rfl,.inl ⟨rfl,HH.out⟩⟩,HF.out⟩
   ·go_wp2
    exact bodyPost_ret (v:=.int .i64 1) (by simp [results,Tryz.results52,go_sem]) rfl ⟨⟨1,rfl,.inr rfl⟩,HF.out⟩
end Go.Proofs.YtklkooeimkedgaaGreat
namespace Go.Proofs.YtklkooeimkedgaaGreat
open Go.RowKit
set_option maxRecDepth 100000
def XD (w : World) (c : aN) (len : Nat) (e : Ending) (w' : World) : Prop :=
 (e = .returned (.pointer none) /\ Below w.heap.size w w') \/ ∃ C S,e = .returned (.pointer (some ⟨C,0,none⟩)) /\ dF c = 0 /\ len <= 60 /\ dH w' C c (uI c) S /\ (∀ k,S k -> w.heap.size <= k) /\ Below w.heap.size w w'
set_option maxHeartbeats 2000000 in
theorem XE (c : aN) (ok : c.Ok) (s : Option Addr) (len cap : Nat) (K T : Nat -> Int) (E : Nat -> Option Addr × Nat × Nat) (w : World) (h : gP w s len K T E) (hlen : (len : Int) <= 4611686018427387904) :
 Calls Tryz.prog 23 #[aY c,.slice s len cap] w (XD w c len):=by
 obtain ⟨wb,hwb⟩ : ∃ wb,w.alloc (.cells #[.int .i64 c.ring,.int .i64 c.window,.int .i64 c.base,.int .i64 c.gain,.int .i64 c.least,.int .i64 c.most,.int .i64 c.aC,.int .i64 c.num,.int .i64 c.den,.int .i64 c.extra,.bool c.aB] 29) = wb:=⟨_,rfl⟩
 have hb0 : Below w.heap.size w wb:=by rw [← hwb];exact ah7
 have HB0:=ah6 hb0
 have Fx : Hid (ak wb w.heap.size #[.int .i64 c.ring,.int .i64 c.window,.int .i64 c.base,.int .i64 c.gain,.int .i64 c.least,.int .i64 c.most,.int .i64 c.aC,.int .i64 c.num,.int .i64 c.den,.int .i64 c.extra,.bool c.aB] 29):=ah6 (by rw [← hwb];exact ak.new _ _ _)
 have gr:=U4 s len cap K T E wb (h.below hb0) hlen
 unfold aY
 clear h hlen hb0
 by_cases hc : dF c = 0
 rotate_left
 ·have nb:=λW=>RU c hc W
  have h0' : (dF c != 0) = true:=by simpa using hc
  clear hc
  unfold aY at nb
  generalize hkc : dF c = kc at *
  clear hkc
  go_enter Tryz.func23,Tryz.ntmps23
  go_wp2_with fail
  clear hwb
  refine gr.mono ?_
  rintro e w1 ⟨⟨v,rfl,⟨rfl,KH⟩ | rfl⟩,hb1⟩
  ·have U5:=ah6 (Fx.out.below hb1 Fx.out.lt)
   have HB1:=ah6 (HB0.out.trans (hb1.mono HB0.out.size));clear hb1 gr
   obtain ⟨q0,q1,q2,q3,q4,q5,q6,q7,q8,q9,ku⟩:=eH U5.out
   go_wp2_with fail
   refine (nb w1).mono ?_
   rintro e w2 ⟨rfl,hb2⟩
   have HB2:=ah6 (HB1.out.trans (hb2.mono HB1.out.size));clear hb2 q0 q1 q2 q3 q4 q5 q6 q7 q8 q9 ku
   go_wp2
   exact bodyPost_ret (v:=.pointer none) (by simp [results,Tryz.results23,go_sem]) rfl (.inl ⟨rfl,HB2.out⟩)
  ·have HB1:=ah6 (HB0.out.trans (hb1.mono HB0.out.size))
   clear hb1 gr
   go_wp2
   exact bodyPost_ret (v:=.pointer none) (by simp [results,Tryz.results23,go_sem]) rfl (.inl ⟨rfl,HB1.out⟩)
 ·have nw:=λW=>KC c ok hc W
  have HC:=ah6 hc;clear hc
  unfold aY at nw
  go_enter Tryz.func23,Tryz.ntmps23
  go_wp2_with fail
  clear hwb
  refine gr.mono ?_
  rintro e w1 ⟨⟨v,rfl,⟨rfl,KH⟩ | rfl⟩,hb1⟩
  ·have U5:=ah6 (Fx.out.below hb1 Fx.out.lt)
   have HB1:=ah6 (HB0.out.trans (hb1.mono HB0.out.size));have Ii:=ah6 KH;clear hb1 gr KH
   obtain ⟨q0,q1,q2,q3,q4,q5,q6,q7,q8,q9,ku⟩:=eH U5.out
   go_wp2_with fail
   refine (nw w1).mono ?_
   rintro e w2 ⟨C,S,rfl,hA,hS,hb2⟩
   have HF : Hid (dF c = 0 /\ len <= 60 /\ dH w2 C c (uI c) S /\ (∀ k,S k -> w.heap.size <= k) /\ Below w.heap.size w w2):=ah6 ⟨HC.out,Ii.out,hA,λk hk=>Nat.le_trans HB1.out.size (hS k hk),HB1.out.trans (hb2.mono HB1.out.size)⟩
   clear hb2 hA hS q0 q1 q2 q3 q4 q5 q6 q7 q8 q9 ku
   go_wp2
   exact bodyPost_ret (v:=.pointer (some ⟨C,0,none⟩)) (by simp [results,Tryz.results23,go_sem]) rfl (.inr ⟨C,S,rfl,HF.out⟩)
  ·have HB1:=ah6 (HB0.out.trans (hb1.mono HB0.out.size))
   clear hb1 gr
   go_wp2
   exact bodyPost_ret (v:=.pointer none) (by simp [results,Tryz.results23,go_sem]) rfl (.inl ⟨rfl,HB1.out⟩)
end Go.Proofs.YtklkooeimkedgaaGreat
namespace Go.Proofs.YtklkooeimkedgaaGreat
open Go.RowKit
set_option maxRecDepth 100000
theorem Ik {K T : Nat -> Int} {E E' : Nat -> Option Addr × Nat × Nat} {EE : Nat -> Nat -> aA} (h : ∀ i,(E i).2.1 = (E' i).2.1) : ∀ n i,nR K T E EE n i = nR K T E' EE n i
 | 0,i=>rfl
 | n + 1,i=>by unfold nR;rw [h i,Ik h n (i + 1)]
theorem Cj {c : aN} {K T : Nat -> Int} {E E' : Nat -> Option Addr × Nat × Nat} {EE : Nat -> Nat -> aA} (h : ∀ i,(E i).2.1 = (E' i).2.1) (n : Nat) : gD c K T E EE n = gD c K T E' EE n:=by
 unfold gD;rw [Ik h]
theorem Sg {c : aN} {ka ta : Int} {aa KI : Option Addr} {la ca KJ : Nat} {A : Nat -> aA} {au : Int} : nT c ka ta aa la ca A au = nT c ka ta KI la KJ A au:=by
 have h : gD c (λ_=>ka) (λ_=>ta) (λ_=>(aa,la,ca)) (λ_=>A) 1 = gD c (λ_=>ka) (λ_=>ta) (λ_=>(KI,la,KJ)) (λ_=>A) 1:=Cj (λ_=>rfl) 1
 unfold nT lQ;rw [h]
theorem Si {c : aN} {ka ta : Int} {aa KI : Option Addr} {la ca KJ : Nat} {A : Nat -> aA} {kb tb : Int} {ab ZW : Option Addr} {lb cb cb' : Nat} {B : Nat -> aA} {au : Int} : nS c ka ta aa la ca A kb tb ab lb cb B au = nS c ka ta KI la KJ A kb tb ZW lb cb' B au:=by
 unfold nS nu
 rw [Cj (E':=two (KI,la,KJ) (ZW,lb,cb')) (λi=>by unfold two;split <;> rfl)]
theorem U7 {c : aN} {au : Int} {K T : Nat -> Int} {E E' : Nat -> Option Addr × Nat × Nat} {EE : Nat -> Nat -> aA} {len : Nat} (h : ∀ i,(E i).2.1 = (E' i).2.1) : rC c au K T E EE len = rC c au K T E' EE len:=by
 unfold rC
 rw [Cj h,Sg (KI:=(E' (cO T au len)).1) (KJ:=(E' (cO T au len)).2.2),Si (KI:=(E' (cO T au len)).1) (KJ:=(E' (cO T au len)).2.2) (ZW:=(E' (jg T au len)).1) (cb':=(E' (jg T au len)).2.2),h,h]
def uJ (ss : List Sn) (i : Nat) : Int:=(ss.getD i dI).tick
def dS (ss : List Sn) (i : Nat) : Int:=(ss.getD i dI).time
def rD (ss : List Sn) (i : Nat) : Option Addr × Nat × Nat:=(none,(ss.getD i dI).ents.length,0)
def jk (ss : List Sn) (i j : Nat) : aA:=(ss.getD i dI).ents.getD j bK
def Ck (c : aN) (au : Int) (ss : List Sn) : Int:=rC c au (uJ ss) (dS ss) (rD ss) (jk ss) ss.length
def kN (c : aN) (au : Int) (ss : List Sn) : Nat:=Ci c au (uJ ss) (dS ss) (rD ss) (jk ss) ss.length
def kP (c : aN) (au : Int) (ss : List Sn) : Nat -> Po:=Ij c au (uJ ss) (dS ss) (rD ss) (jk ss) ss.length
theorem zm (ks : List aG) (i : Nat) : (ks.map (·.sn)).getD i dI = (ks.getD i mO).sn:=by
 simp only [List.getD,List.getElem?_map]
 cases ks[i]? <;> rfl
theorem XF (c : aN) (ok : c.Ok) (au : Int) (hat : ay au) (a : Option Addr) (cap : Nat) (ks : List aG) (ss : List Sn) (hm : ks.map (·.sn) = ss) (hT : ∀ s ∈ ss,ay s.time) (hl : ks.length <= 1000) (w : World) (h : U0 w a ks) :
 Calls Tryz.prog 19 #[aY c,.int .i64 au,.slice a ks.length cap] w (qO w (kN c au ss) (Ck c au ss) (kP c au ss)):=by
 have hK : (λi=>(ks.getD i mO).sn.tick) = uJ ss:=by funext i;unfold uJ;rw [← hm,zm]
 have hTT : (λi=>(ks.getD i mO).sn.time) = dS ss:=by funext i;unfold dS;rw [← hm,zm]
 have oz : (λi j=>(ks.getD i mO).sn.ents.getD j bK) = jk ss:=by funext i j;unfold jk;rw [← hm,zm]
 have hE : ∀ i,((λi=>((ks.getD i mO).a,(ks.getD i mO).sn.ents.length,(ks.getD i mO).cap)) i : Option Addr × Nat × Nat).2.1 = (rD ss i).2.1:=λi=>by unfold rD;rw [← hm,zm]
 have hlen : ks.length = ss.length:=by rw [← hm,List.length_map]
 unfold U0 at h
 rw [hK,hTT,oz] at h
 have hTi : ∀ i,i < ks.length -> ay (dS ss i):=λi hi=>by
  unfold dS
  have : i < ss.length:=by omega
  simp only [List.getD,List.getElem?_eq_getElem this,Option.getD_some]
  exact hT _ (List.getElem_mem this)
 have:=abg c ok au hat a ks.length cap _ _ _ _ w h hTi (by omega)
 have e1:=U7 (c:=c) (au:=au) (K:=uJ ss) (T:=dS ss) (EE:=jk ss) (len:=ks.length) hE
 have e2 : Ci c au (uJ ss) (dS ss) (λi=>((ks.getD i mO).a,(ks.getD i mO).sn.ents.length,(ks.getD i mO).cap)) (jk ss) ks.length = kN c au ss:=by
  unfold kN Ci;rw [e1,hE,hlen]
 have e3 : Ij c au (uJ ss) (dS ss) (λi=>((ks.getD i mO).a,(ks.getD i mO).sn.ents.length,(ks.getD i mO).cap)) (jk ss) ks.length = kP c au ss:=by
  unfold kP Ij;rw [hE,hlen]
 rw [e2,e3,e1,hlen] at this
 rw [hlen]
 exact this
theorem U9 {w : World} {base base' k n : Nat} {e : TypeId} {v : Value} {xs : List Value} (h : w.ownsRow base e k v n xs) (hb : base' <= base) : w.ownsRow base' e k v n xs:=by
 obtain ⟨h1,h2⟩:=h
 refine ⟨h1,?_⟩
 rcases h2 with h2 | ⟨g,cap,cur,rfl,a,b⟩
 ·exact .inl h2
 ·exact .inr ⟨g,cap,cur,rfl,Nat.le_trans hb a,b⟩
theorem Cm {w w' : World} {s : Option Addr} {n : Nat} {P : Nat -> Po} {X : Nat} {cs : Array Value} (h : dY w s n P) (hX : ak w X cs 49) (hcs : cs.size = 3) (ho : Only (λk=>k = X) w w') : dY w' s n P:=by
 rcases h with h | ⟨b,off,e,hl,hc⟩
 ·exact .inl h
 ·by_cases hn : n = 0
  ·exact .inl hn
  ·refine .inr ⟨b,off,e,Nat.lt_of_lt_of_le hl ho.size,λi hi=>?_⟩
   have hbX : b ≠ X:=by
    rintro rfl
    have h0:=(hc 0 (by omega)).2.2.2.2.2
    rw [hX.cell,Array.getElem?_eq_none (by omega)] at h0
    cases h0
   have hh : ∀ o,w'.cell? ⟨b,o,none⟩ = w.cell? ⟨b,o,none⟩:=λo=>by
    simp only [World.cell?];rw [ho.block b hl hbX]
   have:=hc i hi
   unfold kH at this ⊢
   simp only [hh];exact this
def KL (w2 : World) (ss : List Sn) (n0 : Nat) (E0 : Int) (P0 : Nat -> Po) : List Value -> World -> Prop
 | [],W=>aO w2 W
 | [v],W=>aO w2 W /\ ∃ ks,gH W w2.heap.size v ks /\ ks.map (·.sn) = ss
 | [_,u],W=>aO w2 W /\ ∃ s cp,u = .tuple #[.slice s n0 cp,.int .i64 E0] /\ dY W s n0 P0
 | [_,_,u],W=>aO w2 W /\ ∃ s cp,u = .tuple #[.slice s n0 cp,.int .i64 E0] /\ dY W s n0 P0
 | [_,_,_,u],W=>aO w2 W /\ ∃ s cp,u = .slice s n0 cp /\ dY W s n0 P0
 | [_,_,_,_,u],W=>aO w2 W /\ ∃ s cp,u = .slice s n0 cp /\ dY W s n0 P0
 | _,_=>False
theorem KL.calm {w2 : World} {ss : List Sn} {n0 : Nat} {E0 : Int} {P0 : Nat -> Po} : ∀ {b : List Value} {W : World},KL w2 ss n0 E0 P0 b W -> aO w2 W
 | [],_,h=>h
 | [_],_,h=>h.1
 | [_,_],_,h=>h.1
 | [_,_,_],_,h=>h.1
 | [_,_,_,_],_,h=>h.1
 | [_,_,_,_,_],_,h=>h.1
 | _ :: _ :: _ :: _ :: _ :: _ :: _,_,h=>h.elim
theorem KM (C : Nat) (c : aN) (hc : dF c = 0) (x : iA) (S : Nat -> Prop) (loc : Int) (w : World) (h : dH w C c x S) (hL : x.cs.L = []) :
 Calls Tryz.prog 15 #[.pointer (some ⟨C,0,none⟩),.int .i64 loc] w λe w'=>e = .returned (.agg #[.bool false,.int .i64 0,.slice none 0 0]) /\ dH w' C c x S /\ Only (λk=>S k /\ ou w k) w w':=by
 obtain ⟨T,R,K,l,fr,SS,SK,hP,hK⟩:=h
 have ZX:=hP.blk.cell 12;simp at ZX
 obtain ⟨w0,hw0⟩ : ∃ w0,w.alloc (.cells #[.bool false,.int .i64 0,.slice none 0 0] 49) = w0:=⟨_,rfl⟩
 have hB0 : Below w.heap.size w w0:=by rw [← hw0];exact ah7
 have hX0 : ak w0 w.heap.size #[.bool false,.int .i64 0,.slice none 0 0] 49:=by rw [← hw0];exact ak.new _ _ _
 have KN:=hP.lt C hP.sub.1
 have pq:=hP.only (Only.of_below (S:=λ_=>False) hB0) (λ_ _ h=>h)
 have hC0:=pq.blk;have c13:=hC0.cell 13;have f13:=hC0.free 13;simp at c13
 have hset : ∀ v,Kz (w0.setCell ⟨C,13,none⟩ (.int .i64 v)) C c T R K l x.floor x.gone x.cs v S SS SK:=λv=>by
  have ho : Only (λk=>k = C) w0 (w0.setCell ⟨C,13,none⟩ (.int .i64 v)):=Only.setCell (S:=λk=>k = C) (p:=⟨C,13,none⟩) (Only.refl _ _) (.inl rfl) _
  exact ⟨by simpa using hC0.set 13 (.int .i64 v),pq.st.only ho (λk hk e=>pq.nC.1 (e ▸ hk)),pq.room,pq.ck.only ho (λk hk e=>pq.nC.2 (e ▸ hk)),pq.Fq,pq.nC,pq.sub,λk hk=>by have:=pq.lt k hk;simpa [World.setCell] using this⟩
 have hX1 : ∀ v,ak (w0.setCell ⟨C,13,none⟩ (.int .i64 v)) w.heap.size #[.bool false,.int .i64 0,.slice none 0 0] 49:=λv=>hX0.far (p:=⟨C,13,none⟩) (by show w.heap.size ≠ C;omega) _
 have Sj : ou w C:=Eh hP.blk (by intro v hv;simp at hv)
 have mU : ∀ v,Only (λk=>S k /\ ou w k) w (w0.setCell ⟨C,13,none⟩ (.int .i64 v)):=λv=>(Only.of_below (S:=λk=>S k /\ ou w k) hB0).setCell (p:=⟨C,13,none⟩) (.inl ⟨hP.sub.1,Sj⟩) _
 obtain ⟨wZ,hfr⟩ : ∃ v,wrap64 (fr + 1) = v:=⟨_,rfl⟩
 obtain ⟨w1,hw1⟩ : ∃ u,w0.setCell ⟨C,13,none⟩ (.int .i64 wZ) = u:=⟨_,rfl⟩
 have hP1:=hset wZ;have zn:=hX1 wZ;have yN:=mU wZ
 rw [hw1] at hP1 zn yN
 have cf:=Lv K c hc x.cs loc SK w1 hP1.ck hL;have c12:=hP1.blk.cell 12;simp at c12;have f0:=zn.free 0;have f1:=zn.free 1;have f2:=zn.free 2;have x0:=zn.cell 0;have x1:=zn.cell 1;have x2:=zn.cell 2;simp at x0 x1 x2
 have hNS : ¬ S w.heap.size:=λh=>by have:=hP.lt _ h;omega
 have aS:=fA (v0:=.bool false) (v1:=.int .i64 0) (v2:=.slice none 0 0) zn
 obtain ⟨u3,hu3⟩ : ∃ u,((w1.setCell ⟨w.heap.size,0,none⟩ (.bool false)).setCell ⟨w.heap.size,1,none⟩ (.int .i64 0)).setCell ⟨w.heap.size,2,none⟩ (.slice none 0 0) = u:=⟨_,rfl⟩
 have jh : Only (λk=>k = w.heap.size) w1 u3:=by rw [← hu3];exact kT (Only.refl _ _) (.inl rfl)
 rw [hu3] at aS
 have HF : Hid (dH u3 C c x S /\ Only (λk=>S k /\ ou w k) w u3):=ah6 ⟨dH.only ⟨T,R,K,l,wZ,SS,SK,hP1,hK⟩ jh (λk hk e=>hNS (e ▸ hk)),yN.aU jh (λi hi e=>by omega)⟩
 have g0:=aS.cell 0;have g1:=aS.cell 1;have g2:=aS.cell 2;simp at g0 g1 g2
 have ZY : Hid (¬ S w.heap.size):=ah6 (λh=>by have:=hP.lt _ h;omega)
 clear Sj hP pq hC0 hset hX1 mU hP1 zn yN hK hX0 hB0 KN aS jh hNS hL ZX
 go_enter Tryz.func15,Tryz.ntmps15
 go_wp2_with fail
 refine cf.mono ?_
 rintro e w2 ⟨rfl,rfl⟩
 clear cf
 go_wp2_with fail
 exact bodyPost_ret (v:=.agg #[.bool false,.int .i64 0,.slice none 0 0]) (by simp [results,Tryz.results15,go_sem,g0,g1,g2]) rfl ⟨rfl,HF.out⟩
set_option maxHeartbeats 4000000 in
theorem xX (C : Nat) (c : aN) (zl : c.Ok) (hc : dF c = 0) (x : iA) (S : Nat -> Prop) (loc : Int) (hloc : ay loc) (w : World) (h : dH w C c x S) (hL : x.cs.L ≠ []) :
 Calls Tryz.prog 15 #[.pointer (some ⟨C,0,none⟩),.int .i64 loc] w λe w'=>∃ s cp,e = .returned (.agg #[.bool true,.int .i64 (iy c x.cs loc).au,.slice s (kN c (iy c x.cs loc).au x.ss) cp]) /\ dY w' s (kN c (iy c x.cs loc).au x.ss) (kP c (iy c x.cs loc).au x.ss) /\ dH w' C c { x with cs:=iy c x.cs loc } S /\ Only (λk=>S k /\ ou w k) w w':=by
 obtain ⟨T,R,K,l,fr,SS,SK,hP,hK⟩:=h
 have Gd:=ZG hK.cs hloc (c:=c)
 obtain ⟨w0,hw0⟩ : ∃ w0,w.alloc (.cells #[.bool false,.int .i64 0,.slice none 0 0] 49) = w0:=⟨_,rfl⟩
 have hB0 : Below w.heap.size w w0:=by rw [← hw0];exact ah7
 have hX0 : ak w0 w.heap.size #[.bool false,.int .i64 0,.slice none 0 0] 49:=by rw [← hw0];exact ak.new _ _ _
 have KN:=hP.lt C hP.sub.1
 have pq:=hP.only (Only.of_below (S:=λ_=>False) hB0) (λ_ _ h=>h)
 have hC0:=pq.blk;have c13:=hC0.cell 13;have f13:=hC0.free 13;simp at c13
 have hset : ∀ v,Kz (w0.setCell ⟨C,13,none⟩ (.int .i64 v)) C c T R K l x.floor x.gone x.cs v S SS SK:=λv=>by
  have ho : Only (λk=>k = C) w0 (w0.setCell ⟨C,13,none⟩ (.int .i64 v)):=Only.setCell (S:=λk=>k = C) (p:=⟨C,13,none⟩) (Only.refl _ _) (.inl rfl) _
  exact ⟨by simpa using hC0.set 13 (.int .i64 v),pq.st.only ho (λk hk e=>pq.nC.1 (e ▸ hk)),pq.room,pq.ck.only ho (λk hk e=>pq.nC.2 (e ▸ hk)),pq.Fq,pq.nC,pq.sub,λk hk=>by have:=pq.lt k hk;simpa [World.setCell] using this⟩
 have hX1 : ∀ v,ak (w0.setCell ⟨C,13,none⟩ (.int .i64 v)) w.heap.size #[.bool false,.int .i64 0,.slice none 0 0] 49:=λv=>hX0.far (p:=⟨C,13,none⟩) (by show w.heap.size ≠ C;omega) _
 have Sj : ou w C:=Eh hP.blk (by intro v hv;simp at hv)
 have mU : ∀ v,Only (λk=>S k /\ ou w k) w (w0.setCell ⟨C,13,none⟩ (.int .i64 v)):=λv=>(Only.of_below (S:=λk=>S k /\ ou w k) hB0).setCell (p:=⟨C,13,none⟩) (.inl ⟨hP.sub.1,Sj⟩) _
 obtain ⟨wZ,hfr⟩ : ∃ v,wrap64 (fr + 1) = v:=⟨_,rfl⟩
 obtain ⟨w1,hw1⟩ : ∃ u,w0.setCell ⟨C,13,none⟩ (.int .i64 wZ) = u:=⟨_,rfl⟩
 have hP1:=hset wZ;have zn:=hX1 wZ;have yN:=mU wZ
 rw [hw1] at hP1 zn yN
 have Ak:=ah6 hP1;have fq:=ah6 zn;have oJ:=ah6 yN;have HK:=ah6 hK;have UZ:=ah6 Gd;have cf:=U6 K c hc x.cs hK.cs loc hloc SK w1 hP1.ck hL
 have hsame : ∀ k,k < w.heap.size -> k ≠ C -> w1.heap[k]? = w.heap[k]?:=λk hk hne=>by
  rw [← hw1,Below.heap_setCell _ _ _ _ (show k ≠ (⟨C,13,none⟩ : Addr).block from hne)]
  exact hB0.block k hk
 have mI:=ah6 hsame;clear hsame;have HAT:=ah6 Gd.au;have c12:=hP1.blk.cell 12;simp at c12;have HCl:=ah6 KN
 have ZY : Hid (¬ S w.heap.size):=ah6 (λh=>by have:=hP.lt _ h;omega)
 clear Sj hP pq hC0 hset hX1 mU hP1 zn yN hK Gd hX0 hB0 KN
 generalize hfm : iy c x.cs loc = cs2 at *
 have HT : Hid (∀ s ∈ x.ss,ay s.time):=ah6 (λs hs=>by have:=(jL.1 (HK.out.KA s hs)).time;exact ⟨by omega,by omega⟩)
 have psh:=λa cap ks hm hl W h=>XF c zl cs2.au HAT.out a cap ks x.ss hm HT.out hl W h
 generalize kN c cs2.au x.ss = n0 at *
 generalize kP c cs2.au x.ss = P0 at *
 generalize Ck c cs2.au x.ss = E0 at *
 have HPS:=ah6 psh
 unfold aY at HPS
 clear psh
 go_enter Tryz.func15,Tryz.ntmps15
 go_wp2_with fail
 clear hw0 hw1 c13 f13 hfr
 refine cf.mono ?_
 rintro e w2 ⟨rfl,RV,hO2⟩
 have Oo : Only SK w1 w2:=hO2.weaken (λk _ hk=>hk.1)
 have hP2 : Kz w2 C c T R K l x.floor x.gone cs2 wZ S SS SK:=⟨Oo.blk Ak.out.blk Ak.out.nC.2,Ak.out.st.only Oo Ak.out.Fq,Ak.out.room,RV,Ak.out.Fq,Ak.out.nC,Ak.out.sub,λk hk=>Nat.lt_of_lt_of_le (Ak.out.lt k hk) hO2.size⟩
 have yR : Hid (dH w2 C c { x with cs:=cs2 } S):=ah6 ⟨T,R,K,l,wZ,SS,SK,hP2,HK.out.map,HK.out.key,HK.out.KA,UZ.out⟩
 have dR:=ah6 (Oo.blk fq.out (λh=>ZY.out (Ak.out.sub.2.2 _ h)))
 have bR : Hid (Only (λk=>S k /\ ou w k) w w2):=ah6 (oJ.out.aU hO2 (λi hi hk=>⟨Ak.out.sub.2.2 i hk.1,λo v hh=>by
  have hne : i ≠ C:=λe=>Ak.out.nC.2 (e ▸ hk.1)
  refine hk.2 o v ?_
  simp only [World.cell?] at hh ⊢
  rw [mI.out i hi hne];exact hh⟩))
 obtain ⟨c0,c1,c2,c3,c4,c5,c6,c7,c8,c9,c10⟩ : w2.cell? ⟨C,0,none⟩ = some (.int .i64 c.ring) /\ w2.cell? ⟨C,1,none⟩ = some (.int .i64 c.window) /\ w2.cell? ⟨C,2,none⟩ = some (.int .i64 c.base) /\ w2.cell? ⟨C,3,none⟩ = some (.int .i64 c.gain) /\ w2.cell? ⟨C,4,none⟩ = some (.int .i64 c.least) /\ w2.cell? ⟨C,5,none⟩ = some (.int .i64 c.most) /\ w2.cell? ⟨C,6,none⟩ = some (.int .i64 c.aC) /\ w2.cell? ⟨C,7,none⟩ = some (.int .i64 c.num) /\ w2.cell? ⟨C,8,none⟩ = some (.int .i64 c.den) /\ w2.cell? ⟨C,9,none⟩ = some (.int .i64 c.extra) /\ w2.cell? ⟨C,10,none⟩ = some (.bool c.aB):=by
  have h:=hP2.blk;have e0:=h.cell 0;have e1:=h.cell 1;have e2:=h.cell 2;have e3:=h.cell 3;have e4:=h.cell 4;have e5:=h.cell 5;have e6:=h.cell 6;have e7:=h.cell 7;have e8:=h.cell 8;have e9:=h.cell 9;have e10:=h.cell 10;simp at e0 e1 e2 e3 e4 e5 e6 e7 e8 e9 e10
  exact ⟨e0,e1,e2,e3,e4,e5,e6,e7,e8,e9,e10⟩
 have aew : Hid (x.ss.length <= 64):=ah6 yR.out.ok.2.2
 clear RV hO2 Oo cf c12 hP2
 have HI : Hid (KL w2 x.ss n0 E0 P0 [] w2.drew):=ah6 (show aO w2 w2.drew from below_drewN ah8 1)
 go_wp2_with fail
 apply Ef 12 [6,7,8,9,11] (KL w2 x.ss n0 E0 P0)
 case hm=>kernel_rfl
 case hB=>kernel_rfl
 case hp=>kernel_rfl
 case hI=>exact HI.out
 simp only [List.take_succ_cons,List.take_zero,List.drop_succ_cons,List.drop_zero]
 repeat (apply bT;(next=>rfl);(next=>(intro b W hW K hK;have hb:=KL.calm hW;have y0:=hb.cell c0;have y1:=hb.cell c1;have y2:=hb.cell c2;have y3:=hb.cell c3;have y4:=hb.cell c4;have y5:=hb.cell c5;have y6:=hb.cell c6;have y7:=hb.cell c7;have y8:=hb.cell c8;have y9:=hb.cell c9;have Jv:=hb.cell c10;go_simp;first | exact ⟨hW,hK⟩ | exact hK));(next=>exact ⟨_,HI.out⟩);(try go_simp))
 apply dh (s:=λ_=>True)
 case hk=>rfl
 case hne=>exact ⟨undef,trivial⟩
 case hw=>rfl
 case h =>
  intro W hW
  have hb : Below w2.heap.size w2 W:=hW
  have sn:=KG C c { x with cs:=cs2 } S W (yR.out.below hb);clear hW
  go_simp
  refine sn.mono ?_
  rintro e w3 ⟨v,ks,rfl,hO,hm,hB⟩
  first | refine ⟨_,rfl,?_⟩ | refine ⟨_,rfl,trivial,?_⟩
  exact ⟨hb.trans (hB.mono hb.size),ks,⟨U9 hO.row hb.size,λk hk=>⟨aK.base (hO.ents k hk).1 hb.size,(hO.ents k hk).2⟩⟩,hm⟩
 intro v1 _
 apply dh (s:=λu=>∃ s cp,u = .tuple #[.slice s n0 cp,.int .i64 E0])
 case hk=>rfl
 case hne=>exact ⟨_,none,0,rfl⟩
 case hw=>rfl
 case h =>
  intro W hW
  obtain ⟨hb,ks,hO,hm⟩:=hW
  obtain ⟨a,cp,rfl,hS,_,_⟩:=hO.VY
  have hl : ks.length <= 1000:=by have:=congrArg List.length hm;rw [List.length_map] at this;have:=aew.out;omega
  have ps:=HPS.out a cp ks hm hl W hS
  have Fx : Hid (aO w2 W):=ah6 hb
  clear hb hO hS hm hl
  unfold qO at ps
  go_simp
  refine ps.mono ?_
  rintro e w3 ⟨s,cp2,rfl,VZ,hB⟩
  refine ⟨_,rfl,by first | exact ⟨s,cp2,rfl⟩ | simp,?_⟩
  exact ⟨Below.trans Fx.out (hB.mono (Below.size Fx.out)),s,cp2,rfl,VZ⟩
 intro v2 hv2
 obtain ⟨s2,cp2,rfl⟩:=hv2
 try go_simp
 apply dh (s:=λu=>∃ s cp,u = .tuple #[.slice s n0 cp,.int .i64 E0])
 case hk=>rfl
 case hne=>exact ⟨_,none,0,rfl⟩
 case hw=>rfl
 case h =>
  intro W hW
  have HW:=ah6 hW;clear hW
  go_simp
  first | exact HW.out | exact ⟨⟨_,_,rfl⟩,HW.out⟩ | exact ⟨by simp,HW.out⟩
 intro v3 hv3
 obtain ⟨s3,cp3,rfl⟩:=hv3
 try go_simp
 apply dh (s:=λu=>∃ s cp,u = .slice s n0 cp)
 case hk=>rfl
 case hne=>exact ⟨_,none,0,rfl⟩
 case hw=>rfl
 case h =>
  intro W hW
  obtain ⟨hb,s',cp',he,hp⟩:=hW
  have HW : Hid (KL w2 x.ss n0 E0 P0 [undef,undef,undef,.slice s3 n0 cp3] W):=ah6 (by
   injection he with he
   have h2:=congrArg (λq : Array Value=>q[0]?) he
   simp at h2
   obtain ⟨h3,h4⟩:=h2
   exact ⟨hb,s3,cp3,rfl,by rw [h3];exact hp⟩)
  clear hb he hp
  go_simp
  first | exact HW.out | exact ⟨⟨_,_,rfl⟩,HW.out⟩ | exact ⟨by simp,HW.out⟩
 intro v4 hv4
 obtain ⟨s4,cp4,rfl⟩:=hv4
 try go_simp
 repeat (apply bT;(next=>rfl);(next=>(intro b W hW K hK;have hb:=KL.calm hW;have y0:=hb.cell c0;have y1:=hb.cell c1;have y2:=hb.cell c2;have y3:=hb.cell c3;have y4:=hb.cell c4;have y5:=hb.cell c5;have y6:=hb.cell c6;have y7:=hb.cell c7;have y8:=hb.cell c8;have y9:=hb.cell c9;have Jv:=hb.cell c10;go_simp;first | exact ⟨hW,hK⟩ | exact hK));(next=>exact ⟨_,HI.out⟩);(try go_simp))
 apply dh (s:=λu=>∃ s cp,u = .slice s n0 cp)
 case hk=>rfl
 case hne=>exact ⟨_,none,0,rfl⟩
 case hw=>rfl
 case h =>
  intro W hW
  have HW:=ah6 hW;clear hW
  go_simp
  first | exact HW.out | exact ⟨⟨_,_,rfl⟩,HW.out⟩ | exact ⟨by simp,HW.out⟩
 intro v5 hv5
 refine jF ?_
 intro W hW
 obtain ⟨hb,s5,V3,rfl,VZ⟩:=hW
 have bQ : Below w2.heap.size w2 W:=hb
 have hX:=dR.out.below bQ dR.out.lt;have f0:=hX.free 0;have f1:=hX.free 1;have f2:=hX.free 2;have x0:=hX.cell 0;have x1:=hX.cell 1;have x2:=hX.cell 2;simp at x0 x1 x2;have aS:=fA (v0:=.bool true) (v1:=.int .i64 cs2.au) (v2:=.slice s5 n0 V3) hX
 obtain ⟨u3,hu3⟩ : ∃ u,((W.setCell ⟨w.heap.size,0,none⟩ (.bool true)).setCell ⟨w.heap.size,1,none⟩ (.int .i64 cs2.au)).setCell ⟨w.heap.size,2,none⟩ (.slice s5 n0 V3) = u:=⟨_,rfl⟩
 have jh : Only (λk=>k = w.heap.size) W u3:=by rw [← hu3];exact kT (Only.refl _ _) (.inl rfl)
 rw [hu3] at aS
 have HF : Hid (dY u3 s5 n0 P0 /\ dH u3 C c { x with cs:=cs2 } S /\ Only (λk=>S k /\ ou w k) w u3):=ah6 ⟨Cm VZ hX rfl jh,(yR.out.below bQ).only jh (λk hk e=>ZY.out (e ▸ hk)),(bR.out.eT bQ).aU jh (λi hi e=>by omega)⟩
 have g0:=aS.cell 0;have g1:=aS.cell 1;have g2:=aS.cell 2;simp at g0 g1 g2;clear hb VZ bQ hX aS jh c0 c1 c2 c3 c4 c5 c6 c7 c8 c9 c10
 go_wp2_with fail
 exact bodyPost_ret (v:=.agg #[.bool true,.int .i64 cs2.au,.slice s5 n0 V3]) (by simp [results,Tryz.results15,go_sem,g0,g1,g2]) rfl ⟨s5,V3,rfl,HF.out⟩
end Go.Proofs.YtklkooeimkedgaaGreat
namespace Go.Proofs.YtklkooeimkedgaaGreat
open Go.RowKit
set_option maxRecDepth 100000
set_option maxHeartbeats 2000000 in
theorem XG (C : Nat) (c : aN) (zl : c.Ok) (hcc : dF c = 0) (x : iA) (S : Nat -> Prop) (kd loc : Int) (hloc : ay loc) (a : Option Addr) (len cap : Nat) (zs : List Int) (w : World) (h : dH w C c x S)
 (hz : BytesAt w a len zs) (hc : a = none -> cap = 0) (hlc : len <= cap) (hl : (len : Int) <= 140737488355000) (hL : x.cs.L.length < 1000) :
 Calls Tryz.prog 53 #[.pointer (some ⟨C,0,none⟩),.agg #[.int .i64 kd,.int .i64 loc,.slice a len cap]] w λe w'=>e = .returned (.tuple #[.agg #[.bool false,.int .i64 0,.slice none 0 0],.int .i64 (Ed c x zs)]) /\ (∃ S',dH w' C c (wJ c x loc zs) S' /\ ∀ k,S' k -> S k \/ w.heap.size <= k) /\ Only S w w':=by
 obtain ⟨w1,hw1⟩ : ∃ v,w.alloc (.cells #[.int .i64 kd,.int .i64 loc,.slice a len cap] 69) = v:=⟨_,rfl⟩
 have hb1 : Below w.heap.size w w1:=by rw [← hw1];exact ah7
 have hX1 : ak w1 w.heap.size #[.int .i64 kd,.int .i64 loc,.slice a len cap] 69:=by rw [← hw1];exact ak.new _ _ _
 obtain ⟨w2,hw2⟩ : ∃ v,w1.alloc (.cells #[.bool false,.int .i64 0,.slice none 0 0] 49) = v:=⟨_,rfl⟩
 have hb2 : Below w1.heap.size w1 w2:=by rw [← hw2];exact ah7
 have hX2 : ak w2 w1.heap.size #[.bool false,.int .i64 0,.slice none 0 0] 49:=by rw [← hw2];exact ak.new _ _ _
 have gW : Below w.heap.size w w2:=hb1.trans (hb2.mono hb1.size)
 have ar:=Cg C c zl hcc x S loc hloc a len cap zs w2 (h.below gW) (hz.below gW) hc hlc hl hL (Fw hcc h.room);have hx1:=hX1.below hb2 hX1.lt;have q1:=hx1.cell 1;have q2:=hx1.cell 2;simp at q1 q2;have dR:=ah6 hX2;have HB:=ah6 gW
 have HS : Hid (∀ k,S k -> k < w.heap.size):=ah6 h.lt
 have dz : Hid (w.heap.size < w1.heap.size):=ah6 hX1.lt
 clear hb1 hX1 hb2 hX2 gW hx1 h hz hc hlc hl hL
 generalize Ed c x zs = er at *
 go_enter Tryz.func53,Tryz.ntmps53
 go_wp2_with fail
 refine ar.mono ?_
 rintro e w3 ⟨rfl,hA,hO⟩
 have kV : ¬ S w1.heap.size:=λh=>Nat.lt_irrefl _ (Nat.lt_trans (HS.out _ h) dz.out)
 have aS : ak w3 w1.heap.size #[.bool false,.int .i64 0,.slice none 0 0] 49:=hO.blk dR.out kV
 have f0:=aS.free 0;have f1:=aS.free 1;have f2:=aS.free 2;have x0:=aS.cell 0;have x1:=aS.cell 1;have x2:=aS.cell 2;simp at x0 x1 x2;have bq:=fA (v0:=.bool false) (v1:=.int .i64 0) (v2:=.slice none 0 0) aS
 obtain ⟨u3,hu3⟩ : ∃ u,((w3.setCell ⟨w1.heap.size,0,none⟩ (.bool false)).setCell ⟨w1.heap.size,1,none⟩ (.int .i64 0)).setCell ⟨w1.heap.size,2,none⟩ (.slice none 0 0) = u:=⟨_,rfl⟩
 have jh : Only (λk=>k = w1.heap.size) w3 u3:=by rw [← hu3];exact kT (Only.refl _ _) (.inl rfl)
 rw [hu3] at bq
 have HF : Hid ((∃ S',dH u3 C c (wJ c x loc zs) S' /\ ∀ k,S' k -> S k \/ w.heap.size <= k) /\ Only S w u3):=ah6 ⟨⟨Grow S w2 w3,hA.only jh (λk hk e=>by
  subst e
  rcases hk.1 with h | h
  ·exact kV h
  ·exact Nat.lt_irrefl _ (Nat.lt_of_lt_of_le dR.out.lt h)),λk hk=>hk.1.imp id (λh=>Nat.le_trans HB.out.size h)⟩,((Only.of_below (S:=S) HB.out).trans hO).aU jh (λi hi e=>absurd (e ▸ hi) (Nat.lt_asymm dz.out))⟩
 have g0:=bq.cell 0;have g1:=bq.cell 1;have g2:=bq.cell 2;simp at g0 g1 g2;clear hA hO aS jh bq ar kV
 go_wp2_with fail
 exact bodyPost_ret (v:=.tuple #[.agg #[.bool false,.int .i64 0,.slice none 0 0],.int .i64 er]) (by simp [results,Tryz.results53,go_sem,g0,g1,g2]) rfl ⟨rfl,HF.out⟩
def KO (w : World) (C : Nat) (c : aN) (x : iA) (S : Nat -> Prop) (loc : Int) (v : Value) (w' : World) : Prop :=
 (x.cs.L = [] /\ v = .agg #[.bool false,.int .i64 0,.slice none 0 0] /\ dH w' C c x S) \/
 (x.cs.L ≠ [] /\ ∃ s cp,v = .agg #[.bool true,.int .i64 (iy c x.cs loc).au,.slice s (kN c (iy c x.cs loc).au x.ss) cp] /\ dY w' s (kN c (iy c x.cs loc).au x.ss) (kP c (iy c x.cs loc).au x.ss) /\ dH w' C c { x with cs:=iy c x.cs loc } S)
set_option maxHeartbeats 2000000 in
theorem Z0 (C : Nat) (c : aN) (zl : c.Ok) (hcc : dF c = 0) (x : iA) (S : Nat -> Prop) (kd loc : Int) (hloc : ay loc) (a : Option Addr) (len cap : Nat) (w : World) (h : dH w C c x S) :
 Calls Tryz.prog 54 #[.pointer (some ⟨C,0,none⟩),.agg #[.int .i64 kd,.int .i64 loc,.slice a len cap]] w λe w'=>∃ v,e = .returned (.tuple #[v,.int .i64 0]) /\ KO w C c x S loc v w' /\ Only S w w':=by
 obtain ⟨w1,hw1⟩ : ∃ v,w.alloc (.cells #[.int .i64 kd,.int .i64 loc,.slice a len cap] 69) = v:=⟨_,rfl⟩
 have hb1 : Below w.heap.size w w1:=by rw [← hw1];exact ah7
 have hX1 : ak w1 w.heap.size #[.int .i64 kd,.int .i64 loc,.slice a len cap] 69:=by rw [← hw1];exact ak.new _ _ _
 obtain ⟨w2,hw2⟩ : ∃ v,w1.alloc (.cells #[.bool false,.int .i64 0,.slice none 0 0] 49) = v:=⟨_,rfl⟩
 have hb2 : Below w1.heap.size w1 w2:=by rw [← hw2];exact ah7
 have hX2 : ak w2 w1.heap.size #[.bool false,.int .i64 0,.slice none 0 0] 49:=by rw [← hw2];exact ak.new _ _ _
 have gW : Below w.heap.size w w2:=hb1.trans (hb2.mono hb1.size)
 have hA:=h.below gW;have hx1:=hX1.below hb2 hX1.lt;have q1:=hx1.cell 1;simp at q1;have dR:=ah6 hX2;have HB:=ah6 gW
 have HS : Hid (∀ k,S k -> k < w.heap.size):=ah6 h.lt
 have dz : Hid (w.heap.size < w1.heap.size):=ah6 hX1.lt
 clear hb1 hX1 hb2 hX2 gW hx1 h
 by_cases hL : x.cs.L = []
 ·have fr:=KM C c hcc x S loc w2 hA hL
  have HL:=ah6 hL;clear hL hA
  go_enter Tryz.func54,Tryz.ntmps54
  go_wp2_with fail
  refine fr.mono ?_
  rintro e w3 ⟨rfl,hA,hO⟩
  have kV : ¬ S w1.heap.size:=λh=>Nat.lt_irrefl _ (Nat.lt_trans (HS.out _ h) dz.out)
  have aS : ak w3 w1.heap.size #[.bool false,.int .i64 0,.slice none 0 0] 49:=hO.blk dR.out (λh=>kV h.1)
  have f0:=aS.free 0;have f1:=aS.free 1;have f2:=aS.free 2;have x0:=aS.cell 0;have x1:=aS.cell 1;have x2:=aS.cell 2;simp at x0 x1 x2;have bq:=fA (v0:=.bool false) (v1:=.int .i64 0) (v2:=.slice none 0 0) aS
  obtain ⟨u3,hu3⟩ : ∃ u,((w3.setCell ⟨w1.heap.size,0,none⟩ (.bool false)).setCell ⟨w1.heap.size,1,none⟩ (.int .i64 0)).setCell ⟨w1.heap.size,2,none⟩ (.slice none 0 0) = u:=⟨_,rfl⟩
  have jh : Only (λk=>k = w1.heap.size) w3 u3:=by rw [← hu3];exact kT (Only.refl _ _) (.inl rfl)
  rw [hu3] at bq
  have HF : Hid (dH u3 C c x S /\ Only S w u3):=ah6 ⟨hA.only jh (λk hk e=>kV (e ▸ hk)),((Only.of_below (S:=S) HB.out).trans (hO.weaken (λk _ h=>h.1))).aU jh (λi hi e=>absurd (e ▸ hi) (Nat.lt_asymm dz.out))⟩
  have g0:=bq.cell 0;have g1:=bq.cell 1;have g2:=bq.cell 2;simp at g0 g1 g2;clear hA hO aS jh bq fr kV
  go_wp2_with fail
  exact bodyPost_ret (v:=.tuple #[.agg #[.bool false,.int .i64 0,.slice none 0 0],.int .i64 0]) (by simp [results,Tryz.results54,go_sem,g0,g1,g2]) rfl ⟨_,rfl,.inl ⟨HL.out,rfl,HF.out.1⟩,HF.out.2⟩
 ·have fr:=xX C c zl hcc x S loc hloc w2 hA hL
  have HL:=ah6 hL;clear hL hA
  unfold KO
  generalize iy c x.cs loc = fc at *
  generalize kN c fc.au x.ss = sn at *
  generalize kP c fc.au x.ss = sp at *
  generalize hat : fc.au = au at *
  go_enter Tryz.func54,Tryz.ntmps54
  go_wp2_with fail
  refine fr.mono ?_
  rintro e w3 ⟨s,cp,rfl,hP,hA,hO⟩
  have kV : ¬ S w1.heap.size:=λh=>Nat.lt_irrefl _ (Nat.lt_trans (HS.out _ h) dz.out)
  have aS : ak w3 w1.heap.size #[.bool false,.int .i64 0,.slice none 0 0] 49:=hO.blk dR.out (λh=>kV h.1)
  have f0:=aS.free 0;have f1:=aS.free 1;have f2:=aS.free 2;have x0:=aS.cell 0;have x1:=aS.cell 1;have x2:=aS.cell 2;simp at x0 x1 x2;have bq:=fA (v0:=.bool true) (v1:=.int .i64 au) (v2:=.slice s sn cp) aS
  obtain ⟨u3,hu3⟩ : ∃ u,((w3.setCell ⟨w1.heap.size,0,none⟩ (.bool true)).setCell ⟨w1.heap.size,1,none⟩ (.int .i64 au)).setCell ⟨w1.heap.size,2,none⟩ (.slice s sn cp) = u:=⟨_,rfl⟩
  have jh : Only (λk=>k = w1.heap.size) w3 u3:=by rw [← hu3];exact kT (Only.refl _ _) (.inl rfl)
  rw [hu3] at bq
  have hPA : dY u3 s sn sp:=Cm hP aS rfl jh
  have HF : Hid (dY u3 s sn sp /\ dH u3 C c { x with cs:=fc } S /\ Only S w u3):=ah6 ⟨hPA,hA.only jh (λk hk e=>kV (e ▸ hk)),((Only.of_below (S:=S) HB.out).trans (hO.weaken (λk _ h=>h.1))).aU jh (λi hi e=>absurd (e ▸ hi) (Nat.lt_asymm dz.out))⟩
  have g0:=bq.cell 0;have g1:=bq.cell 1;have g2:=bq.cell 2;simp at g0 g1 g2;clear hA hO aS jh bq fr kV hPA hP
  go_wp2_with fail
  exact bodyPost_ret (v:=.tuple #[.agg #[.bool true,.int .i64 au,.slice s sn cp],.int .i64 0]) (by simp [results,Tryz.results54,go_sem,g0,g1,g2]) rfl ⟨_,rfl,.inr ⟨HL.out,s,cp,rfl,HF.out.1,HF.out.2.1⟩,HF.out.2.2⟩
end Go.Proofs.YtklkooeimkedgaaGreat
namespace Go.Proofs.YtklkooeimkedgaaGreat
open Go.RowKit
set_option maxRecDepth 8000
abbrev MR : TypeId:=110
abbrev fnT : TypeId:=71
theorem wK (w : World) : (underlying MR).run Tryz.prog w = .ok (.map 3 fnT) w:=run_underlying Tryz.underlying110 w
theorem Cn (w : World) (id : Int) (es : List MapEntry) : (Instr.findKey 3 (.int .i64 id) es).run Tryz.prog w = (match Instr.findNow (.int .i64) (.int .i64 id) es 0 with | some r=>.ok r w | none=>(Instr.findKey 3 (.int .i64 id) es).run Tryz.prog w):=by
 have hu : (underlying 3).run Tryz.prog w = .ok (.int .i64) w:=run_underlying Tryz.underlying3 w
 cases h : Instr.findNow (.int .i64) (.int .i64 id) es 0 with
 | none=>rfl
 | some r=>simp [Instr.findKey,hu,h]
theorem XH {w : World} {b : Nat} (hb : w.heap[b]? = some (.map #[] 0)) (v : Value) : (Instr.mapUpdate MR (.map (some b)) (.int .i64 0) v).run Tryz.prog w = .ok () (w.putObj b (.map #[⟨.int .i64 0,v,0⟩] 1)):=by
 have c:=Cn w 0 []
 rw [show Instr.findNow (.int .i64) (.int .i64 0) [] 0 = some none from rfl] at c
 simp only at c
 simp [Instr.mapUpdate,wK,MapKept.run_getObj_map hb,gy,c,MapKept.run_setObj_map _ hb,World.putObj]
theorem XI {w : World} {b : Nat} {v0 : Value} (hb : w.heap[b]? = some (.map #[⟨.int .i64 0,v0,0⟩] 1)) (v : Value) : (Instr.mapUpdate MR (.map (some b)) (.int .i64 1) v).run Tryz.prog w = .ok () (w.putObj b (.map #[⟨.int .i64 0,v0,0⟩,⟨.int .i64 1,v,1⟩] 2)):=by
 have c:=Cn w 1 [⟨.int .i64 0,v0,0⟩]
 rw [show Instr.findNow (.int .i64) (.int .i64 1) [⟨.int .i64 0,v0,0⟩] 0 = some none from rfl] at c
 simp only at c
 simp [Instr.mapUpdate,wK,MapKept.run_getObj_map hb,gy,c,MapKept.run_setObj_map _ hb,World.putObj]
theorem Va {w : World} {b : Nat} {v0 v1 : Value} (hb : w.heap[b]? = some (.map #[⟨.int .i64 0,v0,0⟩,⟨.int .i64 1,v1,1⟩] 2)) : (Instr.lookup MR (.map (some b)) (.int .i64 0) true).run Tryz.prog w = .ok (.tuple #[v0,.bool true]) w:=by
 have c:=Cn w 0 [⟨.int .i64 0,v0,0⟩,⟨.int .i64 1,v1,1⟩]
 rw [show Instr.findNow (.int .i64) (.int .i64 0) [⟨.int .i64 0,v0,0⟩,⟨.int .i64 1,v1,1⟩] 0 = some (some (0,v0)) from rfl] at c
 simp only at c
 simp [Instr.lookup,wK,MapKept.run_getObj_map hb,gy,c]
theorem Vb {w : World} {b : Nat} {v0 v1 : Value} (hb : w.heap[b]? = some (.map #[⟨.int .i64 0,v0,0⟩,⟨.int .i64 1,v1,1⟩] 2)) : (Instr.lookup MR (.map (some b)) (.int .i64 1) true).run Tryz.prog w = .ok (.tuple #[v1,.bool true]) w:=by
 have c:=Cn w 1 [⟨.int .i64 0,v0,0⟩,⟨.int .i64 1,v1,1⟩]
 rw [show Instr.findNow (.int .i64) (.int .i64 1) [⟨.int .i64 0,v0,0⟩,⟨.int .i64 1,v1,1⟩] 0 = some (some (1,v1)) from rfl] at c
 simp only at c
 simp [Instr.lookup,wK,MapKept.run_getObj_map hb,gy,c]
theorem Vd {w : World} {b : Nat} {v0 v1 : Value} (hb : w.heap[b]? = some (.map #[⟨.int .i64 0,v0,0⟩,⟨.int .i64 1,v1,1⟩] 2)) {k : Int} (h0 : k ≠ 0) (h1 : k ≠ 1) : ∃ z,(Instr.lookup MR (.map (some b)) (.int .i64 k) true).run Tryz.prog w = .ok (.tuple #[z,.bool false]) w:=by
 have c:=Cn w k [⟨.int .i64 0,v0,0⟩,⟨.int .i64 1,v1,1⟩]
 rw [show Instr.findNow (.int .i64) (.int .i64 k) [⟨.int .i64 0,v0,0⟩,⟨.int .i64 1,v1,1⟩] 0 = some none from by simp [Instr.findNow,Instr.sameNow,show (k == 0) = false by simpa using h0,show (k == 1) = false by simpa using h1]] at c
 simp only at c
 obtain ⟨z,hz⟩ : ∃ z,(zeroValue fnT).run Tryz.prog w = .ok z w:=⟨_,rfl⟩
 exact ⟨z,by simp [Instr.lookup,wK,MapKept.run_getObj_map hb,gy,c,hz]⟩
end Go.Proofs.YtklkooeimkedgaaGreat
namespace Go.Proofs.YtklkooeimkedgaaGreat
open Go.RowKit
set_option maxRecDepth 100000
def Z4 (w : World) (C : Nat) (c : aN) (x : iA) (S : Nat -> Prop) (kd loc : Int) (zs : List Int) (e : Ending) (w' : World) : Prop :=
 ∃ v er,e = .returned (.tuple #[v,.int .i64 er]) /\ Only S w w' /\
  ((kd = 0 /\ v = .agg #[.bool false,.int .i64 0,.slice none 0 0] /\ ∃ S',dH w' C c (wJ c x loc zs) S' /\ ∀ k,S' k -> S k \/ w.heap.size <= k) \/
   (kd = 1 /\ KO w C c x S loc v w') \/
   (kd ≠ 0 /\ kd ≠ 1 /\ v = .agg #[.bool false,.int .i64 0,.slice none 0 0] /\ dH w' C c x S))
set_option maxHeartbeats 2000000 in
theorem aex (C : Nat) (c : aN) (zl : c.Ok) (hcc : dF c = 0) (x : iA) (S : Nat -> Prop) (kd loc : Int) (hloc : ay loc) (a : Option Addr) (len cap : Nat) (zs : List Int) (w : World) (h : dH w C c x S)
 (hz : BytesAt w a len zs) (hc : a = none -> cap = 0) (hlc : len <= cap) (hl : (len : Int) <= 140737488355000) (hL : x.cs.L.length < 1000) :
 Calls Tryz.prog 24 #[.pointer (some ⟨C,0,none⟩),.agg #[.int .i64 kd,.int .i64 loc,.slice a len cap]] w (Z4 w C c x S kd loc zs):=by
 have hmf : ∀ (fn : Fn) (first cap : Array Value) (w : World),(Instr.makeFunc fn first cap).run Tryz.prog w = .ok (.func fn first cap) w:=λ_ _ _ _=>rfl
 obtain ⟨w1,hw1⟩ : ∃ v,w.alloc (.cells #[.int .i64 kd,.int .i64 loc,.slice a len cap] 69) = v:=⟨_,rfl⟩
 have hb1 : Below w.heap.size w w1:=by rw [← hw1];exact ah7
 have hX1 : ak w1 w.heap.size #[.int .i64 kd,.int .i64 loc,.slice a len cap] 69:=by rw [← hw1];exact ak.new _ _ _
 obtain ⟨w2,hw2⟩ : ∃ v,w1.alloc (.cells #[.bool false,.int .i64 0,.slice none 0 0] 49) = v:=⟨_,rfl⟩
 have hb2 : Below w1.heap.size w1 w2:=by rw [← hw2];exact ah7
 have hX2 : ak w2 w1.heap.size #[.bool false,.int .i64 0,.slice none 0 0] 49:=by rw [← hw2];exact ak.new _ _ _
 have gW : Below w.heap.size w w2:=hb1.trans (hb2.mono hb1.size)
 obtain ⟨w3,hw3⟩ : ∃ v,w2.alloc (.map #[] 0) = v:=⟨_,rfl⟩
 have Il : w3.heap[w2.heap.size]? = some (.map #[] 0):=by rw [← hw3];exact heap_alloc_new w2 _
 have hlt3 : w2.heap.size < w3.heap.size:=(Array.getElem?_eq_some_iff.1 Il).1
 have hb3 : Below w2.heap.size w2 w3:=by rw [← hw3];exact ah7
 have u0:=XH Il (.func (.func 53) #[.pointer (some ⟨C,0,none⟩)] #[])
 obtain ⟨w4,hw4⟩ : ∃ v,w3.putObj w2.heap.size (.map #[⟨.int .i64 0,.func (.func 53) #[.pointer (some ⟨C,0,none⟩)] #[],0⟩] 1) = v:=⟨_,rfl⟩
 have MS : w4.heap[w2.heap.size]? = some (.map #[⟨.int .i64 0,.func (.func 53) #[.pointer (some ⟨C,0,none⟩)] #[],0⟩] 1):=by rw [← hw4];exact World.putObj_heap_same hlt3
 have V4 : Only (λk=>k = w2.heap.size) w3 w4:=by rw [← hw4];exact nO _ _ _
 rw [hw4] at u0
 have u1:=XI MS (.func (.func 54) #[.pointer (some ⟨C,0,none⟩)] #[])
 obtain ⟨w5,qA⟩ : ∃ v,w4.putObj w2.heap.size (.map #[⟨.int .i64 0,.func (.func 53) #[.pointer (some ⟨C,0,none⟩)] #[],0⟩,⟨.int .i64 1,.func (.func 54) #[.pointer (some ⟨C,0,none⟩)] #[],1⟩] 2) = v:=⟨_,rfl⟩
 have Im : w5.heap[w2.heap.size]? = some (.map #[⟨.int .i64 0,.func (.func 53) #[.pointer (some ⟨C,0,none⟩)] #[],0⟩,⟨.int .i64 1,.func (.func 54) #[.pointer (some ⟨C,0,none⟩)] #[],1⟩] 2):=by rw [← qA];exact World.putObj_heap_same (Nat.lt_of_lt_of_le hlt3 V4.size)
 have lX : Only (λk=>k = w2.heap.size) w4 w5:=by rw [← qA];exact nO _ _ _
 rw [qA] at u1
 have Oq : Below w2.heap.size w2 w5:=(hb3.trans (V4.below (Nat.le_of_lt hlt3) (λk e=>Nat.le_of_eq e.symm))).trans (lX.below (Nat.le_trans (Nat.le_of_lt hlt3) V4.size) (λk e=>Nat.le_of_eq e.symm))
 have hb5 : Below w.heap.size w w5:=gW.trans (Oq.mono gW.size)
 have hx5:=(hX1.below hb2 hX1.lt).below Oq (Nat.lt_of_lt_of_le hX1.lt hb2.size);have q0:=hx5.cell 0;have q1:=hx5.cell 1;have q2:=hx5.cell 2;simp at q0 q1 q2;have dR:=ah6 (hX2.below Oq hX2.lt);have HB:=ah6 hb5
 have HS : Hid (∀ k,S k -> k < w.heap.size):=ah6 h.lt
 have dz : Hid (w.heap.size < w1.heap.size):=ah6 hX1.lt
 have HA:=ah6 (h.below hb5);have HZ:=ah6 (hz.below hb5);clear hb1 hX1 hb2 hX2 gW hx5 h hz hb3 V4 lX Oq hb5 Il MS hlt3
 by_cases h0 : kd = 0
 ·subst h0
  have lk:=Va Im;have ar:=XG C c zl hcc x S 0 loc hloc a len cap zs w5 HA.out HZ.out hc hlc hl hL;clear Im hc hlc hl hL
  generalize Ed c x zs = er at *
  go_enter Tryz.func24,Tryz.ntmps24
  go_wp2_with fail
  refine ar.mono ?_
  rintro e w6 ⟨rfl,⟨S',hA,hS'⟩,hO⟩
  have kV : ¬ S w1.heap.size:=λh=>Nat.lt_irrefl _ (Nat.lt_trans (HS.out _ h) dz.out)
  have aS : ak w6 w1.heap.size #[.bool false,.int .i64 0,.slice none 0 0] 49:=hO.blk dR.out kV
  have f0:=aS.free 0;have f1:=aS.free 1;have f2:=aS.free 2;have x0:=aS.cell 0;have x1:=aS.cell 1;have x2:=aS.cell 2;simp at x0 x1 x2;have bq:=fA (v0:=.bool false) (v1:=.int .i64 0) (v2:=.slice none 0 0) aS
  obtain ⟨u3,hu3⟩ : ∃ u,((w6.setCell ⟨w1.heap.size,0,none⟩ (.bool false)).setCell ⟨w1.heap.size,1,none⟩ (.int .i64 0)).setCell ⟨w1.heap.size,2,none⟩ (.slice none 0 0) = u:=⟨_,rfl⟩
  have jh : Only (λk=>k = w1.heap.size) w6 u3:=by rw [← hu3];exact kT (Only.refl _ _) (.inl rfl)
  rw [hu3] at bq
  have g0:=bq.cell 0;have g1:=bq.cell 1;have g2:=bq.cell 2;simp at g0 g1 g2
  have HF : Hid (Only S w u3 /\ ∃ S',dH u3 C c (wJ c x loc zs) S' /\ ∀ k,S' k -> S k \/ w.heap.size <= k):=ah6 ⟨((Only.of_below (S:=S) HB.out).trans hO).aU jh (λi hi e=>absurd (e ▸ hi) (Nat.lt_asymm dz.out)),S',hA.only jh (λk hk e=>by
   subst e
   rcases hS' _ hk with h | h
   ·exact kV h
   ·exact Nat.lt_irrefl _ (Nat.lt_of_lt_of_le dR.out.lt h)),λk hk=>(hS' k hk).imp id (λh=>Nat.le_trans HB.out.size h)⟩
  clear hA hO aS jh bq ar kV hS'
  go_wp2_with fail
  exact bodyPost_ret (v:=.tuple #[.agg #[.bool false,.int .i64 0,.slice none 0 0],.int .i64 er]) (by simp [results,Tryz.results24,go_sem,g0,g1,g2]) rfl ⟨_,er,rfl,HF.out.1,.inl ⟨rfl,rfl,HF.out.2⟩⟩
 by_cases h1 : kd = 1
 ·subst h1
  have lk:=Vb Im;have ar:=Z0 C c zl hcc x S 1 loc hloc a len cap w5 HA.out;clear Im hc hlc hl hL h0
  go_enter Tryz.func24,Tryz.ntmps24
  go_wp2_with fail
  refine ar.mono ?_
  rintro e w6 ⟨v,rfl,hV,hO⟩
  unfold KO at hV
  rcases hV with ⟨hL,rfl,hA⟩ | ⟨hL,s,cp,rfl,hP,hA⟩
  ·have HL:=ah6 hL
   have kV : ¬ S w1.heap.size:=λh=>Nat.lt_irrefl _ (Nat.lt_trans (HS.out _ h) dz.out)
   have aS : ak w6 w1.heap.size #[.bool false,.int .i64 0,.slice none 0 0] 49:=hO.blk dR.out kV
   have f0:=aS.free 0;have f1:=aS.free 1;have f2:=aS.free 2;have x0:=aS.cell 0;have x1:=aS.cell 1;have x2:=aS.cell 2;simp at x0 x1 x2;have bq:=fA (v0:=.bool false) (v1:=.int .i64 0) (v2:=.slice none 0 0) aS
   obtain ⟨u3,hu3⟩ : ∃ u,((w6.setCell ⟨w1.heap.size,0,none⟩ (.bool false)).setCell ⟨w1.heap.size,1,none⟩ (.int .i64 0)).setCell ⟨w1.heap.size,2,none⟩ (.slice none 0 0) = u:=⟨_,rfl⟩
   have jh : Only (λk=>k = w1.heap.size) w6 u3:=by rw [← hu3];exact kT (Only.refl _ _) (.inl rfl)
   rw [hu3] at bq
   have g0:=bq.cell 0;have g1:=bq.cell 1;have g2:=bq.cell 2;simp at g0 g1 g2
   have HF : Hid (Only S w u3 /\ dH u3 C c x S):=ah6 ⟨((Only.of_below (S:=S) HB.out).trans hO).aU jh (λi hi e=>absurd (e ▸ hi) (Nat.lt_asymm dz.out)),hA.only jh (λk hk e=>kV (e ▸ hk))⟩
   clear hA hO aS jh bq ar kV hL
   go_wp2_with fail
   exact bodyPost_ret (v:=.tuple #[.agg #[.bool false,.int .i64 0,.slice none 0 0],.int .i64 0]) (by simp [results,Tryz.results24,go_sem,g0,g1,g2]) rfl ⟨_,0,rfl,HF.out.1,.inr (.inl ⟨rfl,.inl ⟨HL.out,rfl,HF.out.2⟩⟩)⟩
  ·have HL:=ah6 hL
   obtain ⟨au,hat⟩ : ∃ a,(iy c x.cs loc).au = a:=⟨_,rfl⟩
   rw [hat] at hP ⊢
   obtain ⟨sn,hsn⟩ : ∃ n,kN c au x.ss = n:=⟨_,rfl⟩
   rw [hsn] at hP ⊢
   have HAT:=ah6 hat;have Gs:=ah6 hsn;clear hat hsn
   have kV : ¬ S w1.heap.size:=λh=>Nat.lt_irrefl _ (Nat.lt_trans (HS.out _ h) dz.out)
   have aS : ak w6 w1.heap.size #[.bool false,.int .i64 0,.slice none 0 0] 49:=hO.blk dR.out kV
   have f0:=aS.free 0;have f1:=aS.free 1;have f2:=aS.free 2;have x0:=aS.cell 0;have x1:=aS.cell 1;have x2:=aS.cell 2;simp at x0 x1 x2;have bq:=fA (v0:=.bool true) (v1:=.int .i64 au) (v2:=.slice s sn cp) aS
   obtain ⟨u3,hu3⟩ : ∃ u,((w6.setCell ⟨w1.heap.size,0,none⟩ (.bool true)).setCell ⟨w1.heap.size,1,none⟩ (.int .i64 au)).setCell ⟨w1.heap.size,2,none⟩ (.slice s sn cp) = u:=⟨_,rfl⟩
   have jh : Only (λk=>k = w1.heap.size) w6 u3:=by rw [← hu3];exact kT (Only.refl _ _) (.inl rfl)
   rw [hu3] at bq
   have g0:=bq.cell 0;have g1:=bq.cell 1;have g2:=bq.cell 2;simp at g0 g1 g2
   have HF : Hid (Only S w u3 /\ dY u3 s sn (kP c au x.ss) /\ dH u3 C c { x with cs:=iy c x.cs loc } S):=ah6 ⟨((Only.of_below (S:=S) HB.out).trans hO).aU jh (λi hi e=>absurd (e ▸ hi) (Nat.lt_asymm dz.out)),Cm hP aS rfl jh,hA.only jh (λk hk e=>kV (e ▸ hk))⟩
   clear hA hO aS jh bq ar kV hL hP
   go_wp2_with fail
   exact bodyPost_ret (v:=.tuple #[.agg #[.bool true,.int .i64 au,.slice s sn cp],.int .i64 0]) (by simp [results,Tryz.results24,go_sem,g0,g1,g2]) rfl ⟨_,0,rfl,HF.out.1,.inr (.inl ⟨rfl,.inr ⟨HL.out,s,cp,by rw [HAT.out,Gs.out],by rw [HAT.out,Gs.out];exact HF.out.2.1,HF.out.2.2⟩⟩)⟩
 ·obtain ⟨z,lk⟩:=Vd Im h0 h1
  have HK : Hid (kd ≠ 0 /\ kd ≠ 1):=ah6 ⟨h0,h1⟩
  have kV : ¬ S w1.heap.size:=λh=>Nat.lt_irrefl _ (Nat.lt_trans (HS.out _ h) dz.out)
  have aS : ak w5 w1.heap.size #[.bool false,.int .i64 0,.slice none 0 0] 49:=dR.out
  have f0:=aS.free 0;have f1:=aS.free 1;have f2:=aS.free 2;have x0:=aS.cell 0;have x1:=aS.cell 1;have x2:=aS.cell 2;simp at x0 x1 x2;have bq:=fA (v0:=.bool false) (v1:=.int .i64 0) (v2:=.slice none 0 0) aS
  obtain ⟨u3,hu3⟩ : ∃ u,((w5.setCell ⟨w1.heap.size,0,none⟩ (.bool false)).setCell ⟨w1.heap.size,1,none⟩ (.int .i64 0)).setCell ⟨w1.heap.size,2,none⟩ (.slice none 0 0) = u:=⟨_,rfl⟩
  have jh : Only (λk=>k = w1.heap.size) w5 u3:=by rw [← hu3];exact kT (Only.refl _ _) (.inl rfl)
  rw [hu3] at bq
  have g0:=bq.cell 0;have g1:=bq.cell 1;have g2:=bq.cell 2;simp at g0 g1 g2
  have HF : Hid (Only S w u3 /\ dH u3 C c x S):=ah6 ⟨(Only.of_below (S:=S) HB.out).aU jh (λi hi e=>absurd (e ▸ hi) (Nat.lt_asymm dz.out)),HA.out.only jh (λk hk e=>kV (e ▸ hk))⟩
  clear Im hc hlc hl hL h0 h1 aS jh bq kV
  go_enter Tryz.func24,Tryz.ntmps24
  go_wp2_with fail
  exact bodyPost_ret (v:=.tuple #[.agg #[.bool false,.int .i64 0,.slice none 0 0],.int .i64 11]) (by simp [results,Tryz.results24,go_sem,g0,g1,g2]) rfl ⟨_,11,rfl,HF.out.1,.inr (.inr ⟨HK.out.1,HK.out.2,rfl,HF.out.2⟩)⟩
end Go.Proofs.YtklkooeimkedgaaGreat
namespace Go.Proofs.YtklkooeimkedgaaGreat
open Go.RowKit
def mP (x : aA) : Rec:=⟨0,x.id,x.px,x.py,x.pz,x.vx,x.vy,x.vz,x.aI⟩
theorem FC : ∀ (es : List aA) (out : List Rec),(∀ e ∈ es,e.gen = 0) -> fT [] out es = some ([],out ++ es.map mP)
 | [],out,_=>by simp [fT]
 | x :: es,out,h=>by
   have h1 : qI [] out x = some ([],out ++ [mP x]):=by
    unfold qI
    simp only [eX,List.find?_nil]
    rw [if_pos (h x (List.mem_cons_self ..))]
    rfl
   rw [fT,h1]
   simp only
   rw [FC es _ (λe he=>h e (List.mem_cons_of_mem _ he))]
   simp
theorem Vf (es : List aA) : (es.map mP).map (·.id) = es.map (·.id):=by rw [List.map_map];rfl
theorem Ox {es : List aA} (h : es.Pairwise (λa b=>a.id < b.id)) : mg ([],es.map mP) = es.map mP:=by
 unfold mg
 simp only [List.map_nil,List.append_nil]
 refine (M0 (List.Perm.refl _) ?_ ?_).symm
 ·exact List.pairwise_map.2 (h.imp (λh=>by show _ <= _;exact Int.le_of_lt h))
 ·rw [Vf];exact zW h
theorem Ej {s : Sn} (h : oZ s) (hg : ∀ e ∈ s.ents,e.gen = 0) : j6 s = (⟨s.tick,s.time,-1,s.ents.map mP⟩,0):=by
 unfold j6
 rw [if_neg (by rw [jL.2 h];simp),FC _ _ hg]
 simp only [List.nil_append]
 rw [Ox h.up]
theorem FE : ∀ (es l : List aA),(∀ e ∈ es,e.gen = 0) -> ((l ++ es).map (·.id)).Nodup -> kS l (es.map mP) = some (l ++ es)
 | [],l,_,_=>by simp [kS]
 | x :: es,l,hg,hn=>by
   have hx : eX l x.id = none:=by
    unfold eX
    rw [List.find?_eq_none]
    intro e he hh
    have heq : e.id = x.id:=by simpa using hh
    rw [List.map_append,List.map_cons] at hn
    exact (List.nodup_append.1 hn).2.2 e.id (List.mem_map_of_mem he) x.id (List.mem_cons_self ..) heq
   have h1 : iX l (mP x) = some (l ++ [x]):=by
    have hp : fF l ⟨x.id,x.px,x.py,x.pz,x.vx,x.vy,x.vz,x.aI,0⟩ = l ++ [x]:=by
     unfold fF
     simp only [hx]
     have:=hg x (List.mem_cons_self ..)
     obtain ⟨a,b,c,d,e,f,g,i,j⟩:=x
     simp only at this
     subst this
     simp
    unfold iX
    show (match eX l x.id with | some y=>_ | none=>_) = _
    rw [hx]
    simp only [mP]
    rw [if_pos trivial,hp]
   rw [List.map_cons,kS,h1]
   simp only
   rw [FE es (l ++ [x]) (λe he=>hg e (List.mem_cons_of_mem _ he)) (by simpa using hn)]
   simp
theorem Sy {es : List aA} (h : es.Pairwise (λa b=>a.id < b.id)) : uM es = es :=
 (F7 (List.Perm.refl _) (h.imp (λh=>Int.le_of_lt h)) (zW h)).symm
def kg (s : Sn) : List Int:=if nZ (j6 s).1 = 0 then xG (j6 s).1 else []
structure iZ (s : Sn) : Prop where
 good : oZ s
 gen : ∀ e ∈ s.ents,e.gen = 0
 ok : ∀ e ∈ s.ents,e.Ok
 wr : nZ (j6 s).1 = 0
theorem iZ.rd {s : Sn} (h : iZ s) : bD (kg s) = (⟨s.tick,s.time,-1,s.ents.map mP⟩,0):=by
 have hw:=h.wr
 unfold kg
 rw [if_pos hw]
 rw [Ej h.good h.gen] at hw ⊢
 refine W9 hw (λr hr=>?_)
 obtain ⟨e,he,rfl⟩:=List.mem_map.1 hr
 have ho:=h.ok e he
 exact ⟨⟨bA,ho.id,ho.px,ho.py,ho.pz,ho.vx,ho.vy,ho.vz,ho.aI⟩,by simp [mP]⟩
theorem iZ.ap {s : Sn} (h : iZ s) (a : Sn) : jv a ⟨s.tick,s.time,-1,s.ents.map mP⟩ = (s,0):=by
 have hw:=h.wr
 rw [Ej h.good h.gen] at hw
 have hb : dA ⟨s.tick,s.time,-1,s.ents.map mP⟩ = 0:=by
  unfold nZ at hw
  split at hw
  ·rename_i hh;exact absurd hw hh
  ·rename_i hh;exact Decidable.of_not_not hh
 unfold jv
 rw [if_neg (by simpa using hb),if_neg (by simp)]
 unfold fC
 simp only
 rw [FE s.ents [] h.gen (by simpa using zW h.good.up)]
 simp only [List.nil_append]
 rw [if_neg (by have:=h.good.len;omega),Sy h.good.up]
theorem iZ.snap {s : Sn} (h : iZ s) (most : Int) (r : Rg) : fQ most r (kg s) =
 if eB (r.ss.map iR) s.tick = true then (dI,12) else if iK (r.ss.map iR) most r.floor r.gone s.tick = true then (dI,13) else (s,if fI (r.ss.map iR) s.tick s.time = false then 16 else 0):=by
 unfold fQ dQ
 rw [h.rd]
 simp only [ne_eq,not_true_eq_false,if_false]
 rw [h.ap]
 unfold rZ
 by_cases h1 : eB (r.ss.map iR) s.tick = true
 ·simp [h1]
 ·by_cases h2 : iK (r.ss.map iR) most r.floor r.gone s.tick = true
  ·simp [h1,h2]
  ·simp [h1,h2]
theorem Vg {ss : List Sn} {key : Int} (h : ∀ s ∈ ss,s.tick < key) : dW (ss.map iR) key = ss.length:=by
 have:=Ke (l:=ss.map iR) (key:=key) (λk hk=>by
  obtain ⟨s,hs,rfl⟩:=List.mem_map.1 hk
  exact h s hs)
 rwa [List.length_map] at this
theorem KV {ss : List Sn} {key : Int} (h : ∀ s ∈ ss,s.tick < key) : eB (ss.map iR) key = false :=
 Uu (λk hk=>by
  obtain ⟨s,hs,rfl⟩:=List.mem_map.1 hk
  exact h s hs)
theorem iZ.Vh {s : Sn} (h : iZ s) {most : Int} {ss : List Sn} {floor : Int} (h1 : ∀ x ∈ ss,x.tick < s.tick) (h2 : ∀ x ∈ ss,x.time < s.time) (hl : (ss.length : Int) < most) : fQ most ⟨ss,floor,false⟩ (kg s) = (s,0):=by
 rw [h.snap]
 have hu : d9 (ss.map iR) s.tick = ss.length:=by unfold d9;rw [KV h1,Vg h1];simp
 have hs : iK (ss.map iR) most floor false s.tick = false:=by
  unfold iK
  have : ¬ (ss.length : Int) = most:=by omega
  simp [this]
 have ht : fI (ss.map iR) s.tick s.time = true:=by
  unfold fI
  rw [hu]
  have a2 : fu (ss.map iR) (ss.length : Int) = none:=by
   unfold fu
   rw [if_neg (by omega)]
   exact List.getElem?_eq_none (by simp)
  rw [a2]
  simp only [sQ]
  by_cases hn : ss.length = 0
  ·have a1 : fu (ss.map iR) ((ss.length : Int) - 1) = none:=by unfold fu;rw [if_pos (by omega)]
   rw [a1];simp [sQ]
  ·have hi : ss.length - 1 < ss.length:=by omega
   have a1 : fu (ss.map iR) ((ss.length : Int) - 1) = some (iR ss[ss.length - 1]):=by
    unfold fu
    rw [if_neg (by omega),show ((ss.length : Int) - 1).toNat = ss.length - 1 by omega,List.getElem?_map,List.getElem?_eq_getElem hi];rfl
   rw [a1]
   have:=h2 _ (List.getElem_mem hi)
   simp [sQ,mX,iR,this]
 simp only
 rw [KV h1,hs,ht]
 simp
theorem M4 {c : aN} {x : iA} {s : Sn} (hc : dF c = 0) (h : iZ s) (hg : x.gone = false) (h1 : ∀ y ∈ x.ss,y.tick < s.tick) (h2 : ∀ y ∈ x.ss,y.time < s.time) (hl : (x.ss.length : Int) < c.ring) (loc : Int) :
 Ed c x (kg s) = 0 /\ KE c x (kg s) /\ wJ c x loc (kg s) = ⟨x.ss ++ [s],x.floor,false,uY c x.cs (aM loc s.time)⟩:=by
 have hs : fQ c.ring x.rg (kg s) = (s,0):=by
  have:=h.Vh (most:=c.ring) (ss:=x.ss) (floor:=x.floor) h1 h2 hl
  rw [← hg] at this
  exact this
 refine ⟨by unfold Ed;rw [hs],Fw hc (Int.le_of_lt hl),?_⟩
 unfold wJ
 rw [hs,if_pos rfl]
 have hin : ji x.ss s = x.ss ++ [s]:=Ko h1
 have hle : ((ji x.ss s).length : Int) <= c.ring:=by rw [hin];simp;omega
 unfold jD
 simp only [iA.rg]
 rw [if_pos hle,hin,hg]
theorem Co {tick time : Int} {e : aA} (h1 : 0 <= tick /\ tick <= 4294967295) (h2 : -2305843009213693952 <= time /\ time <= 2305843009213693952) (hi : 0 <= e.id /\ e.id <= 65535) (ho : e.Ok) (hg : e.gen = 0) : iZ ⟨tick,time,[e]⟩:=by
 have good : oZ ⟨tick,time,[e]⟩:=⟨h1,h2,by simp,λx hx=>by simp at hx;subst hx;exact hi,List.pairwise_singleton _ _⟩
 have gen : ∀ x ∈ (⟨tick,time,[e]⟩ : Sn).ents,x.gen = 0:=λx hx=>by simp at hx;subst hx;exact hg
 refine ⟨good,gen,λx hx=>by simp at hx;subst hx;exact ho,?_⟩
 rw [Ej good gen]
 have hr : (mP e).Ok:=⟨bA,ho.id,ho.px,ho.py,ho.pz,ho.vx,ho.vy,ho.vz,ho.aI⟩
 have hw : gU (mP e) (-1) = 0:=by
  have hc : dJ (mP e) = 0:=by
   unfold dJ mP
   simp only
   rw [if_neg (by omega),if_neg (by omega),if_neg (by simp)]
  unfold gU
  rw [if_neg (by rw [hc];simp),if_neg (by omega),if_neg (by simp [mP];omega)]
 have hh : gZ tick time (-1) 1 = 0:=by
  unfold gZ
  rw [if_neg (by omega),if_neg (by omega),if_neg (by omega)]
 have hb : dA ⟨tick,time,-1,[mP e]⟩ = 0:=by
  unfold dA
  simp only [List.length_singleton]
  rw [if_neg (by simpa using hh)]
  unfold lY
  rw [if_neg (by rw [hw];simp)]
  rfl
 have hlen : (jr ⟨tick,time,-1,[mP e]⟩).length <= 124:=by
  unfold jr
  have a:=GI tick time (-1) 1 hh;have b:=EL hr hw
  rw [List.length_append]
  simp only [List.length_singleton,kR,List.append_nil]
  omega
 simp only [List.map_cons,List.map_nil]
 unfold nZ
 rw [if_neg (by rw [hb];simp),if_neg (by omega)]
end Go.Proofs.YtklkooeimkedgaaGreat
namespace Go.Proofs.YtklkooeimkedgaaGreat
open Go.RowKit
structure jc (ss : List Sn) : Prop where
 good : ∀ s ∈ ss,oZ s
 time : ss.Pairwise (λa b=>a.time < b.time)
theorem x9 {K T : Nat -> Int} {E : Nat -> Option Addr × Nat × Nat} {EE : Nat -> Nat -> aA} : ∀ (n i : Nat),(∀ j,i <= j -> j < i + n -> dw (K j) (T j) (E j).2.1 (EE j) = 0) -> nR K T E EE n i = 0
 | 0,_,_=>rfl
 | n + 1,i,h=>by
   unfold nR
   rw [if_pos (h i (Nat.le_refl _) (by omega))]
   exact x9 n (i + 1) (λj h1 h2=>h j (by omega) (by omega))
theorem sF {T : Nat -> Int} : ∀ (n i : Nat),(∀ j,i <= j -> j < i + n -> (-2305843009213693952 <= T j /\ T j <= 2305843009213693952) /\ (0 < j -> T (j - 1) < T j)) -> mo T n i = 0
 | 0,_,_=>rfl
 | n + 1,i,h=>by
   have h0:=h i (Nat.le_refl _) (by omega)
   unfold mo
   rw [if_neg (by omega),if_neg (by intro hh;have:=h0.2 hh.1;omega)]
   exact sF n (i + 1) (λj h1 h2=>h j (by omega) (by omega))
section
variable {ss : List Sn}
theorem getD_lt {i : Nat} (h : i < ss.length) : ss.getD i dI = ss[i]:=by simp [List.getD,h]
theorem jc.snap (h : jc ss) {i : Nat} (hi : i < ss.length) : dw (uJ ss i) (dS ss i) (rD ss i).2.1 (jk ss i) = 0:=by
 have:=jL.2 (h.good _ (List.getElem_mem hi))
 unfold fV at this
 unfold uJ dS rD jk
 rw [getD_lt hi]
 exact this
theorem jc.mono (h : jc ss) {i j : Nat} (hij : i < j) (hj : j < ss.length) : dS ss i < dS ss j:=by
 unfold dS
 rw [getD_lt hj,getD_lt (show i < ss.length by omega)]
 exact List.pairwise_iff_getElem.1 h.time i j (by omega) hj hij
theorem jc.bound (h : jc ss) {i : Nat} (hi : i < ss.length) : -2305843009213693952 <= dS ss i /\ dS ss i <= 2305843009213693952:=by
 unfold dS
 rw [getD_lt hi]
 exact (h.good _ (List.getElem_mem hi)).time
theorem jc.eu (h : jc ss) : eu (dS ss) ss.length = 0 :=
 sF _ _ (λj _ hj=>⟨h.bound (by omega),λhp=>h.mono (by omega) (by omega)⟩)
theorem jc.gD (h : jc ss) {c : aN} (hc : dF c = 0) : gD c (uJ ss) (dS ss) (rD ss) (jk ss) ss.length = 0:=by
 unfold Go.Proofs.YtklkooeimkedgaaGreat.gD
 rw [if_pos hc]
 exact x9 _ _ (λj _ hj=>h.snap (by omega))
theorem XL {a t : Int} (h : -2305843009213693952 <= a /\ a <= 2305843009213693952) : kX a t = if t < a then 3 else 0:=by
 unfold kX
 have h0 : Go.Proofs.YtklkooeimkedgaaGreat.eu (λ_=>a) 1 = 0:=sF _ _ (λj _ hj=>⟨h,λhp=>by omega⟩)
 rw [if_pos h0]
theorem Sz (h : jc ss) {c : aN} (hc : dF c = 0) {t : Int} (hm : bE (dS ss) t ss.length = 0) : kN c t ss = 0:=by
 have hE : Ck c t ss = 5:=by
  unfold Ck rC
  rw [if_pos (h.gD hc)]
  have hp : iN (dS ss) t ss.length = 5:=by unfold iN;rw [if_pos h.eu,if_pos hm]
  rw [if_neg (by rw [hp];decide),hp]
 unfold kN Ci
 rw [show rC c t (uJ ss) (dS ss) (rD ss) (jk ss) ss.length = 5 from hE,if_neg (by decide)]
theorem KW (h : jc ss) {t : Int} (hm : bE (dS ss) t ss.length ≠ 0) : iN (dS ss) t ss.length = 0 /\ cO (dS ss) t ss.length = bE (dS ss) t ss.length - 1:=by
 constructor
 ·unfold iN;rw [if_pos h.eu,if_neg hm]
 ·unfold cO pF;rw [if_pos h.eu,if_neg hm];omega
theorem SE (h : jc ss) {c : aN} (hc : dF c = 0) {t : Int} (hm : bE (dS ss) t ss.length ≠ 0) (hl : bE (dS ss) t ss.length = ss.length) :
 kN c t ss = (ss.getD (ss.length - 1) dI).ents.length /\ kP c t ss = AY (xw c (aM t (dS ss (ss.length - 1)))) (xA c (aM t (dS ss (ss.length - 1)))) (jk ss (ss.length - 1)):=by
 obtain ⟨hp,ha⟩:=KW h hm
 have hb : iV (dS ss) t ss.length = -1:=by unfold iV;rw [if_pos h.eu,if_neg hm,if_pos hl]
 rw [hl] at ha
 have hlt : ss.length - 1 < ss.length:=by omega
 have hE : Ck c t ss = 0:=by
  unfold Ck rC
  rw [if_pos (h.gD hc),if_pos hp,if_pos (by rw [hb];decide),ha]
  have hk:=h.snap hlt
  have h1 : lQ c (uJ ss (ss.length - 1)) (dS ss (ss.length - 1)) (rD ss (ss.length - 1)).1 (rD ss (ss.length - 1)).2.1 (rD ss (ss.length - 1)).2.2 (jk ss (ss.length - 1)) = 0:=by
   unfold lQ Go.Proofs.YtklkooeimkedgaaGreat.gD
   rw [if_pos hc]
   exact x9 _ _ (λj _ _=>hk)
  unfold nT
  rw [if_pos h1,XL (h.bound hlt)]
  have:=yu hm
  rw [hl] at this
  rw [if_neg (by omega)]
 constructor
 ·unfold kN Ci
  rw [show rC c t (uJ ss) (dS ss) (rD ss) (jk ss) ss.length = 0 from hE,if_pos rfl,ha]
  rfl
 ·unfold kP Ij
  rw [if_pos (by rw [hb];decide),ha]
theorem Vi (h : jc ss) {c : aN} (hc : dF c = 0) {t : Int} {m : Nat} (hm : bE (dS ss) t ss.length = m + 1) (hl : m + 1 < ss.length) :
 kN c t ss = (ss.getD m dI).ents.length /\ kP c t ss = zH c.aB (jk ss m) (jk ss (m + 1)) (ss.getD (m + 1) dI).ents.length (t - dS ss m) (dS ss (m + 1) - dS ss m):=by
 have hm0 : bE (dS ss) t ss.length ≠ 0:=by omega
 obtain ⟨hp,ha⟩:=KW h hm0
 have hb : iV (dS ss) t ss.length = ((m + 1 : Nat) : Int):=by
  unfold iV;rw [if_pos h.eu,if_neg hm0,if_neg (by omega),hm]
 have hbs : jg (dS ss) t ss.length = m + 1:=by unfold jg;rw [hb];rfl
 rw [hm] at ha
 simp only [Nat.add_sub_cancel] at ha
 have h1 : dS ss m <= t:=by have:=yu hm0;rw [hm] at this;simpa using this
 have h2 : t < dS ss (m + 1):=by
  have key : ∀ n,m + 1 < n -> bE (dS ss) t n = m + 1 -> t < dS ss (m + 1):=by
   intro n
   induction n with
   | zero=>intro a;omega
   | succ n ih =>
     intro a b
     rw [bE] at b
     split at b
     ·omega
     ·rename_i hh
      by_cases e : n = m + 1
      ·subst e;omega
      ·exact ih (by omega) b
  exact key _ hl hm
 have hE : Ck c t ss = 0:=by
  unfold Ck rC
  rw [if_pos (h.gD hc),if_pos hp,if_neg (by rw [hb];omega),ha,hbs]
  have hc2 : nu c (uJ ss m) (dS ss m) (rD ss m).1 (rD ss m).2.1 (rD ss m).2.2 (jk ss m) (uJ ss (m + 1)) (dS ss (m + 1)) (rD ss (m + 1)).1 (rD ss (m + 1)).2.1 (rD ss (m + 1)).2.2 (jk ss (m + 1)) = 0:=by
   unfold nu Go.Proofs.YtklkooeimkedgaaGreat.gD
   rw [if_pos hc]
   refine x9 _ _ (λj _ hj=>?_)
   rcases (show j = 0 \/ j = 1 by omega) with rfl | rfl
   ·exact h.snap (show m < ss.length by omega)
   ·exact h.snap hl
  unfold nS
  rw [if_pos hc2]
  unfold jl
  have ht2 : Go.Proofs.YtklkooeimkedgaaGreat.eu (two (dS ss m) (dS ss (m + 1))) 2 = 0:=sF _ _ (λj _ hj=>by
   rcases (show j = 0 \/ j = 1 by omega) with rfl | rfl
   ·exact ⟨h.bound (show m < ss.length by omega),λhp=>by omega⟩
   ·exact ⟨h.bound hl,λ_=>h.mono (by omega) hl⟩)
  rw [if_pos ht2,if_neg (by omega)]
 constructor
 ·unfold kN Ci
  rw [show rC c t (uJ ss) (dS ss) (rD ss) (jk ss) ss.length = 0 from hE,if_pos rfl,ha]
  rfl
 ·unfold kP Ij
  rw [if_neg (by rw [hb];omega),ha,hbs]
  rfl
end
end Go.Proofs.YtklkooeimkedgaaGreat
namespace Go.Proofs.YtklkooeimkedgaaGreat
open Go.RowKit
structure agS (own : List Sn) : Prop where
 tell : ∀ s ∈ own,iZ s
 up : own.Pairwise (λa b=>a.tick < b.tick /\ a.time < b.time)
 len : own.length <= 8
structure agT (own : List Sn) : Prop where
 tell : ∀ s ∈ own,iZ s
 up : own.Pairwise (λa b=>a.tick < b.tick /\ a.time < b.time)
end Go.Proofs.YtklkooeimkedgaaGreat
namespace Go.Proofs.YtklkooeimkedgaaGreat
open Go.RowKit
def Gi (ss : List Sn) : Prop:=ss.Pairwise (λa b=>a.time < b.time)
theorem aal {ss a b : List Sn} {x : Sn} (h : Gi ss) (he : a ++ b = ss) (ha : ∀ y,a.getLast? = some y -> y.time < x.time) (hb : ∀ y,b.head? = some y -> x.time < y.time) : Gi (a ++ x :: b):=by
 subst he
 have hp:=List.pairwise_append.1 h
 have ha' : ∀ y ∈ a,y.time < x.time:=λy hy=>by
  obtain ⟨z,hz⟩ : ∃ z,a.getLast? = some z:=by
   cases hl : a.getLast? with
   | none=>rw [List.getLast?_eq_none_iff] at hl;subst hl;cases hy
   | some z=>exact ⟨z,rfl⟩
  obtain ⟨a',rfl⟩ : ∃ a',a = a' ++ [z]:=by
   obtain ⟨hne,e⟩:=List.getLast?_eq_some_iff.1 hz
   exact ⟨hne,e⟩
  have hz2:=ha z hz
  rcases List.mem_append.1 hy with h1 | h1
  ·have:=(List.pairwise_append.1 hp.1).2.2 y h1 z (List.mem_singleton.2 rfl)
   exact Int.lt_trans this hz2
  ·rw [List.mem_singleton.1 h1];exact hz2
 have hb' : ∀ y ∈ b,x.time < y.time:=λy hy=>by
  cases b with
  | nil=>cases hy
  | cons z b =>
    have hz:=hb z rfl
    rcases List.mem_cons.1 hy with rfl | h1
    ·exact hz
    ·exact Int.lt_trans hz ((List.pairwise_cons.1 hp.2.1).1 y h1)
 refine List.pairwise_append.2 ⟨hp.1,List.pairwise_cons.2 ⟨hb',hp.2.1⟩,λy hy z hz=>?_⟩
 rcases List.mem_cons.1 hz with rfl | hz
 ·exact ha' y hy
 ·exact hp.2.2 y hy z hz
theorem SF {ss : List Sn} {x : Sn} (hu : Gi ss) (hh : eB (ss.map iR) x.tick = false) (ht : fI (ss.map iR) x.tick x.time = true) : Gi (ji ss x):=by
 have hs : ss.takeWhile (λs=>decide (s.tick < x.tick)) ++ ss.dropWhile (λs=>decide (s.tick < x.tick)) = ss:=List.takeWhile_append_dropWhile
 unfold fI d9 at ht
 rw [hh] at ht
 simp only [Bool.false_eq_true,if_false] at ht
 rw [KD] at ht
 unfold ji
 generalize ss.takeWhile (λs=>decide (s.tick < x.tick)) = a at *
 generalize ss.dropWhile (λs=>decide (s.tick < x.tick)) = b at *
 have h1:=Bool.and_eq_true_iff.1 ht
 refine aal hu hs (λy hy=>?_) (λy hy=>?_)
 ·obtain ⟨a',e⟩:=List.getLast?_eq_some_iff.1 hy
  have hat : fu (ss.map iR) ((a.length : Int) - 1) = some (iR y):=by
   unfold fu
   rw [if_neg (by rw [e];simp),← hs,e]
   have : (((a' ++ [y]).length : Int) - 1).toNat = a'.length:=by simp
   rw [this];simp
  rw [hat] at h1
  have h2:=h1.1
  simp [sQ,mX,iR] at h2
  exact (by first | exact h2 | exact of_decide_eq_true h2)
 ·obtain ⟨b',rfl⟩ : ∃ b',b = y :: b':=by
   cases b with
   | nil=>simp at hy
   | cons z b=>simp at hy;subst hy;exact ⟨_,rfl⟩
  have hat : fu (ss.map iR) (a.length : Int) = some (iR y):=by
   unfold fu
   rw [if_neg (by omega),← hs]
   simp
  rw [hat] at h1
  have h2:=h1.2
  simp [sQ,mX,iR] at h2
  exact (by first | exact h2 | exact of_decide_eq_true h2)
structure sG (x : iA) (n : Nat) : Prop where
 good : ∀ s ∈ x.ss,oZ s
 time : Gi x.ss
 len : x.cs.L.length <= n
theorem sG.show {x : iA} {n : Nat} (h : sG x n) : jc x.ss:=⟨h.good,h.time⟩
theorem Vj (c : aN) : sG (uI c) 0:=⟨λs hs=>(by cases hs),List.Pairwise.nil,by simp [uI,cs0]⟩
theorem sG.succ {x : iA} {n : Nat} (h : sG x n) : sG x (n + 1):=⟨h.good,h.time,Nat.le_succ_of_le h.len⟩
theorem sG.arr {c : aN} {x : iA} {n : Nat} (h : sG x n) (loc : Int) (zs : List Int) : sG (wJ c x loc zs) (n + 1):=by
 unfold wJ
 split
 ·rename_i h0
  have h0' : (dQ (x.ss.map iR) c.ring x.floor x.gone zs).2 = 0:=h0
  have h1:=xW h0';have hgd:=Fv h0';have h2:=Ce h1.2.1
  have h3 : (dQ (x.ss.map iR) c.ring x.floor x.gone zs).1.tick = (bD zs).1.tick:=by
   rw [h1.2.2.2.1];exact (zR h1.2.2.1).2.1
  have hti:=h1.2.2.2.2
  rw [← h3] at h2
  have hins:=SF h.time h2.1 hti
  refine ⟨λs hs=>?_,?_,?_⟩
  ·rcases Ig hs with rfl | hs
   ·exact hgd
   ·exact h.good s hs
  ·show Gi (jD c.ring x.rg (fQ c.ring x.rg zs).1).ss
   unfold jD
   split
   ·exact hins
   ·exact List.Pairwise.sublist (List.drop_sublist _ _) hins
  ·show (uY c x.cs _).L.length <= n + 1
   unfold uY
   simp only [List.length_append,List.length_singleton]
   exact Nat.succ_le_succ h.len
 ·exact h.succ
theorem sG.iy {c : aN} {x : iA} {n : Nat} (h : sG x n) (loc : Int) : sG { x with cs:=iy c x.cs loc } (n + 1):=by
 refine ⟨h.good,h.time,?_⟩
 show (Go.Proofs.YtklkooeimkedgaaGreat.iy c x.cs loc).L.length <= n + 1
 unfold Go.Proofs.YtklkooeimkedgaaGreat.iy
 exact Nat.le_succ_of_le h.len
end Go.Proofs.YtklkooeimkedgaaGreat
namespace Go.Proofs.YtklkooeimkedgaaGreat
open Go.RowKit
theorem Oy {c : aN} (hc : dF c = 0) : 0 <= c.extra /\ c.extra <= 2305843009213693952:=by
 unfold dF at hc
 split at hc
 ·split at hc
  ·contradiction
  ·split at hc
   ·rename_i h3
    simp only [Bool.and_eq_true] at h3
    have:=h3.2
    unfold pW at this
    simpa using this
   ·exact absurd hc (by decide)
 ·exact absurd hc (by decide)
theorem KX {E : Nat -> aA} {len : Nat} (h : ∀ i j,i < j -> j < len -> (E i).id < (E j).id) {k : Nat} (hk : k < len) : ∀ n i,i <= k -> k < i + n -> i + n <= len -> jE E (E k).id n i = k
 | 0,i,h1,h2,_=>by omega
 | n + 1,i,h1,h2,h3=>by
   rw [jE]
   by_cases e : i = k
   ·subst e;rw [if_pos rfl]
   ·have:=h i k (by omega) hk
    rw [if_neg (by omega)]
    exact KX h hk n (i + 1) (by omega) (by omega) (by omega)
theorem SG {E : Nat -> aA} {len : Nat} (h : ∀ i j,i < j -> j < len -> (E i).id < (E j).id) {k : Nat} (hk : k < len) : Dc E (E k).id len = true /\ wV E (E k).id len = E k:=by
 have:=KX h hk len 0 (by omega) (by omega) (by omega)
 unfold Dc wV
 rw [this,if_pos hk]
 exact ⟨decide_eq_true hk,rfl⟩
theorem aam {s : Sn} (h : oZ s) : ∀ i j,i < j -> j < s.ents.length -> (s.ents.getD i bK).id < (s.ents.getD j bK).id:=λi j hij hj=>by
 rw [getD_get (by omega),getD_get hj]
 exact List.pairwise_iff_getElem.1 h.up i j (by omega) hj hij
theorem Vk {ss : List Sn} (h : jc ss) {c : aN} (hc : dF c = 0) (hx : 0 <= c.extra) (hok : ∀ s ∈ ss,∀ e ∈ s.ents,e.Ok) {t : Int} (hn : kN c t ss ≠ 0) :
 ∃ m,bE (dS ss) t ss.length = m + 1 /\ m < ss.length /\ kN c t ss = (ss.getD m dI).ents.length /\ ∀ i,i < (ss.getD m dI).ents.length -> (kP c t ss i).id = (jk ss m i).id /\ ((kP c t ss i).mode = 0 -> kP c t ss i = lC (jk ss m i)):=by
 have hm : bE (dS ss) t ss.length ≠ 0:=λe=>hn (Sz h hc e)
 obtain ⟨m,hm1⟩ : ∃ m,bE (dS ss) t ss.length = m + 1:=⟨bE (dS ss) t ss.length - 1,by omega⟩
 have hle:=AP (dS ss) t ss.length
 have hml : m < ss.length:=by omega
 refine ⟨m,hm1,hml,?_⟩
 by_cases hl : m + 1 = ss.length
 ·obtain ⟨h1,h2⟩:=SE h hc hm (by omega)
  rw [show ss.length - 1 = m by omega] at h1 h2
  refine ⟨h1,λi hi=>?_⟩
  rw [h2]
  refine ⟨rfl,λh0=>?_⟩
  have hm0 : xw c (aM t (dS ss m)) = 0:=h0
  have hd : aM t (dS ss m) = 0:=by
   unfold xw at hm0
   split at hm0
   ·assumption
   ·split at hm0 <;> exact absurd hm0 (by decide)
  have he : (jk ss m i).Ok:=by
   unfold jk
   rw [getD_lt hml] at hi ⊢
   rw [getD_get hi]
   exact hok _ (List.getElem_mem hml) _ (List.getElem_mem hi)
  have hbd : xA c 0 = 0:=by unfold xA;rw [if_neg (by omega)]
  show JB (xw c (aM t (dS ss m))) (xA c (aM t (dS ss m))) (jk ss m i) = _
  rw [hm0,hd,hbd]
  exact TI he
 ·obtain ⟨h1,h2⟩:=Vi h hc hm1 (by omega)
  refine ⟨h1,λi hi=>?_⟩
  rw [h2]
  show (vN c.aB (jk ss m i) _ _ _ _).id = _ /\ ((vN c.aB (jk ss m i) _ _ _ _).mode = 0 -> vN c.aB (jk ss m i) _ _ _ _ = _)
  unfold vN
  split
  ·split
   ·exact ⟨rfl,λh=>absurd h (by show ¬ (2 : Int) = 0;decide)⟩
   ·exact ⟨rfl,λh=>absurd h (by show ¬ (1 : Int) = 0;decide)⟩
  ·exact ⟨rfl,λ_=>rfl⟩
end Go.Proofs.YtklkooeimkedgaaGreat
namespace Go.Proofs.YtklkooeimkedgaaGreat
open Go.RowKit
set_option maxRecDepth 100000
def dD : aN:=⟨8,4,0,0,0,0,0,1,1,5,false⟩
theorem rF : dD.Ok:=⟨⟨by decide,by decide⟩,⟨by decide,by decide⟩,⟨by decide,by decide⟩,⟨by decide,by decide⟩,⟨by decide,by decide⟩,⟨by decide,by decide⟩,⟨by decide,by decide⟩,⟨by decide,by decide⟩,⟨by decide,by decide⟩,⟨by decide,by decide⟩⟩
theorem lM : dF dD = 0:=by decide
theorem XM (w : World) : Calls Tryz.prog 10 #[] w λe w'=>e = .returned (aY dD) /\ Below w.heap.size w w':=by
 have HB : Hid (Below w.heap.size w (w.alloc (.cells #[.int .i64 8,.int .i64 4,.int .i64 0,.int .i64 0,.int .i64 0,.int .i64 0,.int .i64 0,.int .i64 1,.int .i64 1,.int .i64 5,.bool false] 29))):=ah6 (ah7)
 go_enter Tryz.func10,Tryz.ntmps10
 go_wp2
 exact bodyPost_ret (v:=.agg #[.int .i64 8,.int .i64 4,.int .i64 0,.int .i64 0,.int .i64 0,.int .i64 0,.int .i64 0,.int .i64 1,.int .i64 1,.int .i64 5,.bool false]) (by simp [results,Tryz.results10,go_sem]) rfl ⟨rfl,HB.out⟩
set_option maxHeartbeats 1000000 in
theorem SH (tick time : Int) (ht : ay time) (a : Option Addr) (cap : Nat) (es : List aA) (w : World) (hE : fO w a es) :
 Calls Tryz.prog 14 #[bP tick time a es.length cap] w λe w'=>∃ v,e = .returned v /\ aX w' w.heap.size v (kg ⟨tick,time,es⟩) /\ Below w.heap.size w w':=by
 have fl:=λW h=>XK tick time a cap es W h
 have HT : Hid (ay (j6 ⟨tick,time,es⟩).1.time):=ah6 (by
  unfold j6
  split
  ·exact bA
  ·split
   ·exact bA
   ·exact ht)
 have HFB : Hid (kg ⟨tick,time,es⟩ = if nZ (j6 ⟨tick,time,es⟩).1 = 0 then xG (j6 ⟨tick,time,es⟩).1 else []):=ah6 rfl
 generalize kg ⟨tick,time,es⟩ = bs at *
 generalize (j6 ⟨tick,time,es⟩).2 = er at *
 generalize (j6 ⟨tick,time,es⟩).1 = g at *
 obtain ⟨w0,hw0⟩ : ∃ w0,w.alloc (.cells #[.int .i64 tick,.int .i64 time,.slice a es.length cap] 36) = w0:=⟨_,rfl⟩
 have hB0 : Below w.heap.size w w0:=by rw [← hw0];exact ah7
 have hX0 : ak w0 w.heap.size #[.int .i64 tick,.int .i64 time,.slice a es.length cap] 36:=by rw [← hw0];exact ak.new _ _ _
 have x0:=hX0.cell 0;have x1:=hX0.cell 1;have x2:=hX0.cell 2;simp at x0 x1 x2;have fl0:=fl w0 (hE.below hB0);have HB0:=ah6 hB0;clear hE hB0 hX0 fl
 unfold bP at *
 go_enter Tryz.func14,Tryz.ntmps14
 go_wp2_with fail
 clear hw0
 refine fl0.mono ?_
 rintro e w1 ⟨v,rfl,hR,hb⟩
 clear fl0 x0 x1 x2
 obtain ⟨ra,rc,rfl,_,_⟩:=hR.recs
 obtain ⟨v1,hv1⟩ : ∃ v,w1.alloc (.cells #[.int .i64 0,.int .i64 0,.int .i64 0,.slice none 0 0] 39) = v:=⟨_,rfl⟩
 have BO : Below w1.heap.size w1 v1:=by rw [← hv1];exact ah7
 have bC : ak v1 w1.heap.size #[.int .i64 0,.int .i64 0,.int .i64 0,.slice none 0 0] 39:=by rw [← hv1];exact ak.new _ _ _
 have f0:=bC.free 0;have f1:=bC.free 1;have f2:=bC.free 2;have f3:=bC.free 3;have q0:=bC.cell 0;have q1:=bC.cell 1;have q2:=bC.cell 2;have q3:=bC.cell 3;simp at q0 q1 q2 q3;have hG:=Bn (v0:=.int .i64 g.tick) (v1:=.int .i64 g.time) (v2:=.int .i64 g.base) (v3:=.slice ra g.recs.length rc) bC;have hb4:=Bo (v0:=.int .i64 g.tick) (v1:=.int .i64 g.time) (v2:=.int .i64 g.base) (v3:=.slice ra g.recs.length rc) BO (Nat.le_refl _)
 obtain ⟨u0,hu0⟩ : ∃ u,((((v1.setCell ⟨w1.heap.size,0,none⟩ (.int .i64 g.tick)).setCell ⟨w1.heap.size,1,none⟩ (.int .i64 g.time)).setCell ⟨w1.heap.size,2,none⟩ (.int .i64 g.base)).setCell ⟨w1.heap.size,3,none⟩ (.slice ra g.recs.length rc)) = u:=⟨_,rfl⟩
 rw [hu0] at hG hb4
 have hR0:=hR.below hb4 (λj e=>(hR.1.lt j e).2)
 have Wj : qB u0 ra g.recs:=by
  obtain ⟨a',c',e,h,_⟩:=hR0.recs
  injection e with e1
  rw [e1];exact h
 have wr:=Uc g.tick g.time g.base HT.out ra rc g.recs u0 Wj;have HB1:=ah6 (HB0.out.trans ((hb.trans (hb4.mono hb.size)).mono HB0.out.size));have y0:=hG.cell 0;have y1:=hG.cell 1;have y2:=hG.cell 2;have y3:=hG.cell 3;simp at y0 y1 y2 y3
 rw [show (⟨g.tick,g.time,g.base,g.recs⟩ : Gr) = g from rfl] at wr
 rw [← HFB.out] at wr
 generalize nZ g = we at *
 unfold xJ at wr
 clear hR hb BO bC hG hb4 hR0 Wj
 go_wp2_with fail
 clear hv1 hu0 f0 f1 f2 f3 q0 q1 q2 q3 y0 y1 y2 y3
 refine wr.mono ?_
 rintro e w3 ⟨v,rfl,hO,hb⟩
 have HF : Hid (aX w3 w.heap.size v bs /\ Below w.heap.size w w3):=ah6 ⟨aX.base hO HB1.out.size,HB1.out.trans (hb.mono HB1.out.size)⟩
 clear hO hb wr
 go_wp2_with fail
 exact bodyPost_ret (v:=v) (by simp [results,Tryz.results14,go_sem]) rfl ⟨v,rfl,HF.out⟩
end Go.Proofs.YtklkooeimkedgaaGreat
namespace Go.Proofs.YtklkooeimkedgaaGreat
open Go.RowKit
set_option maxRecDepth 100000
def SI : aA:=⟨1,0,0,0,65536,0,0,0,0⟩
def SL : aA:=⟨1,10,0,0,65536,0,0,0,0⟩
def uK : Sn:=⟨1,0,[SI]⟩
def wN : Sn:=⟨2,10,[SL]⟩
theorem SN : SI.Ok:=⟨⟨by decide,by decide⟩,⟨by decide,by decide⟩,⟨by decide,by decide⟩,⟨by decide,by decide⟩,⟨by decide,by decide⟩,⟨by decide,by decide⟩,⟨by decide,by decide⟩,⟨by decide,by decide⟩,⟨by decide,by decide⟩⟩
theorem SQ : SL.Ok:=⟨⟨by decide,by decide⟩,⟨by decide,by decide⟩,⟨by decide,by decide⟩,⟨by decide,by decide⟩,⟨by decide,by decide⟩,⟨by decide,by decide⟩,⟨by decide,by decide⟩,⟨by decide,by decide⟩,⟨by decide,by decide⟩⟩
theorem Vl : iZ uK:=Co (by decide) (by decide) (by decide) SN rfl
theorem Vm : iZ wN:=Co (by decide) (by decide) (by decide) SQ rfl
def tL : iA:=⟨[uK,wN],0,false,uY dD (uY dD (cs0 dD) (aM 100 0)) (aM 110 10)⟩
def Gj : CS:=iy dD tL.cs 104
def Gl : CS:=iy dD Gj 113
def aeA : CS:=iy dD Gl 900
theorem aeB : Gj.au = 4:=by kernel_rfl
theorem aeC : Gl.au = 13:=by kernel_rfl
theorem aeD : aeA.au = 800:=by kernel_rfl
theorem abl : kN dD 4 [uK,wN] = 1:=by kernel_rfl
theorem abm : kN dD 13 [uK,wN] = 1:=by kernel_rfl
theorem abn : kN dD 800 [uK,wN] = 1:=by kernel_rfl
theorem abo : kP dD 4 [uK,wN] 0 = ⟨1,4,0,0,0,1⟩:=by kernel_rfl
theorem abp : kP dD 13 [uK,wN] 0 = ⟨1,13,0,0,0,3⟩:=by kernel_rfl
theorem abq : kP dD 800 [uK,wN] 0 = ⟨1,15,0,0,0,4⟩:=by kernel_rfl
end Go.Proofs.YtklkooeimkedgaaGreat
namespace Go.Proofs.YtklkooeimkedgaaGreat
open Go.RowKit
set_option maxRecDepth 100000
theorem Ir (s : Sn) : ((kg s).length : Int) <= 140737488355000:=by
 unfold kg
 split
 ·rename_i h
  have hz : (vH (jo (jr (j6 s).1))).length = 4:=rfl
  unfold nZ at h
  split at h
  ·rename_i hh;exact absurd h hh
  split at h
  ·cases h
  ·unfold xG
   rw [List.length_append,hz];omega
 ·simp
theorem M5 {w : World} {b : Nat} {e : aA} (h : ak w b (bO e) 33) (ho : e.Ok) : fO w (some ⟨b,0,none⟩) [e]:=by
 refine ⟨λi hi=>?_,.inr ⟨b,0,rfl,h.lt,λi hi=>?_⟩⟩
 ·obtain rfl : i = 0:=by simp at hi;exact hi
  exact ho
 ·obtain rfl : i = 0:=by simp at hi;exact hi
  unfold dG
  refine ⟨?_,?_,?_,?_,?_,?_,?_,?_,?_⟩ <;> (rw [h.cell];rfl)
theorem zX {w : World} {s : Option Addr} {P : Nat -> Po} {p : Po} (h : dY w s 1 P) (hp : P 0 = p) : ∃ b o,s = some ⟨b,o,none⟩ /\ b < w.heap.size /\ kH w b o p:=by
 rcases h with h | ⟨b,o,e,hb,hc⟩
 ·cases h
 ·exact ⟨b,o,e,hb,by have:=hc 0 (by decide);rw [hp] at this;simpa using this⟩
set_option maxHeartbeats 4000000 in
theorem XO (w : World) : Calls Tryz.prog 8 #[] w λe w'=>e = .returned (.bool true) /\ Below w.heap.size w w':=by
 obtain ⟨w0,hw0⟩ : ∃ w0,(((w.alloc (.cells #[.int .i64 1,.int .i64 0,.int .i64 0,.int .i64 0,.int .i64 65536,.int .i64 0,.int .i64 0,.int .u16 0,.int .u8 0] 33)).alloc (.cells #[.int .i64 1,.int .i64 0,.slice (some ⟨w.heap.size,0,none⟩) 1 1] 36)).alloc (.cells #[.int .i64 1,.int .i64 10,.int .i64 0,.int .i64 0,.int .i64 65536,.int .i64 0,.int .i64 0,.int .u16 0,.int .u8 0] 33)).alloc (.cells #[.int .i64 2,.int .i64 10,.slice (some ⟨w.heap.size + 1 + 1,0,none⟩) 1 1] 36) = w0:=⟨_,rfl⟩
 have hB0 : Below w.heap.size w w0:=by rw [← hw0];exact (((ah7).alloc (by simp) _).alloc (by simp;omega) _).alloc (by simp;omega) _
 have hs0 : w0.heap.size = w.heap.size + 4:=by rw [← hw0];simp
 have hE1 : ak w0 w.heap.size #[.int .i64 1,.int .i64 0,.int .i64 0,.int .i64 0,.int .i64 65536,.int .i64 0,.int .i64 0,.int .u16 0,.int .u8 0] 33:=by rw [← hw0];exact (((ak.new _ _ _).alloc _).alloc _).alloc _
 have hA : ak w0 (w.heap.size + 1) #[.int .i64 1,.int .i64 0,.slice (some ⟨w.heap.size,0,none⟩) 1 1] 36:=by
  rw [← hw0]
  have:=((ak.new (w.alloc (.cells #[.int .i64 1,.int .i64 0,.int .i64 0,.int .i64 0,.int .i64 65536,.int .i64 0,.int .i64 0,.int .u16 0,.int .u8 0] 33)) #[.int .i64 1,.int .i64 0,.slice (some ⟨w.heap.size,0,none⟩) 1 1] 36).alloc (.cells #[.int .i64 1,.int .i64 10,.int .i64 0,.int .i64 0,.int .i64 65536,.int .i64 0,.int .i64 0,.int .u16 0,.int .u8 0] 33)).alloc (.cells #[.int .i64 2,.int .i64 10,.slice (some ⟨w.heap.size + 1 + 1,0,none⟩) 1 1] 36)
  simpa using this
 have hE2 : ak w0 (w.heap.size + 1 + 1) #[.int .i64 1,.int .i64 10,.int .i64 0,.int .i64 0,.int .i64 65536,.int .i64 0,.int .i64 0,.int .u16 0,.int .u8 0] 33:=by
  rw [← hw0]
  have:=(ak.new ((w.alloc (.cells #[.int .i64 1,.int .i64 0,.int .i64 0,.int .i64 0,.int .i64 65536,.int .i64 0,.int .i64 0,.int .u16 0,.int .u8 0] 33)).alloc (.cells #[.int .i64 1,.int .i64 0,.slice (some ⟨w.heap.size,0,none⟩) 1 1] 36)) #[.int .i64 1,.int .i64 10,.int .i64 0,.int .i64 0,.int .i64 65536,.int .i64 0,.int .i64 0,.int .u16 0,.int .u8 0] 33).alloc (.cells #[.int .i64 2,.int .i64 10,.slice (some ⟨w.heap.size + 1 + 1,0,none⟩) 1 1] 36)
  simpa using this
 have hBb : ak w0 (w.heap.size + 1 + 1 + 1) #[.int .i64 2,.int .i64 10,.slice (some ⟨w.heap.size + 1 + 1,0,none⟩) 1 1] 36:=by
  rw [← hw0]
  have:=ak.new (((w.alloc (.cells #[.int .i64 1,.int .i64 0,.int .i64 0,.int .i64 0,.int .i64 65536,.int .i64 0,.int .i64 0,.int .u16 0,.int .u8 0] 33)).alloc (.cells #[.int .i64 1,.int .i64 0,.slice (some ⟨w.heap.size,0,none⟩) 1 1] 36)).alloc (.cells #[.int .i64 1,.int .i64 10,.int .i64 0,.int .i64 0,.int .i64 65536,.int .i64 0,.int .i64 0,.int .u16 0,.int .u8 0] 33)) #[.int .i64 2,.int .i64 10,.slice (some ⟨w.heap.size + 1 + 1,0,none⟩) 1 1] 36
  simpa using this
 have pf:=λW=>XM W
 have nw:=λW=>KC dD rF lM W
 have fa : ∀ W,fO W (some ⟨w.heap.size,0,none⟩) [SI] -> Calls Tryz.prog 14 #[.agg #[.int .i64 1,.int .i64 0,.slice (some ⟨w.heap.size,0,none⟩) 1 1]] W λe w'=>∃ v,e = .returned v /\ aX w' W.heap.size v (kg uK) /\ Below W.heap.size W w':=λW h=>SH 1 0 ⟨by decide,by decide⟩ _ 1 [SI] W h
 have fb : ∀ W,fO W (some ⟨w.heap.size + 1 + 1,0,none⟩) [SL] -> Calls Tryz.prog 14 #[.agg #[.int .i64 2,.int .i64 10,.slice (some ⟨w.heap.size + 1 + 1,0,none⟩) 1 1]] W λe w'=>∃ v,e = .returned v /\ aX w' W.heap.size v (kg wN) /\ Below W.heap.size W w':=λW h=>SH 2 10 ⟨by decide,by decide⟩ _ 1 [SL] W h
 have zi:=ah6 (M5 (e:=SI) hE1 SN);have HE2:=ah6 (M5 (e:=SL) hE2 SQ);have HA:=ah6 hA;have HBb:=ah6 hBb;have HB0:=ah6 hB0;have zf:=ah6 hs0;clear hE1 hE2 hA hBb hB0 hs0
 go_enter Tryz.func8,Tryz.ntmps8
 go_wp2_with fail
 clear hw0
 refine (pf w0).mono ?_
 rintro e w1 ⟨rfl,hb1⟩
 have HW1 : Hid (Below w0.heap.size w0 w1):=ah6 hb1
 clear hb1 pf
 go_wp2_with fail
 refine (nw w1).mono ?_
 rintro e w2 ⟨C,S,rfl,KN,hS,hb2⟩
 have gW : Below w0.heap.size w0 w2:=HW1.out.trans (hb2.mono HW1.out.size)
 have fZ : Hid (∀ k,S k -> w.heap.size + 4 <= k):=ah6 (λk hk=>by have:=hS k hk;have:=HW1.out.size;have:=zf.out;omega)
 have pY:=ah6 KN;have hA2:=HA.out.below gW HA.out.lt;have aao:=ah6 (zi.out.below gW);have aap:=ah6 (HE2.out.below gW);have HA2:=ah6 hA2;have HB2:=ah6 (HBb.out.below gW HBb.out.lt)
 have aaq : Hid (Below w.heap.size w w2):=ah6 (HB0.out.trans (gW.mono HB0.out.size))
 have UY : Hid (w.heap.size + 4 <= w2.heap.size):=ah6 (by have:=gW.size;have:=zf.out;omega)
 have a0:=hA2.cell 0;have a1:=hA2.cell 1;have a2:=hA2.cell 2;simp at a0 a1 a2;clear KN hS hb2 gW nw hA2 zi HE2 HA HBb HB0 HW1
 go_wp2_with fail
 refine (fa w2 aao.out).mono ?_
 rintro e w3 ⟨v,rfl,hO,hb⟩
 obtain ⟨va,vc,rfl,SV,SX,hvl,_⟩:=hO.cap
 have hC3:=pY.out.below hb
 have ar:=M4 (c:=dD) (x:=uI dD) lM Vl rfl (by simp [uI]) (by simp [uI]) (by decide) 100
 have ac:=Cg C dD rF lM (uI dD) S 100 ⟨by decide,by decide⟩ va (kg uK).length vc (kg uK) w3 hC3 SV SX hvl (Ir uK) (by decide) ar.2.1
 rw [ar.1,ar.2.2] at ac
 have EI:=ah6 (HA2.out.below hb HA2.out.lt);have HB3:=ah6 (HB2.out.below hb HB2.out.lt);have uE:=ah6 (aap.out.below hb)
 have aar : Hid (Below w.heap.size w w3):=ah6 (aaq.out.trans (hb.mono aaq.out.size))
 have Oj : Hid (w.heap.size + 4 <= w3.heap.size):=ah6 (Nat.le_trans UY.out hb.size)
 clear hO hb SV SX hvl hC3 ar fa a0 a1 a2 HA2 HB2 aap aao
 go_wp2_with fail
 refine ac.mono ?_
 rintro e w4 ⟨rfl,hC4,hO4⟩
 have kV : ∀ k,k < w.heap.size + 4 -> ¬ S k:=λk hk h=>by have:=fZ.out k h;omega
 have hB4:=hO4.blk HB3.out (kV _ (by omega))
 have HC4:=ah6 hC4;have gT:=ah6 hB4
 have MV:=ah6 (uE.out.only hO4 (λx hx=>by cases hx;exact kV _ (show w.heap.size + 1 + 1 < w.heap.size + 4 by omega)))
 have aas : Hid (Below w.heap.size w w4):=ah6 (aar.out.trans (hO4.below aar.out.size (λk hk=>by have:=fZ.out k hk;omega)))
 have aeE : Hid (w3.heap.size <= w4.heap.size):=ah6 hO4.size
 have b0:=hB4.cell 0;have b1:=hB4.cell 1;have b2:=hB4.cell 2;simp at b0 b1 b2
 have JN : Hid (∀ k,Grow S w3 w4 k -> w.heap.size + 4 <= k):=ah6 (λk hk=>by
  rcases hk.1 with h | h
  ·exact fZ.out k h
  ·have:=Oj.out;omega)
 clear hC4 hO4 ac hB4 EI HB3 uE pY kV
 go_wp2_with fail
 refine (fb w4 MV.out).mono ?_
 rintro e w5 ⟨v,rfl,hO,hb⟩
 obtain ⟨va,vc,rfl,SV,SX,hvl,_⟩:=hO.cap
 have hC5:=HC4.out.below hb
 have ar:=M4 (c:=dD) (x:=⟨(uI dD).ss ++ [uK],(uI dD).floor,false,uY dD (uI dD).cs (aM 100 uK.time)⟩) lM Vm rfl (by intro y hy;simp [uI] at hy;subst hy;decide) (by intro y hy;simp [uI] at hy;subst hy;decide) (by decide) 110
 have ac:=Cg C dD rF lM _ _ 110 ⟨by decide,by decide⟩ va (kg wN).length vc (kg wN) w5 hC5 SV SX hvl (Ir wN) (by decide) ar.2.1
 rw [ar.1,ar.2.2] at ac
 have aat : Hid (Below w.heap.size w w5):=ah6 (aas.out.trans (hb.mono aas.out.size))
 have aeF : Hid (w.heap.size + 4 <= w5.heap.size):=ah6 (by have:=hb.size;have:=aeE.out;have:=Oj.out;omega)
 clear hO hb SV SX hvl hC5 ar fb b0 b1 b2 gT MV
 go_wp2_with fail
 refine ac.mono ?_
 rintro e w6 ⟨rfl,hC6,fK⟩
 generalize hS6 : Grow (Grow S w3 w4) w5 w6 = S6 at hC6
 have HC6 : Hid (dH w6 C dD tL S6):=ah6 hC6
 have HG6 : Hid (∀ k,S6 k -> w.heap.size + 4 <= k):=ah6 (λk hk=>by
  rw [← hS6] at hk
  rcases hk.1 with h | h
  ·exact JN.out k h
  ·have:=aeF.out;omega)
 have aaw : Hid (Below w.heap.size w w6):=ah6 (aat.out.trans (fK.below aat.out.size (λk hk=>by have:=JN.out k hk;omega)))
 clear hC6 fK ac hS6 HC4
 go_wp2_with fail
 have f1:=xX C dD rF lM tL S6 104 ⟨by decide,by decide⟩ w6 HC6.out (by decide)
 rw [show (iy dD tL.cs 104).au = 4 from aeB,show tL.ss = [uK,wN] from rfl,abl] at f1
 refine f1.mono ?_
 rintro e w7 ⟨s7,c7,rfl,hP7,hC7,hO7⟩
 have HC7 : Hid (dH w7 C dD { tL with cs:=Gj } S6):=ah6 hC7
 have HP7:=ah6 hP7
 have aax : Hid (Below w.heap.size w w7):=ah6 (aaw.out.trans (hO7.below aaw.out.size (λk hk=>by have:=HG6.out k hk.1;omega)))
 clear f1 hP7 hC7 hO7 HC6
 go_wp2_with fail
 have f1:=xX C dD rF lM { tL with cs:=Gj } S6 113 ⟨by decide,by decide⟩ w7 HC7.out (by decide)
 rw [show (iy dD ({ tL with cs:=Gj } : iA).cs 113).au = 13 from aeC,show ({ tL with cs:=Gj } : iA).ss = [uK,wN] from rfl,abm] at f1
 refine f1.mono ?_
 rintro e w8 ⟨s8,c8,rfl,hP8,hC8,hO8⟩
 have HC8 : Hid (dH w8 C dD { tL with cs:=Gl } S6):=ah6 hC8
 have HP8:=ah6 hP8
 have aaz:=ah6 (zV HP7.out hO8 (λk hk _=>hk.2))
 have aaA : Hid (Below w.heap.size w w8):=ah6 (aax.out.trans (hO8.below aax.out.size (λk hk=>by have:=HG6.out k hk.1;omega)))
 clear f1 hP8 hC8 hO8 HC7 HP7
 go_wp2_with fail
 have f1:=xX C dD rF lM { tL with cs:=Gl } S6 900 ⟨by decide,by decide⟩ w8 HC8.out (by decide)
 rw [show (iy dD ({ tL with cs:=Gl } : iA).cs 900).au = 800 from aeD,show ({ tL with cs:=Gl } : iA).ss = [uK,wN] from rfl,abn] at f1
 refine f1.mono ?_
 rintro e w9 ⟨s9,c9,rfl,hP9,hC9,mY⟩
 have aaB:=zV aaz.out mY (λk hk _=>hk.2)
 have aaC:=zV HP8.out mY (λk hk _=>hk.2)
 have aaD : Hid (Below w.heap.size w w9):=ah6 (aaA.out.trans (mY.below aaA.out.size (λk hk=>by have:=HG6.out k hk.1;omega)))
 clear f1 hC9 mY HC8 aaz HP8
 obtain ⟨b7,o7,rfl,l7,p7'⟩:=zX aaB abo
 obtain ⟨b8,o8,rfl,l8,p8'⟩:=zX aaC abp
 obtain ⟨b9,o9,rfl,l9,p9'⟩:=zX hP9 abq
 obtain ⟨kC,Oz⟩ : ∃ u,((w9.alloc (.cells #[.bool true,.int .i64 4,.slice (some ⟨b7,o7,none⟩) 1 c7] 49)).alloc (.cells #[.bool true,.int .i64 13,.slice (some ⟨b8,o8,none⟩) 1 c8] 49)).alloc (.cells #[.bool true,.int .i64 800,.slice (some ⟨b9,o9,none⟩) 1 c9] 49) = u:=⟨_,rfl⟩
 have KY : Below w9.heap.size w9 kC:=by rw [← Oz];exact (((ah7).alloc (by simp) _).alloc (by simp;omega) _)
 have hX7 : ak kC w9.heap.size #[.bool true,.int .i64 4,.slice (some ⟨b7,o7,none⟩) 1 c7] 49:=by rw [← Oz];exact ((ak.new _ _ _).alloc _).alloc _
 have hX8 : ak kC (w9.heap.size + 1) #[.bool true,.int .i64 13,.slice (some ⟨b8,o8,none⟩) 1 c8] 49:=by
  rw [← Oz]
  have:=(ak.new (w9.alloc (.cells #[.bool true,.int .i64 4,.slice (some ⟨b7,o7,none⟩) 1 c7] 49)) #[.bool true,.int .i64 13,.slice (some ⟨b8,o8,none⟩) 1 c8] 49).alloc (.cells #[.bool true,.int .i64 800,.slice (some ⟨b9,o9,none⟩) 1 c9] 49)
  simpa using this
 have hX9 : ak kC (w9.heap.size + 1 + 1) #[.bool true,.int .i64 800,.slice (some ⟨b9,o9,none⟩) 1 c9] 49:=by
  rw [← Oz]
  have:=ak.new ((w9.alloc (.cells #[.bool true,.int .i64 4,.slice (some ⟨b7,o7,none⟩) 1 c7] 49)).alloc (.cells #[.bool true,.int .i64 13,.slice (some ⟨b8,o8,none⟩) 1 c8] 49)) #[.bool true,.int .i64 800,.slice (some ⟨b9,o9,none⟩) 1 c9] 49
  simpa using this
 have s7:=hX7.cell 2;have s8:=hX8.cell 2;have s9:=hX9.cell 2;simp at s7 s8 s9;have p7:=p7'.below KY l7;have p8:=p8'.below KY l8;have p9:=p9'.below KY l9;clear p7' p8' p9' hX7 hX8 hX9
 unfold kH at p7 p8 p9
 simp only at p7 p8 p9
 obtain ⟨p70,p71,p72,p73,p74,p75⟩:=p7
 obtain ⟨p80,p81,p82,p83,p84,p85⟩:=p8
 obtain ⟨p90,p91,p92,p93,p94,p95⟩:=p9
 have q7:=λW=>FY 1 4 0 0 0 1 1 4 0 0 0 1 W
 have q8:=λW=>FY 1 13 0 0 0 3 1 13 0 0 0 3 W
 have q9:=λW=>FY 1 15 0 0 0 4 1 15 0 0 0 4 W
 simp at q7 q8 q9
 have HF : Hid (Below w.heap.size w kC):=ah6 (aaD.out.trans (KY.mono aaD.out.size))
 clear KY;clear aaB aaC hP9
 go_wp2
 exact bodyPost_ret (v:=.bool true) (by simp [results,Tryz.results8,go_sem]) rfl ⟨rfl,HF.out⟩
end Go.Proofs.YtklkooeimkedgaaGreat
