/- Walk of TopExact. -/
import Derived.Test.YtklkooeimkedgaaGreatE22
import Derived.Test.YtklkooeimkedgaaGreatE49
set_option linter.unusedVariables false
set_option linter.unusedSimpArgs false
namespace Go.Proofs.YtklkooeimkedgaaGreat
open Go.RowKit
def bV (n : Nat) (L : List Int) : List Int:=L.drop (L.length - n)
theorem Cc (n : Nat) (L : List Int) : (bV n L).length = min n L.length:=by unfold bV;rw [List.length_drop];omega
theorem Fh {n : Nat} {L : List Int} (h : L.length < n) (x : Int) : bV n (L ++ [x]) = bV n L ++ [x]:=by
 unfold bV
 rw [List.length_append,List.length_singleton,show L.length + 1 - n = 0 by omega,show L.length - n = 0 by omega]
 rfl
theorem Fj {n : Nat} {L : List Int} (hn : 1 <= n) (h : n <= L.length) (x : Int) : ∃ y M,bV n L = y :: M /\ M.length + 1 = n /\ bV n (L ++ [x]) = M ++ [x]:=by
 have hl:=Cc n L
 cases hd : bV n L with
 | nil=>rw [hd] at hl;simp at hl;omega
 | cons y M =>
   rw [hd] at hl
   simp at hl
   refine ⟨y,M,rfl,by omega,?_⟩
   unfold bV at hd ⊢
   rw [List.length_append,List.length_singleton,show L.length + 1 - n = L.length - n + 1 by omega,List.drop_append_of_le_length (by omega)]
   rw [← List.drop_drop,hd]
   rfl
theorem Hz {n : Nat} {L : List Int} {x : Int} (h : x ∈ bV n L) : x ∈ L:=List.mem_of_mem_drop h
theorem RO {n : Nat} {L : List Int} (hn : 1 <= n) : bV n L = [] ↔ L = []:=by
 have hl:=Cc n L
 constructor
 ·intro h
  rw [h] at hl
  exact List.length_eq_zero_iff.1 (by simp at hl;omega)
 ·rintro rfl;simp [bV]
theorem ZE (b : Nat) (n : Nat) (hn : 1 <= n) (hn2 : n <= 64) (L : List Int) (S : Nat -> Prop) (x : Int) (w : World) (h : lZ w b n (bV n L) S) :
 Calls Tryz.prog 81 #[.pointer (some ⟨b,0,none⟩),.int .i64 x] w λe w'=>e = .returned (.int .i64 0) /\ lZ w' b n (bV n (L ++ [x])) (λk=>S k \/ w.heap.size <= k) /\ Only S w w':=by
 have hl:=Cc n L
 by_cases hc : L.length < n
 ·rw [Fh hc]
  have g1 : ((bV n L).length : Int) < n:=by omega
  have g2 : (bV n L).length <= 1000:=by omega
  exact RI b n (bV n L) S x w h g1 g2
 ·obtain ⟨y,M,h1,h2,h3⟩:=Fj hn (Nat.le_of_not_lt hc) x
  rw [h3]
  rw [h1] at h
  subst h2
  have hb : M.length <= 1000:=by omega
  exact RJ b y M S x w (by simpa using h) hb
theorem nE.cap {w : World} {b : Nat} {most : Int} {L1 L2 L3 : List Int} {S : Nat -> Prop} {v1 v2 v3 : Value} {g1 g2 g3 : Option Nat} (h : nE w b most L1 L2 L3 S v1 v2 v3 g1 g2 g3) : nE w b most L1 L2 L3 (λk=>S k /\ k < w.heap.size) v1 v2 v3 g1 g2 g3 :=
 ⟨h.blk,h.last,h.low,h.high,⟨h.sb,h.blk.lt⟩,λk e=>⟨⟨(h.s1 k e).1,h.last.gt k e⟩,(h.s1 k e).2⟩,λk e=>⟨⟨(h.s2 k e).1,h.low.gt k e⟩,(h.s2 k e).2⟩,λk e=>⟨⟨(h.s3 k e).1,h.high.gt k e⟩,(h.s3 k e).2⟩,h.Hu,h.Hw,h.Hy⟩
theorem lZ.cap {w : World} {b : Nat} {most : Int} {L : List Int} {S : Nat -> Prop} (h : lZ w b most L S) : lZ w b most L (λk=>S k /\ k < w.heap.size):=by
 obtain ⟨v1,v2,v3,g1,g2,g3,h⟩:=h
 exact ⟨v1,v2,v3,g1,g2,g3,h.cap⟩
structure CS where
 L : List Int
 qc : Int
 oW : Int
 au : Int
 last : Int
 st : Int
structure CS.Ok (c : aN) (s : CS) : Prop where
 l : ∀ x ∈ s.L,ay x
 len : s.L.length <= 1000
 qc : 0 <= s.qc /\ s.qc <= 9223372036854775807
 oW : wY c s.oW
 au : ay s.au
 last : ay s.last
 st : s.st = 0 \/ s.st = 1
structure CkP (w : World) (b : Nat) (c : aN) (s : CS) (S : Nat -> Prop) (bw bs bj bd : Nat) (Sw : Nat -> Prop) (ch : Int) : Prop where
 blk : ak w b #[.pointer (some ⟨bw,0,none⟩),.pointer (some ⟨bs,0,none⟩),.pointer (some ⟨bj,0,none⟩),.pointer (some ⟨bd,0,none⟩)] 139
 win : lZ w bw (c.window.toNat : Nat) (bV c.window.toNat s.L) Sw
 VU : Cu w bs c.num c.den s.au s.last s.st
 jt : xV w bj s.qc s.L.length
 del : wX w bd c s.oW ch
 ch : 0 <= ch /\ ch <= s.L.length
 sS : ∀ k,S k -> k < w.heap.size
 sb : S b /\ S bs /\ S bj /\ S bd /\ ∀ k,Sw k -> S k
 nw : ¬ Sw b /\ ¬ Sw bs /\ ¬ Sw bj /\ ¬ Sw bd
 ne : b ≠ bs /\ b ≠ bj /\ b ≠ bd /\ bs ≠ bj /\ bs ≠ bd /\ bj ≠ bd
def su (w : World) (b : Nat) (c : aN) (s : CS) (S : Nat -> Prop) : Prop:=∃ bw bs bj bd Sw ch,CkP w b c s S bw bs bj bd Sw ch
theorem su.lt {w : World} {b : Nat} {c : aN} {s : CS} {S : Nat -> Prop} (h : su w b c s S) : ∀ k,S k -> k < w.heap.size:=by
 obtain ⟨bw,bs,bj,bd,Sw,ch,h⟩:=h
 exact h.sS
theorem su.only {w w' : World} {b : Nat} {c : aN} {s : CS} {S T : Nat -> Prop} (h : su w b c s S) (ho : Only T w w') (hd : ∀ k,S k -> ¬ T k) : su w' b c s S:=by
 obtain ⟨bw,bs,bj,bd,Sw,ch,h⟩:=h
 obtain ⟨s1,s2,s3,s4,s5⟩:=h.sb
 exact ⟨bw,bs,bj,bd,Sw,ch,ho.blk h.blk (hd _ s1),h.win.only ho (λk e=>hd k (s5 k e)),ho.blk h.VU (hd _ s2),ho.blk h.jt (hd _ s3),ho.blk h.del (hd _ s4),h.ch,λk e=>Nat.lt_of_lt_of_le (h.sS k e) ho.size,h.sb,h.nw,h.ne⟩
def uY (c : aN) (s : CS) (d : Int) : CS :=
 let L:=s.L ++ [d]
 let j:=nG s.qc (aM d (dP (bV c.window.toNat L)))
 { s with L:=L,qc:=j,oW:=AB c s.oW j }
def sw (c : aN) (s : CS) (r : Int) : Int:=aM (aM r (dP (bV c.window.toNat s.L))) s.oW
def iy (c : aN) (s : CS) (r : Int) : CS :=
 { s with au:=if s.st = 0 then sw c s r else Gz s.au s.last r (sw c s r) c.num c.den,last:=if s.st = 0 then r else max s.last r,st:=1 }
def cs0 (c : aN) : CS:=⟨[],0,jM c 0,0,0,0⟩
theorem Ia (b : Nat) (c : aN) (s : CS) (S : Nat -> Prop) (w : World) (h : su w b c s S) :
 Calls Tryz.prog 86 #[.pointer (some ⟨b,0,none⟩)] w λe w'=>e = .returned (.tuple #[.int .i64 (dP (bV c.window.toNat s.L)),.bool (decide (bV c.window.toNat s.L ≠ []))]) /\ w = w':=by
 obtain ⟨bw,bs,bj,bd,Sw,ch,h⟩:=h
 have q0:=h.blk.cell 0;simp at q0;have cl:=Ky bw _ _ Sw w h.win;clear h
 generalize decide (bV c.window.toNat s.L ≠ []) = t at *
 generalize dP (bV c.window.toNat s.L) = m at *
 go_enter Tryz.func86,Tryz.ntmps86
 go_wp2_with fail
 refine cl.mono ?_;rintro e w' ⟨rfl,rfl⟩
 go_wp2
 go_ret2
 exact ⟨rfl,rfl⟩
theorem UJ (b : Nat) (c : aN) (s : CS) (S : Nat -> Prop) (w : World) (h : su w b c s S) :
 Calls Tryz.prog 88 #[.pointer (some ⟨b,0,none⟩)] w λe w'=>e = .returned (.int .i64 s.oW) /\ w = w':=by
 obtain ⟨bw,bs,bj,bd,Sw,ch,h⟩:=h
 have q0:=h.blk.cell 3;simp at q0;have cl:=Yi bd c _ _ w h.del;clear h
 go_enter Tryz.func88,Tryz.ntmps88
 go_wp2_with fail
 refine cl.mono ?_;rintro e w' ⟨rfl,rfl⟩
 go_wp2
 go_ret
 exact ⟨rfl,rfl⟩
theorem Eb (S : Nat -> Prop) (w : World) : Only S w w.drew:=⟨rfl,rfl,rfl,Nat.le_refl _,λ_ _ _=>rfl⟩
theorem Fp {L : List Int} (h : ∀ x ∈ L,ay x) : ay (dP L):=by
 by_cases hL : L = []
 ·subst hL;exact ⟨by decide,by decide⟩
 ·exact h _ (Lu hL).1
theorem UK (c : aN) (now ch j : Int) : ch <= FP c now ch j /\ FP c now ch j <= ch + 1:=by
 unfold FP;split <;> omega
def Grow (S : Nat -> Prop) (w w' : World) : Nat -> Prop:=λk=>(S k \/ w.heap.size <= k) /\ k < w'.heap.size
theorem RP {c : aN} {s : CS} {d : Int} (ok : s.Ok c) (h0 : eZ c = 0) (hd : ay d) (hl : s.L.length < 1000) : (uY c s d).Ok c:=by
 have hL : ∀ x ∈ s.L ++ [d],ay x:=λx hx=>by
  rcases List.mem_append.1 hx with h | h
  ·exact ok.l x h
  ·simp at h;subst h;exact hd
 have hsub:=jw d (dP (bV c.window.toNat (s.L ++ [d])))
 exact ⟨hL,by simp [uY];omega,UG ok.qc hsub.2,LQ h0 ok.oW,ok.au,ok.last,ok.st⟩
set_option maxRecDepth 8000 in
set_option maxHeartbeats 1000000 in
theorem RQ (b : Nat) (c : aN) (zl : c.Ok) (hc : dF c = 0) (s : CS) (ok : s.Ok c) (hlen : s.L.length < 1000) (x y : Int) (hx : ay x) (hy : ay y) (S : Nat -> Prop) (w : World) (h : su w b c s S) :
 Calls Tryz.prog 41 #[.pointer (some ⟨b,0,none⟩),.int .i64 x,.int .i64 y] w λe w'=>e = .returned (.int .i64 0) /\ su w' b c (uY c s (aM x y)) (Grow S w w') /\ Only S w w':=by
 obtain ⟨hw,h0,hr⟩:=vE hc
 obtain ⟨_,_,w1,w2⟩:=qX.1 hw
 obtain ⟨bw,bs,bj,bd,Sw,ch,h⟩:=h
 obtain ⟨s1,s2,s3,s4,s5⟩:=h.sb
 obtain ⟨n1,n2,n3,n4⟩:=h.nw
 obtain ⟨e1,e2,e3,e4,e5,e6⟩:=h.ne
 obtain ⟨ch1,ch2⟩:=h.ch
 have lb:=h.sS b s1;have lbs:=h.sS bs s2;have lbj:=h.sS bj s3;have lbd:=h.sS bd s4
 have q0:=h.blk.cell 0;have q2:=h.blk.cell 2;have q3:=h.blk.cell 3
 simp at q0 q2 q3;have ZF:=RP ok h0 (jw x y) hlen;have cs:=wQ x y hx hy
 have ca:=λd=>ZE bw c.window.toNat (by omega) (by omega) s.L Sw d w h.win
 have cl:=λ(w' : World) (T : Nat -> Prop) (hh : lZ w' bw (c.window.toNat : Nat) (bV c.window.toNat (s.L ++ [aM x y])) T)=>Ky bw _ _ T w' hh
 have cs2:=wQ (aM x y) (dP (bV c.window.toNat (s.L ++ [aM x y]))) (jw _ _) (Fp λz hz=>ZF.l z (Hz hz))
 have cj:=λ(w' : World) (hh : xV w' bj s.qc s.L.length)=>ZC bj s.qc s.L.length (aM (aM x y) (dP (bV c.window.toNat (s.L ++ [aM x y])))) w' hh ⟨by have:=ok.qc;omega,ok.qc.2⟩ (jw _ _) (by omega) (by omega)
 have cn:=λ(w' : World) (hh : xV w' bj (nG s.qc (aM (aM x y) (dP (bV c.window.toNat (s.L ++ [aM x y]))))) (s.L.length + 1))=>ZB bj _ _ w' hh
 have cu:=λ(w' : World) (hh : wX w' bd c s.oW ch)=>Pw bd c s.oW ch (nG s.qc (aM (aM x y) (dP (bV c.window.toNat (s.L ++ [aM x y]))))) w' zl h0 ok.oW (by have:=ZF.qc;exact ⟨by have:=this.1;simp only [uY] at this;omega,this.2⟩) ch1 (by omega) hh
 have HU:=ah6 (LQ (j:=(nG s.qc (aM (aM x y) (dP (bV c.window.toNat (s.L ++ [aM x y])))))) h0 ok.oW)
 have mI : Hid (uY c s (aM x y) = { s with L:=s.L ++ [aM x y],qc:=nG s.qc (aM (aM x y) (dP (bV c.window.toNat (s.L ++ [aM x y])))),oW:=AB c s.oW (nG s.qc (aM (aM x y) (dP (bV c.window.toNat (s.L ++ [aM x y]))))) }):=ah6 rfl
 generalize uY c s (aM x y) = s' at *
 have RD:=λj=>UK c s.oW ch j
 generalize nG s.qc (aM (aM x y) (dP (bV c.window.toNat (s.L ++ [aM x y])))) = j at *
 have RD:=ah6 (RD j)
 generalize FP c s.oW ch j = ch' at *
 generalize AB c s.oW j = dl at *
 generalize aM (aM x y) (dP (bV c.window.toNat (s.L ++ [aM x y]))) = jd at *
 generalize decide (bV c.window.toNat (s.L ++ [aM x y]) ≠ []) = tb at *
 generalize dP (bV c.window.toNat (s.L ++ [aM x y])) = le at *
 generalize aM x y = d at *
 have H:=ah6 h;clear h ZF ok zl h0 hw hr hc
 go_enter Tryz.func41,Tryz.ntmps41
 go_wp2_with fail
 refine (cs _).mono ?_;rintro e w' ⟨rfl,rfl⟩
 go_wp2_with fail
 refine (ca d).mono ?_;rintro e v1 ⟨rfl,k1,o1⟩
 have B1:=o1.blk H.out.blk n1;have WIN:=ah6 k1.cap;have O1:=ah6 o1;have hz1:=ah6 o1.size;clear q0 q2 q3 k1 o1
 have q0:=B1.cell 0;have q2:=B1.cell 2;have q3:=B1.cell 3
 simp at q0 q2 q3;clear B1
 go_wp2_with fail
 refine (cl _ _ WIN.out).mono ?_;rintro e w' ⟨rfl,rfl⟩
 go_wp2_with fail
 (refine kF 8 (by kernel_rfl) (by kernel_rfl) ?_;simp only [List.take_succ_cons,List.take_zero,List.drop_succ_cons,List.drop_zero];(repeat still_step);(try refine wpStill_nil ?_))
 (still_call (qK (cs2 _));(repeat still_step);(try refine wpStill_nil ?_))
 go_wp2_with fail
 refine (cj _ ((O1.out.blk H.out.jt n3).draws 1)).mono ?_;rintro e v2 ⟨rfl,k2,o2⟩
 have B2:=o2.blk ((O1.out.blk H.out.blk n1).draws 1) e2;have J2:=ah6 k2;have O2:=ah6 (((Only.refl (· = bj) v1).draws 1).trans o2);clear q0 q2 q3 k2 o2
 have q2:=B2.cell 2;have q3:=B2.cell 3
 simp at q2 q3;clear B2
 go_wp2_with fail
 (refine kF 11 (by kernel_rfl) (by kernel_rfl) ?_;simp only [List.take_succ_cons,List.take_zero,List.drop_succ_cons,List.drop_zero];(repeat still_step);(try refine wpStill_nil ?_))
 have cnn:=cn v2.drew (J2.out.draws 1)
 (still_call (qK (cnn));(repeat still_step);(try refine wpStill_nil ?_))
 clear cnn
 go_wp2_with fail
 refine (cu _ ((O2.out.blk (O1.out.blk H.out.del n4) e6.symm).draws 1)).mono ?_;rintro e v3 ⟨rfl,k3,o3⟩
 have O3:=ah6 (((Only.refl (· = bd) v2).draws 1).trans o3);have D3:=ah6 k3;clear q2 q3 k3 o3
 go_wp2
 go_ret
 have z1:=O1.out.size;have z2:=O2.out.size;have z3:=O3.out.size
 refine ⟨rfl,⟨bw,bs,bj,bd,λk=>(Sw k \/ w.heap.size <= k) /\ k < v1.heap.size,ch',?_⟩,?_⟩
 ·rw [mI.out]
  have nn : ∀ k,k < w.heap.size -> ¬ Sw k -> ¬ ((Sw k \/ w.heap.size <= k) /\ k < v1.heap.size):=λk hk hn ⟨hh,_⟩=>hh.elim hn (by omega)
  have nw2 : ∀ k,((Sw k \/ w.heap.size <= k) /\ k < v1.heap.size) -> k ≠ bj /\ k ≠ bd:=λk hk=>⟨λe=>nn bj lbj n3 (e ▸ hk),λe=>nn bd lbd n4 (e ▸ hk)⟩
  refine ⟨?_,?_,?_,?_,D3.out,?_,?_,?_,⟨nn b lb n1,nn bs lbs n2,nn bj lbj n3,nn bd lbd n4⟩,H.out.ne⟩
  ·exact O3.out.blk (O2.out.blk (O1.out.blk H.out.blk n1) e2) e3
  ·exact (WIN.out.only O2.out (λk hk=>(nw2 k hk).1)).only O3.out (λk hk=>(nw2 k hk).2)
  ·exact O3.out.blk (O2.out.blk (O1.out.blk H.out.VU n2) e4) e5
  ·have:=O3.out.blk J2.out e6
   simpa using this
  ·have:=RD.out
   simp only [List.length_append,List.length_singleton]
   omega
  ·exact λk hk=>hk.2
  ·exact ⟨⟨.inl s1,by omega⟩,⟨.inl s2,by omega⟩,⟨.inl s3,by omega⟩,⟨.inl s4,by omega⟩,λk hk=>⟨hk.1.imp (s5 k) id,by have:=hk.2;omega⟩⟩
 ·exact ((O1.out.weaken (T:=S) (λk _ hk=>s5 k hk)).aU O2.out (λi _ e=>by subst e;exact s3)).aU O3.out (λi _ e=>by subst e;exact s4)
theorem Lv (b : Nat) (c : aN) (hc : dF c = 0) (s : CS) (x : Int) (S : Nat -> Prop) (w : World) (h : su w b c s S) (hL : s.L = []) :
 Calls Tryz.prog 42 #[.pointer (some ⟨b,0,none⟩),.int .i64 x] w λe w'=>e = .returned (.tuple #[.int .i64 0,.bool false]) /\ w = w':=by
 have co:=Ia b c s S w h
 rw [hL,show bV c.window.toNat [] = [] by simp [bV],show decide (([] : List Int) ≠ []) = false from rfl] at co
 generalize dP [] = m at *
 go_enter Tryz.func42,Tryz.ntmps42
 go_wp2_with fail
 refine co.mono ?_;rintro e w' ⟨rfl,rfl⟩
 go_wp2
 go_ret2
 exact ⟨rfl,rfl⟩
theorem ZG {c : aN} {s : CS} {x : Int} (ok : s.Ok c) (hx : ay x) : (iy c s x).Ok c:=by
 have hw : ay (sw c s x):=jw _ _
 refine ⟨ok.l,ok.len,ok.qc,ok.oW,?_,?_,.inr rfl⟩
 ·simp only [iy]
  split
  ·exact hw
  ·exact WB ok.au hw
 ·simp only [iy]
  split
  ·exact hx
  ·have:=ok.last;unfold ay at *;omega
theorem UL (c : aN) (hc : dF c ≠ 0) (w : World) :
 Calls Tryz.prog 32 #[aY c] w λe w'=>e = .returned (.tuple #[.pointer none,.int .i64 (dF c)]) /\ Below w.heap.size w w':=by
 have hk:=DK c
 have h0' : (dF c != 0) = true:=by simpa using hc
 clear hc
 generalize dF c = k at *
 unfold aY at hk ⊢
 go_enter Tryz.func32,Tryz.ntmps32
 go_wp2_with fail
 refine (hk _).mono ?_;rintro e w1 ⟨rfl,hb1⟩
 go_wp2
 go_ret2
 exact ⟨rfl,(ah7).trans (hb1.mono (by simp))⟩
def ZH (c : aN) (w : World) (e : Ending) (w' : World) : Prop :=
 ∃ b S,e = .returned (.tuple #[.pointer (some ⟨b,0,none⟩),.int .i64 0]) /\ su w' b c (cs0 c) S /\ (∀ k,S k -> w.heap.size <= k) /\ Below w.heap.size w w'
set_option maxHeartbeats 1000000 in
theorem Xw (c : aN) (ok : c.Ok) (hc : dF c = 0) (w : World) :
 Calls Tryz.prog 32 #[aY c] w (ZH c w):=by
 obtain ⟨hw,h0,hr⟩:=vE hc
 obtain ⟨_,_,r1,r2⟩:=qX.1 hw
 have hk:=DK c
 rw [hc] at hk
 have cw:=Xt c.window r1 r2;have cs:=WI c.num c.den hr;have cd:=WK c ok h0;have HW:=ah6 (Xu c.window)
 have HX : Hid (c.window = (c.window.toNat : Nat)):=ah6 (by omega)
 have OK:=ah6 ok;clear ok hc hw h0 hr r1 r2
 unfold aY at hk cd ⊢
 go_enter Tryz.func32,Tryz.ntmps32
 go_wp2_with fail
 refine (hk _).mono ?_;rintro e w1 ⟨rfl,hb1⟩
 have CB:=ah6 ((ak.new w #[.int .i64 c.ring,.int .i64 c.window,.int .i64 c.base,.int .i64 c.gain,.int .i64 c.least,.int .i64 c.most,.int .i64 c.aC,.int .i64 c.num,.int .i64 c.den,.int .i64 c.extra,.bool c.aB] 29).below hb1 (by simp))
 obtain ⟨q0,q1,q2,q3,q4,q5,q6,q7,q8,q9,ku⟩:=eH CB.out
 have HB : Hid (Below w.heap.size w w1):=ah6 ((ah7).trans (hb1.mono (by simp)))
 have z1 : w.heap.size < w1.heap.size:=by have:=hb1.size;simp at this;omega
 clear hb1
 go_wp2_with fail
 refine (cw _).mono ?_;rintro e w2 ⟨rfl,rfl⟩
 go_wp2_with fail
 refine (cs _).mono ?_;rintro e w3 ⟨rfl,rfl⟩
 go_wp2_with fail
 refine (cd _).mono ?_;rintro e w4 ⟨bd,rfl,kd,D4,hb4⟩
 have DD:=ah6 D4;have gT:=ah6 hb4;have HK:=ah6 kd;have z4:=ah6 hb4.size;clear q0 q1 q2 q3 q4 q5 q6 q7 q8 q9 ku D4 hb4 kd hk cw cs cd
 go_wp2_with fail
 go_loopw [42,12] (λi v wr=>∃ k : Int,i = .int .i64 k /\ 0 <= k /\ k <= 3 /\ w4.alloc (.cells #[.int .i64 0,.int .i64 0,.int .i64 0] 25) = wr) (λi _ _=>3 - (intOf i).toNat)
 case atStart=>exact ⟨0,rfl,by omega,by omega,rfl⟩
 case round =>
  obtain ⟨k,rfl,h0,h3,rfl⟩:=hrel
  rcases (show k = 0 \/ k = 1 \/ k = 2 \/ k = 3 by omega) with rfl | rfl | rfl | rfl
  ·go_wp2
   go_roundw
   case rel=>exact ⟨1,rfl,by omega,by omega,by first | rfl | trivial⟩
   case measure=>simp [intOf]
  ·go_wp2
   go_roundw
   case rel=>exact ⟨2,rfl,by omega,by omega,by first | rfl | trivial⟩
   case measure=>simp [intOf]
  ·go_wp2
   go_roundw
   case rel=>exact ⟨3,rfl,by omega,by omega,by first | rfl | trivial⟩
   case measure=>simp [intOf]
  ·go_wp2_with fail
   refine (ZA _).mono ?_;rintro e w5 ⟨rfl,rfl⟩
   go_wp2
   go_ret2
   have k1:=HK.out;have k4:=z4.out;have kl:=DD.out.lt
   simp at k1 k4
   have O4 : Only uH w4 (((w4.alloc (.cells #[.int .i64 0,.int .i64 0,.int .i64 0] 25)).alloc (.cells #[.int .i64 0,.int .i64 0] 192)).alloc (.cells #[.pointer (some ⟨w1.heap.size,0,none⟩),.pointer (some ⟨w1.heap.size + 1,0,none⟩),.pointer (some ⟨w4.heap.size + 1,0,none⟩),.pointer (some ⟨bd,0,none⟩)] 139)):=(((Only.refl uH w4).alloc _).alloc _).alloc _
   have O3:=(Only.of_below (S:=uH) gT.out);have OW:=((Only.refl uH (w1.alloc (.cells #[.int .i64 c.window,.slice none 0 0,.slice none 0 0,.slice none 0 0] 185))).alloc (.cells #[.int .i64 c.num,.int .i64 c.den,.int .i64 0,.int .i64 0,.int .i64 0] 187)).trans (O3.trans O4);have OS:=O3.trans O4;have BS:=ak.new (w1.alloc (.cells #[.int .i64 c.window,.slice none 0 0,.slice none 0 0,.slice none 0 0] 185)) #[.int .i64 c.num,.int .i64 c.den,.int .i64 0,.int .i64 0,.int .i64 0] 187;have BJ:=(ak.new (w4.alloc (.cells #[.int .i64 0,.int .i64 0,.int .i64 0] 25)) #[.int .i64 0,.int .i64 0] 192).alloc (.cells #[.pointer (some ⟨w1.heap.size,0,none⟩),.pointer (some ⟨w1.heap.size + 1,0,none⟩),.pointer (some ⟨w4.heap.size + 1,0,none⟩),.pointer (some ⟨bd,0,none⟩)] 139)
   have BC:=ak.new ((w4.alloc (.cells #[.int .i64 0,.int .i64 0,.int .i64 0] 25)).alloc (.cells #[.int .i64 0,.int .i64 0] 192)) #[.pointer (some ⟨w1.heap.size,0,none⟩),.pointer (some ⟨w1.heap.size + 1,0,none⟩),.pointer (some ⟨w4.heap.size + 1,0,none⟩),.pointer (some ⟨bd,0,none⟩)] 139
   simp only [World.size_alloc] at BS BJ BC
   refine ⟨w4.heap.size + 2,λk=>k = w1.heap.size \/ k = w1.heap.size + 1 \/ k = bd \/ k = w4.heap.size + 1 \/ k = w4.heap.size + 2,?_,⟨w1.heap.size,w1.heap.size + 1,w4.heap.size + 1,bd,λk=>k = w1.heap.size,0,?_⟩,λk hk=>by omega,?_⟩
   ·simp
   ·refine ⟨BC,?_,OS.blk BS (λhf=>hf),BJ,O4.blk DD.out (λhf=>hf),⟨Int.le_refl _,Int.le_refl _⟩,λk hk=>by simp;omega,by simp,by omega,by omega⟩
    rw [show bV c.window.toNat (cs0 c).L = [] by simp [bV,cs0],← HX.out]
    exact (HW.out w1).only OW (λ_ _ hf=>hf)
   ·exact HB.out.trans (((((ah8.alloc (by omega) _).alloc (by simp;omega) _).trans ((gT.out).mono (by simp;omega))).trans ((((Below.refl _ w4).alloc (by omega) _).alloc (by simp;omega) _).alloc (by simp;omega) _)))
end Go.Proofs.YtklkooeimkedgaaGreat
