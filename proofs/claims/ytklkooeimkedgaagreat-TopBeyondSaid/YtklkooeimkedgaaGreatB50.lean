/- Walk of TopBeyond. -/
import Derived.Test.YtklkooeimkedgaaGreatB25
import Derived.Test.YtklkooeimkedgaaGreatB49
set_option linter.unusedVariables false
set_option linter.unusedSimpArgs false
namespace Go.Proofs.YtklkooeimkedgaaGreat
open Go.RowKit
def bU (n : Nat) (L : List Int) : List Int:=L.drop (L.length - n)
theorem Ch (n : Nat) (L : List Int) : (bU n L).length = min n L.length:=by unfold bU;rw [List.length_drop];omega
theorem Fw {n : Nat} {L : List Int} (h : L.length < n) (x : Int) : bU n (L ++ [x]) = bU n L ++ [x]:=by
 unfold bU
 rw [List.length_append,List.length_singleton,show L.length + 1 - n = 0 by omega,show L.length - n = 0 by omega]
 rfl
theorem Fx {n : Nat} {L : List Int} (hn : 1 <= n) (h : n <= L.length) (x : Int) : ∃ y M,bU n L = y :: M /\ M.length + 1 = n /\ bU n (L ++ [x]) = M ++ [x]:=by
 have hl:=Ch n L
 cases hd : bU n L with
 | nil=>rw [hd] at hl;simp at hl;omega
 | cons y M =>
   rw [hd] at hl
   simp at hl
   refine ⟨y,M,rfl,by omega,?_⟩
   unfold bU at hd ⊢
   rw [List.length_append,List.length_singleton,show L.length + 1 - n = L.length - n + 1 by omega,List.drop_append_of_le_length (by omega)]
   rw [← List.drop_drop,hd]
   rfl
theorem Ig {n : Nat} {L : List Int} {x : Int} (h : x ∈ bU n L) : x ∈ L:=List.mem_of_mem_drop h
theorem Sj {n : Nat} {L : List Int} (hn : 1 <= n) : bU n L = [] ↔ L = []:=by
 have hl:=Ch n L
 constructor
 ·intro h
  rw [h] at hl
  exact List.length_eq_zero_iff.1 (by simp at hl;omega)
 ·rintro rfl;simp [bU]
theorem aah (b : Nat) (n : Nat) (hn : 1 <= n) (hn2 : n <= 64) (L : List Int) (S : Nat -> Prop) (x : Int) (w : World) (h : mg w b n (bU n L) S) :
 Calls Tryz.prog 81 #[.pointer (some ⟨b,0,none⟩),.int .i64 x] w λe w'=>e = .returned (.int .i64 0) /\ mg w' b n (bU n (L ++ [x])) (λk=>S k \/ w.heap.size <= k) /\ Only S w w':=by
 have hl:=Ch n L
 by_cases hc : L.length < n
 ·rw [Fw hc]
  have g1 : ((bU n L).length : Int) < n:=by omega
  have g2 : (bU n L).length <= 1000:=by omega
  exact Sd b n (bU n L) S x w h g1 g2
 ·obtain ⟨y,M,h1,h2,h3⟩:=Fx hn (Nat.le_of_not_lt hc) x
  rw [h3]
  rw [h1] at h
  subst h2
  have hb : M.length <= 1000:=by omega
  exact Sg b y M S x w (by simpa using h) hb
theorem nE.cap {w : World} {b : Nat} {most : Int} {L1 L2 L3 : List Int} {S : Nat -> Prop} {v1 v2 v3 : Value} {g1 g2 g3 : Option Nat} (h : nE w b most L1 L2 L3 S v1 v2 v3 g1 g2 g3) : nE w b most L1 L2 L3 (λk=>S k /\ k < w.heap.size) v1 v2 v3 g1 g2 g3 :=
 ⟨h.blk,h.last,h.low,h.high,⟨h.sb,h.blk.lt⟩,λk e=>⟨⟨(h.s1 k e).1,h.last.gt k e⟩,(h.s1 k e).2⟩,λk e=>⟨⟨(h.s2 k e).1,h.low.gt k e⟩,(h.s2 k e).2⟩,λk e=>⟨⟨(h.s3 k e).1,h.high.gt k e⟩,(h.s3 k e).2⟩,h.Ib,h.Ic,h.Ie⟩
theorem mg.cap {w : World} {b : Nat} {most : Int} {L : List Int} {S : Nat -> Prop} (h : mg w b most L S) : mg w b most L (λk=>S k /\ k < w.heap.size):=by
 obtain ⟨v1,v2,v3,g1,g2,g3,h⟩:=h
 exact ⟨v1,v2,v3,g1,g2,g3,h.cap⟩
structure CS where
 L : List Int
 qg : Int
 oZ : Int
 au : Int
 last : Int
 st : Int
structure CS.Ok (c : aO) (s : CS) : Prop where
 l : ∀ x ∈ s.L,ay x
 len : s.L.length <= 1000
 qg : 0 <= s.qg /\ s.qg <= 9223372036854775807
 oZ : xq c s.oZ
 au : ay s.au
 last : ay s.last
 st : s.st = 0 \/ s.st = 1
structure CkP (w : World) (b : Nat) (c : aO) (s : CS) (S : Nat -> Prop) (bw bs bj bd : Nat) (Sw : Nat -> Prop) (ch : Int) : Prop where
 blk : ak w b #[.pointer (some ⟨bw,0,none⟩),.pointer (some ⟨bs,0,none⟩),.pointer (some ⟨bj,0,none⟩),.pointer (some ⟨bd,0,none⟩)] 139
 win : mg w bw (c.window.toNat : Nat) (bU c.window.toNat s.L) Sw
 Wz : Cz w bs c.num c.den s.au s.last s.st
 jt : xX w bj s.qg s.L.length
 del : xk w bd c s.oZ ch
 ch : 0 <= ch /\ ch <= s.L.length
 sS : ∀ k,S k -> k < w.heap.size
 sb : S b /\ S bs /\ S bj /\ S bd /\ ∀ k,Sw k -> S k
 nw : ¬ Sw b /\ ¬ Sw bs /\ ¬ Sw bj /\ ¬ Sw bd
 ne : b ≠ bs /\ b ≠ bj /\ b ≠ bd /\ bs ≠ bj /\ bs ≠ bd /\ bj ≠ bd
def su (w : World) (b : Nat) (c : aO) (s : CS) (S : Nat -> Prop) : Prop:=∃ bw bs bj bd Sw ch,CkP w b c s S bw bs bj bd Sw ch
theorem su.lt {w : World} {b : Nat} {c : aO} {s : CS} {S : Nat -> Prop} (h : su w b c s S) : ∀ k,S k -> k < w.heap.size:=by
 obtain ⟨bw,bs,bj,bd,Sw,ch,h⟩:=h
 exact h.sS
theorem su.only {w w' : World} {b : Nat} {c : aO} {s : CS} {S T : Nat -> Prop} (h : su w b c s S) (ho : Only T w w') (hd : ∀ k,S k -> ¬ T k) : su w' b c s S:=by
 obtain ⟨bw,bs,bj,bd,Sw,ch,h⟩:=h
 obtain ⟨s1,s2,s3,s4,s5⟩:=h.sb
 exact ⟨bw,bs,bj,bd,Sw,ch,ho.blk h.blk (hd _ s1),h.win.only ho (λk e=>hd k (s5 k e)),ho.blk h.Wz (hd _ s2),ho.blk h.jt (hd _ s3),ho.blk h.del (hd _ s4),h.ch,λk e=>Nat.lt_of_lt_of_le (h.sS k e) ho.size,h.sb,h.nw,h.ne⟩
def vw (c : aO) (s : CS) (d : Int) : CS :=
 let L:=s.L ++ [d]
 let j:=nG s.qg (aK d (dR (bU c.window.toNat L)))
 { s with L:=L,qg:=j,oZ:=AB c s.oZ j }
def sw (c : aO) (s : CS) (r : Int) : Int:=aK (aK r (dR (bU c.window.toNat s.L))) s.oZ
def gZ (c : aO) (s : CS) (r : Int) : CS :=
 { s with au:=if s.st = 0 then sw c s r else GI s.au s.last r (sw c s r) c.num c.den,last:=if s.st = 0 then r else max s.last r,st:=1 }
def cs0 (c : aO) : CS:=⟨[],0,jK c 0,0,0,0⟩
theorem Ih (b : Nat) (c : aO) (s : CS) (S : Nat -> Prop) (w : World) (h : su w b c s S) :
 Calls Tryz.prog 86 #[.pointer (some ⟨b,0,none⟩)] w λe w'=>e = .returned (.tuple #[.int .i64 (dR (bU c.window.toNat s.L)),.bool (decide (bU c.window.toNat s.L ≠ []))]) /\ w = w':=by
 obtain ⟨bw,bs,bj,bd,Sw,ch,h⟩:=h
 have q0:=h.blk.cell 0;simp at q0;have cl:=KC bw _ _ Sw w h.win;clear h
 generalize decide (bU c.window.toNat s.L ≠ []) = t at *
 generalize dR (bU c.window.toNat s.L) = m at *
 go_enter Tryz.func86,Tryz.ntmps86
 go_wp2_with fail
 refine cl.mono ?_;rintro e w' ⟨rfl,rfl⟩
 go_wp2
 go_ret2
 exact ⟨rfl,rfl⟩
theorem U7 (b : Nat) (c : aO) (s : CS) (S : Nat -> Prop) (w : World) (h : su w b c s S) :
 Calls Tryz.prog 88 #[.pointer (some ⟨b,0,none⟩)] w λe w'=>e = .returned (.int .i64 s.oZ) /\ w = w':=by
 obtain ⟨bw,bs,bj,bd,Sw,ch,h⟩:=h
 have q0:=h.blk.cell 3;simp at q0;have cl:=YN bd c _ _ w h.del;clear h
 go_enter Tryz.func88,Tryz.ntmps88
 go_wp2_with fail
 refine cl.mono ?_;rintro e w' ⟨rfl,rfl⟩
 go_wp2
 go_ret
 exact ⟨rfl,rfl⟩
theorem Ei (S : Nat -> Prop) (w : World) : Only S w w.drew:=⟨rfl,rfl,rfl,Nat.le_refl _,λ_ _ _=>rfl⟩
theorem Fy {L : List Int} (h : ∀ x ∈ L,ay x) : ay (dR L):=by
 by_cases hL : L = []
 ·subst hL;exact ⟨by decide,by decide⟩
 ·exact h _ (LC hL).1
theorem U9 (c : aO) (now ch j : Int) : ch <= FU c now ch j /\ FU c now ch j <= ch + 1:=by
 unfold FU;split <;> omega
def Grow (S : Nat -> Prop) (w w' : World) : Nat -> Prop:=λk=>(S k \/ w.heap.size <= k) /\ k < w'.heap.size
theorem Sk {c : aO} {s : CS} {d : Int} (ok : s.Ok c) (h0 : fq c = 0) (hd : ay d) (hl : s.L.length < 1000) : (vw c s d).Ok c:=by
 have hL : ∀ x ∈ s.L ++ [d],ay x:=λx hx=>by
  rcases List.mem_append.1 hx with h | h
  ·exact ok.l x h
  ·simp at h;subst h;exact hd
 have hsub:=jq d (dR (bU c.window.toNat (s.L ++ [d])))
 exact ⟨hL,by simp [vw];omega,U5 ok.qg hsub.2,LY h0 ok.oZ,ok.au,ok.last,ok.st⟩
set_option maxRecDepth 8000 in
set_option maxHeartbeats 1000000 in
theorem Sl (b : Nat) (c : aO) (zn : c.Ok) (hc : dB c = 0) (s : CS) (ok : s.Ok c) (hlen : s.L.length < 1000) (x y : Int) (hx : ay x) (hy : ay y) (S : Nat -> Prop) (w : World) (h : su w b c s S) :
 Calls Tryz.prog 41 #[.pointer (some ⟨b,0,none⟩),.int .i64 x,.int .i64 y] w λe w'=>e = .returned (.int .i64 0) /\ su w' b c (vw c s (aK x y)) (Grow S w w') /\ Only S w w':=by
 obtain ⟨hw,h0,hr⟩:=vH hc
 obtain ⟨_,_,w1,w2⟩:=rz.1 hw
 obtain ⟨bw,bs,bj,bd,Sw,ch,h⟩:=h
 obtain ⟨s1,s2,s3,s4,s5⟩:=h.sb
 obtain ⟨n1,n2,n3,n4⟩:=h.nw
 obtain ⟨e1,e2,e3,e4,e5,e6⟩:=h.ne
 obtain ⟨ch1,ch2⟩:=h.ch
 have lb:=h.sS b s1;have lbs:=h.sS bs s2;have lbj:=h.sS bj s3;have lbd:=h.sS bd s4
 have q0:=h.blk.cell 0;have q2:=h.blk.cell 2;have q3:=h.blk.cell 3
 simp at q0 q2 q3;have okS:=Sk ok h0 (jq x y) hlen;have cs:=tQ x y hx hy
 have ca:=λd=>aah bw c.window.toNat (by omega) (by omega) s.L Sw d w h.win
 have cl:=λ(w' : World) (T : Nat -> Prop) (hh : mg w' bw (c.window.toNat : Nat) (bU c.window.toNat (s.L ++ [aK x y])) T)=>KC bw _ _ T w' hh
 have cs2:=tQ (aK x y) (dR (bU c.window.toNat (s.L ++ [aK x y]))) (jq _ _) (Fy λz hz=>okS.l z (Ig hz))
 have cj:=λ(w' : World) (hh : xX w' bj s.qg s.L.length)=>aag bj s.qg s.L.length (aK (aK x y) (dR (bU c.window.toNat (s.L ++ [aK x y])))) w' hh ⟨by have:=ok.qg;omega,ok.qg.2⟩ (jq _ _) (by omega) (by omega)
 have cn:=λ(w' : World) (hh : xX w' bj (nG s.qg (aK (aK x y) (dR (bU c.window.toNat (s.L ++ [aK x y]))))) (s.L.length + 1))=>aaf bj _ _ w' hh
 have cu:=λ(w' : World) (hh : xk w' bd c s.oZ ch)=>Qb bd c s.oZ ch (nG s.qg (aK (aK x y) (dR (bU c.window.toNat (s.L ++ [aK x y]))))) w' zn h0 ok.oZ (by have:=okS.qg;exact ⟨by have:=this.1;simp only [vw] at this;omega,this.2⟩) ch1 (by omega) hh
 have HU:=aiS (LY (j:=(nG s.qg (aK (aK x y) (dR (bU c.window.toNat (s.L ++ [aK x y])))))) h0 ok.oZ)
 have mK : Hid (vw c s (aK x y) = { s with L:=s.L ++ [aK x y],qg:=nG s.qg (aK (aK x y) (dR (bU c.window.toNat (s.L ++ [aK x y])))),oZ:=AB c s.oZ (nG s.qg (aK (aK x y) (dR (bU c.window.toNat (s.L ++ [aK x y]))))) }):=aiS rfl
 generalize vw c s (aK x y) = s' at *
 have R8:=λj=>U9 c s.oZ ch j
 generalize nG s.qg (aK (aK x y) (dR (bU c.window.toNat (s.L ++ [aK x y])))) = j at *
 have R8:=aiS (R8 j)
 generalize FU c s.oZ ch j = ch' at *
 generalize AB c s.oZ j = dl at *
 generalize aK (aK x y) (dR (bU c.window.toNat (s.L ++ [aK x y]))) = jd at *
 generalize decide (bU c.window.toNat (s.L ++ [aK x y]) ≠ []) = tb at *
 generalize dR (bU c.window.toNat (s.L ++ [aK x y])) = le at *
 generalize aK x y = d at *
 have H:=aiS h;clear h okS ok zn h0 hw hr hc
 go_enter Tryz.func41,Tryz.ntmps41
 go_wp2_with fail
 refine (cs _).mono ?_;rintro e w' ⟨rfl,rfl⟩
 go_wp2_with fail
 refine (ca d).mono ?_;rintro e v1 ⟨rfl,k1,o1⟩
 have B1:=o1.blk H.out.blk n1;have WIN:=aiS k1.cap;have O1:=aiS o1;have hz1:=aiS o1.size;clear q0 q2 q3 k1 o1
 have q0:=B1.cell 0;have q2:=B1.cell 2;have q3:=B1.cell 3
 simp at q0 q2 q3;clear B1
 go_wp2_with fail
 refine (cl _ _ WIN.out).mono ?_;rintro e w' ⟨rfl,rfl⟩
 go_wp2_with fail
 (refine kF 8 (by kernel_rfl) (by kernel_rfl) ?_;simp only [List.take_succ_cons,List.take_zero,List.drop_succ_cons,List.drop_zero];(repeat still_step);(try refine wpStill_nil ?_))
 (still_call (qO (cs2 _));(repeat still_step);(try refine wpStill_nil ?_))
 go_wp2_with fail
 refine (cj _ ((O1.out.blk H.out.jt n3).draws 1)).mono ?_;rintro e v2 ⟨rfl,k2,o2⟩
 have B2:=o2.blk ((O1.out.blk H.out.blk n1).draws 1) e2;have J2:=aiS k2;have O2:=aiS (((Only.refl (· = bj) v1).draws 1).trans o2);clear q0 q2 q3 k2 o2
 have q2:=B2.cell 2;have q3:=B2.cell 3
 simp at q2 q3;clear B2
 go_wp2_with fail
 (refine kF 11 (by kernel_rfl) (by kernel_rfl) ?_;simp only [List.take_succ_cons,List.take_zero,List.drop_succ_cons,List.drop_zero];(repeat still_step);(try refine wpStill_nil ?_))
 have cnn:=cn v2.drew (J2.out.draws 1)
 (still_call (qO (cnn));(repeat still_step);(try refine wpStill_nil ?_))
 clear cnn
 go_wp2_with fail
 refine (cu _ ((O2.out.blk (O1.out.blk H.out.del n4) e6.symm).draws 1)).mono ?_;rintro e v3 ⟨rfl,k3,o3⟩
 have O3:=aiS (((Only.refl (· = bd) v2).draws 1).trans o3);have D3:=aiS k3;clear q2 q3 k3 o3
 go_wp2
 go_ret
 have z1:=O1.out.size;have z2:=O2.out.size;have z3:=O3.out.size
 refine ⟨rfl,⟨bw,bs,bj,bd,λk=>(Sw k \/ w.heap.size <= k) /\ k < v1.heap.size,ch',?_⟩,?_⟩
 ·rw [mK.out]
  have nn : ∀ k,k < w.heap.size -> ¬ Sw k -> ¬ ((Sw k \/ w.heap.size <= k) /\ k < v1.heap.size):=λk hk hn ⟨hh,_⟩=>hh.elim hn (by omega)
  have nw2 : ∀ k,((Sw k \/ w.heap.size <= k) /\ k < v1.heap.size) -> k ≠ bj /\ k ≠ bd:=λk hk=>⟨λe=>nn bj lbj n3 (e ▸ hk),λe=>nn bd lbd n4 (e ▸ hk)⟩
  refine ⟨?_,?_,?_,?_,D3.out,?_,?_,?_,⟨nn b lb n1,nn bs lbs n2,nn bj lbj n3,nn bd lbd n4⟩,H.out.ne⟩
  ·exact O3.out.blk (O2.out.blk (O1.out.blk H.out.blk n1) e2) e3
  ·exact (WIN.out.only O2.out (λk hk=>(nw2 k hk).1)).only O3.out (λk hk=>(nw2 k hk).2)
  ·exact O3.out.blk (O2.out.blk (O1.out.blk H.out.Wz n2) e4) e5
  ·have:=O3.out.blk J2.out e6
   simpa using this
  ·have:=R8.out
   simp only [List.length_append,List.length_singleton]
   omega
  ·exact λk hk=>hk.2
  ·exact ⟨⟨.inl s1,by omega⟩,⟨.inl s2,by omega⟩,⟨.inl s3,by omega⟩,⟨.inl s4,by omega⟩,λk hk=>⟨hk.1.imp (s5 k) id,by have:=hk.2;omega⟩⟩
 ·exact ((O1.out.weaken (T:=S) (λk _ hk=>s5 k hk)).aW O2.out (λi _ e=>by subst e;exact s3)).aW O3.out (λi _ e=>by subst e;exact s4)
theorem LD (b : Nat) (c : aO) (hc : dB c = 0) (s : CS) (x : Int) (S : Nat -> Prop) (w : World) (h : su w b c s S) (hL : s.L = []) :
 Calls Tryz.prog 42 #[.pointer (some ⟨b,0,none⟩),.int .i64 x] w λe w'=>e = .returned (.tuple #[.int .i64 0,.bool false]) /\ w = w':=by
 have co:=Ih b c s S w h
 rw [hL,show bU c.window.toNat [] = [] by simp [bU],show decide (([] : List Int) ≠ []) = false from rfl] at co
 generalize dR [] = m at *
 go_enter Tryz.func42,Tryz.ntmps42
 go_wp2_with fail
 refine co.mono ?_;rintro e w' ⟨rfl,rfl⟩
 go_wp2
 go_ret2
 exact ⟨rfl,rfl⟩
theorem aaj {c : aO} {s : CS} {x : Int} (ok : s.Ok c) (hx : ay x) : (gZ c s x).Ok c:=by
 have hw : ay (sw c s x):=jq _ _
 refine ⟨ok.l,ok.len,ok.qg,ok.oZ,?_,?_,.inr rfl⟩
 ·simp only [gZ]
  split
  ·exact hw
  ·exact Xp ok.au hw
 ·simp only [gZ]
  split
  ·exact hx
  ·have:=ok.last;unfold ay at *;omega
theorem Va (c : aO) (hc : dB c ≠ 0) (w : World) :
 Calls Tryz.prog 32 #[aZ c] w λe w'=>e = .returned (.tuple #[.pointer none,.int .i64 (dB c)]) /\ Below w.heap.size w w':=by
 have hk:=DV c
 have h0' : (dB c != 0) = true:=by simpa using hc
 clear hc
 generalize dB c = k at *
 unfold aZ at hk ⊢
 go_enter Tryz.func32,Tryz.ntmps32
 go_wp2_with fail
 refine (hk _).mono ?_;rintro e w1 ⟨rfl,hb1⟩
 go_wp2
 go_ret2
 exact ⟨rfl,(aiT).trans (hb1.mono (by simp))⟩
def aak (c : aO) (w : World) (e : Ending) (w' : World) : Prop :=
 ∃ b S,e = .returned (.tuple #[.pointer (some ⟨b,0,none⟩),.int .i64 0]) /\ su w' b c (cs0 c) S /\ (∀ k,S k -> w.heap.size <= k) /\ Below w.heap.size w w'
set_option maxHeartbeats 1000000 in
theorem Yd (c : aO) (ok : c.Ok) (hc : dB c = 0) (w : World) :
 Calls Tryz.prog 32 #[aZ c] w (aak c w):=by
 obtain ⟨hw,h0,hr⟩:=vH hc
 obtain ⟨_,_,r1,r2⟩:=rz.1 hw
 have hk:=DV c
 rw [hc] at hk
 have cw:=Ya c.window r1 r2;have cs:=Xq c.num c.den hr;have cd:=Xt c ok h0;have HW:=aiS (Yb c.window)
 have HX : Hid (c.window = (c.window.toNat : Nat)):=aiS (by omega)
 have OK:=aiS ok;clear ok hc hw h0 hr r1 r2
 unfold aZ at hk cd ⊢
 go_enter Tryz.func32,Tryz.ntmps32
 go_wp2_with fail
 refine (hk _).mono ?_;rintro e w1 ⟨rfl,hb1⟩
 have CB:=aiS ((ak.new w #[.int .i64 c.ring,.int .i64 c.window,.int .i64 c.base,.int .i64 c.gain,.int .i64 c.least,.int .i64 c.most,.int .i64 c.aD,.int .i64 c.num,.int .i64 c.den,.int .i64 c.extra,.bool c.aC] 29).below hb1 (by simp))
 obtain ⟨q0,q1,q2,q3,q4,q5,q6,q7,q8,q9,kr⟩:=eu CB.out
 have HB : Hid (Below w.heap.size w w1):=aiS ((aiT).trans (hb1.mono (by simp)))
 have z1 : w.heap.size < w1.heap.size:=by have:=hb1.size;simp at this;omega
 clear hb1
 go_wp2_with fail
 refine (cw _).mono ?_;rintro e w2 ⟨rfl,rfl⟩
 go_wp2_with fail
 refine (cs _).mono ?_;rintro e w3 ⟨rfl,rfl⟩
 go_wp2_with fail
 refine (cd _).mono ?_;rintro e w4 ⟨bd,rfl,kd,D4,hb4⟩
 have DD:=aiS D4;have gP:=aiS hb4;have HK:=aiS kd;have z4:=aiS hb4.size;clear q0 q1 q2 q3 q4 q5 q6 q7 q8 q9 kr D4 hb4 kd hk cw cs cd
 go_wp2_with fail
 go_loopw [42,12] (λi v wr=>∃ k : Int,i = .int .i64 k /\ 0 <= k /\ k <= 3 /\ w4.alloc (.cells #[.int .i64 0,.int .i64 0,.int .i64 0] 25) = wr) (λi _ _=>3 - (intOf i).toNat)
 case atStart=>exact ⟨0,rfl,by omega,by omega,rfl⟩
 case round =>
  obtain ⟨k,rfl,h0,h3,rfl⟩:=hrel
  rcases (show k = 0 \/ k = 1 \/ k = 2 \/ k = 3 by omega) with rfl | rfl | rfl | rfl
  ·go_wp2
   go_roundw
   case rel=>exact ⟨1,rfl,by omega,by omega,by first | rfl | trivial⟩
   case measure=>simp [intOf]
  ·go_wp2
   go_roundw
   case rel=>exact ⟨2,rfl,by omega,by omega,by first | rfl | trivial⟩
   case measure=>simp [intOf]
  ·go_wp2
   go_roundw
   case rel=>exact ⟨3,rfl,by omega,by omega,by first | rfl | trivial⟩
   case measure=>simp [intOf]
  ·go_wp2_with fail
   refine (aae _).mono ?_;rintro e w5 ⟨rfl,rfl⟩
   go_wp2
   go_ret2
   have k1:=HK.out;have k4:=z4.out;have kl:=DD.out.lt
   simp at k1 k4
   have O4 : Only uL w4 (((w4.alloc (.cells #[.int .i64 0,.int .i64 0,.int .i64 0] 25)).alloc (.cells #[.int .i64 0,.int .i64 0] 192)).alloc (.cells #[.pointer (some ⟨w1.heap.size,0,none⟩),.pointer (some ⟨w1.heap.size + 1,0,none⟩),.pointer (some ⟨w4.heap.size + 1,0,none⟩),.pointer (some ⟨bd,0,none⟩)] 139)):=(((Only.refl uL w4).alloc _).alloc _).alloc _
   have O3:=(Only.of_below (S:=uL) gP.out);have OW:=((Only.refl uL (w1.alloc (.cells #[.int .i64 c.window,.slice none 0 0,.slice none 0 0,.slice none 0 0] 185))).alloc (.cells #[.int .i64 c.num,.int .i64 c.den,.int .i64 0,.int .i64 0,.int .i64 0] 187)).trans (O3.trans O4);have OS:=O3.trans O4;have BS:=ak.new (w1.alloc (.cells #[.int .i64 c.window,.slice none 0 0,.slice none 0 0,.slice none 0 0] 185)) #[.int .i64 c.num,.int .i64 c.den,.int .i64 0,.int .i64 0,.int .i64 0] 187;have BJ:=(ak.new (w4.alloc (.cells #[.int .i64 0,.int .i64 0,.int .i64 0] 25)) #[.int .i64 0,.int .i64 0] 192).alloc (.cells #[.pointer (some ⟨w1.heap.size,0,none⟩),.pointer (some ⟨w1.heap.size + 1,0,none⟩),.pointer (some ⟨w4.heap.size + 1,0,none⟩),.pointer (some ⟨bd,0,none⟩)] 139)
   have BC:=ak.new ((w4.alloc (.cells #[.int .i64 0,.int .i64 0,.int .i64 0] 25)).alloc (.cells #[.int .i64 0,.int .i64 0] 192)) #[.pointer (some ⟨w1.heap.size,0,none⟩),.pointer (some ⟨w1.heap.size + 1,0,none⟩),.pointer (some ⟨w4.heap.size + 1,0,none⟩),.pointer (some ⟨bd,0,none⟩)] 139
   simp only [World.size_alloc] at BS BJ BC
   refine ⟨w4.heap.size + 2,λk=>k = w1.heap.size \/ k = w1.heap.size + 1 \/ k = bd \/ k = w4.heap.size + 1 \/ k = w4.heap.size + 2,?_,⟨w1.heap.size,w1.heap.size + 1,w4.heap.size + 1,bd,λk=>k = w1.heap.size,0,?_⟩,λk hk=>by omega,?_⟩
   ·simp
   ·refine ⟨BC,?_,OS.blk BS (λhf=>hf),BJ,O4.blk DD.out (λhf=>hf),⟨Int.le_refl _,Int.le_refl _⟩,λk hk=>by simp;omega,by simp,by omega,by omega⟩
    rw [show bU c.window.toNat (cs0 c).L = [] by simp [bU,cs0],← HX.out]
    exact (HW.out w1).only OW (λ_ _ hf=>hf)
   ·exact HB.out.trans (((((aiU.alloc (by omega) _).alloc (by simp;omega) _).trans ((gP.out).mono (by simp;omega))).trans ((((Below.refl _ w4).alloc (by omega) _).alloc (by simp;omega) _).alloc (by simp;omega) _)))
end Go.Proofs.YtklkooeimkedgaaGreat
