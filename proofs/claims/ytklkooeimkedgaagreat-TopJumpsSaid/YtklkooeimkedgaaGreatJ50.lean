/- Parts of the walk of TopJumps: Clock3, Clock4, Clock5. -/
import Derived.Deep.RegionHeld3
import Derived.Test.YtklkooeimkedgaaGreatJ13
import Derived.Test.YtklkooeimkedgaaGreatJ49
set_option linter.unusedVariables false
set_option linter.unusedSimpArgs false
namespace Go.Proofs.YtklkooeimkedgaaGreat
open Go.RowKit
def lastN (n : Nat) (L : List Int) : List Int:=L.drop (L.length - n)
theorem lastN_len (n : Nat) (L : List Int) : (lastN n L).length = min n L.length:=by unfold lastN;rw [List.length_drop];omega
theorem lastN_snoc_room {n : Nat} {L : List Int} (h : L.length < n) (x : Int) : lastN n (L ++ [x]) = lastN n L ++ [x]:=by
 unfold lastN
 rw [List.length_append,List.length_singleton,show L.length + 1 - n = 0 by omega,show L.length - n = 0 by omega]
 rfl
theorem lastN_snoc_full {n : Nat} {L : List Int} (hn : 1 ≤ n) (h : n ≤ L.length) (x : Int) : ∃ y M,lastN n L = y :: M ∧ M.length + 1 = n ∧ lastN n (L ++ [x]) = M ++ [x]:=by
 have hl:=lastN_len n L
 cases hd : lastN n L with
 | nil=>rw [hd] at hl;simp at hl;omega
 | cons y M =>
  rw [hd] at hl
  simp at hl
  refine ⟨y,M,rfl,by omega,?_⟩
  unfold lastN at hd ⊢
  rw [List.length_append,List.length_singleton,show L.length + 1 - n = L.length - n + 1 by omega,List.drop_append_of_le_length (by omega)]
  rw [← List.drop_drop,hd]
  rfl
theorem lastN_mem {n : Nat} {L : List Int} {x : Int} (h : x ∈ lastN n L) : x ∈ L:=List.mem_of_mem_drop h
theorem lastN_nil {n : Nat} {L : List Int} (hn : 1 ≤ n) : lastN n L = [] ↔ L = []:=by
 have hl:=lastN_len n L
 constructor
 ·intro h
  rw [h] at hl
  exact List.length_eq_zero_iff.1 (by simp at hl;omega)
 ·rintro rfl;simp [lastN]
theorem wadd_f (b : Nat) (n : Nat) (hn : 1 ≤ n) (hn2 : n ≤ 64) (L : List Int) (S : Nat → Prop) (x : Int) (w : World) (h : WinAt w b n (lastN n L) S) :
  Calls Tryz.prog 81 #[.pointer (some ⟨b,0,none⟩),.int .i64 x] w fun e w'=>e = .returned (.int .i64 0) ∧ WinAt w' b n (lastN n (L ++ [x])) (fun k=>S k ∨ w.heap.size ≤ k) ∧ Only S w w':=by
 have hl:=lastN_len n L
 by_cases hc : L.length < n
 ·rw [lastN_snoc_room hc]
  have g1 : ((lastN n L).length : Int) < n:=by omega
  have g2 : (lastN n L).length ≤ 1000:=by omega
  exact wadd_room b n (lastN n L) S x w h g1 g2
 ·obtain ⟨y,M,h1,h2,h3⟩:=lastN_snoc_full hn (Nat.le_of_not_lt hc) x
  rw [h3]
  rw [h1] at h
  subst h2
  have hb : M.length ≤ 1000:=by omega
  exact wadd_full b y M S x w (by simpa using h) hb
theorem WinP.cap {w : World} {b : Nat} {most : Int} {L1 L2 L3 : List Int} {S : Nat → Prop} {v1 v2 v3 : Value} {g1 g2 g3 : Option Nat} (h : WinP w b most L1 L2 L3 S v1 v2 v3 g1 g2 g3) : WinP w b most L1 L2 L3 (fun k=>S k ∧ k < w.heap.size) v1 v2 v3 g1 g2 g3 :=
 ⟨h.blk,h.last,h.low,h.high,⟨h.sb,h.blk.lt⟩,fun k e=>⟨⟨(h.s1 k e).1,h.last.gt k e⟩,(h.s1 k e).2⟩,fun k e=>⟨⟨(h.s2 k e).1,h.low.gt k e⟩,(h.s2 k e).2⟩,fun k e=>⟨⟨(h.s3 k e).1,h.high.gt k e⟩,(h.s3 k e).2⟩,h.d12,h.d13,h.d23⟩
theorem WinAt.cap {w : World} {b : Nat} {most : Int} {L : List Int} {S : Nat → Prop} (h : WinAt w b most L S) : WinAt w b most L (fun k=>S k ∧ k < w.heap.size):=by
 obtain ⟨v1,v2,v3,g1,g2,g3,h⟩:=h
 exact ⟨v1,v2,v3,g1,g2,g3,h.cap⟩
structure CS where
 L : List Int
 jit : Int
 dly : Int
 at0 : Int
 last : Int
 st : Int
structure CS.Ok (c : Cfg) (s : CS) : Prop where
 l : ∀ x ∈ s.L,I64 x
 len : s.L.length ≤ 1000
 jit : 0 ≤ s.jit ∧ s.jit ≤ 9223372036854775807
 dly : InLim c s.dly
 at0 : I64 s.at0
 last : I64 s.last
 st : s.st = 0 ∨ s.st = 1
structure CkP (w : World) (b : Nat) (c : Cfg) (s : CS) (S : Nat → Prop) (bw bs bj bd : Nat) (Sw : Nat → Prop) (ch : Int) : Prop where
 blk : Blk w b #[.pointer (some ⟨bw,0,none⟩),.pointer (some ⟨bs,0,none⟩),.pointer (some ⟨bj,0,none⟩),.pointer (some ⟨bd,0,none⟩)] 139
 win : WinAt w bw (c.window.toNat : Nat) (lastN c.window.toNat s.L) Sw
 clk : ClkAt w bs c.num c.den s.at0 s.last s.st
 jt : JitAt w bj s.jit s.L.length
 del : DelAt w bd c s.dly ch
 ch : 0 ≤ ch ∧ ch ≤ s.L.length
 sS : ∀ k,S k → k < w.heap.size
 sb : S b ∧ S bs ∧ S bj ∧ S bd ∧ ∀ k,Sw k → S k
 nw : ¬ Sw b ∧ ¬ Sw bs ∧ ¬ Sw bj ∧ ¬ Sw bd
 ne : b ≠ bs ∧ b ≠ bj ∧ b ≠ bd ∧ bs ≠ bj ∧ bs ≠ bd ∧ bj ≠ bd
def CkAt (w : World) (b : Nat) (c : Cfg) (s : CS) (S : Nat → Prop) : Prop:=∃ bw bs bj bd Sw ch,CkP w b c s S bw bs bj bd Sw ch
theorem CkAt.lt {w : World} {b : Nat} {c : Cfg} {s : CS} {S : Nat → Prop} (h : CkAt w b c s S) : ∀ k,S k → k < w.heap.size:=by
 obtain ⟨bw,bs,bj,bd,Sw,ch,h⟩:=h
 exact h.sS
theorem CkAt.only {w w' : World} {b : Nat} {c : Cfg} {s : CS} {S T : Nat → Prop} (h : CkAt w b c s S) (ho : Only T w w') (hd : ∀ k,S k → ¬ T k) : CkAt w' b c s S:=by
 obtain ⟨bw,bs,bj,bd,Sw,ch,h⟩:=h
 obtain ⟨s1,s2,s3,s4,s5⟩:=h.sb
 exact ⟨bw,bs,bj,bd,Sw,ch,ho.blk h.blk (hd _ s1),h.win.only ho (fun k e=>hd k (s5 k e)),ho.blk h.clk (hd _ s2),ho.blk h.jt (hd _ s3),ho.blk h.del (hd _ s4),h.ch,fun k e=>Nat.lt_of_lt_of_le (h.sS k e) ho.size,h.sb,h.nw,h.ne⟩
def smp (c : Cfg) (s : CS) (d : Int) : CS :=
 let L:=s.L ++ [d]
 let j:=jstep s.jit (subF d (leastF (lastN c.window.toNat L)))
 { s with L:=L,jit:=j,dly:=updF c s.dly j }
def wantF (c : Cfg) (s : CS) (r : Int) : Int:=subF (subF r (leastF (lastN c.window.toNat s.L))) s.dly
def frm (c : Cfg) (s : CS) (r : Int) : CS :=
 { s with at0:=if s.st = 0 then wantF c s r else toF s.at0 s.last r (wantF c s r) c.num c.den,last:=if s.st = 0 then r else max s.last r,st:=1 }
def cs0 (c : Cfg) : CS:=⟨[],0,targF c 0,0,0,0⟩
theorem coffset_f (b : Nat) (c : Cfg) (s : CS) (S : Nat → Prop) (w : World) (h : CkAt w b c s S) :
  Calls Tryz.prog 86 #[.pointer (some ⟨b,0,none⟩)] w fun e w'=>e = .returned (.tuple #[.int .i64 (leastF (lastN c.window.toNat s.L)),.bool (decide (lastN c.window.toNat s.L ≠ []))]) ∧ w = w':=by
 obtain ⟨bw,bs,bj,bd,Sw,ch,h⟩:=h
 have q0:=h.blk.cell 0
 simp at q0
 have cl:=wleast_f bw _ _ Sw w h.win
 clear h
 generalize decide (lastN c.window.toNat s.L ≠ []) = t at *
 generalize leastF (lastN c.window.toNat s.L) = m at *
 go_enter Tryz.func86,Tryz.ntmps86
 go_wp2_with fail
 refine cl.mono ?_;rintro e w' ⟨rfl,rfl⟩
 go_wp2
 go_ret2
 exact ⟨rfl,rfl⟩
theorem cdelay_f (b : Nat) (c : Cfg) (s : CS) (S : Nat → Prop) (w : World) (h : CkAt w b c s S) :
  Calls Tryz.prog 88 #[.pointer (some ⟨b,0,none⟩)] w fun e w'=>e = .returned (.int .i64 s.dly) ∧ w = w':=by
 obtain ⟨bw,bs,bj,bd,Sw,ch,h⟩:=h
 have q0:=h.blk.cell 3
 simp at q0
 have cl:=dnow_f bd c _ _ w h.del
 clear h
 go_enter Tryz.func88,Tryz.ntmps88
 go_wp2_with fail
 refine cl.mono ?_;rintro e w' ⟨rfl,rfl⟩
 go_wp2
 go_ret
 exact ⟨rfl,rfl⟩
theorem onlyDrew (S : Nat → Prop) (w : World) : Only S w w.drew:=⟨rfl,rfl,rfl,Nat.le_refl _,fun _ _ _=>rfl⟩
theorem leastF_i64 {L : List Int} (h : ∀ x ∈ L,I64 x) : I64 (leastF L):=by
 by_cases hL : L = []
 ·subst hL;exact ⟨by decide,by decide⟩
 ·exact h _ (leastF_spec hL).1
theorem updN_one (c : Cfg) (now ch j : Int) : ch ≤ updN c now ch j ∧ updN c now ch j ≤ ch + 1:=by
 unfold updN;split <;> omega
def Grow (S : Nat → Prop) (w w' : World) : Nat → Prop:=fun k=>(S k ∨ w.heap.size ≤ k) ∧ k < w'.heap.size
theorem smp_ok {c : Cfg} {s : CS} {d : Int} (ok : s.Ok c) (h0 : dchk c = 0) (hd : I64 d) (hl : s.L.length < 1000) : (smp c s d).Ok c:=by
 have hL : ∀ x ∈ s.L ++ [d],I64 x:=fun x hx=>by
  rcases List.mem_append.1 hx with h | h
  ·exact ok.l x h
  ·simp at h;subst h;exact hd
 have hsub:=subF_i64 d (leastF (lastN c.window.toNat (s.L ++ [d])))
 exact ⟨hL,by simp [smp];omega,jstep_bd ok.jit hsub.2,upd_lim h0 ok.dly,ok.at0,ok.last,ok.st⟩
set_option maxRecDepth 8000 in
set_option maxHeartbeats 1000000 in
theorem csample_f (b : Nat) (c : Cfg) (okc : c.Ok) (hc : cchk c = 0) (s : CS) (ok : s.Ok c) (hlen : s.L.length < 1000) (x y : Int) (hx : I64 x) (hy : I64 y) (S : Nat → Prop) (w : World) (h : CkAt w b c s S) :
  Calls Tryz.prog 41 #[.pointer (some ⟨b,0,none⟩),.int .i64 x,.int .i64 y] w fun e w'=>e = .returned (.int .i64 0) ∧ CkAt w' b c (smp c s (subF x y)) (Grow S w w') ∧ Only S w w':=by
 obtain ⟨hw,h0,hr⟩:=cchk_ok hc
 obtain ⟨_,_,w1,w2⟩:=winOk_iff.1 hw
 obtain ⟨bw,bs,bj,bd,Sw,ch,h⟩:=h
 obtain ⟨s1,s2,s3,s4,s5⟩:=h.sb
 obtain ⟨n1,n2,n3,n4⟩:=h.nw
 obtain ⟨e1,e2,e3,e4,e5,e6⟩:=h.ne
 obtain ⟨ch1,ch2⟩:=h.ch
 have lb:=h.sS b s1;have lbs:=h.sS bs s2;have lbj:=h.sS bj s3;have lbd:=h.sS bd s4
 have q0:=h.blk.cell 0;have q2:=h.blk.cell 2;have q3:=h.blk.cell 3
 simp at q0 q2 q3
 have okS:=smp_ok ok h0 (subF_i64 x y) hlen
 have cs:=sub_f x y hx hy
 have ca:=fun d=>wadd_f bw c.window.toNat (by omega) (by omega) s.L Sw d w h.win
 have cl:=fun (w' : World) (T : Nat → Prop) (hh : WinAt w' bw (c.window.toNat : Nat) (lastN c.window.toNat (s.L ++ [subF x y])) T)=>wleast_f bw _ _ T w' hh
 have cs2:=sub_f (subF x y) (leastF (lastN c.window.toNat (s.L ++ [subF x y]))) (subF_i64 _ _) (leastF_i64 fun z hz=>okS.l z (lastN_mem hz))
 have cj:=fun (w' : World) (hh : JitAt w' bj s.jit s.L.length)=>jadd_f bj s.jit s.L.length (subF (subF x y) (leastF (lastN c.window.toNat (s.L ++ [subF x y])))) w' hh ⟨by have:=ok.jit;omega,ok.jit.2⟩ (subF_i64 _ _) (by omega) (by omega)
 have cn:=fun (w' : World) (hh : JitAt w' bj (jstep s.jit (subF (subF x y) (leastF (lastN c.window.toNat (s.L ++ [subF x y]))))) (s.L.length + 1))=>jnow_f bj _ _ w' hh
 have cu:=fun (w' : World) (hh : DelAt w' bd c s.dly ch)=>dupdate_f bd c s.dly ch (jstep s.jit (subF (subF x y) (leastF (lastN c.window.toNat (s.L ++ [subF x y]))))) w' okc h0 ok.dly (by have:=okS.jit;exact ⟨by have:=this.1;simp only [smp] at this;omega,this.2⟩) ch1 (by omega) hh
 have HU:=Lib.hid (upd_lim (j:=(jstep s.jit (subF (subF x y) (leastF (lastN c.window.toNat (s.L ++ [subF x y])))))) h0 ok.dly)
 have HSM : Hid (smp c s (subF x y) = { s with L:=s.L ++ [subF x y],jit:=jstep s.jit (subF (subF x y) (leastF (lastN c.window.toNat (s.L ++ [subF x y])))),dly:=updF c s.dly (jstep s.jit (subF (subF x y) (leastF (lastN c.window.toNat (s.L ++ [subF x y]))))) }):=Lib.hid rfl
 generalize smp c s (subF x y) = s' at *
 have HUN:=fun j=>updN_one c s.dly ch j
 generalize jstep s.jit (subF (subF x y) (leastF (lastN c.window.toNat (s.L ++ [subF x y])))) = j at *
 have HUN:=Lib.hid (HUN j)
 generalize updN c s.dly ch j = ch' at *
 generalize updF c s.dly j = dl at *
 generalize subF (subF x y) (leastF (lastN c.window.toNat (s.L ++ [subF x y]))) = jd at *
 generalize decide (lastN c.window.toNat (s.L ++ [subF x y]) ≠ []) = tb at *
 generalize leastF (lastN c.window.toNat (s.L ++ [subF x y])) = le at *
 generalize subF x y = d at *
 have H:=Lib.hid h
 clear h okS ok okc h0 hw hr hc
 go_enter Tryz.func41,Tryz.ntmps41
 go_wp2_with fail
 refine (cs _).mono ?_;rintro e w' ⟨rfl,rfl⟩
 go_wp2_with fail
 refine (ca d).mono ?_;rintro e v1 ⟨rfl,k1,o1⟩
 have B1:=o1.blk H.out.blk n1
 have WIN:=Lib.hid k1.cap
 have O1:=Lib.hid o1
 have hz1:=Lib.hid o1.size
 clear q0 q2 q3 k1 o1
 have q0:=B1.cell 0;have q2:=B1.cell 2;have q3:=B1.cell 3
 simp at q0 q2 q3
 clear B1
 go_wp2_with fail
 refine (cl _ _ WIN.out).mono ?_;rintro e w' ⟨rfl,rfl⟩
 go_wp2_with fail
 (refine wp_region_tail 8 (by kernel_rfl) (by kernel_rfl) ?_;simp only [List.take_succ_cons,List.take_zero,List.drop_succ_cons,List.drop_zero];(repeat still_step);(try refine wpStill_nil ?_))
 (still_call (still_of (cs2 _));(repeat still_step);(try refine wpStill_nil ?_))
 go_wp2_with fail
 refine (cj _ ((O1.out.blk H.out.jt n3).draws 1)).mono ?_;rintro e v2 ⟨rfl,k2,o2⟩
 have B2:=o2.blk ((O1.out.blk H.out.blk n1).draws 1) e2
 have J2:=Lib.hid k2
 have O2:=Lib.hid (((Only.refl (· = bj) v1).draws 1).trans o2)
 clear q0 q2 q3 k2 o2
 have q2:=B2.cell 2;have q3:=B2.cell 3
 simp at q2 q3
 clear B2
 go_wp2_with fail
 (refine wp_region_tail 11 (by kernel_rfl) (by kernel_rfl) ?_;simp only [List.take_succ_cons,List.take_zero,List.drop_succ_cons,List.drop_zero];(repeat still_step);(try refine wpStill_nil ?_))
 have cnn:=cn v2.drew (J2.out.draws 1)
 (still_call (still_of (cnn));(repeat still_step);(try refine wpStill_nil ?_))
 clear cnn
 go_wp2_with fail
 refine (cu _ ((O2.out.blk (O1.out.blk H.out.del n4) e6.symm).draws 1)).mono ?_;rintro e v3 ⟨rfl,k3,o3⟩
 have O3:=Lib.hid (((Only.refl (· = bd) v2).draws 1).trans o3)
 have D3:=Lib.hid k3
 clear q2 q3 k3 o3
 go_wp2
 go_ret
 have z1:=O1.out.size;have z2:=O2.out.size;have z3:=O3.out.size
 refine ⟨rfl,⟨bw,bs,bj,bd,fun k=>(Sw k ∨ w.heap.size ≤ k) ∧ k < v1.heap.size,ch',?_⟩,?_⟩
 ·rw [HSM.out]
  have nn : ∀ k,k < w.heap.size → ¬ Sw k → ¬ ((Sw k ∨ w.heap.size ≤ k) ∧ k < v1.heap.size):=fun k hk hn ⟨hh,_⟩=>hh.elim hn (by omega)
  have nw2 : ∀ k,((Sw k ∨ w.heap.size ≤ k) ∧ k < v1.heap.size) → k ≠ bj ∧ k ≠ bd:=fun k hk=>⟨fun e=>nn bj lbj n3 (e ▸ hk),fun e=>nn bd lbd n4 (e ▸ hk)⟩
  refine ⟨?_,?_,?_,?_,D3.out,?_,?_,?_,⟨nn b lb n1,nn bs lbs n2,nn bj lbj n3,nn bd lbd n4⟩,H.out.ne⟩
  ·exact O3.out.blk (O2.out.blk (O1.out.blk H.out.blk n1) e2) e3
  ·exact (WIN.out.only O2.out (fun k hk=>(nw2 k hk).1)).only O3.out (fun k hk=>(nw2 k hk).2)
  ·exact O3.out.blk (O2.out.blk (O1.out.blk H.out.clk n2) e4) e5
  ·have:=O3.out.blk J2.out e6
   simpa using this
  ·have:=HUN.out
   simp only [List.length_append,List.length_singleton]
   omega
  ·exact fun k hk=>hk.2
  ·exact ⟨⟨.inl s1,by omega⟩,⟨.inl s2,by omega⟩,⟨.inl s3,by omega⟩,⟨.inl s4,by omega⟩,fun k hk=>⟨hk.1.imp (s5 k) id,by have:=hk.2;omega⟩⟩
 ·exact ((O1.out.weaken (T:=S) (fun k _ hk=>s5 k hk)).trans_new O2.out (fun i _ e=>by subst e;exact s3)).trans_new O3.out (fun i _ e=>by subst e;exact s4)
theorem frm_ok {c : Cfg} {s : CS} {x : Int} (ok : s.Ok c) (hx : I64 x) : (frm c s x).Ok c:=by
 have hw : I64 (wantF c s x):=subF_i64 _ _
 refine ⟨ok.l,ok.len,ok.jit,ok.dly,?_,?_,.inr rfl⟩
 ·simp only [frm]
  split
  ·exact hw
  ·exact toF_i64 ok.at0 hw
 ·simp only [frm]
  split
  ·exact hx
  ·have:=ok.last;unfold I64 at *;omega
def NewClk (c : Cfg) (w : World) (e : Ending) (w' : World) : Prop :=
 ∃ b S,e = .returned (.tuple #[.pointer (some ⟨b,0,none⟩),.int .i64 0]) ∧ CkAt w' b c (cs0 c) S ∧ (∀ k,S k → w.heap.size ≤ k) ∧ Below w.heap.size w w'
set_option maxHeartbeats 1000000 in
theorem cnew_ok (c : Cfg) (ok : c.Ok) (hc : cchk c = 0) (w : World) :
  Calls Tryz.prog 32 #[cfgV c] w (NewClk c w):=by
 obtain ⟨hw,h0,hr⟩:=cchk_ok hc
 obtain ⟨_,_,r1,r2⟩:=winOk_iff.1 hw
 have hk:=ccheck_f c
 rw [hc] at hk
 have cw:=wnew_ok c.window r1 r2
 have cs:=snew_ok c.num c.den hr
 have cd:=dnew_ok c ok h0
 have HW:=Lib.hid (win_new c.window)
 have HX : Hid (c.window = (c.window.toNat : Nat)):=Lib.hid (by omega)
 have OK:=Lib.hid ok
 clear ok hc hw h0 hr r1 r2
 unfold cfgV at hk cd ⊢
 go_enter Tryz.func32,Tryz.ntmps32
 go_wp2_with fail
 refine (hk _).mono ?_;rintro e w1 ⟨rfl,hb1⟩
 have CB:=Lib.hid ((Blk.new w #[.int .i64 c.ring,.int .i64 c.window,.int .i64 c.base,.int .i64 c.gain,.int .i64 c.least,.int .i64 c.most,.int .i64 c.slack,.int .i64 c.num,.int .i64 c.den,.int .i64 c.extra,.bool c.curved] 29).below hb1 (by simp))
 obtain ⟨q0,q1,q2,q3,q4,q5,q6,q7,q8,q9,q10⟩:=cfg_cells CB.out
 have HB : Hid (Below w.heap.size w w1):=Lib.hid (((Below.refl _ _).alloc (Nat.le_refl _) _).trans (hb1.mono (by simp)))
 have z1 : w.heap.size < w1.heap.size:=by have:=hb1.size;simp at this;omega
 clear hb1
 go_wp2_with fail
 refine (cw _).mono ?_;rintro e w2 ⟨rfl,rfl⟩
 go_wp2_with fail
 refine (cs _).mono ?_;rintro e w3 ⟨rfl,rfl⟩
 go_wp2_with fail
 refine (cd _).mono ?_;rintro e w4 ⟨bd,rfl,kd,D4,hb4⟩
 have DD:=Lib.hid D4
 have HB4:=Lib.hid hb4
 have HK:=Lib.hid kd
 have z4:=Lib.hid hb4.size
 clear q0 q1 q2 q3 q4 q5 q6 q7 q8 q9 q10 D4 hb4 kd hk cw cs cd
 go_wp2_with fail
 go_loopw [42,12] (fun i v wr=>∃ k : Int,i = .int .i64 k ∧ 0 ≤ k ∧ k ≤ 3 ∧ w4.alloc (.cells #[.int .i64 0,.int .i64 0,.int .i64 0] 25) = wr) (fun i _ _=>3 - (intOf i).toNat)
 case atStart=>exact ⟨0,rfl,by omega,by omega,rfl⟩
 case round =>
  obtain ⟨k,rfl,h0,h3,rfl⟩:=hrel
  rcases (show k = 0 ∨ k = 1 ∨ k = 2 ∨ k = 3 by omega) with rfl | rfl | rfl | rfl
  ·go_wp2
   go_roundw
   case rel=>exact ⟨1,rfl,by omega,by omega,by first | rfl | trivial⟩
   case measure=>simp [intOf]
  ·go_wp2
   go_roundw
   case rel=>exact ⟨2,rfl,by omega,by omega,by first | rfl | trivial⟩
   case measure=>simp [intOf]
  ·go_wp2
   go_roundw
   case rel=>exact ⟨3,rfl,by omega,by omega,by first | rfl | trivial⟩
   case measure=>simp [intOf]
  ·go_wp2_with fail
   refine (jnew_f _).mono ?_;rintro e w5 ⟨rfl,rfl⟩
   go_wp2
   go_ret2
   have k1:=HK.out;have k4:=z4.out;have kl:=DD.out.lt
   simp at k1 k4
   have O4 : Only noB w4 (((w4.alloc (.cells #[.int .i64 0,.int .i64 0,.int .i64 0] 25)).alloc (.cells #[.int .i64 0,.int .i64 0] 192)).alloc (.cells #[.pointer (some ⟨w1.heap.size,0,none⟩),.pointer (some ⟨w1.heap.size + 1,0,none⟩),.pointer (some ⟨w4.heap.size + 1,0,none⟩),.pointer (some ⟨bd,0,none⟩)] 139)):=(((Only.refl noB w4).alloc _).alloc _).alloc _
   have O3:=(Only.of_below (S:=noB) HB4.out)
   have OW:=((Only.refl noB (w1.alloc (.cells #[.int .i64 c.window,.slice none 0 0,.slice none 0 0,.slice none 0 0] 185))).alloc (.cells #[.int .i64 c.num,.int .i64 c.den,.int .i64 0,.int .i64 0,.int .i64 0] 187)).trans (O3.trans O4)
   have OS:=O3.trans O4
   have BS:=Blk.new (w1.alloc (.cells #[.int .i64 c.window,.slice none 0 0,.slice none 0 0,.slice none 0 0] 185)) #[.int .i64 c.num,.int .i64 c.den,.int .i64 0,.int .i64 0,.int .i64 0] 187
   have BJ:=(Blk.new (w4.alloc (.cells #[.int .i64 0,.int .i64 0,.int .i64 0] 25)) #[.int .i64 0,.int .i64 0] 192).alloc (.cells #[.pointer (some ⟨w1.heap.size,0,none⟩),.pointer (some ⟨w1.heap.size + 1,0,none⟩),.pointer (some ⟨w4.heap.size + 1,0,none⟩),.pointer (some ⟨bd,0,none⟩)] 139)
   have BC:=Blk.new ((w4.alloc (.cells #[.int .i64 0,.int .i64 0,.int .i64 0] 25)).alloc (.cells #[.int .i64 0,.int .i64 0] 192)) #[.pointer (some ⟨w1.heap.size,0,none⟩),.pointer (some ⟨w1.heap.size + 1,0,none⟩),.pointer (some ⟨w4.heap.size + 1,0,none⟩),.pointer (some ⟨bd,0,none⟩)] 139
   simp only [World.size_alloc] at BS BJ BC
   refine ⟨w4.heap.size + 2,fun k=>k = w1.heap.size ∨ k = w1.heap.size + 1 ∨ k = bd ∨ k = w4.heap.size + 1 ∨ k = w4.heap.size + 2,?_,⟨w1.heap.size,w1.heap.size + 1,w4.heap.size + 1,bd,fun k=>k = w1.heap.size,0,?_⟩,fun k hk=>by omega,?_⟩
   ·simp
   ·refine ⟨BC,?_,OS.blk BS (fun hf=>hf),BJ,O4.blk DD.out (fun hf=>hf),⟨Int.le_refl _,Int.le_refl _⟩,fun k hk=>by simp;omega,by simp,by omega,by omega⟩
    rw [show lastN c.window.toNat (cs0 c).L = [] by simp [lastN,cs0],← HX.out]
    exact (HW.out w1).only OW (fun _ _ hf=>hf)
   ·exact HB.out.trans ((((((Below.refl _ _).alloc (by omega) _).alloc (by simp;omega) _).trans ((HB4.out).mono (by simp;omega))).trans ((((Below.refl _ w4).alloc (by omega) _).alloc (by simp;omega) _).alloc (by simp;omega) _)))
end Go.Proofs.YtklkooeimkedgaaGreat
