/- Walk of TopDeltas. -/
import Derived.Test.YtklkooeimkedgaaGreatD30
import Derived.Test.YtklkooeimkedgaaGreatD51
set_option linter.unusedVariables false
set_option linter.unusedSimpArgs false
namespace Go.Proofs.YtklkooeimkedgaaGreat
open Go.RowKit
def nT (w : World) (k : Nat) : Prop:=∀ o v,w.cell? ⟨k,o,none⟩ ≠ some (.int .u16 v)
theorem EO {w : World} {b : Nat} {cs : Array Value} {t : TypeId} (h : ak w b cs t) (hc : ∀ v,.int .u16 v ∉ cs) : nT w b:=λo v hh=>by
 rw [h.cell] at hh
 exact hc v (Array.mem_of_getElem? hh)
theorem Au {w w' : World} {s : Option Addr} {n : Nat} {P : Nat -> Po} {T : Nat -> Prop} (h : dP w s n P) (ho : Only T w w') (hT : ∀ k,T k -> k < w.heap.size -> nT w k) : dP w' s n P:=by
 rcases h with h | ⟨b,off,e,hl,hc⟩
 ·exact .inl h
 ·by_cases hn : n = 0
  ·exact .inl hn
  ·refine .inr ⟨b,off,e,Nat.lt_of_lt_of_le hl ho.size,λi hi=>?_⟩
   have hb : ¬ T b:=λhh=>hT b hh hl _ _ (hc 0 (by omega)).2.2.2.2.1
   have hh : ∀ o,w'.cell? ⟨b,o,none⟩ = w.cell? ⟨b,o,none⟩:=λo=>by
    simp only [World.cell?];rw [ho.block b hl hb]
   have:=hc i hi
   unfold kY at this ⊢
   simp only [hh];exact this
set_option maxHeartbeats 1000000 in
theorem WQ (b : Nat) (c : aP) (hc : fE c = 0) (s : CS) (ok : s.Ok c) (x : Int) (hx : aA x) (S : Nat -> Prop) (w : World) (h : tq w b c s S) (hL : s.L ≠ []) :
 Calls Tryz.prog 42 #[.pointer (some ⟨b,0,none⟩),.int .i64 x] w λe w'=>e = .returned (.tuple #[.int .i64 (jo c s x).au,.bool true]) /\ tq w' b c (jo c s x) S /\ Only (λk=>S k /\ nT w k) w w':=by
 obtain ⟨hw,h0,hr⟩:=wC hc
 obtain ⟨_,_,w1,w2⟩:=ng.1 hw
 have hLn : bY c.window.toNat s.L ≠ []:=λe=>hL ((Ul (by omega)).1 e)
 have co:=Jo b c s S w h
 rw [show decide (bY c.window.toNat s.L ≠ []) = true by simpa using hLn] at co
 have cd:=λ(w' : World) (ho : Only vF w w')=>Ww b c s S w' (h.only ho (λ_ _ hf=>hf))
 have hle : aA (dX (bY c.window.toNat s.L)):=Gi λz hz=>ok.l z (Jm hz)
 have s1:=xO x (dX (bY c.window.toNat s.L)) hx hle;have s2:=xO (aQ x (dX (bY c.window.toNat s.L))) s.pW (jH _ _) (Rl h0 ok.pW)
 have hwant : aA (tu c s x):=jH _ _
 have HF : Hid (jo c s x = { s with au:=if s.st = 0 then tu c s x else Iq s.au s.last x (tu c s x) c.num c.den,last:=if s.st = 0 then x else max s.last x,st:=1 }):=ajK rfl
 rw [show aQ (aQ x (dX (bY c.window.toNat s.L))) s.pW = tu c s x from rfl] at s2
 obtain ⟨bw,bs,bj,bd,Sw,ch,h⟩:=h
 obtain ⟨p1,p2,p3,p4,p5⟩:=h.sb
 obtain ⟨n1,n2,n3,n4⟩:=h.nw
 obtain ⟨e1,e2,e3,e4,e5,e6⟩:=h.ne
 have q1:=h.blk.cell 1;simp at q1
 have ct : ∀ w' : World,Only vF w w' -> Calls Tryz.prog 87 #[.pointer (some ⟨bs,0,none⟩),.int .i64 x,.int .i64 (tu c s x)] w' λe w'' =>
  e = .returned (.tuple #[.int .i64 (jo c s x).au,.int .i64 0]) /\ Dh w'' bs c.num c.den (jo c s x).au (jo c s x).last (jo c s x).st /\ Only (· = bs) w' w'':=by
  intro w' ho
  have hk:=ho.blk h.XY (λhf=>hf)
  rcases ok.st with hs | hs
  ·have:=Ri bs c.num c.den s.au s.last x (tu c s x) hr hx hwant w' (by rw [hs] at hk;exact hk)
   rw [HF.out]
   simpa [hs] using this
  ·have:=Vj bs c.num c.den s.au s.last x (tu c s x) hr ok.au ok.last hx hwant w' (by rw [hs] at hk;exact hk)
   rw [HF.out]
   simpa [hs] using this
 have HF2 : Hid ((jo c s x).L = s.L /\ (jo c s x).qK = s.qK /\ (jo c s x).pW = s.pW):=ajK ⟨rfl,rfl,rfl⟩
 clear HF hle hwant hx
 generalize jo c s x = s' at *
 generalize tu c s x = wt at *
 generalize aQ x (dX (bY c.window.toNat s.L)) = sb at *
 generalize dX (bY c.window.toNat s.L) = le at *
 have H:=ajK h;have OK:=ajK ok;have BB:=ajK h.blk;clear h ok hc hw h0 hr hL hLn
 go_enter Tryz.func42,Tryz.ntmps42
 go_wp2_with fail
 refine co.mono ?_;rintro e w' ⟨rfl,rfl⟩
 go_wp2_with fail
 go_region_held3 (λw'=>w'.cell? ⟨b,1,none⟩ = some (.pointer (some ⟨bs,0,none⟩))) (first | go_keep | (have:=(k3.blk (BB.out.draws 1) e1).cell 1;simpa using this)) ((first | (go_at_call 27;(with_reducible refine (s1 _).mono ?_);rintro e wx ⟨rfl,rfl⟩) | (go_at_call 27;(with_reducible refine (s2 _).mono ?_);rintro e wx ⟨rfl,rfl⟩) | (go_at_call 88;refine (cd _ (EM _ _)).mono ?_;rintro e wx ⟨rfl,rfl⟩) | (go_at_call 87;refine (ct _ (EM _ _)).mono ?_;rintro e wx ⟨rfl,k2,k3⟩)))
 go_wp2
 go_ret2
 have O : Only (· = bs) w wx:=(EM _ w).trans k3
 obtain ⟨t1,t2,t3⟩:=HF2.out
 refine ⟨rfl,⟨bw,bs,bj,bd,Sw,ch,?_⟩,O.weaken (λk _ e=>by subst e;exact ⟨p2,EO H.out.XY (by intro v hv;simp at hv)⟩)⟩
 refine ⟨O.blk H.out.blk e1,?_,k2.draws 0,?_,?_,?_,λk hk=>Nat.lt_of_lt_of_le (H.out.sS k hk) O.size,H.out.sb,H.out.nw,H.out.ne⟩
 ·rw [t1];exact H.out.win.only O (λk hk e=>by subst e;exact n2 hk)
 ·rw [t1,t2];exact O.blk H.out.jt e4.symm
 ·rw [t3];exact O.blk H.out.del e5.symm
 ·rw [t1];exact H.out.ch
end Go.Proofs.YtklkooeimkedgaaGreat
