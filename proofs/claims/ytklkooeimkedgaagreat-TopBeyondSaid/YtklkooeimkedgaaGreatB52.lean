/- Walk of TopBeyond. -/
import Derived.Test.YtklkooeimkedgaaGreatB31
import Derived.Test.YtklkooeimkedgaaGreatB50
set_option linter.unusedVariables false
set_option linter.unusedSimpArgs false
namespace Go.Proofs.YtklkooeimkedgaaGreat
open Go.RowKit
def ou (w : World) (k : Nat) : Prop:=∀ o v,w.cell? ⟨k,o,none⟩ ≠ some (.int .u16 v)
theorem Eo {w : World} {b : Nat} {cs : Array Value} {t : TypeId} (h : ak w b cs t) (hc : ∀ v,.int .u16 v ∉ cs) : ou w b:=λo v hh=>by
 rw [h.cell] at hh
 exact hc v (Array.mem_of_getElem? hh)
theorem zV {w w' : World} {s : Option Addr} {n : Nat} {P : Nat -> Po} {T : Nat -> Prop} (h : dZ w s n P) (ho : Only T w w') (hT : ∀ k,T k -> k < w.heap.size -> ou w k) : dZ w' s n P:=by
 rcases h with h | ⟨b,off,e,hl,hc⟩
 ·exact .inl h
 ·by_cases hn : n = 0
  ·exact .inl hn
  ·refine .inr ⟨b,off,e,Nat.lt_of_lt_of_le hl ho.size,λi hi=>?_⟩
   have hb : ¬ T b:=λhh=>hT b hh hl _ _ (hc 0 (by omega)).2.2.2.2.1
   have hh : ∀ o,w'.cell? ⟨b,o,none⟩ = w.cell? ⟨b,o,none⟩:=λo=>by
    simp only [World.cell?];rw [ho.block b hl hb]
   have:=hc i hi
   unfold mF at this ⊢
   simp only [hh];exact this
set_option maxHeartbeats 1000000 in
theorem Vq (b : Nat) (c : aO) (hc : dB c = 0) (s : CS) (ok : s.Ok c) (x : Int) (hx : ay x) (S : Nat -> Prop) (w : World) (h : su w b c s S) (hL : s.L ≠ []) :
 Calls Tryz.prog 42 #[.pointer (some ⟨b,0,none⟩),.int .i64 x] w λe w'=>e = .returned (.tuple #[.int .i64 (gZ c s x).au,.bool true]) /\ su w' b c (gZ c s x) S /\ Only (λk=>S k /\ ou w k) w w':=by
 obtain ⟨hw,h0,hr⟩:=vH hc
 obtain ⟨_,_,w1,w2⟩:=rz.1 hw
 have hLn : bU c.window.toNat s.L ≠ []:=λe=>hL ((Sj (by omega)).1 e)
 have co:=Ih b c s S w h
 rw [show decide (bU c.window.toNat s.L ≠ []) = true by simpa using hLn] at co
 have cd:=λ(w' : World) (ho : Only uL w w')=>U7 b c s S w' (h.only ho (λ_ _ hf=>hf))
 have hle : ay (dR (bU c.window.toNat s.L)):=Fy λz hz=>ok.l z (Ig hz)
 have s1:=tQ x (dR (bU c.window.toNat s.L)) hx hle;have s2:=tQ (aK x (dR (bU c.window.toNat s.L))) s.oZ (jq _ _) (Qc h0 ok.oZ)
 have hwant : ay (sw c s x):=jq _ _
 have HF : Hid (gZ c s x = { s with au:=if s.st = 0 then sw c s x else GI s.au s.last x (sw c s x) c.num c.den,last:=if s.st = 0 then x else max s.last x,st:=1 }):=aiS rfl
 rw [show aK (aK x (dR (bU c.window.toNat s.L))) s.oZ = sw c s x from rfl] at s2
 obtain ⟨bw,bs,bj,bd,Sw,ch,h⟩:=h
 obtain ⟨p1,p2,p3,p4,p5⟩:=h.sb
 obtain ⟨n1,n2,n3,n4⟩:=h.nw
 obtain ⟨e1,e2,e3,e4,e5,e6⟩:=h.ne
 have q1:=h.blk.cell 1;simp at q1
 have ct : ∀ w' : World,Only uL w w' -> Calls Tryz.prog 87 #[.pointer (some ⟨bs,0,none⟩),.int .i64 x,.int .i64 (sw c s x)] w' λe w'' =>
  e = .returned (.tuple #[.int .i64 (gZ c s x).au,.int .i64 0]) /\ Cz w'' bs c.num c.den (gZ c s x).au (gZ c s x).last (gZ c s x).st /\ Only (· = bs) w' w'':=by
  intro w' ho
  have hk:=ho.blk h.Wz (λhf=>hf)
  rcases ok.st with hs | hs
  ·have:=P5 bs c.num c.den s.au s.last x (sw c s x) hr hx hwant w' (by rw [hs] at hk;exact hk)
   rw [HF.out]
   simpa [hs] using this
  ·have:=TU bs c.num c.den s.au s.last x (sw c s x) hr ok.au ok.last hx hwant w' (by rw [hs] at hk;exact hk)
   rw [HF.out]
   simpa [hs] using this
 have HF2 : Hid ((gZ c s x).L = s.L /\ (gZ c s x).qg = s.qg /\ (gZ c s x).oZ = s.oZ):=aiS ⟨rfl,rfl,rfl⟩
 clear HF hle hwant hx
 generalize gZ c s x = s' at *
 generalize sw c s x = wt at *
 generalize aK x (dR (bU c.window.toNat s.L)) = sb at *
 generalize dR (bU c.window.toNat s.L) = le at *
 have H:=aiS h;have OK:=aiS ok;have BB:=aiS h.blk;clear h ok hc hw h0 hr hL hLn
 go_enter Tryz.func42,Tryz.ntmps42
 go_wp2_with fail
 refine co.mono ?_;rintro e w' ⟨rfl,rfl⟩
 go_wp2_with fail
 go_region_held3 (λw'=>w'.cell? ⟨b,1,none⟩ = some (.pointer (some ⟨bs,0,none⟩))) (first | go_keep | (have:=(k3.blk (BB.out.draws 1) e1).cell 1;simpa using this)) ((first | (go_at_call 27;(with_reducible refine (s1 _).mono ?_);rintro e wx ⟨rfl,rfl⟩) | (go_at_call 27;(with_reducible refine (s2 _).mono ?_);rintro e wx ⟨rfl,rfl⟩) | (go_at_call 88;refine (cd _ (Ei _ _)).mono ?_;rintro e wx ⟨rfl,rfl⟩) | (go_at_call 87;refine (ct _ (Ei _ _)).mono ?_;rintro e wx ⟨rfl,k2,k3⟩)))
 go_wp2
 go_ret2
 have O : Only (· = bs) w wx:=(Ei _ w).trans k3
 obtain ⟨t1,t2,t3⟩:=HF2.out
 refine ⟨rfl,⟨bw,bs,bj,bd,Sw,ch,?_⟩,O.weaken (λk _ e=>by subst e;exact ⟨p2,Eo H.out.Wz (by intro v hv;simp at hv)⟩)⟩
 refine ⟨O.blk H.out.blk e1,?_,k2.draws 0,?_,?_,?_,λk hk=>Nat.lt_of_lt_of_le (H.out.sS k hk) O.size,H.out.sb,H.out.nw,H.out.ne⟩
 ·rw [t1];exact H.out.win.only O (λk hk e=>by subst e;exact n2 hk)
 ·rw [t1,t2];exact O.blk H.out.jt e4.symm
 ·rw [t3];exact O.blk H.out.del e5.symm
 ·rw [t1];exact H.out.ch
end Go.Proofs.YtklkooeimkedgaaGreat
