/- Parts of the walk of TopJumps: Clock6. -/
import Derived.Test.YtklkooeimkedgaaGreatJ24
import Derived.Test.YtklkooeimkedgaaGreatJ50
set_option linter.unusedVariables false
set_option linter.unusedSimpArgs false
namespace Go.Proofs.YtklkooeimkedgaaGreat
open Go.RowKit
def NoU16 (w : World) (k : Nat) : Prop:=∀ o v,w.cell? ⟨k,o,none⟩ ≠ some (.int .u16 v)
theorem noU16_of {w : World} {b : Nat} {cs : Array Value} {t : TypeId} (h : Blk w b cs t) (hc : ∀ v,.int .u16 v ∉ cs) : NoU16 w b:=fun o v hh=>by
 rw [h.cell] at hh
 exact hc v (Array.mem_of_getElem? hh)
theorem posesOnlyN {w w' : World} {s : Option Addr} {n : Nat} {P : Nat → Po} {T : Nat → Prop} (h : PosesAt w s n P) (ho : Only T w w') (hT : ∀ k,T k → k < w.heap.size → NoU16 w k) : PosesAt w' s n P:=by
 rcases h with h | ⟨b,off,e,hl,hc⟩
 ·exact .inl h
 ·by_cases hn : n = 0
  ·exact .inl hn
  ·refine .inr ⟨b,off,e,Nat.lt_of_lt_of_le hl ho.size,fun i hi=>?_⟩
   have hb : ¬ T b:=fun hh=>hT b hh hl _ _ (hc 0 (by omega)).2.2.2.2.1
   have hh : ∀ o,w'.cell? ⟨b,o,none⟩ = w.cell? ⟨b,o,none⟩:=fun o=>by
    simp only [World.cell?];rw [ho.block b hl hb]
   have:=hc i hi
   unfold PoCells at this ⊢
   simp only [hh];exact this
set_option maxHeartbeats 1000000 in
theorem cframe_n (b : Nat) (c : Cfg) (hc : cchk c = 0) (s : CS) (ok : s.Ok c) (x : Int) (hx : I64 x) (S : Nat → Prop) (w : World) (h : CkAt w b c s S) (hL : s.L ≠ []) :
  Calls Tryz.prog 42 #[.pointer (some ⟨b,0,none⟩),.int .i64 x] w fun e w'=>e = .returned (.tuple #[.int .i64 (frm c s x).at0,.bool true]) ∧ CkAt w' b c (frm c s x) S ∧ Only (fun k=>S k ∧ NoU16 w k) w w':=by
 obtain ⟨hw,h0,hr⟩:=cchk_ok hc
 obtain ⟨_,_,w1,w2⟩:=winOk_iff.1 hw
 have hLn : lastN c.window.toNat s.L ≠ []:=fun e=>hL ((lastN_nil (by omega)).1 e)
 have co:=coffset_f b c s S w h
 rw [show decide (lastN c.window.toNat s.L ≠ []) = true by simpa using hLn] at co
 have cd:=fun (w' : World) (ho : Only noB w w')=>cdelay_f b c s S w' (h.only ho (fun _ _ hf=>hf))
 have hle : I64 (leastF (lastN c.window.toNat s.L)):=leastF_i64 fun z hz=>ok.l z (lastN_mem hz)
 have s1:=sub_f x (leastF (lastN c.window.toNat s.L)) hx hle
 have s2:=sub_f (subF x (leastF (lastN c.window.toNat s.L))) s.dly (subF_i64 _ _) (inlim_i64 h0 ok.dly)
 have hwant : I64 (wantF c s x):=subF_i64 _ _
 have HF : Hid (frm c s x = { s with at0:=if s.st = 0 then wantF c s x else toF s.at0 s.last x (wantF c s x) c.num c.den,last:=if s.st = 0 then x else max s.last x,st:=1 }):=Lib.hid rfl
 rw [show subF (subF x (leastF (lastN c.window.toNat s.L))) s.dly = wantF c s x from rfl] at s2
 obtain ⟨bw,bs,bj,bd,Sw,ch,h⟩:=h
 obtain ⟨p1,p2,p3,p4,p5⟩:=h.sb
 obtain ⟨n1,n2,n3,n4⟩:=h.nw
 obtain ⟨e1,e2,e3,e4,e5,e6⟩:=h.ne
 have q1:=h.blk.cell 1
 simp at q1
 have ct : ∀ w' : World,Only noB w w' → Calls Tryz.prog 87 #[.pointer (some ⟨bs,0,none⟩),.int .i64 x,.int .i64 (wantF c s x)] w' fun e w'' =>
   e = .returned (.tuple #[.int .i64 (frm c s x).at0,.int .i64 0]) ∧ ClkAt w'' bs c.num c.den (frm c s x).at0 (frm c s x).last (frm c s x).st ∧ Only (· = bs) w' w'':=by
  intro w' ho
  have hk:=ho.blk h.clk (fun hf=>hf)
  rcases ok.st with hs | hs
  ·have:=sto_first bs c.num c.den s.at0 s.last x (wantF c s x) hr hx hwant w' (by rw [hs] at hk;exact hk)
   rw [HF.out]
   simpa [hs] using this
  ·have:=sto_next bs c.num c.den s.at0 s.last x (wantF c s x) hr ok.at0 ok.last hx hwant w' (by rw [hs] at hk;exact hk)
   rw [HF.out]
   simpa [hs] using this
 have HF2 : Hid ((frm c s x).L = s.L ∧ (frm c s x).jit = s.jit ∧ (frm c s x).dly = s.dly):=Lib.hid ⟨rfl,rfl,rfl⟩
 clear HF hle hwant hx
 generalize frm c s x = s' at *
 generalize wantF c s x = wt at *
 generalize subF x (leastF (lastN c.window.toNat s.L)) = sb at *
 generalize leastF (lastN c.window.toNat s.L) = le at *
 have H:=Lib.hid h
 have OK:=Lib.hid ok
 have BB:=Lib.hid h.blk
 clear h ok hc hw h0 hr hL hLn
 go_enter Tryz.func42,Tryz.ntmps42
 go_wp2_with fail
 refine co.mono ?_;rintro e w' ⟨rfl,rfl⟩
 go_wp2_with fail
 go_region_held3 (fun w'=>w'.cell? ⟨b,1,none⟩ = some (.pointer (some ⟨bs,0,none⟩))) (first | go_keep | (have:=(k3.blk (BB.out.draws 1) e1).cell 1;simpa using this)) ((first | (go_at_call 27;(with_reducible refine (s1 _).mono ?_);rintro e wx ⟨rfl,rfl⟩) | (go_at_call 27;(with_reducible refine (s2 _).mono ?_);rintro e wx ⟨rfl,rfl⟩) | (go_at_call 88;refine (cd _ (onlyDrew _ _)).mono ?_;rintro e wx ⟨rfl,rfl⟩) | (go_at_call 87;refine (ct _ (onlyDrew _ _)).mono ?_;rintro e wx ⟨rfl,k2,k3⟩)))
 go_wp2
 go_ret2
 have O : Only (· = bs) w wx:=(onlyDrew _ w).trans k3
 obtain ⟨t1,t2,t3⟩:=HF2.out
 refine ⟨rfl,⟨bw,bs,bj,bd,Sw,ch,?_⟩,O.weaken (fun k _ e=>by subst e;exact ⟨p2,noU16_of H.out.clk (by intro v hv;simp at hv)⟩)⟩
 refine ⟨O.blk H.out.blk e1,?_,k2.draws 0,?_,?_,?_,fun k hk=>Nat.lt_of_lt_of_le (H.out.sS k hk) O.size,H.out.sb,H.out.nw,H.out.ne⟩
 ·rw [t1];exact H.out.win.only O (fun k hk e=>by subst e;exact n2 hk)
 ·rw [t1,t2];exact O.blk H.out.jt e4.symm
 ·rw [t3];exact O.blk H.out.del e5.symm
 ·rw [t1];exact H.out.ch
end Go.Proofs.YtklkooeimkedgaaGreat
