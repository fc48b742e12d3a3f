/- Walk of TopDeltas. -/
import Derived.Deep.Slices
import Derived.Test.YtklkooeimkedgaaGreatD1
import Derived.Test.YtklkooeimkedgaaGreatD7
import Derived.Test.YtklkooeimkedgaaGreatD9
set_option linter.unusedVariables false
set_option linter.unusedSimpArgs false
namespace Go.Proofs.YtklkooeimkedgaaGreat
set_option maxRecDepth 8000
open Go.RowKit Go.ChangeShapes Go.WideShapes Go.Deep
section
variable {H : Type} {enc : TypeId × Value -> H} {W : World} {base : Nat} {spare : Nat -> Bool} {held : Bool}
theorem U7 : Tryz.prog.cellsOf 33 = 9:=by kernel_rfl
theorem Yj : Tryz.prog.cellsOf 22 = 3:=by kernel_rfl
theorem JX : Tryz.prog.cellsOf 2 = 1:=by kernel_rfl
theorem U9 : Tryz.prog.cellsOf 3 = 1:=by kernel_rfl
theorem Va : Tryz.prog.cellsOf 31 = 1:=by kernel_rfl
theorem Yk : Tryz.prog.cellsOf 5 = 1:=by kernel_rfl
theorem QK : Tryz.prog.cellsOf 34 = 1:=by kernel_rfl
theorem QL : Tryz.prog.cellsOf 36 = 3:=by kernel_rfl
theorem Fe {fuel : Nat} {c0 c1 c2 : Value} {x : DataW H × List MemPlace} (h : DataW.trod enc Tryz.prog W base spare held fuel 22 [c0,c1,c2] = some x) :
 ∃ a b c : Int,c0 = .int .i64 a /\ c1 = .int .i64 b /\ c2 = .int .i64 c /\ aA a /\ aA b /\ aA c:=by
 obtain ⟨xs,m,_,_,_,hl,hi⟩:=DataW.trod_array Tryz.underlying22 h
 have g0:=hi 0 (by omega)
 have g1:=hi 1 (by omega)
 have g2:=hi 2 (by omega)
 rw [JX] at g0 g1 g2
 match xs,hl with
 | [x0,x1,x2],_ =>
   simp at g0 g1 g2
   obtain ⟨u0,h0,_,w0⟩:=DataW.trod_int Tryz.underlying2 g0
   obtain ⟨u1,h1,_,w1⟩:=DataW.trod_int Tryz.underlying2 g1
   obtain ⟨u2,h2,_,w2⟩:=DataW.trod_int Tryz.underlying2 g2
   simp at h0 h1 h2
   exact ⟨u0,u1,u2,h0,h1,h2,wf_i64 w0,wf_i64 w1,wf_i64 w2⟩
theorem MK {fuel : Nat} {c0 c1 c2 c3 c4 c5 c6 c7 c8 : Value} {x : DataW H × List MemPlace} (h : DataW.trod enc Tryz.prog W base spare held fuel 33 [c0,c1,c2,c3,c4,c5,c6,c7,c8] = some x) :
 ∃ e : ay,e.Ok /\ c0 = .int .i64 e.id /\ c1 = .int .i64 e.px /\ c2 = .int .i64 e.py /\ c3 = .int .i64 e.pz /\ c4 = .int .i64 e.vx /\ c5 = .int .i64 e.vy /\ c6 = .int .i64 e.vz /\ c7 = .int .u16 e.aG /\ c8 = .int .u8 e.gen:=by
 obtain ⟨xs,n,_,_,_,hl,hi⟩:=DataW.trod_struct Tryz.underlying33 h
 have g0 : DataW.trod enc Tryz.prog W base spare held n 3 (([c0,c1,c2,c3,c4,c5,c6,c7,c8].drop 0).take (Tryz.prog.cellsOf 3)) = xs[0]?:=hi 0 _ rfl
 have g1 : DataW.trod enc Tryz.prog W base spare held n 22 (([c0,c1,c2,c3,c4,c5,c6,c7,c8].drop 1).take (Tryz.prog.cellsOf 22)) = xs[1]?:=hi 1 _ rfl
 have g2 : DataW.trod enc Tryz.prog W base spare held n 22 (([c0,c1,c2,c3,c4,c5,c6,c7,c8].drop 4).take (Tryz.prog.cellsOf 22)) = xs[2]?:=hi 2 _ rfl
 have g3 : DataW.trod enc Tryz.prog W base spare held n 31 (([c0,c1,c2,c3,c4,c5,c6,c7,c8].drop 7).take (Tryz.prog.cellsOf 31)) = xs[3]?:=hi 3 _ rfl
 have g4 : DataW.trod enc Tryz.prog W base spare held n 5 (([c0,c1,c2,c3,c4,c5,c6,c7,c8].drop 8).take (Tryz.prog.cellsOf 5)) = xs[4]?:=hi 4 _ rfl
 rw [U9] at g0
 rw [Yj] at g1 g2
 rw [Va] at g3
 rw [Yk] at g4
 match xs,hl with
 | [x0,x1,x2,x3,x4],_ =>
   simp at g0 g1 g2 g3 g4
   obtain ⟨u0,h0,_,w0⟩:=DataW.trod_int Tryz.underlying3 g0
   obtain ⟨p0,p1,p2,e1,e2,e3,i1,i2,i3⟩:=Fe g1
   obtain ⟨v0,v1,v2,f1,f2,f3,j1,j2,j3⟩:=Fe g2
   obtain ⟨u3,h3,_,w3⟩:=DataW.trod_int Tryz.underlying31 g3
   obtain ⟨u4,h4,_,w4⟩:=DataW.trod_int Tryz.underlying5 g4
   simp at h0 h3 h4
   exact ⟨⟨u0,p0,p1,p2,v0,v1,v2,u3,u4⟩,⟨wf_i64 w0,i1,i2,i3,j1,j2,j3,wf_u16 w3,wf_u8 w4⟩,h0,e1,e2,e3,f1,f2,f3,h3,h4⟩
theorem JY {fuel : Nat} {c0 : Value} {x : DataW H × List MemPlace} (h : DataW.trod enc Tryz.prog W base spare held fuel 34 [c0] = some x) :
 ∃ a len cap E,c0 = .slice a len cap /\ bV W a len E:=by
 rcases open_slice Tryz.underlying34 h with ⟨hcs,_⟩ | ⟨x,l,c,m,n,D,Pl,hcs,_,hl,hm,hmm,hx,hi⟩
 ·simp at hcs
  exact ⟨none,0,0,λ_=>bP,hcs,λi hi=>by omega,.inl rfl⟩
 ·simp at hcs
  subst hcs
  have hlm : l <= m:=by rw [hmm];split <;> omega
  have each : ∀ i,i < l -> ∃ e : ay,e.Ok /\ ∀ j (u : Value),[Value.int .i64 e.id,.int .i64 e.px,.int .i64 e.py,.int .i64 e.pz,.int .i64 e.vx,.int .i64 e.vy,.int .i64 e.vz,.int .u16 e.aG,.int .u8 e.gen][j]? = some u -> W.cell? ((x.add (i * 9)).add j) = some u:=by
   intro i hil
   obtain ⟨cs',hc,ht⟩:=hi i (by omega)
   rw [U7] at hc
   obtain ⟨_,hcl,hat⟩:=World.cells?_some hc
   match cs',hcl with
   | [c0,c1,c2,c3,c4,c5,c6,c7,c8],_ =>
     obtain ⟨e,ok,h0,h1,h2,h3,h4,h5,h6,h7,h8⟩:=MK ht
     refine ⟨e,ok,λj u hj=>?_⟩
     subst h0;subst h1;subst h2;subst h3;subst h4;subst h5;subst h6;subst h7;subst h8
     have hj9 : j < 9:=by
      have:=(List.getElem?_eq_some_iff.1 hj).1
      simpa using this
     rw [hat j (by simpa using hj9)]
     exact hj
  have OM : ∃ E : Nat -> ay,∀ i,i < l -> (E i).Ok /\ ∀ j (u : Value),[Value.int .i64 (E i).id,.int .i64 (E i).px,.int .i64 (E i).py,.int .i64 (E i).pz,.int .i64 (E i).vx,.int .i64 (E i).vy,.int .i64 (E i).vz,.int .u16 (E i).aG,.int .u8 (E i).gen][j]? = some u -> W.cell? ((x.add (i * 9)).add j) = some u:=by
   refine ⟨λi=>if h : i < l then (each i h).choose else bP,λi hi=>?_⟩
   simp only [dif_pos hi]
   exact (each i hi).choose_spec
  obtain ⟨E,hE⟩:=OM
  refine ⟨some x,l,c,E,rfl,λi hi=>(hE i hi).1,?_⟩
  rcases Nat.eq_zero_or_pos l with h0 | h0
  ·exact .inl h0
  ·obtain ⟨b,off,spot⟩:=x
   have q:=(hE 0 h0).2 0 _ rfl
   have hspot : spot = none:=by simpa [Addr.add] using World.cell?_spot q
   subst hspot
   refine .inr ⟨b,off,rfl,?_,λi hi=>?_⟩
   ·exact World.block_lt_of_cell? W _ q
   ·have r:=(hE i hi).2
    simp only [Go.WideShapes.add_plain] at r
    exact ⟨by simpa using r 0 _ rfl,r 1 _ rfl,r 2 _ rfl,r 3 _ rfl,r 4 _ rfl,r 5 _ rfl,r 6 _ rfl,r 7 _ rfl,r 8 _ rfl⟩
def Zv (W : World) (c0 c1 c2 : Value) : Prop:=∃ (k t : Int) (a : Option Addr) (len cap : Nat) (E : Nat -> ay),c0 = .int .i64 k /\ c1 = .int .i64 t /\ c2 = .slice a len cap /\ aA k /\ aA t /\ bV W a len E
theorem JZ {fuel : Nat} {c0 c1 c2 : Value} {x : DataW H × List MemPlace} (h : DataW.trod enc Tryz.prog W base spare held fuel 36 [c0,c1,c2] = some x) : Zv W c0 c1 c2:=by
 obtain ⟨xs,n,_,_,_,hl,hi⟩:=DataW.trod_struct Tryz.underlying36 h
 have g0 : DataW.trod enc Tryz.prog W base spare held n 2 (([c0,c1,c2].drop 0).take (Tryz.prog.cellsOf 2)) = xs[0]?:=hi 0 _ rfl
 have g1 : DataW.trod enc Tryz.prog W base spare held n 2 (([c0,c1,c2].drop 1).take (Tryz.prog.cellsOf 2)) = xs[1]?:=hi 1 _ rfl
 have g2 : DataW.trod enc Tryz.prog W base spare held n 34 (([c0,c1,c2].drop 2).take (Tryz.prog.cellsOf 34)) = xs[2]?:=hi 2 _ rfl
 rw [JX] at g0 g1
 rw [QK] at g2
 match xs,hl with
 | [x0,x1,x2],_ =>
   simp at g0 g1 g2
   obtain ⟨u0,h0,_,w0⟩:=DataW.trod_int Tryz.underlying2 g0
   obtain ⟨u1,h1,_,w1⟩:=DataW.trod_int Tryz.underlying2 g1
   obtain ⟨a,len,cap,E,h2,hE⟩:=JY g2
   simp at h0 h1
   exact ⟨u0,u1,a,len,cap,E,h0,h1,h2,wf_i64 w0,wf_i64 w1,hE⟩
theorem OP {a : Option Addr} {len cap : Nat} {d : DataW H} {ps : List MemPlace} (h : DataW.Trod enc Tryz.prog W base spare held 54 (.slice a len cap) d ps) :
 ∃ (K T : Nat -> Int) (E : Nat -> Option Addr × Nat × Nat) (EE : Nat -> Nat -> ay),jI W a len K T E /\ ∀ i,i < len -> aA (K i) /\ aA (T i) /\ bV W (E i).1 (E i).2.1 (EE i):=by
 obtain ⟨fuel,hf⟩:=h
 rcases open_slice Tryz.underlying54 hf with ⟨hcs,_⟩ | ⟨x,l,c,m,n,D,Pl,hcs,_,hl,hm,hmm,hx,hi⟩
 ·simp [Value.cells] at hcs
  obtain ⟨rfl,rfl,rfl⟩:=hcs
  exact ⟨λ_=>0,λ_=>0,λ_=>(none,0,0),λ_ _=>bP,.inl rfl,λi hi=>by omega⟩
 ·simp [Value.cells] at hcs
  obtain ⟨rfl,rfl,rfl⟩:=hcs
  have hlm : len <= m:=by rw [hmm];split <;> omega
  have each : ∀ i,i < len -> ∃ u : (Int × Int) × (Option Addr × Nat × Nat) × (Nat -> ay),(aA u.1.1 /\ aA u.1.2 /\ bV W u.2.1.1 u.2.1.2.1 u.2.2) /\ ∀ j (v : Value),[Value.int .i64 u.1.1,.int .i64 u.1.2,.slice u.2.1.1 u.2.1.2.1 u.2.1.2.2][j]? = some v -> W.cell? ((x.add (i * 3)).add j) = some v:=by
   intro i hil
   obtain ⟨cs',hc,ht⟩:=hi i (by omega)
   rw [QL] at hc
   obtain ⟨_,hcl,hat⟩:=World.cells?_some hc
   match cs',hcl with
   | [c0,c1,c2],_ =>
     obtain ⟨k,t,a,len,cap,E,h0,h1,h2,b1,b2,b3⟩:=JZ ht
     refine ⟨((k,t),(a,len,cap),E),⟨b1,b2,b3⟩,λj v hj=>?_⟩
     subst h0;subst h1;subst h2
     have hj3 : j < 3:=by
      have:=(List.getElem?_eq_some_iff.1 hj).1
      simpa using this
     rw [hat j (by simpa using hj3)]
     exact hj
  have OM : ∃ U : Nat -> (Int × Int) × (Option Addr × Nat × Nat) × (Nat -> ay),∀ i,i < len -> (aA (U i).1.1 /\ aA (U i).1.2 /\ bV W (U i).2.1.1 (U i).2.1.2.1 (U i).2.2) /\ ∀ j (v : Value),[Value.int .i64 (U i).1.1,.int .i64 (U i).1.2,.slice (U i).2.1.1 (U i).2.1.2.1 (U i).2.1.2.2][j]? = some v -> W.cell? ((x.add (i * 3)).add j) = some v:=by
   refine ⟨λi=>if h : i < len then (each i h).choose else ((0,0),(none,0,0),λ_=>bP),λi hi=>?_⟩
   simp only [dif_pos hi]
   exact (each i hi).choose_spec
  obtain ⟨U,hU⟩:=OM
  refine ⟨λi=>(U i).1.1,λi=>(U i).1.2,λi=>(U i).2.1,λi=>(U i).2.2,?_,λi hi=>(hU i hi).1⟩
  rcases Nat.eq_zero_or_pos len with h0 | h0
  ·exact .inl h0
  ·obtain ⟨b,off,spot⟩:=x
   have q:=(hU 0 h0).2 0 _ rfl
   have hspot : spot = none:=by simpa [Addr.add] using World.cell?_spot q
   subst hspot
   refine .inr ⟨b,off,rfl,World.block_lt_of_cell? W _ q,λi hi=>?_⟩
   have r:=(hU i hi).2
   simp only [Go.WideShapes.add_plain] at r
   exact ⟨by simpa using r 0 _ rfl,r 1 _ rfl,r 2 _ rfl⟩
end
end Go.Proofs.YtklkooeimkedgaaGreat
