/- Walk of TopBeyond. -/
import Derived.Test.YtklkooeimkedgaaGreatB1
import Derived.Test.YtklkooeimkedgaaGreatB7
import Derived.Test.YtklkooeimkedgaaGreatB9
import Derived.Test.YtklkooeimkedgaaGreatB10
set_option linter.unusedVariables false
set_option linter.unusedSimpArgs false
namespace Go.Proofs.YtklkooeimkedgaaGreat
set_option maxRecDepth 8000
open Go.RowKit Go.ChangeShapes Go.WideShapes Go.Deep
section
variable {H : Type} {enc : TypeId × Value -> H} {W : World} {base : Nat} {spare : Nat -> Bool} {held : Bool}
theorem TH : Tryz.prog.cellsOf 2 = 1:=by kernel_rfl
theorem TI : Tryz.prog.cellsOf 3 = 1:=by kernel_rfl
end
end Go.Proofs.YtklkooeimkedgaaGreat
namespace Go.Proofs.YtklkooeimkedgaaGreat
set_option maxRecDepth 8000
open Go.RowKit Go.ChangeShapes Go.WideShapes Go.Deep
section
variable {H : Type} {enc : TypeId × Value -> H} {W : World} {base : Nat} {spare : Nat -> Bool} {held : Bool}
theorem Nn : Tryz.prog.cellsOf 42 = 1:=by kernel_rfl
theorem TJ : Tryz.prog.cellsOf 69 = 3:=by kernel_rfl
theorem Xd : Tryz.prog.bytesOf 5 = 1:=by kernel_rfl
def Ar (W : World) (a : Option Addr) (len cap : Nat) (zs : List Int) : Prop:=jT .u8 W a len zs /\ (a = none -> cap = 0) /\ len <= cap /\ len <= 140737488351232
theorem IE {fuel : Nat} {c0 : Value} {x : DataW H × List MemPlace} (h : DataW.trod enc Tryz.prog W base spare held fuel 42 [c0] = some x) (hw : ∀ n ∈ x.1.weights Tryz.prog 42,n <= reachBytes) :
 ∃ a len cap zs,c0 = .slice a len cap /\ Ar W a len cap zs:=by
 rcases open_ints Tryz.underlying42 Tryz.underlying5 (by kernel_rfl) h with ⟨hcs,_⟩ | ⟨y,l,c,zs,hcs,_,hl,hm,hz,hx,hcell,hwz⟩
 ·simp at hcs
  exact ⟨none,0,0,[],hcs,⟨rfl,by simp,.inl rfl⟩,λ_=>rfl,by omega,by omega⟩
 ·simp at hcs
  subst hcs
  have hlz : l <= zs.length:=by rw [hz];split <;> omega
  refine ⟨some y,l,c,zs.take l,rfl,?_,λh=>(by cases h),hl,?_⟩
  ·refine ⟨by simp;omega,λz hzz=>hwz z (List.mem_of_mem_take hzz),?_⟩
   rcases Nat.eq_zero_or_pos l with h0 | h0
   ·exact .inl h0
   ·obtain ⟨b,off,spot⟩:=y
    have hspot : spot = none:=by simpa [Addr.add] using World.cell?_spot (hcell 0 (by omega))
    subst hspot
    refine .inr ⟨b,off,rfl,World.block_lt_of_cell? W _ (hcell 0 (by omega)),λi hi=>?_⟩
    rw [← Go.WideShapes.add_plain,hcell i (by omega)]
    simp [List.getElem?_take,hi]
  ·rw [hx] at hw
   have:=hw _ (by simp only [DataW.weights,Tryz.underlying42];exact List.mem_cons_self ..)
   rw [Xd] at this
   simp only [lits,List.length_map,List.length_take,List.length_drop] at this
   have hr : reachBytes = 140737488351232:=by decide
   rw [hr] at this
   omega
def aeC (W : World) (c0 c1 c2 : Value) : Prop:=∃ (k t : Int) (a : Option Addr) (len cap : Nat) (zs : List Int),c0 = .int .i64 k /\ c1 = .int .i64 t /\ c2 = .slice a len cap /\ ay k /\ ay t /\ Ar W a len cap zs
theorem Lc {fuel : Nat} {c0 c1 c2 : Value} {x : DataW H × List MemPlace} (h : DataW.trod enc Tryz.prog W base spare held fuel 69 [c0,c1,c2] = some x) (hw : ∀ n ∈ x.1.weights Tryz.prog 69,n <= reachBytes) : aeC W c0 c1 c2:=by
 obtain ⟨xs,n,_,hx,_,hl,hi⟩:=DataW.trod_struct Tryz.underlying69 h
 have g0 : DataW.trod enc Tryz.prog W base spare held n 3 (([c0,c1,c2].drop 0).take (Tryz.prog.cellsOf 3)) = xs[0]?:=hi 0 _ rfl
 have g1 : DataW.trod enc Tryz.prog W base spare held n 2 (([c0,c1,c2].drop 1).take (Tryz.prog.cellsOf 2)) = xs[1]?:=hi 1 _ rfl
 have g2 : DataW.trod enc Tryz.prog W base spare held n 42 (([c0,c1,c2].drop 2).take (Tryz.prog.cellsOf 42)) = xs[2]?:=hi 2 _ rfl
 rw [TI] at g0
 rw [TH] at g1
 rw [Nn] at g2
 match xs,hl with
 | [x0,x1,x2],_ =>
   simp at g0 g1 g2
   obtain ⟨u0,h0,_,w0⟩:=DataW.trod_int Tryz.underlying3 g0
   obtain ⟨u1,h1,_,w1⟩:=DataW.trod_int Tryz.underlying2 g1
   rw [hx] at hw
   obtain ⟨a,len,cap,zs,h2,hE⟩:=IE g2 (λn hn=>hw n (by simp [DataW.weights,Tryz.underlying69,DataW.weightsEach,hn]))
   simp at h0 h1
   exact ⟨u0,u1,a,len,cap,zs,h0,h1,h2,wf_i64 w0,wf_i64 w1,hE⟩
theorem Di {P : Program} {e : TypeId} {d : DataW H} : ∀ {l : List (DataW H)},d ∈ l -> ∀ n ∈ d.weights P e,n ∈ DataW.weightsAll P e l
 | y :: l,h,n,hn=>by
   simp only [DataW.weightsAll,List.mem_append]
   rcases List.mem_cons.1 h with rfl | h
   ·exact .inl hn
   ·exact .inr (Di h n hn)
theorem VX {P : Program} {t : TypeId} {d : DataW H} : ∀ {ts : List TypeId} {ds : List (DataW H)} {j : Nat},ts[j]? = some t -> ds[j]? = some d -> ∀ n ∈ d.weights P t,n ∈ DataW.weightsEach P ts ds
 | u :: ts,e :: ds,0,h1,h2,n,hn=>by
   simp at h1 h2
   subst h1;subst h2
   simp only [DataW.weightsEach,List.mem_append]
   exact .inl hn
 | u :: ts,e :: ds,j + 1,h1,h2,n,hn=>by
   simp only [DataW.weightsEach,List.mem_append]
   exact .inr (VX (j:=j) (by simpa using h1) (by simpa using h2) n hn)
theorem abC {P : Program} {t : TypeId} {d : DataW H} {ts : List TypeId} {ds : List (DataW H)} {j : Nat} (hsz : (DataW.weightsEach P ts ds).all (· <= reachBytes) = true) (h1 : ts[j]? = some t) (h2 : ds[j]? = some d) : ∀ n ∈ d.weights P t,n <= reachBytes:=λn hn=>by
 have:=List.all_eq_true.1 hsz n (VX h1 h2 n hn)
 simpa using this
theorem TK {a : Option Addr} {len cap : Nat} {d : DataW H} {ps : List MemPlace} (h : DataW.Trod enc Tryz.prog W base spare held 66 (.slice a len cap) d ps) (hw : ∀ n ∈ d.weights Tryz.prog 66,n <= reachBytes) :
 ∃ (K T : Nat -> Int) (E : Nat -> Option Addr × Nat × Nat) (Z : Nat -> List Int),iC W a len K T E /\ ∀ i,i < len -> ay (K i) /\ ay (T i) /\ Ar W (E i).1 (E i).2.1 (E i).2.2 (Z i):=by
 obtain ⟨fuel,hf⟩:=h
 rcases open_slice Tryz.underlying66 hf with ⟨hcs,_⟩ | ⟨x,l,c,m,n,D,Pl,hcs,_,hl,hm,hmm,hx,hi⟩
 ·simp [Value.cells] at hcs
  obtain ⟨rfl,rfl,rfl⟩:=hcs
  exact ⟨λ_=>0,λ_=>0,λ_=>(none,0,0),λ_=>[],.inl rfl,λi hi=>by omega⟩
 ·simp [Value.cells] at hcs
  obtain ⟨rfl,rfl,rfl⟩:=hcs
  have hlm : len <= m:=by rw [hmm];split <;> omega
  have hd:=congrArg Prod.fst hx
  simp only at hd
  subst hd
  have hW : ∀ i,i < len -> ∀ n ∈ (D i).weights Tryz.prog 69,n <= reachBytes:=λi hi n hn=>hw n (by
   simp only [DataW.weights,Tryz.underlying66]
   refine List.mem_cons_of_mem _ (List.mem_append_left _ ?_)
   exact Di (List.mem_map.2 ⟨i,List.mem_range.2 hi,rfl⟩) n hn)
  have each : ∀ i,i < len -> ∃ u : (Int × Int) × (Option Addr × Nat × Nat) × List Int,(ay u.1.1 /\ ay u.1.2 /\ Ar W u.2.1.1 u.2.1.2.1 u.2.1.2.2 u.2.2) /\ ∀ j (v : Value),[Value.int .i64 u.1.1,.int .i64 u.1.2,.slice u.2.1.1 u.2.1.2.1 u.2.1.2.2][j]? = some v -> W.cell? ((x.add (i * 3)).add j) = some v:=by
   intro i hil
   obtain ⟨cs',hc,ht⟩:=hi i (by omega)
   rw [TJ] at hc
   obtain ⟨_,hcl,hat⟩:=World.cells?_some hc
   match cs',hcl with
   | [c0,c1,c2],_ =>
     obtain ⟨k,t,a,len,cap,zs,h0,h1,h2,b1,b2,b3⟩:=Lc ht (hW i hil)
     refine ⟨((k,t),(a,len,cap),zs),⟨b1,b2,b3⟩,λj v hj=>?_⟩
     subst h0;subst h1;subst h2
     have hj3 : j < 3:=by
      have:=(List.getElem?_eq_some_iff.1 hj).1
      simpa using this
     rw [hat j (by simpa using hj3)]
     exact hj
  have abD : ∃ U : Nat -> (Int × Int) × (Option Addr × Nat × Nat) × List Int,∀ i,i < len -> (ay (U i).1.1 /\ ay (U i).1.2 /\ Ar W (U i).2.1.1 (U i).2.1.2.1 (U i).2.1.2.2 (U i).2.2) /\ ∀ j (v : Value),[Value.int .i64 (U i).1.1,.int .i64 (U i).1.2,.slice (U i).2.1.1 (U i).2.1.2.1 (U i).2.1.2.2][j]? = some v -> W.cell? ((x.add (i * 3)).add j) = some v:=by
   refine ⟨λi=>if h : i < len then (each i h).choose else ((0,0),(none,0,0),[]),λi hi=>?_⟩
   simp only [dif_pos hi]
   exact (each i hi).choose_spec
  obtain ⟨U,hU⟩:=abD
  refine ⟨λi=>(U i).1.1,λi=>(U i).1.2,λi=>(U i).2.1,λi=>(U i).2.2,?_,λi hi=>(hU i hi).1⟩
  rcases Nat.eq_zero_or_pos len with h0 | h0
  ·exact .inl h0
  ·obtain ⟨b,off,spot⟩:=x
   have q:=(hU 0 h0).2 0 _ rfl
   have hspot : spot = none:=by simpa [Addr.add] using World.cell?_spot q
   subst hspot
   refine .inr ⟨b,off,rfl,World.block_lt_of_cell? W _ q,λi hi=>?_⟩
   have r:=(hU i hi).2
   simp only [Go.WideShapes.add_plain] at r
   exact ⟨by simpa using r 0 _ rfl,r 1 _ rfl,r 2 _ rfl⟩
end
end Go.Proofs.YtklkooeimkedgaaGreat
