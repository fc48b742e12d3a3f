/- Walk of TopBeyond. -/
import Derived.LoopIn
import Derived.LoopNIn
import Derived.OwnWalkIn
import Derived.RangeFuncBound
import Derived.RangeFuncCalls
import Derived.RangeFuncLeaves
import Derived.RangeFuncNested
import Derived.Shelf.Abstract
import Derived.Shelf.RegionOpen
import Derived.TacticsInMore
import Derived.Test.YtklkooeimkedgaaGreatB9
set_option linter.unusedVariables false
set_option linter.unusedSimpArgs false
namespace Go.Proofs.YtklkooeimkedgaaGreat
open Go.RowKit Go.Shelf
attribute [local go_sem] Oper.semAt_some
def dn (len k : Nat) : List Nat:=(List.range k).map (λj=>len - 1 - j)
theorem yP (len k : Nat) : dn len (k + 1) = dn len k ++ [len - 1 - k]:=by simp [dn,List.range_succ]
theorem Qe (len k : Nat) : (dn len k).length = k:=by simp [dn]
def IK (K T : Nat -> Int) (E : Nat -> Option Addr × Nat × Nat) (i : Nat) : Array Value :=
 #[.int .i64 (i : Int),.agg #[.int .i64 (K i),.int .i64 (T i),.slice (E i).1 (E i).2.1 (E i).2.2]]
def pJ (n₀ Bs : Nat) (W W' : World) : Prop:=Below n₀ W W' /\ W'.heap[Bs]? = W.heap[Bs]?
theorem pJ.refl (n₀ Bs : Nat) (W : World) : pJ n₀ Bs W W:=⟨Below.refl _ _,rfl⟩
theorem pJ.trans {n₀ Bs : Nat} {A B C : World} (h : pJ n₀ Bs A B) (k : pJ n₀ Bs B C) : pJ n₀ Bs A C:=⟨h.1.trans k.1,k.2.trans h.2⟩
theorem pJ.putObj {n₀ Bs : Nat} {w : World} (hn : n₀ <= w.heap.size) (hs : Bs < w.heap.size) (W : World) (l : Nat) (o o' : Obj) (hl : w.heap.size <= l) (h : W.heap[l]? = some o) (h1 : o.isCells = false) (h2 : o.isWalk = false) : pJ n₀ Bs W (W.putObj l o') :=
 ⟨belowK_b hn W l o o' hl h h1 h2,World.putObj_heap_other (by omega)⟩
set_option maxRecDepth 100000 in
set_option maxHeartbeats 2000000 in
theorem TY (F : Fence) (n : Nat) (Dm : F.fn 132) (hro : F.round = none) (hn : 1 <= n) (l Bs n₀ b off len cap : Nat) (K T : Nat -> Int) (E : Nat -> Option Addr × Nat × Nat) (hlen : (len : Int) <= 4611686018427387904) (hb : b < n₀) (J Jx : List Nat -> World -> Prop)
 (hY : ∀ pre x W,J pre W -> pre.length < len -> YieldAt F (n - 1) Tryz.prog l (IK K T E x) W λe W' =>
   (e = .returned (.bool true) /\ J (pre ++ [x]) W' /\ pJ n₀ Bs W W') \/ (e = .returned (.bool false) /\ Jx (pre ++ [x]) W'))
 (W : World) (qo : W.cell? ⟨Bs,0,none⟩ = some (.slice (some ⟨b,off,none⟩) len cap))
 (hc : ∀ i,i < len -> W.cell? ⟨b,off + i * 3,none⟩ = some (.int .i64 (K i)) /\ W.cell? ⟨b,off + i * 3 + 1,none⟩ = some (.int .i64 (T i)) /\ W.cell? ⟨b,off + i * 3 + 2,none⟩ = some (.slice (E i).1 (E i).2.1 (E i).2.2)) (h0 : J [] W) :
 CallsIn F n Tryz.prog 132 #[.func (.yield l) #[] #[],.pointer (some ⟨Bs,0,none⟩)] W λe W'=>(∃ v,e = .returned v) /\
  ((∃ ys,ys = dn len len /\ J ys W') \/ (∃ pre,(∃ k,k <= len /\ pre = dn len k) /\ Jx pre W')):=by
 refine callsIn_of_wp Tryz.func132 rfl Dm ?_ hro
 simp only [Tryz.ntmps132,List.size_toArray,List.length_cons,List.length_nil,Nat.reduceAdd,Nat.reduceSub,Array.replicate_succ,Array.replicate_zero,List.push_toArray,List.append_toArray,List.nil_append,List.cons_append]
 gi_wp2
 gi_loopw [3] (λi wr=>∃ k m : Nat,k + m = len /\ i = .int .i64 ((m : Int) - 1) /\ J (dn len k) wr /\ pJ n₀ Bs W wr)
  (λi _=>(intOf i + 1).toNat)
 case atStart=>exact ⟨0,len,by omega,rfl,h0,pJ.refl _ _ _⟩
 case round =>
  obtain ⟨k,m,hk,rfl,hJs,hnx⟩:=hrel
  cases m with
  | zero =>
    obtain rfl : k = len:=by omega
    gi_wp2
    go_end0
    exact ⟨⟨_,rfl⟩,.inl ⟨_,rfl,hJs⟩⟩
  | succ p =>
    have hp : p < len:=by omega
    have hpe : ((p + 1 : Nat) : Int) - 1 = (p : Int):=by omega
    rw [hpe]
    have hp' : (p : Int) < len:=by omega
    have c0:=(hnx.1.cell (p:=⟨b,off + p * 3,none⟩) hb).trans (hc p hp).1;have c1:=(hnx.1.cell (p:=⟨b,off + p * 3 + 1,none⟩) hb).trans (hc p hp).2.1;have c2:=(hnx.1.cell (p:=⟨b,off + p * 3 + 2,none⟩) hb).trans (hc p hp).2.2;have cs:=(World.cell?_of_block (a:=⟨Bs,0,none⟩) hnx.2).trans qo
    obtain ⟨fn,tmps,assign,body,hy,hR⟩:=hY _ p wr hJs (by rw [Qe];omega)
    dsimp only [IK] at hy
    have hdn : dn len (k + 1) = dn len k ++ [p]:=by rw [yP,show len - 1 - k = p by omega]
    gi_wp2
    refine hR.mono ?_
    rintro e W3 (⟨rfl,hJ3,hk3⟩ | ⟨rfl,hJx3⟩)
    ·gi_wp2
     go_roundw
     case rel=>exact ⟨k + 1,p,by omega,by simp,by rw [hdn];exact hJ3,hnx.trans hk3⟩
     case measure=>simp [intOf] <;> omega
    ·gi_wp2
     refine bodyPost_ret (results_none rfl _ _ _) rfl ?_
     exact ⟨⟨_,rfl⟩,.inr ⟨_,⟨k + 1,by omega,hdn.symm⟩,hJx3⟩⟩
set_option maxRecDepth 100000 in
set_option maxHeartbeats 1000000 in
theorem Jp (F : Fence) (n : Nat) (Dm : F.fn 132) (hro : F.round = none) (l Bs : Nat) (a : Option Addr) (cap : Nat) (J : List Nat -> World -> Prop) (W : World) (qo : W.cell? ⟨Bs,0,none⟩ = some (.slice a 0 cap)) (h0 : J [] W) :
 CallsIn F n Tryz.prog 132 #[.func (.yield l) #[] #[],.pointer (some ⟨Bs,0,none⟩)] W λe W'=>(∃ v,e = .returned v) /\ J [] W':=by
 refine callsIn_of_wp Tryz.func132 rfl Dm ?_ hro
 simp only [Tryz.ntmps132,List.size_toArray,List.length_cons,List.length_nil,Nat.reduceAdd,Nat.reduceSub,Array.replicate_succ,Array.replicate_zero,List.push_toArray,List.append_toArray,List.nil_append,List.cons_append]
 gi_wp2
 gi_loopw [3] (λi wr=>i = .int .i64 (-1) /\ J [] wr) (λ_ _=>0)
 case atStart=>exact ⟨rfl,h0⟩
 case round =>
  obtain ⟨rfl,hJs⟩:=hrel
  gi_wp2
  go_end0
  exact ⟨⟨_,rfl⟩,hJs⟩
set_option maxHeartbeats 1000000 in
theorem Xu (F : Fence) (n : Nat) (h21 : F.fn 92) (hro : F.round = none) (a : Option Addr) (len cap : Nat) (w : World) :
 CallsIn F n Tryz.prog 92 #[.slice a len cap] w λe w'=>e = .returned (.func (.func 132) #[] #[.pointer (some ⟨w.heap.size,0,none⟩)]) /\ w' = w.alloc (.cells #[.slice a len cap] 54):=by
 refine callsIn_of_wp Tryz.func92 rfl h21 ?_ hro
 simp only [Tryz.ntmps92,List.size_toArray,List.length_cons,List.length_nil,Nat.reduceAdd,Nat.reduceSub,Array.replicate_succ,Array.replicate_zero,List.push_toArray,List.append_toArray,List.nil_append,List.cons_append]
 gi_wp2
 go_ret
 exact ⟨rfl,rfl⟩
theorem iC.below {w w' : World} {s : Option Addr} {len : Nat} {K T : Nat -> Int} {E : Nat -> Option Addr × Nat × Nat} (h : iC w s len K T E) (hb : Below w.heap.size w w') : iC w' s len K T E:=by
 rcases h with h | ⟨b,off,e,hl,hc⟩
 ·exact .inl h
 ·refine .inr ⟨b,off,e,Nat.lt_of_lt_of_le hl hb.size,λi hi=>?_⟩
  obtain ⟨c0,c1,c2⟩:=hc i hi
  exact ⟨(hb.cell (p:=⟨b,off + i * 3,none⟩) hl).trans c0,(hb.cell (p:=⟨b,off + i * 3 + 1,none⟩) hl).trans c1,(hb.cell (p:=⟨b,off + i * 3 + 2,none⟩) hl).trans c2⟩
theorem Nz (F : Fence) (n : Nat) (Dm : F.fn 132) (hro : F.round = none) (hn : 1 <= n) (Bs n₀ : Nat) (s : Option Addr) (len cap : Nat) (K T : Nat -> Int) (E : Nat -> Option Addr × Nat × Nat) (hlen : (len : Int) <= 4611686018427387904) (w w0 : World) (qo : Bs < w.heap.size) (hn₀ : n₀ <= w.heap.size)
 (hc : w.cell? ⟨Bs,0,none⟩ = some (.slice s len cap)) (h0 : w0.heap.size = n₀) (hI : iC w0 s len K T E) (hw : Below n₀ w0 w) :
 SeqStopsK F n Tryz.prog 132 #[.pointer (some ⟨Bs,0,none⟩)] (IK K T E) (pJ n₀ Bs) (λys=>ys = dn len len) (λpre=>∃ k,k <= len /\ pre = dn len k) len w:=λl J Jx W hW _ _ hY hJ=>by
 have hc':=(hW.cell (p:=⟨Bs,0,none⟩) qo).trans hc;have EC:=hw.trans (hW.mono hn₀)
 rcases hI with hz | ⟨b,off,rfl,hb,hcs⟩
 ·subst hz
  exact (Jp F n Dm hro l Bs s cap J W hc' hJ).mono λe W' ⟨he,hj⟩=>⟨he,.inl ⟨_,rfl,hj⟩⟩
 ·rw [h0] at hb
  exact TY F n Dm hro hn l Bs n₀ b off len cap K T E hlen hb J Jx hY W hc' (λi hi=>⟨(EC.cell (p:=⟨b,off + i * 3,none⟩) hb).trans (hcs i hi).1,(EC.cell (p:=⟨b,off + i * 3 + 1,none⟩) hb).trans (hcs i hi).2.1,(EC.cell (p:=⟨b,off + i * 3 + 2,none⟩) hb).trans (hcs i hi).2.2⟩) hJ
end Go.Proofs.YtklkooeimkedgaaGreat
