/- Walk of TopBeyond. -/
import Derived.ArgAppend
import Derived.OwnWalk
import Derived.Test.YtklkooeimkedgaaGreatB2
import Derived.Test.YtklkooeimkedgaaGreatB6
set_option linter.unusedVariables false
set_option linter.unusedSimpArgs false
namespace Go.Proofs.YtklkooeimkedgaaGreat
open Go.RowKit
def gJ (r : Int -> Int -> Bool) : List Int -> List Int
 | []=>[]
 | y :: L=>if L.all (λx=>r y x) then y :: gJ r L else gJ r L
def xW (y x : Int) : Bool:=decide (y <= x)
def Ce (y x : Int) : Bool:=decide (x <= y)
structure Ord (r : Int -> Int -> Bool) : Prop where
 refl : ∀ x,r x x = true
 total : ∀ x y,r x y = true \/ r y x = true
 trans : ∀ {x y z},r x y = true -> r y z = true -> r x z = true
theorem zS : Ord xW:=⟨λx=>by simp [xW],λx y=>by simp only [xW,decide_eq_true_eq];omega,λh k=>by simp only [xW,decide_eq_true_eq] at *;omega⟩
theorem Fu : Ord Ce:=⟨λx=>by simp [Ce],λx y=>by simp only [Ce,decide_eq_true_eq];omega,λh k=>by simp only [Ce,decide_eq_true_eq] at *;omega⟩
variable {r : Int -> Int -> Bool}
theorem zT (r : Int -> Int -> Bool) : ∀ L : List Int,∀ x ∈ gJ r L,x ∈ L
 | [],x,h=>by simp [gJ] at h
 | y :: L,x,h=>by
   rw [gJ] at h
   split at h
   ·rcases List.mem_cons.1 h with h | h
    ·exact List.mem_cons.2 (.inl h)
    ·exact List.mem_cons.2 (.inr (zT r L x h))
   ·exact List.mem_cons.2 (.inr (zT r L x h))
theorem nD (r : Int -> Int -> Bool) : ∀ L : List Int,(gJ r L).length <= L.length
 | []=>Nat.le_refl _
 | y :: L=>by
   have:=nD r L
   rw [gJ];split <;> simp <;> omega
theorem lW (r : Int -> Int -> Bool) (x : Int) : ∀ L : List Int,gJ r (L ++ [x]) = (gJ r L).filter (λy=>r y x) ++ [x]
 | []=>by simp [gJ]
 | y :: L=>by
   have ih:=lW r x L
   simp only [List.cons_append,gJ,List.all_append,List.all_cons,List.all_nil,Bool.and_true,ih]
   cases h1 : L.all (λx=>r y x) <;> cases h2 : r y x <;> simp [h2]
theorem ug (o : Ord r) : ∀ L : List Int,L ≠ [] -> ∃ m M,gJ r L = m :: M /\ m ∈ L /\ ∀ x ∈ L,r m x = true
 | [],h=>absurd rfl h
 | y :: L,_=>by
   rw [gJ]
   by_cases h : L.all (λx=>r y x) = true
   ·rw [if_pos h]
    refine ⟨y,_,rfl,by simp,λx hx=>?_⟩
    rcases List.mem_cons.1 hx with hx | hx
    ·rw [hx];exact o.refl y
    ·exact List.all_eq_true.1 h x hx
   ·rw [if_neg h]
    have hne : L ≠ []:=by rintro rfl;simp at h
    obtain ⟨m,M,h1,h2,h3⟩:=ug o L hne
    refine ⟨m,M,h1,List.mem_cons.2 (.inr h2),λx hx=>?_⟩
    rcases List.mem_cons.1 hx with hx | hx
    ·rcases o.total m x with k | k
     ·exact k
     ·exfalso
      apply h
      rw [List.all_eq_true]
      intro z hz
      rw [← hx]
      exact o.trans k (h3 z hz)
    ·exact h3 x hx
theorem DI (o : Ord r) (y : Int) (L : List Int) : ∃ m M,gJ r (y :: L) = m :: M /\ gJ r L = (if m = y then M else m :: M):=by
 obtain ⟨m,M,h1,h2,h3⟩:=ug o (y :: L) (by simp)
 refine ⟨m,M,h1,?_⟩
 rw [gJ] at h1
 by_cases h : L.all (λx=>r y x) = true
 ·rw [if_pos h] at h1
  obtain ⟨rfl,rfl⟩:=List.cons.inj h1
  rw [if_pos rfl]
 ·rw [if_neg h] at h1
  rw [h1,if_neg]
  rintro rfl
  apply h
  rw [List.all_eq_true]
  exact λx hx=>h3 x (List.mem_cons.2 (.inr hx))
theorem kD (o : Ord r) : ∀ L : List Int,(gJ r L).Pairwise (λa b=>r a b = true)
 | []=>List.Pairwise.nil
 | y :: L=>by
   rw [gJ]
   by_cases h : L.all (λx=>r y x) = true
   ·rw [if_pos h]
    exact List.Pairwise.cons (λx hx=>List.all_eq_true.1 h x (zT r L x hx)) (kD o L)
   ·rw [if_neg h];exact kD o L
theorem LB (o : Ord r) {M : List Int} (hp : M.Pairwise (λa b=>r a b = true)) (x : Int) {k : Nat} (hk : k <= M.length) (h1 : k = 0 \/ r (M.getD (k - 1) 0) x = true) (h2 : ∀ i,k <= i -> i < M.length -> r (M.getD i 0) x = false) :
 M.filter (λy=>r y x) = M.take k:=by
 have a : (M.take k).filter (λy=>r y x) = M.take k:=by
  rw [List.filter_eq_self]
  intro y hy
  obtain ⟨i,hi,e⟩:=List.mem_iff_getElem.1 hy
  rw [List.length_take] at hi
  have e2 : M[i]'(by omega) = y:=by rw [← e,List.getElem_take]
  rcases h1 with h0 | h1
  ·omega
  ·by_cases hik : i = k - 1
   ·rw [← e2,← h1,List.getD_eq_getElem?_getD,List.getElem?_eq_getElem (by omega)]
    simp [hik]
   ·have:=List.pairwise_iff_getElem.1 hp i (k - 1) (by omega) (by omega) (by omega)
    rw [← e2]
    refine o.trans this ?_
    rw [← h1,List.getD_eq_getElem?_getD,List.getElem?_eq_getElem (by omega)]
    rfl
 have b : (M.drop k).filter (λy=>r y x) = []:=by
  rw [List.filter_eq_nil_iff]
  intro y hy
  obtain ⟨i,hi,e⟩:=List.mem_iff_getElem.1 hy
  rw [List.length_drop] at hi
  have:=h2 (k + i) (by omega) (by omega)
  rw [List.getD_eq_getElem?_getD,List.getElem?_eq_getElem (by omega)] at this
  rw [← e,List.getElem_drop]
  simpa using this
 have : M.filter (λy=>r y x) = (M.take k).filter (λy=>r y x) ++ (M.drop k).filter (λy=>r y x):=by rw [← List.filter_append,List.take_append_drop]
 rw [this,a,b,List.append_nil]
def eO (w : World) (v : Value) (xs : List Int) (g : Option Nat) : Prop :=
 (g = none /\ xs = [] /\ ∃ ao,v = .slice ao 0 0) \/
 ∃ b off cap cur,g = some b /\ v = .slice (some ⟨b,off,none⟩) xs.length cap /\ xs.length <= cap /\ 0 < cap /\ cap <= maxLen /\ w.heap[b]? = some (.cells cur 2 (0,0)) /\ off + cap <= cur.size /\ ∀ i u,xs[i]? = some u -> cur[off + i]? = some (.int .i64 u)
theorem eO.nil (w : World) : eO w (.slice none 0 0) [] none:=.inl ⟨rfl,rfl,none,rfl⟩
theorem eO.lt {w : World} {v : Value} {xs : List Int} {b : Nat} (h : eO w v xs (some b)) : b < w.heap.size:=by
 rcases h with ⟨h,_⟩ | ⟨b',off,cap,cur,h,_,_,_,_,hh,_⟩
 ·cases h
 ·cases h;exact (Array.getElem?_eq_some_iff.1 hh).1
theorem eO.only {w w' : World} {v : Value} {xs : List Int} {g : Option Nat} {S : Nat -> Prop} (h : eO w v xs g) (ho : Only S w w') (hg : ∀ b,g = some b -> ¬ S b) : eO w' v xs g:=by
 rcases h with h | ⟨b,off,cap,cur,h1,h2,h3,h4,h5,h6,h7⟩
 ·exact .inl h
 ·exact .inr ⟨b,off,cap,cur,h1,h2,h3,h4,h5,(ho.block b (Array.getElem?_eq_some_iff.1 h6).1 (hg b h1)).trans h6,h7⟩
theorem Ai {w w' : World} (h : w.grownBy w' none) : Only (λ_=>False) w w' :=
 ⟨h.os,h.tape,h.output,h.size,λk hk _=>h.block k hk (λe=>by cases e)⟩
theorem X3 : (Tryz.prog.info? 2).map (λi=>(i.zero,i.size,i.bytes)) = some (some (.int .i64 0),1,8):=by kernel_rfl
theorem jV {w : World} {ops : Array Oper} {rest : List Oper} {o : Oper} {a : Act} {Q : Exit -> Act -> World -> Prop}
 (hgd : o.guard = none) (s x : Operand) (hop : o.op = .call { callee:=.builtin .append,args:=#[s,x],argTypes:=#[63,63] })
 (v : Value) (xs : List Int) (g : Option Nat) (hs : a.eval s = v) (hrow : eO w v xs g) (y : Int) (ad : Addr) (hx : a.eval x = .slice (some ad) 1 1) (hc : w.cell? ad = some (.int .i64 y)) (hb : xs.length <= 1000000)
 (h : ∀ v' w' g',eO w' v' (xs ++ [y]) g' -> Only (λk=>g = some k) w w' -> (∀ k,g' = some k -> g = some k \/ w.heap.size <= k) -> wpList Tryz.prog ops Q rest (a.put o.dst v') w') :
 wpList Tryz.prog ops Q (o :: rest) a w:=by
 obtain ⟨i0,hi,hz0,hz1,hz2⟩:=info_parts X3
 have hnews : ∀ j u,([Value.int .i64 y] : List Value)[j]? = some u -> w.cell? (ad.add j) = some u:=λj u hu=>by
  match j,hu with
  | 0,hu=>simp at hu;subst hu;simpa [Addr.add] using hc
 have hone : ∀ u ∈ ([Value.int .i64 y] : List Value),u.oneCell' = true:=λu hu=>by simp at hu;subst hu;rfl
 have fresh : ∀ (ys : List Int) v' w',ys.length <= 1000000 -> w'.ownsRow w.heap.size 2 1 v' (ys.length + 1) (ys.map (Value.int .i64) ++ [.int .i64 y]) -> w.grownBy w' none -> ∃ g',eO w' v' (ys ++ [y]) g' /\ ∀ k,g' = some k -> w.heap.size <= k:=by
  intro ys v' w' hl ho hg
  obtain ⟨_,⟨_,h0⟩ | ⟨gg,cap,cur,hv,hbg,hh,hk,hm,hsz,ht⟩⟩:=ho
  ·omega
  ·refine ⟨some gg,.inr ⟨gg,0,cap,cur,rfl,by rw [hv];simp,by simpa using hk,by omega,hm,hh,by omega,λi u hu=>?_⟩,λk e=>by cases e;exact hbg⟩
   have hlen : i < ys.length + 1:=by
    have:=(List.getElem?_eq_some_iff.1 hu).1
    simpa using this
   have e : (ys.map (Value.int .i64) ++ [.int .i64 y])[i]? = some (.int .i64 u):=by
    rw [← List.map_singleton (f:=Value.int .i64),← List.map_append,List.getElem?_map,hu];rfl
   rw [← ht,List.getElem?_take,if_pos (by omega)] at e
   simpa using e
 rcases hrow with ⟨rfl,rfl,ao,rfl⟩ | ⟨b,off,cap,cur,rfl,rfl,h3,h4,h5,h6,h7,h8⟩
 ·refine wpList_append_grows w hgd s x 63 hop 2 i0 (.int .i64 0) 1 8 Tryz.underlying63 hi hz0 hz1 hz2 rfl (by decide) ao 0 0 [] hs (λ_=>⟨rfl,rfl⟩) rfl (λ_ _ j u hu=>by simp at hu) ad 1 1 [.int .i64 y] hx rfl hnews hone (by omega) (by unfold maxLen;omega) (by omega) ?_
  intro v' w' ho hg
  obtain ⟨g',r1,r2⟩:=fresh [] v' w' (by simp) (by simpa using ho) hg
  exact h v' w' g' r1 ((Ai hg).weaken (λ_ _ hf=>hf.elim)) (λk e=>.inr (r2 k e))
 ·have hcell : ∀ i,i < cur.size -> w.cell? ⟨b,i,none⟩ = cur[i]?:=λi _=>by simp [World.cell?,h6]
  refine wpList_append_arg w hgd s x 63 hop 2 i0 (.int .i64 0) 1 8 Tryz.underlying63 hi hz0 hz1 hz2 rfl (by decide) b off xs.length cap (xs.map (Value.int .i64)) hs (by simp) (λj u hu=>?_) ad 1 1 [.int .i64 y] hx rfl hnews hone (λhroom j hj=>?_) (by unfold maxLen;omega) (by omega) (λhroom=>?_) (λhfull v' w' ho hg=>?_)
  ·rw [List.getElem?_map] at hu
   cases hxu : xs[j]? with
   | none=>rw [hxu] at hu;cases hu
   | some u' =>
     rw [hxu] at hu
     cases hu
     have hj:=(List.getElem?_eq_some_iff.1 hxu).1
     rw [hcell _ (by omega)]
     exact h8 j u' hxu
  ·simp at hj
   subst hj
   refine ⟨?_,by simp [World.frozen?,h6]⟩
   rw [hcell _ (by omega),Array.getElem?_eq_getElem (by omega)]
   rfl
  ·have e : w.setCells b (off + xs.length * 1) [.int .i64 y] = w.setCell ⟨b,off + xs.length * 1,none⟩ (.int .i64 y):=rfl
   rw [e,Nat.mul_one]
   refine h _ _ (some b) (.inr ⟨b,off,cap,cur.setIfInBounds (off + xs.length) (.int .i64 y),rfl,by simp,by simpa using hroom,h4,h5,heap_setCell_same w b _ cur _ _ h6,by simpa using h7,λi u hu=>?_⟩) ((Only.refl (λk=>some b = some k) w).setCell (p:=⟨b,off + xs.length,none⟩) (.inl rfl) _) (λk e=>.inl e)
   by_cases hi' : i < xs.length
   ·rw [List.getElem?_append_left hi'] at hu
    rw [Array.getElem?_setIfInBounds_ne (by omega)]
    exact h8 i u hu
   ·have hl:=(List.getElem?_eq_some_iff.1 hu).1
    simp at hl
    obtain rfl : i = xs.length:=by omega
    rw [List.getElem?_append_right (Nat.le_refl _),Nat.sub_self] at hu
    simp at hu
    subst hu
    rw [Array.getElem?_setIfInBounds_self_of_lt (by omega)]
  ·obtain ⟨g',r1,r2⟩:=fresh xs v' w' hb ho hg
   exact h v' w' g' r1 ((Ai hg).weaken (λ_ _ hf=>hf.elim)) (λk e=>.inr (r2 k e))
end Go.Proofs.YtklkooeimkedgaaGreat
