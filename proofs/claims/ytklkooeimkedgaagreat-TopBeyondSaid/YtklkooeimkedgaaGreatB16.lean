/- Walk of TopBeyond. -/
import Derived.Test.YtklkooeimkedgaaGreatB0
import Derived.Below
import Derived.StillTailTactics
import Derived.WalkKit
import Derived.WalkSmall
set_option linter.unusedVariables false
set_option linter.unusedSimpArgs false
namespace Go.Proofs.YtklkooeimkedgaaGreat
open Go.RowKit
section
variable {P : Program} {ops : Array Oper} {I : World -> Prop}
def gN (P : Program) (I : World -> Prop) (K : Value -> Prop) : Result Next -> Prop
 | .ok (.value v) w'=>I w' /\ K v
 | .ok .skip w'=>I w' /\ K undef
 | .ok (.enter f args) w'=>I w' /\ ∃ v,Calls P f args w' (λe w''=>e = .returned v /\ I w'') /\ K v
 | _=>False
def mE (P : Program) (ops : Array Oper) (I : World -> Prop) (o : Oper) (v : Value) (a : Act) : Prop :=
 if Region.wanted o (yielded ops a.tmps) then ∀ W,I W -> gN P I (· = v) ((execOp a.eval o).run P W) else v = undef
theorem mE.of_same {o : Oper} {v : Value} {a a' : Act} (hy : mE P ops I o v a) (he : execOp a'.eval o = execOp a.eval o)
 (hw : Region.wanted o (yielded ops a'.tmps) = Region.wanted o (yielded ops a.tmps)) : mE P ops I o v a':=by
 unfold mE at *
 rw [he,hw]
 exact hy
def Aw (P : Program) (ops : Array Oper) (I : World -> Prop) (i : Nat) (K : Act -> Prop) (a : Act) : Prop :=
 match ops[i]? with
 | none=>K a
 | some o=>∃ v,mE P ops I o v a /\ K (a.put o.dst v)
theorem TP {i : Nat} {a : Act} {K K' : Act -> Prop} (h : ∀ a,K a -> K' a) (hh : Aw P ops I i K a) : Aw P ops I i K' a:=by
 unfold Aw at *
 split
 ·exact h _ (by simpa [*] using hh)
 ·rename_i o ho
  simp only [ho] at hh
  obtain ⟨v,h1,h2⟩:=hh
  exact ⟨v,h1,h _ h2⟩
theorem Le {Q : Exit -> Act -> World -> Prop} {i : Nat} {a : Act} {K : Act -> Prop} {K' : Act -> World -> Prop} {W : World} (hW : I W) (h : ∀ a W,I W -> K a -> K' a W) (hh : Aw P ops I i K a) : wpOp P ops Q i K' a W:=by
 unfold Aw at hh
 unfold wpOp
 split
 ·rename_i ho;simp only [ho] at hh;exact h _ _ hW hh
 ·rename_i o ho
  simp only [ho] at hh
  obtain ⟨v,hy,hk⟩:=hh
  unfold mE at hy
  split
  ·rename_i hw
   simp only [hw,if_true] at hy
   refine .inl ?_
   have hr:=hy W hW
   unfold Oper.wp
   generalize (execOp a.eval o).run P W = r at *
   cases r with
   | ok n w' =>
     cases n <;> simp only [gN] at hr <;> simp only [Oper.upon]
     case value u=>obtain ⟨h1,rfl⟩:=hr;exact h _ _ h1 hk
     case skip=>obtain ⟨h1,rfl⟩:=hr;exact h _ _ h1 hk
     case enter f args =>
      obtain ⟨h1,u,hc,rfl⟩:=hr
      exact hc.mono λe w'' ⟨he,hw2⟩=>by subst he;exact h _ _ hw2 hk
   | halt x w'=>simp only [gN] at hr
  ·rename_i hw
   simp only [hw] at hy
   subst hy
   exact h _ _ hW hk
theorem TQ {i j : Nat} {oi oj : Oper} (hi : ops[i]? = some oi) (hj : ops[j]? = some oj) (hap : oi.apart ops oj = true)
 (hsi : ∀ cs b,oi.op ≠ .select cs b) (hsj : ∀ cs b,oj.op ≠ .select cs b) {K : Act -> Prop} {a : Act} {v : Value}
 (hy : mE P ops I oi v a) (h : Aw P ops I j K (a.put oi.dst v)) : Aw P ops I j (λa'=>mE P ops I oi v a' /\ K (a'.put oi.dst v)) a:=by
 obtain ⟨h1,h2,h3⟩:=Oper.apart_spec hap
 unfold Aw at *
 simp only [hj] at *
 obtain ⟨u,k1,k2⟩:=h
 refine ⟨u,k1.of_same (execOp_put oj hsj a oi.dst v h1).symm (wanted_put oj a oi.dst v h1).symm,hy.of_same (execOp_put oi hsi a oj.dst u h3) (wanted_put oi a oj.dst u h3),?_⟩
 rw [← Act.put_comm a v u h2];exact k2
def Ay (P : Program) (md : Region.Mode) (ops : Array Oper) (I : World -> Prop) (n : Nat) (L : Array Bool -> Act -> Prop) : Nat -> Array Bool -> Act -> Prop
 | 0,listed,a=>L listed a
 | f + 1,listed,a =>
   Region.ready md ops listed ≠ [] /\ ∀ i ∈ Region.ready md ops listed,i < n /\ Aw P ops I i (Ay P md ops I n L f (listed.setIfInBounds i true)) a
theorem yK {md : Region.Mode} {n g : Nat} {L : Array Bool -> Act -> Prop} {Q' : Exit -> Act -> World -> Prop} (hL : ∀ listed a,L listed a -> ∀ W,I W -> wpAny P md ops Q' g listed a W) :
 ∀ (f : Nat) (listed : Array Bool) (a : Act),Ay P md ops I n L f listed a -> ∀ W,I W -> wpAny P md ops Q' (f + g) listed a W
 | 0,listed,a,h,W,hW=>by rw [Nat.zero_add];exact hL _ _ h W hW
 | f + 1,listed,a,h,W,hW=>by
   rw [show f + 1 + g = (f + g) + 1 by omega]
   exact ⟨λh0=>absurd h0 h.1,λi hi=>Le hW (λa' W' hW' h'=>yK hL f _ a' h' W' hW') (h.2 i hi).2⟩
theorem Jf {md : Region.Mode} {n i : Nat} {oi : Oper} {v : Value} {L : Array Bool -> Act -> Prop} (hi : ops[i]? = some oi) (hsel : ∀ (j : Nat) (o : Oper) cs b,ops[j]? = some o -> o.op ≠ .select cs b)
 (hs : Region.sinkB md ops n = true) (hc : Region.chainB md ops n = true) (hn : n < ops.size) (hin : i < n)
 (hdone : ∀ listed a,L listed a -> ∀ j ∈ Region.ready md ops listed,n <= j) :
 ∀ (f : Nat) (listed : Array Bool) (a : Act),HeadInv md ops n listed ->
  (∀ j oj,ops[j]? = some oj -> j ≠ i -> listed.getD j true = false -> (∀ e ∈ oj.after,Region.binds md e = true -> e.on ≠ i) -> oi.apart ops oj = true) ->
  i ∈ Region.ready md ops listed -> mE P ops I oi v a ->
  Ay P md ops I n L f (listed.setIfInBounds i true) (a.put oi.dst v) -> Ay P md ops I n L (f + 1) listed a:=by
 intro f
 induction f with
 | zero =>
   intro listed a inv _ hr hy H
   have hun:=(mem_ready.1 hr).1
   refine ⟨λh=>(by rw [h] at hr;cases hr),λj hj=>?_⟩
   have hjn : j < n:=by
    rcases Nat.lt_or_ge j n with h | h
    ·exact h
    ·exact absurd hj (tail_waits hs hc hn inv _ i rfl hin hun j h)
   refine ⟨hjn,?_⟩
   by_cases hji : j = i
   ·subst hji;unfold Aw;simp only [hi];exact ⟨v,hy,H⟩
   ·have:=hdone _ _ H j (ready_mono hj hji)
    omega
 | succ f ih =>
   intro listed a inv hfree hr hy H
   have hun:=(mem_ready.1 hr).1
   refine ⟨λh=>(by rw [h] at hr;cases hr),λj hj=>?_⟩
   have hjn : j < n:=by
    rcases Nat.lt_or_ge j n with h | h
    ·exact h
    ·exact absurd hj (tail_waits hs hc hn inv _ i rfl hin hun j h)
   refine ⟨hjn,?_⟩
   by_cases hji : j = i
   ·subst hji;unfold Aw;simp only [hi];exact ⟨v,hy,H⟩
   ·have h1:=(H.2 j (ready_mono hj hji)).2
    obtain ⟨hjun,oj,hoj,hall⟩:=mem_ready.1 hj
    have hnot : ∀ e ∈ oj.after,Region.binds md e = true -> e.on ≠ i:=λe he hb heq=>by
     have h1:=hall e he hb
     rw [heq,getD_both hun] at h1
     cases h1
    have h2:=TQ hi hoj (hfree j oj hoj hji hjun hnot) (λcs b=>hsel i oi cs b hi) (λcs b=>hsel j oj cs b hoj) hy h1
    have hfree' : ∀ k ok,ops[k]? = some ok -> k ≠ i -> (listed.setIfInBounds j true).getD k true = false ->
     (∀ e ∈ ok.after,Region.binds md e = true -> e.on ≠ i) -> oi.apart ops ok = true:=λk ok hk hki hun hno=>by
     refine hfree k ok hk hki ?_ hno
     by_cases hjk : j = k
     ·subst hjk;exact hjun
     ·rw [getD_set_ne true hjk] at hun;exact hun
    refine TP (λa' h3=>ih (listed.setIfInBounds j true) a' (inv.set hj hjn) hfree' (ready_mono hr (Ne.symm hji)) h3.1 ?_) h2
    rw [Array.setIfInBounds_comm _ _ hji]
    exact h3.2
def vM (P : Program) (ops : Array Oper) (I : World -> Prop) (Q : Act -> Prop) : List Oper -> Act -> Prop
 | [],a=>Q a
 | o :: rest,a=>∃ v,mE P ops I o v a /\ vM P ops I Q rest (a.put o.dst v)
theorem EA {md : Region.Mode} {n g : Nat} {Lq : Act -> Prop} (hsel : Region.noSelect ops = true) (hs : Region.sinkB md ops n = true) (hc : Region.chainB md ops n = true) (hn : n < ops.size) :
 ∀ (l : List Oper) (k : Nat) (listed : Array Bool) (a : Act),(∀ j,j < l.length -> l[j]? = ops[k + j]?) -> k + l.length = n -> HeadInv md ops n listed ->
 Region.lexHead md ops g l.length k listed = true -> vM P ops I Lq l a ->
 Ay P md ops I n (λlisted' a'=>Region.seqB md ops g n listed' = true /\ Lq a') l.length listed a
 | [],k,listed,a,_,hk,_,hB,h=>by
   have : k = n:=by simpa using hk
   subst this
   exact ⟨by simpa [Region.lexHead] using hB,h⟩
 | o :: l,k,listed,a,hl,hk,inv,hB,h=>by
   have h0 : ops[k]? = some o:=by simpa using (hl 0 (by simp)).symm
   simp only [List.length_cons,Region.lexHead,Bool.and_eq_true] at hB
   obtain ⟨⟨hr,hf⟩,hB'⟩:=hB
   have hkn : k < n:=by simp only [List.length_cons] at hk;omega
   have hr' : k ∈ Region.ready md ops listed:=by simpa using hr
   obtain ⟨v,hy,hK⟩:=h
   exact Jf h0 (Region.noSelect_spec hsel) hs hc hn hkn (λlisted' a' hL=>seqB_ready hL.1) l.length listed a inv (Region.free_spec h0 hf) hr' hy
    (EA hsel hs hc hn l (k + 1) _ _ (λj hj=>by have:=hl (j + 1) (by simp;omega);simpa [Nat.add_assoc,Nat.add_comm 1 j] using this) (by simp only [List.length_cons] at hk;omega) (inv.set hr' hkn) hB' hK)
theorem gK {id : Nat} {Q : Exit -> Act -> World -> Prop} {a : Act} {w : World} {l : List Oper} (n : Nat) (hm : P.follows .mixedOrders = true) (hB : Region.lexTailB .any l.toArray n = true) (hI : I w.drew)
 (h : vM P l.toArray I (λa'=>∀ W,I W -> wpList P l.toArray Q (l.drop n) a' W) (l.take n) a) : (Code.region id l.toArray true).wp P Q a w:=by
 simp only [Region.lexTailB,Bool.and_eq_true,decide_eq_true_eq] at hB
 obtain ⟨⟨⟨⟨hsel,hn⟩,hs⟩,hc⟩,hlex⟩:=hB
 have hn' : n < l.length:=by simpa using hn
 have htl : (l.take n).length = n:=by simp;omega
 have hdl : (l.drop n).length = l.toArray.size - n:=by simp
 have inv0 : HeadInv .any l.toArray n (Array.replicate l.toArray.size false) :=
  ⟨by simp,λj oj _ hl=>(by rw [getD_replicate_false] at hl;cases hl),λt _ ht=>getD_in (by simpa using ht) (getD_replicate_false _ _)⟩
 have H:=EA (md:=.any) (g:=l.toArray.size - n) hsel hs hc hn (l.take n) 0 _ a (λj hj=>by
  have hj' : j < n:=by rw [htl] at hj;exact hj
  simp [hj']) (by simpa using htl) inv0 (by rw [htl];exact hlex) h
 refine wp_region_any hm ?_
 have:=yK (Q':=Q) (g:=l.toArray.size - n) (λlisted a' hL W hW=>by
  have:=wpAny_of_seq (md:=.any) (Q':=Q) (l.drop n) n listed a' W (λj=>by simp [List.getElem?_drop]) (by rw [hdl];exact hL.1) (hL.2 W hW)
  rwa [hdl] at this) _ _ _ H w.drew hI
 rw [htl,show n + (l.toArray.size - n) = l.toArray.size by omega] at this
 exact this
end
def aH (w W : World) : Prop:=Below w.heap.size w W
theorem aQ {P : Program} {id : Nat} {Q : Exit -> Act -> World -> Prop} {a : Act} {w : World} {l : List Oper} (n : Nat) (hm : P.follows .mixedOrders = true) (hB : Region.lexTailB .any l.toArray n = true)
 (h : vM P l.toArray (aH w) (λa'=>∀ W,aH w W -> wpList P l.toArray Q (l.drop n) a' W) (l.take n) a) : (Code.region id l.toArray true).wp P Q a w :=
 gK n hm hB (show Below w.heap.size w w.drew from below_drewN aiU 1) h
theorem aT {P : Program} {ops : Array Oper} {I : World -> Prop} {Q : Act -> Prop} {a : Act} (h : Q a) : vM P ops I Q [] a:=h
theorem aA {P : Program} {ops : Array Oper} {I : World -> Prop} {Q : Act -> Prop} {a : Act} {o : Oper} {rest : List Oper} (v : Value)
 (h : ∀ W,I W -> ∀ K : Value -> Prop,K v -> if Region.wanted o (yielded ops a.tmps) then gN P I K ((execOp a.eval o).run P W) else K undef)
 (hI : ∃ W,I W) (h2 : vM P ops I Q rest (a.put o.dst v)) : vM P ops I Q (o :: rest) a:=by
 refine ⟨v,?_,h2⟩
 unfold mE
 split
 ·rename_i hw
  intro W hW
  have:=h W hW (· = v) rfl
  simpa only [hw,if_true] using this
 ·rename_i hw
  obtain ⟨W,hW⟩:=hI
  have:=h W hW (λu=>v = u) rfl
  rwa [if_neg (by simpa using hw)] at this
theorem aH.self (w : World) : ∃ W,aH w W:=⟨w,Below.refl _ _⟩
theorem aH.cell {w W : World} (h : aH w W) {p : Addr} {v : Value} (q : w.cell? p = some v) : W.cell? p = some v :=
 (Below.cell h (World.block_lt_of_cell? w p q)).trans q
theorem aH.call {P : Program} {f : FuncId} {args : Array Value} {w W : World} {v : Value} (h : aH w W) (c : Calls P f args W λe w''=>e = .returned v /\ Below W.heap.size W w'') :
 Calls P f args W λe w''=>e = .returned v /\ aH w w'' :=
 c.mono λe w'' ⟨h1,h2⟩=>⟨h1,Below.trans h (h2.mono (Below.size h))⟩
theorem aH.of_eq {P : Program} {f : FuncId} {args : Array Value} {w W : World} {v : Value} (h : aH w W) (c : Calls P f args W λe w''=>e = .returned v /\ W = w'') :
 Calls P f args W λe w''=>e = .returned v /\ aH w w'' :=
 c.mono λe w'' ⟨h1,h2⟩=>⟨h1,h2 ▸ h⟩
attribute [go_sem] gN
end Go.Proofs.YtklkooeimkedgaaGreat
