/- Walk of TopBeyond. -/
import Derived.Test.YtklkooeimkedgaaGreatB2
import Derived.Test.YtklkooeimkedgaaGreatB16
set_option linter.unusedVariables false
set_option linter.unusedSimpArgs false
namespace Go.Proofs.YtklkooeimkedgaaGreat
open Go.RowKit
structure Spec where
 Aa : Value -> Prop
 vX : Value -> World -> Prop
 ne : ∃ v,Aa v
 st : ∀ v W W',vX v W -> Below W.heap.size W W' -> vX v W'
def Spec.fix (c : Value) : Spec:=⟨λv=>v = c,λ_ _=>True,⟨c,rfl⟩,λ_ _ _ _ _=>trivial⟩
section
variable {P : Program} {ops : Array Oper} {w0 : World}
def tF (P : Program) (W : World) (s : Spec) : Result Next -> Prop
 | .ok (.value v) w'=>Below W.heap.size W w' /\ s.Aa v /\ s.vX v w'
 | .ok .skip w'=>Below W.heap.size W w' /\ s.Aa undef /\ s.vX undef w'
 | .ok (.enter f args) w'=>Calls P f args w' λe w''=>∃ v,e = .returned v /\ Below W.heap.size W w'' /\ s.Aa v /\ s.vX v w''
 | _=>False
def kH (P : Program) (ops : Array Oper) (w0 : World) (o : Oper) (s : Spec) (a : Act) : Prop :=
 if Region.wanted o (yielded ops a.tmps) then ∀ W,aH w0 W -> tF P W s ((execOp a.eval o).run P W) else s.Aa undef /\ ∀ W,aH w0 W -> s.vX undef W
theorem kH.of_same {o : Oper} {s : Spec} {a a' : Act} (hy : kH P ops w0 o s a) (he : execOp a'.eval o = execOp a.eval o)
 (hw : Region.wanted o (yielded ops a'.tmps) = Region.wanted o (yielded ops a.tmps)) : kH P ops w0 o s a':=by
 unfold kH at *
 rw [he,hw]
 exact hy
def CG (C : World -> Prop) : Prop:=∀ W W',C W -> Below W.heap.size W W' -> C W'
theorem CG.and {C : World -> Prop} (h : CG C) (s : Spec) (v : Value) : CG (λW=>C W /\ s.vX v W):=λW W' hh hb=>⟨h _ _ hh.1 hb,s.st _ _ _ hh.2 hb⟩
def yV (P : Program) (ops : Array Oper) (w0 : World) (sp : Nat -> Spec) (i : Nat) (K : Act -> (World -> Prop) -> Prop) (a : Act) (C : World -> Prop) : Prop :=
 match ops[i]? with
 | none=>K a C
 | some o=>kH P ops w0 o (sp i) a /\ ∀ v,(sp i).Aa v -> K (a.put o.dst v) (λW=>C W /\ (sp i).vX v W)
variable {sp : Nat -> Spec}
theorem JJ {i : Nat} {a : Act} {C : World -> Prop} {K K' : Act -> (World -> Prop) -> Prop} (h : ∀ a C,K a C -> K' a C) (hh : yV P ops w0 sp i K a C) : yV P ops w0 sp i K' a C:=by
 unfold yV at *
 split
 ·exact h _ _ (by simpa [*] using hh)
 ·rename_i o ho
  simp only [ho] at hh
  exact ⟨hh.1,λv hv=>h _ _ (hh.2 v hv)⟩
theorem Lh {Q : Exit -> Act -> World -> Prop} {i : Nat} {a : Act} {C : World -> Prop} {K : Act -> (World -> Prop) -> Prop} {K' : Act -> World -> Prop} {W : World} (hW : aH w0 W) (hC : C W) (hS : CG C)
 (h : ∀ a C W,aH w0 W -> C W -> CG C -> K a C -> K' a W) (hh : yV P ops w0 sp i K a C) : wpOp P ops Q i K' a W:=by
 unfold yV at hh
 unfold wpOp
 split
 ·rename_i ho;simp only [ho] at hh;exact h _ _ _ hW hC hS hh
 ·rename_i o ho
  simp only [ho] at hh
  obtain ⟨hy,hk⟩:=hh
  unfold kH at hy
  split
  ·rename_i hw
   simp only [hw,if_true] at hy
   refine .inl ?_
   have hr:=hy W hW
   unfold Oper.wp
   generalize (execOp a.eval o).run P W = r at *
   cases r with
   | ok n w' =>
     cases n <;> simp only [tF] at hr <;> simp only [Oper.upon]
     case value u=>obtain ⟨h1,h2,h3⟩:=hr;exact h _ _ _ (Below.trans hW (h1.mono (Below.size hW))) ⟨hS _ _ hC h1,h3⟩ (hS.and _ _) (hk u h2)
     case skip=>obtain ⟨h1,h2,h3⟩:=hr;exact h _ _ _ (Below.trans hW (h1.mono (Below.size hW))) ⟨hS _ _ hC h1,h3⟩ (hS.and _ _) (hk undef h2)
     case enter f args =>
      refine hr.mono λe w'' hh=>?_
      obtain ⟨u,he,h1,h2,h3⟩:=hh
      subst he
      exact h _ _ _ (Below.trans hW (h1.mono (Below.size hW))) ⟨hS _ _ hC h1,h3⟩ (hS.and _ _) (hk u h2)
   | halt x w'=>simp only [tF] at hr
  ·rename_i hw
   simp only [hw] at hy
   exact h _ _ _ hW ⟨hC,hy.2 W hW⟩ (hS.and _ _) (hk undef hy.1)
theorem QW (C : World -> Prop) (A B : World -> Prop) : (λW=>(C W /\ A W) /\ B W) = (λW=>(C W /\ B W) /\ A W):=by
 funext W;exact propext ⟨λh=>⟨⟨h.1.1,h.2⟩,h.1.2⟩,λh=>⟨⟨h.1.1,h.2⟩,h.1.2⟩⟩
theorem JK {i j : Nat} {oi oj : Oper} (hi : ops[i]? = some oi) (hj : ops[j]? = some oj) (hap : oi.apart ops oj = true)
 (hsi : ∀ cs b,oi.op ≠ .select cs b) (hsj : ∀ cs b,oj.op ≠ .select cs b) {K : Act -> (World -> Prop) -> Prop} {a : Act} {C : World -> Prop}
 (hy : kH P ops w0 oi (sp i) a) (h : ∀ v,(sp i).Aa v -> yV P ops w0 sp j K (a.put oi.dst v) (λW=>C W /\ (sp i).vX v W)) :
 yV P ops w0 sp j (λa' C'=>kH P ops w0 oi (sp i) a' /\ ∀ v,(sp i).Aa v -> K (a'.put oi.dst v) (λW=>C' W /\ (sp i).vX v W)) a C:=by
 obtain ⟨h1,h2,h3⟩:=Oper.apart_spec hap
 unfold yV at *
 simp only [hj] at *
 obtain ⟨v0,hv0⟩:=(sp i).ne
 refine ⟨(h v0 hv0).1.of_same (execOp_put oj hsj a oi.dst v0 h1).symm (wanted_put oj a oi.dst v0 h1).symm,λu hu=>⟨hy.of_same (execOp_put oi hsi a oj.dst u h3) (wanted_put oi a oj.dst u h3),λv hv=>?_⟩⟩
 rw [← Act.put_comm a v u h2,QW]
 exact (h v hv).2 u hu
def wpAnyL (P : Program) (md : Region.Mode) (ops : Array Oper) (w0 : World) (sp : Nat -> Spec) (n : Nat) (L : Array Bool -> Act -> (World -> Prop) -> Prop) : Nat -> Array Bool -> Act -> (World -> Prop) -> Prop
 | 0,listed,a,C=>L listed a C
 | f + 1,listed,a,C =>
   Region.ready md ops listed ≠ [] /\ ∀ i ∈ Region.ready md ops listed,i < n /\ yV P ops w0 sp i (wpAnyL P md ops w0 sp n L f (listed.setIfInBounds i true)) a C
theorem tH {md : Region.Mode} {n g : Nat} {L : Array Bool -> Act -> (World -> Prop) -> Prop} {Q' : Exit -> Act -> World -> Prop} (hL : ∀ listed a C,L listed a C -> ∀ W,aH w0 W -> C W -> wpAny P md ops Q' g listed a W) :
 ∀ (f : Nat) (listed : Array Bool) (a : Act) (C : World -> Prop),wpAnyL P md ops w0 sp n L f listed a C -> ∀ W,aH w0 W -> C W -> CG C -> wpAny P md ops Q' (f + g) listed a W
 | 0,listed,a,C,h,W,hW,hC,hS=>by rw [Nat.zero_add];exact hL _ _ _ h W hW hC
 | f + 1,listed,a,C,h,W,hW,hC,hS=>by
   rw [show f + 1 + g = (f + g) + 1 by omega]
   exact ⟨λh0=>absurd h0 h.1,λi hi=>Lh hW hC hS (λa' C' W' hW' hC' hS' h'=>tH hL f _ a' C' h' W' hW' hC' hS') (h.2 i hi).2⟩
theorem wpAnyL_first {md : Region.Mode} {n i : Nat} {oi : Oper} {L : Array Bool -> Act -> (World -> Prop) -> Prop} (hi : ops[i]? = some oi) (hsel : ∀ (j : Nat) (o : Oper) cs b,ops[j]? = some o -> o.op ≠ .select cs b)
 (hs : Region.sinkB md ops n = true) (hc : Region.chainB md ops n = true) (hn : n < ops.size) (hin : i < n)
 (hdone : ∀ listed a C,L listed a C -> ∀ j ∈ Region.ready md ops listed,n <= j) :
 ∀ (f : Nat) (listed : Array Bool) (a : Act) (C : World -> Prop),HeadInv md ops n listed ->
  (∀ j oj,ops[j]? = some oj -> j ≠ i -> listed.getD j true = false -> (∀ e ∈ oj.after,Region.binds md e = true -> e.on ≠ i) -> oi.apart ops oj = true) ->
  i ∈ Region.ready md ops listed -> kH P ops w0 oi (sp i) a ->
  (∀ v,(sp i).Aa v -> wpAnyL P md ops w0 sp n L f (listed.setIfInBounds i true) (a.put oi.dst v) (λW=>C W /\ (sp i).vX v W)) -> wpAnyL P md ops w0 sp n L (f + 1) listed a C:=by
 intro f
 induction f with
 | zero =>
   intro listed a C inv _ hr hy H
   have hun:=(mem_ready.1 hr).1
   obtain ⟨v0,hv0⟩:=(sp i).ne
   refine ⟨λh=>(by rw [h] at hr;cases hr),λj hj=>?_⟩
   have hjn : j < n:=by
    rcases Nat.lt_or_ge j n with h | h
    ·exact h
    ·exact absurd hj (tail_waits hs hc hn inv _ i rfl hin hun j h)
   refine ⟨hjn,?_⟩
   by_cases hji : j = i
   ·subst hji;unfold yV;simp only [hi];exact ⟨hy,H⟩
   ·have:=hdone _ _ _ (H v0 hv0) j (ready_mono hj hji)
    omega
 | succ f ih =>
   intro listed a C inv hfree hr hy H
   have hun:=(mem_ready.1 hr).1
   obtain ⟨v0,hv0⟩:=(sp i).ne
   refine ⟨λh=>(by rw [h] at hr;cases hr),λj hj=>?_⟩
   have hjn : j < n:=by
    rcases Nat.lt_or_ge j n with h | h
    ·exact h
    ·exact absurd hj (tail_waits hs hc hn inv _ i rfl hin hun j h)
   refine ⟨hjn,?_⟩
   by_cases hji : j = i
   ·subst hji;unfold yV;simp only [hi];exact ⟨hy,H⟩
   ·have h1:=λv hv=>((H v hv).2 j (ready_mono hj hji)).2
    obtain ⟨hjun,oj,hoj,hall⟩:=mem_ready.1 hj
    have hnot : ∀ e ∈ oj.after,Region.binds md e = true -> e.on ≠ i:=λe he hb heq=>by
     have h1:=hall e he hb
     rw [heq,getD_both hun] at h1
     cases h1
    have h2:=JK hi hoj (hfree j oj hoj hji hjun hnot) (λcs b=>hsel i oi cs b hi) (λcs b=>hsel j oj cs b hoj) hy h1
    have hfree' : ∀ k ok,ops[k]? = some ok -> k ≠ i -> (listed.setIfInBounds j true).getD k true = false ->
     (∀ e ∈ ok.after,Region.binds md e = true -> e.on ≠ i) -> oi.apart ops ok = true:=λk ok hk hki hun hno=>by
     refine hfree k ok hk hki ?_ hno
     by_cases hjk : j = k
     ·subst hjk;exact hjun
     ·rw [getD_set_ne true hjk] at hun;exact hun
    refine JJ (λa' C' h3=>ih (listed.setIfInBounds j true) a' C' (inv.set hj hjn) hfree' (ready_mono hr (Ne.symm hji)) h3.1 ?_) h2
    rw [Array.setIfInBounds_comm _ _ hji]
    exact h3.2
def nN (P : Program) (ops : Array Oper) (w0 : World) (Q : Act -> (World -> Prop) -> Prop) : List Spec -> List Oper -> Act -> (World -> Prop) -> Prop
 | _,[],a,C=>Q a C
 | [],_ :: _,_,_=>False
 | s :: sp,o :: rest,a,C=>kH P ops w0 o s a /\ ∀ v,s.Aa v -> nN P ops w0 Q sp rest (a.put o.dst v) (λW=>C W /\ s.vX v W)
theorem wpAnyL_lex {md : Region.Mode} {n g : Nat} {Lq : Act -> (World -> Prop) -> Prop} (hsel : Region.noSelect ops = true) (hs : Region.sinkB md ops n = true) (hc : Region.chainB md ops n = true) (hn : n < ops.size) :
 ∀ (l : List Oper) (ss : List Spec) (k : Nat) (listed : Array Bool) (a : Act) (C : World -> Prop),(∀ j,j < l.length -> l[j]? = ops[k + j]?) -> (∀ (j : Nat) s,ss[j]? = some s -> sp (k + j) = s) -> k + l.length = n -> HeadInv md ops n listed ->
 Region.lexHead md ops g l.length k listed = true -> nN P ops w0 Lq ss l a C ->
 wpAnyL P md ops w0 sp n (λlisted' a' C'=>Region.seqB md ops g n listed' = true /\ Lq a' C') l.length listed a C
 | [],ss,k,listed,a,C,_,_,hk,_,hB,h=>by
   have : k = n:=by simpa using hk
   subst this
   refine ⟨by simpa [Region.lexHead] using hB,?_⟩
   cases ss <;> exact h
 | o :: l,[],k,listed,a,C,_,_,hk,inv,hB,h=>h.elim
 | o :: l,s :: ss,k,listed,a,C,hl,hsp,hk,inv,hB,h=>by
   have h0 : ops[k]? = some o:=by simpa using (hl 0 (by simp)).symm
   have hs0 : sp k = s:=by simpa using hsp 0 s (by simp)
   simp only [List.length_cons,Region.lexHead,Bool.and_eq_true] at hB
   obtain ⟨⟨hr,hf⟩,hB'⟩:=hB
   have hkn : k < n:=by simp only [List.length_cons] at hk;omega
   have hr' : k ∈ Region.ready md ops listed:=by simpa using hr
   obtain ⟨hy,hK⟩:=h
   refine wpAnyL_first h0 (Region.noSelect_spec hsel) hs hc hn hkn (λlisted' a' C' hL=>seqB_ready hL.1) l.length listed a C inv (Region.free_spec h0 hf) hr' (by rw [hs0];exact hy) (λv hv=>?_)
   rw [hs0] at hv ⊢
   exact wpAnyL_lex hsel hs hc hn l ss (k + 1) _ _ _ (λj hj=>by have:=hl (j + 1) (by simp;omega);simpa [Nat.add_assoc,Nat.add_comm 1 j] using this)
    (λj s' hj=>by have:=hsp (j + 1) s' (by simpa using hj);rw [← this];congr 1;omega) (by simp only [List.length_cons] at hk;omega) (inv.set hr' hkn) hB' (hK v hv)
theorem bV {id : Nat} {Q : Exit -> Act -> World -> Prop} {a : Act} {w : World} {l : List Oper} (n : Nat) (ss : List Spec) (hm : P.follows .mixedOrders = true) (hB : Region.lexTailB .any l.toArray n = true)
 (h : nN P l.toArray w (λa' C=>∀ W,aH w W -> C W -> wpList P l.toArray Q (l.drop n) a' W) ss (l.take n) a (λ_=>True)) : (Code.region id l.toArray true).wp P Q a w:=by
 simp only [Region.lexTailB,Bool.and_eq_true,decide_eq_true_eq] at hB
 obtain ⟨⟨⟨⟨hsel,hn⟩,hs⟩,hc⟩,hlex⟩:=hB
 have hn' : n < l.length:=by simpa using hn
 have htl : (l.take n).length = n:=by simp;omega
 have hdl : (l.drop n).length = l.toArray.size - n:=by simp
 have inv0 : HeadInv .any l.toArray n (Array.replicate l.toArray.size false) :=
  ⟨by simp,λj oj _ hl=>(by rw [getD_replicate_false] at hl;cases hl),λt _ ht=>getD_in (by simpa using ht) (getD_replicate_false _ _)⟩
 have H:=wpAnyL_lex (sp:=λi=>ss.getD i (Spec.fix undef)) (md:=.any) (g:=l.toArray.size - n) hsel hs hc hn (l.take n) ss 0 _ a (λ_=>True) (λj hj=>by
  have hj' : j < n:=by rw [htl] at hj;exact hj
  simp [hj']) (λj s hj=>by simp [List.getD,hj]) (by simpa using htl) inv0 (by rw [htl];exact hlex) h
 refine wp_region_any hm ?_
 have hI : aH w w.drew:=below_drewN aiU 1
 have:=tH (Q':=Q) (g:=l.toArray.size - n) (λlisted a' C hL W hW hC=>by
  have:=wpAny_of_seq (md:=.any) (Q':=Q) (l.drop n) n listed a' W (λj=>by simp [List.getElem?_drop]) (by rw [hdl];exact hL.1) (hL.2 W hW hC)
  rwa [hdl] at this) _ _ _ _ H w.drew hI trivial (λ_ _ _ _=>trivial)
 rw [htl,show n + (l.toArray.size - n) = l.toArray.size by omega] at this
 exact this
end
theorem dK {P : Program} {ops : Array Oper} {w0 : World} {Q : Act -> (World -> Prop) -> Prop} {a : Act} {C : World -> Prop} (h : Q a C) : nN P ops w0 Q [] [] a C:=h
theorem bI {P : Program} {ops : Array Oper} {w0 : World} {Q : Act -> (World -> Prop) -> Prop} {a : Act} {o : Oper} {rest : List Oper} {ss : List Spec} {C : World -> Prop} (c : Value)
 (h : ∀ W,aH w0 W -> ∀ K : Value -> Prop,K c -> if Region.wanted o (yielded ops a.tmps) then gN P (aH W) K ((execOp a.eval o).run P W) else K undef)
 (h2 : nN P ops w0 Q ss rest (a.put o.dst c) C) : nN P ops w0 Q (Spec.fix c :: ss) (o :: rest) a C:=by
 have hC : (λW=>C W /\ (Spec.fix c).vX c W) = C:=by funext W;exact propext ⟨λh=>h.1,λh=>⟨h,trivial⟩⟩
 refine ⟨?_,λv hv=>?_⟩
 ·unfold kH
  split
  ·rename_i hw
   intro W hW
   have:=h W hW (· = c) rfl
   simp only [hw,if_true] at this
   generalize (execOp a.eval o).run P W = r at *
   cases r with
   | ok n w' =>
     cases n <;> simp only [gN] at this <;> simp only [tF]
     case value u=>exact ⟨this.1,this.2,trivial⟩
     case skip=>exact ⟨this.1,this.2,trivial⟩
     case enter f args =>
      obtain ⟨h1,u,hc,hu⟩:=this
      exact hc.mono λe w'' hh=>⟨u,hh.1,hh.2,hu,trivial⟩
   | halt x w'=>simp only [gN] at this
  ·rename_i hw
   have:=h w0 aiU (λu=>u = c) rfl
   rw [if_neg (by simpa using hw)] at this
   exact ⟨this,λ_ _=>trivial⟩
 ·have hv' : v = c:=hv
  subst hv'
  rw [hC]
  exact h2
theorem tY {P : Program} {ops : Array Oper} {w0 : World} {Q : Act -> (World -> Prop) -> Prop} {a : Act} {o : Oper} {rest : List Oper} {s : Spec} {ss : List Spec} {C : World -> Prop}
 (hw : Region.wanted o (yielded ops a.tmps) = true)
 (h : ∀ W,aH w0 W -> tF P W s ((execOp a.eval o).run P W))
 (h2 : ∀ v,s.Aa v -> nN P ops w0 Q ss rest (a.put o.dst v) (λW=>C W /\ s.vX v W)) : nN P ops w0 Q (s :: ss) (o :: rest) a C:=by
 refine ⟨?_,h2⟩
 unfold kH
 rw [if_pos hw]
 exact h
attribute [go_sem] tF
end Go.Proofs.YtklkooeimkedgaaGreat
namespace Go.Proofs.YtklkooeimkedgaaGreat
open Go.RowKit
section
variable {P : Program} {ops : Array Oper} {I : Bool -> World -> Prop} {one : Nat}
def yY (P : Program) (I : World -> Prop) (K : Value -> Prop) : Result Next -> Prop
 | .ok (.value v) w'=>I w' /\ K v
 | .ok .skip w'=>I w' /\ K undef
 | .ok (.enter f args) w'=>∃ v,Calls P f args w' (λe w''=>e = .returned v /\ I w'') /\ K v
 | _=>False
attribute [go_sem] yY
def kX (P : Program) (ops : Array Oper) (I : Bool -> World -> Prop) (one i : Nat) (o : Oper) (v : Value) (a : Act) : Prop :=
 if i = one then Region.wanted o (yielded ops a.tmps) = true /\ ∀ W,I false W -> yY P (I true) (· = v) ((execOp a.eval o).run P W)
 else if Region.wanted o (yielded ops a.tmps) then ∀ b W,I b W -> gN P (I b) (· = v) ((execOp a.eval o).run P W) else v = undef
theorem kX.of_same {i : Nat} {o : Oper} {v : Value} {a a' : Act} (hy : kX P ops I one i o v a) (he : execOp a'.eval o = execOp a.eval o)
 (hw : Region.wanted o (yielded ops a'.tmps) = Region.wanted o (yielded ops a.tmps)) : kX P ops I one i o v a':=by
 unfold kX at *
 rw [he,hw]
 exact hy
def A8 (P : Program) (ops : Array Oper) (I : Bool -> World -> Prop) (one i : Nat) (K : Act -> Prop) (a : Act) : Prop :=
 match ops[i]? with
 | none=>K a
 | some o=>∃ v,kX P ops I one i o v a /\ K (a.put o.dst v)
theorem Un {i : Nat} {a : Act} {K K' : Act -> Prop} (h : ∀ a,K a -> K' a) (hh : A8 P ops I one i K a) : A8 P ops I one i K' a:=by
 unfold A8 at *
 split
 ·exact h _ (by simpa [*] using hh)
 ·rename_i o ho
  simp only [ho] at hh
  obtain ⟨v,h1,h2⟩:=hh
  exact ⟨v,h1,h _ h2⟩
theorem Li {Q : Exit -> Act -> World -> Prop} {i : Nat} {a : Act} {K : Act -> Prop} {K' : Act -> World -> Prop} {W : World} {b : Bool} (hin : i < ops.size) (hW : I b W) (hb : i = one -> b = false) (h : ∀ a W,I (b || i == one) W -> K a -> K' a W) (hh : A8 P ops I one i K a) : wpOp P ops Q i K' a W:=by
 unfold A8 at hh
 unfold wpOp
 have hsome : ops[i]? = some ops[i]:=Array.getElem?_eq_getElem hin
 split
 ·rename_i ho;rw [hsome] at ho;cases ho
 ·rename_i o ho
  simp only [ho] at hh
  obtain ⟨v,hy,hk⟩:=hh
  unfold kX at hy
  by_cases lF : i = one
  ·rw [if_pos lF] at hy
   have hbf:=hb lF
   subst hbf
   rw [show (false || i == one) = true by simpa using lF] at h
   rw [if_pos hy.1]
   refine .inl ?_
   have hr:=hy.2 W hW
   unfold Oper.wp
   generalize (execOp a.eval o).run P W = r at *
   cases r with
   | ok n w' =>
     cases n <;> simp only [yY] at hr <;> simp only [Oper.upon]
     case value u=>obtain ⟨h1,rfl⟩:=hr;exact h _ _ h1 hk
     case skip=>obtain ⟨h1,rfl⟩:=hr;exact h _ _ h1 hk
     case enter f args =>
      obtain ⟨u,hc,rfl⟩:=hr
      exact hc.mono λe w'' ⟨he,hw2⟩=>by subst he;exact h _ _ hw2 hk
   | halt x w'=>simp only [yY] at hr
  ·rw [if_neg lF] at hy
   rw [show (b || i == one) = b by simp [lF]] at h
   split
   ·rename_i hw
    simp only [hw,if_true] at hy
    refine .inl ?_
    have hr:=hy b W hW
    unfold Oper.wp
    generalize (execOp a.eval o).run P W = r at *
    cases r with
    | ok n w' =>
      cases n <;> simp only [gN] at hr <;> simp only [Oper.upon]
      case value u=>obtain ⟨h1,rfl⟩:=hr;exact h _ _ h1 hk
      case skip=>obtain ⟨h1,rfl⟩:=hr;exact h _ _ h1 hk
      case enter f args =>
       obtain ⟨h1,u,hc,rfl⟩:=hr
       exact hc.mono λe w'' ⟨he,hw2⟩=>by subst he;exact h _ _ hw2 hk
    | halt x w'=>simp only [gN] at hr
   ·rename_i hw
    simp only [hw] at hy
    subst hy
    exact h _ _ hW hk
theorem Uo {i j : Nat} {oi oj : Oper} (hi : ops[i]? = some oi) (hj : ops[j]? = some oj) (hap : oi.apart ops oj = true)
 (hsi : ∀ cs b,oi.op ≠ .select cs b) (hsj : ∀ cs b,oj.op ≠ .select cs b) {K : Act -> Prop} {a : Act} {v : Value}
 (hy : kX P ops I one i oi v a) (h : A8 P ops I one j K (a.put oi.dst v)) : A8 P ops I one j (λa'=>kX P ops I one i oi v a' /\ K (a'.put oi.dst v)) a:=by
 obtain ⟨h1,h2,h3⟩:=Oper.apart_spec hap
 unfold A8 at *
 simp only [hj] at *
 obtain ⟨u,k1,k2⟩:=h
 refine ⟨u,k1.of_same (execOp_put oj hsj a oi.dst v h1).symm (wanted_put oj a oi.dst v h1).symm,hy.of_same (execOp_put oi hsi a oj.dst u h3) (wanted_put oi a oj.dst u h3),?_⟩
 rw [← Act.put_comm a v u h2];exact k2
def A9 (P : Program) (md : Region.Mode) (ops : Array Oper) (I : Bool -> World -> Prop) (one n : Nat) (L : Array Bool -> Act -> Prop) : Nat -> Array Bool -> Act -> Prop
 | 0,listed,a=>L listed a
 | f + 1,listed,a =>
   Region.ready md ops listed ≠ [] /\ ∀ i ∈ Region.ready md ops listed,i < n /\ A8 P ops I one i (A9 P md ops I one n L f (listed.setIfInBounds i true)) a
theorem yZ {md : Region.Mode} {n g : Nat} {L : Array Bool -> Act -> Prop} {Q' : Exit -> Act -> World -> Prop} (hn : n <= ops.size) (hone : one < n) (hL : ∀ listed a,L listed a -> ∀ W,I (listed.getD one true) W -> wpAny P md ops Q' g listed a W) :
 ∀ (f : Nat) (listed : Array Bool) (a : Act),HeadInv md ops n listed -> A9 P md ops I one n L f listed a -> ∀ W,I (listed.getD one true) W -> wpAny P md ops Q' (f + g) listed a W
 | 0,listed,a,inv,h,W,hW=>by rw [Nat.zero_add];exact hL _ _ h W hW
 | f + 1,listed,a,inv,h,W,hW=>by
   rw [show f + 1 + g = (f + g) + 1 by omega]
   refine ⟨λh0=>absurd h0 h.1,λi hi=>?_⟩
   have hin:=(h.2 i hi).1;have hun:=(mem_ready.1 hi).1
   refine Li (b:=listed.getD one true) (Nat.lt_of_lt_of_le hin hn) hW (λe=>by subst e;exact hun) (λa' W' hW' h'=>?_) (h.2 i hi).2
   refine yZ hn hone hL f _ a' (inv.set hi hin) h' W' ?_
   have e : (listed.setIfInBounds i true).getD one true = (listed.getD one true || i == one):=by
    by_cases lF : i = one
    ·subst lF
     have : (i == i) = true:=by simp
     rw [this,Bool.or_true]
     unfold Array.getD
     split
     ·simp
     ·rfl
    ·have : (i == one) = false:=by simpa using lF
     rw [this,Bool.or_false,getD_set_ne true lF]
   rw [e];exact hW'
theorem JL {md : Region.Mode} {n i : Nat} {oi : Oper} {v : Value} {L : Array Bool -> Act -> Prop} (hi : ops[i]? = some oi) (hsel : ∀ (j : Nat) (o : Oper) cs b,ops[j]? = some o -> o.op ≠ .select cs b)
 (hs : Region.sinkB md ops n = true) (hc : Region.chainB md ops n = true) (hn : n < ops.size) (hin : i < n)
 (hdone : ∀ listed a,L listed a -> ∀ j ∈ Region.ready md ops listed,n <= j) :
 ∀ (f : Nat) (listed : Array Bool) (a : Act),HeadInv md ops n listed ->
  (∀ j oj,ops[j]? = some oj -> j ≠ i -> listed.getD j true = false -> (∀ e ∈ oj.after,Region.binds md e = true -> e.on ≠ i) -> oi.apart ops oj = true) ->
  i ∈ Region.ready md ops listed -> kX P ops I one i oi v a ->
  A9 P md ops I one n L f (listed.setIfInBounds i true) (a.put oi.dst v) -> A9 P md ops I one n L (f + 1) listed a:=by
 intro f
 induction f with
 | zero =>
   intro listed a inv _ hr hy H
   have hun:=(mem_ready.1 hr).1
   refine ⟨λh=>(by rw [h] at hr;cases hr),λj hj=>?_⟩
   have hjn : j < n:=by
    rcases Nat.lt_or_ge j n with h | h
    ·exact h
    ·exact absurd hj (tail_waits hs hc hn inv _ i rfl hin hun j h)
   refine ⟨hjn,?_⟩
   by_cases hji : j = i
   ·subst hji;unfold A8;simp only [hi];exact ⟨v,hy,H⟩
   ·have:=hdone _ _ H j (ready_mono hj hji)
    omega
 | succ f ih =>
   intro listed a inv hfree hr hy H
   have hun:=(mem_ready.1 hr).1
   refine ⟨λh=>(by rw [h] at hr;cases hr),λj hj=>?_⟩
   have hjn : j < n:=by
    rcases Nat.lt_or_ge j n with h | h
    ·exact h
    ·exact absurd hj (tail_waits hs hc hn inv _ i rfl hin hun j h)
   refine ⟨hjn,?_⟩
   by_cases hji : j = i
   ·subst hji;unfold A8;simp only [hi];exact ⟨v,hy,H⟩
   ·have h1:=(H.2 j (ready_mono hj hji)).2
    obtain ⟨hjun,oj,hoj,hall⟩:=mem_ready.1 hj
    have hnot : ∀ e ∈ oj.after,Region.binds md e = true -> e.on ≠ i:=λe he hb heq=>by
     have h1:=hall e he hb
     rw [heq,getD_both hun] at h1
     cases h1
    have h2:=Uo hi hoj (hfree j oj hoj hji hjun hnot) (λcs b=>hsel i oi cs b hi) (λcs b=>hsel j oj cs b hoj) hy h1
    have hfree' : ∀ k ok,ops[k]? = some ok -> k ≠ i -> (listed.setIfInBounds j true).getD k true = false ->
     (∀ e ∈ ok.after,Region.binds md e = true -> e.on ≠ i) -> oi.apart ops ok = true:=λk ok hk hki hun hno=>by
     refine hfree k ok hk hki ?_ hno
     by_cases hjk : j = k
     ·subst hjk;exact hjun
     ·rw [getD_set_ne true hjk] at hun;exact hun
    refine Un (λa' h3=>ih (listed.setIfInBounds j true) a' (inv.set hj hjn) hfree' (ready_mono hr (Ne.symm hji)) h3.1 ?_) h2
    rw [Array.setIfInBounds_comm _ _ hji]
    exact h3.2
def uF (P : Program) (ops : Array Oper) (I : Bool -> World -> Prop) (one : Nat) (Q : Act -> Prop) : Nat -> List Oper -> Act -> Prop
 | _,[],a=>Q a
 | k,o :: rest,a=>∃ v,kX P ops I one k o v a /\ uF P ops I one Q (k + 1) rest (a.put o.dst v)
theorem EN {md : Region.Mode} {n g : Nat} {Lq : Act -> Prop} (hsel : Region.noSelect ops = true) (hs : Region.sinkB md ops n = true) (hc : Region.chainB md ops n = true) (hn : n < ops.size) (hone : one < n) :
 ∀ (l : List Oper) (k : Nat) (listed : Array Bool) (a : Act),(∀ j,j < l.length -> l[j]? = ops[k + j]?) -> k + l.length = n -> HeadInv md ops n listed -> (one < k -> listed.getD one true = true) ->
 Region.lexHead md ops g l.length k listed = true -> uF P ops I one Lq k l a ->
 A9 P md ops I one n (λlisted' a'=>(Region.seqB md ops g n listed' = true /\ listed'.getD one true = true) /\ Lq a') l.length listed a
 | [],k,listed,a,_,hk,_,ho,hB,h=>by
   have : k = n:=by simpa using hk
   subst this
   exact ⟨⟨by simpa [Region.lexHead] using hB,ho hone⟩,h⟩
 | o :: l,k,listed,a,hl,hk,inv,ho,hB,h=>by
   have h0 : ops[k]? = some o:=by simpa using (hl 0 (by simp)).symm
   simp only [List.length_cons,Region.lexHead,Bool.and_eq_true] at hB
   obtain ⟨⟨hr,hf⟩,hB'⟩:=hB
   have hkn : k < n:=by simp only [List.length_cons] at hk;omega
   have hr' : k ∈ Region.ready md ops listed:=by simpa using hr
   obtain ⟨v,hy,hK⟩:=h
   exact JL h0 (Region.noSelect_spec hsel) hs hc hn hkn (λlisted' a' hL=>seqB_ready hL.1.1) l.length listed a inv (Region.free_spec h0 hf) hr' hy
    (EN hsel hs hc hn hone l (k + 1) _ _ (λj hj=>by have:=hl (j + 1) (by simp;omega);simpa [Nat.add_assoc,Nat.add_comm 1 j] using this) (by simp only [List.length_cons] at hk;omega) (inv.set hr' hkn)
      (λhlt=>by
        by_cases hko : k = one
        ·subst hko
         unfold Array.getD
         split
         ·simp
         ·rfl
        ·rw [getD_set_ne true hko];exact ho (by omega)) hB' hK)
theorem F8 {id : Nat} {Q : Exit -> Act -> World -> Prop} {a : Act} {w : World} {l : List Oper} (n one : Nat) (I : Bool -> World -> Prop) (hm : P.follows .mixedOrders = true) (hB : Region.lexTailB .any l.toArray n = true) (hone : one < n) (hI : I false w.drew)
 (h : uF P l.toArray I one (λa'=>∀ W,I true W -> wpList P l.toArray Q (l.drop n) a' W) 0 (l.take n) a) : (Code.region id l.toArray true).wp P Q a w:=by
 simp only [Region.lexTailB,Bool.and_eq_true,decide_eq_true_eq] at hB
 obtain ⟨⟨⟨⟨hsel,hn⟩,hs⟩,hc⟩,hlex⟩:=hB
 have hn' : n < l.length:=by simpa using hn
 have htl : (l.take n).length = n:=by simp;omega
 have hdl : (l.drop n).length = l.toArray.size - n:=by simp
 have inv0 : HeadInv .any l.toArray n (Array.replicate l.toArray.size false) :=
  ⟨by simp,λj oj _ hl=>(by rw [getD_replicate_false] at hl;cases hl),λt _ ht=>getD_in (by simpa using ht) (getD_replicate_false _ _)⟩
 have H:=EN (md:=.any) (g:=l.toArray.size - n) hsel hs hc hn hone (l.take n) 0 _ a (λj hj=>by
  have hj' : j < n:=by rw [htl] at hj;exact hj
  simp [hj']) (by simpa using htl) inv0 (λh=>by omega) (by rw [htl];exact hlex) h
 refine wp_region_any hm ?_
 have:=yZ (Q':=Q) (g:=l.toArray.size - n) (Nat.le_of_lt hn) hone (λlisted a' hL W hW=>by
  rw [hL.1.2] at hW
  have:=wpAny_of_seq (md:=.any) (Q':=Q) (l.drop n) n listed a' W (λj=>by simp [List.getElem?_drop]) (by rw [hdl];exact hL.1.1) (hL.2 W hW)
  rwa [hdl] at this) _ _ _ inv0 H w.drew (by
   have e : (Array.replicate l.toArray.size false).getD one true = false:=getD_in (by simp;omega) (getD_replicate_false _ _)
   rw [e];exact hI)
 rw [htl,show n + (l.toArray.size - n) = l.toArray.size by omega] at this
 exact this
end
theorem NT {P : Program} {ops : Array Oper} {I : Bool -> World -> Prop} {one k : Nat} {Q : Act -> Prop} {a : Act} (h : Q a) : uF P ops I one Q k [] a:=h
theorem Dt {P : Program} {ops : Array Oper} {I : Bool -> World -> Prop} {one k : Nat} {Q : Act -> Prop} {a : Act} {o : Oper} {rest : List Oper} (v : Value) (hk : (k == one) = false)
 (h : ∀ b W,I b W -> ∀ K : Value -> Prop,K v -> if Region.wanted o (yielded ops a.tmps) then gN P (I b) K ((execOp a.eval o).run P W) else K undef)
 (hI : ∃ W,I false W) (h2 : uF P ops I one Q (k + 1) rest (a.put o.dst v)) : uF P ops I one Q k (o :: rest) a:=by
 refine ⟨v,?_,h2⟩
 unfold kX
 rw [if_neg (by simpa using hk)]
 split
 ·rename_i hw
  intro b W hW
  have:=h b W hW (· = v) rfl
  simpa only [hw,if_true] using this
 ·rename_i hw
  obtain ⟨W,hW⟩:=hI
  have:=h false W hW (λu=>v = u) rfl
  rwa [if_neg (by simpa using hw)] at this
theorem NU {P : Program} {ops : Array Oper} {I : Bool -> World -> Prop} {one : Nat} {Q : Act -> Prop} {a : Act} {o : Oper} {rest : List Oper} (v : Value)
 (hw : Region.wanted o (yielded ops a.tmps) = true)
 (h : ∀ W,I false W -> ∀ K : Value -> Prop,K v -> yY P (I true) K ((execOp a.eval o).run P W))
 (h2 : uF P ops I one Q (one + 1) rest (a.put o.dst v)) : uF P ops I one Q one (o :: rest) a:=by
 refine ⟨v,?_,h2⟩
 unfold kX
 rw [if_pos rfl]
 exact ⟨hw,λW hW=>h W hW _ rfl⟩
end Go.Proofs.YtklkooeimkedgaaGreat
namespace Go.Proofs.YtklkooeimkedgaaGreat
open Go.RowKit
section
variable {P : Program} {ops : Array Oper} {w0 : World} {sp : Nat -> Spec}
theorem IG {md : Region.Mode} {n i : Nat} {oi : Oper} {L : Array Bool -> Act -> (World -> Prop) -> Prop} (hi : ops[i]? = some oi) (hsel : ∀ (j : Nat) (o : Oper) cs b,ops[j]? = some o -> o.op ≠ .select cs b)
 (hn : n = ops.size) (hin : i < n)
 (hdone : ∀ listed a C,L listed a C -> ∀ j ∈ Region.ready md ops listed,n <= j) :
 ∀ (f : Nat) (listed : Array Bool) (a : Act) (C : World -> Prop),HeadInv md ops n listed ->
  (∀ j oj,ops[j]? = some oj -> j ≠ i -> listed.getD j true = false -> (∀ e ∈ oj.after,Region.binds md e = true -> e.on ≠ i) -> oi.apart ops oj = true) ->
  i ∈ Region.ready md ops listed -> kH P ops w0 oi (sp i) a ->
  (∀ v,(sp i).Aa v -> wpAnyL P md ops w0 sp n L f (listed.setIfInBounds i true) (a.put oi.dst v) (λW=>C W /\ (sp i).vX v W)) -> wpAnyL P md ops w0 sp n L (f + 1) listed a C:=by
 intro f
 induction f with
 | zero =>
   intro listed a C inv _ hr hy H
   have hun:=(mem_ready.1 hr).1
   obtain ⟨v0,hv0⟩:=(sp i).ne
   refine ⟨λh=>(by rw [h] at hr;cases hr),λj hj=>?_⟩
   have hjn : j < n:=by
    obtain ⟨_,oj,hoj,_⟩:=mem_ready.1 hj
    rw [hn];exact (Array.getElem?_eq_some_iff.1 hoj).1
   refine ⟨hjn,?_⟩
   by_cases hji : j = i
   ·subst hji;unfold yV;simp only [hi];exact ⟨hy,H⟩
   ·have:=hdone _ _ _ (H v0 hv0) j (ready_mono hj hji)
    omega
 | succ f ih =>
   intro listed a C inv hfree hr hy H
   have hun:=(mem_ready.1 hr).1
   obtain ⟨v0,hv0⟩:=(sp i).ne
   refine ⟨λh=>(by rw [h] at hr;cases hr),λj hj=>?_⟩
   have hjn : j < n:=by
    obtain ⟨_,oj,hoj,_⟩:=mem_ready.1 hj
    rw [hn];exact (Array.getElem?_eq_some_iff.1 hoj).1
   refine ⟨hjn,?_⟩
   by_cases hji : j = i
   ·subst hji;unfold yV;simp only [hi];exact ⟨hy,H⟩
   ·have h1:=λv hv=>((H v hv).2 j (ready_mono hj hji)).2
    obtain ⟨hjun,oj,hoj,hall⟩:=mem_ready.1 hj
    have hnot : ∀ e ∈ oj.after,Region.binds md e = true -> e.on ≠ i:=λe he hb heq=>by
     have h1:=hall e he hb
     rw [heq,getD_both hun] at h1
     cases h1
    have h2:=JK hi hoj (hfree j oj hoj hji hjun hnot) (λcs b=>hsel i oi cs b hi) (λcs b=>hsel j oj cs b hoj) hy h1
    have hfree' : ∀ k ok,ops[k]? = some ok -> k ≠ i -> (listed.setIfInBounds j true).getD k true = false ->
     (∀ e ∈ ok.after,Region.binds md e = true -> e.on ≠ i) -> oi.apart ops ok = true:=λk ok hk hki hun hno=>by
     refine hfree k ok hk hki ?_ hno
     by_cases hjk : j = k
     ·subst hjk;exact hjun
     ·rw [getD_set_ne true hjk] at hun;exact hun
    refine JJ (λa' C' h3=>ih (listed.setIfInBounds j true) a' C' (inv.set hj hjn) hfree' (ready_mono hr (Ne.symm hji)) h3.1 ?_) h2
    rw [Array.setIfInBounds_comm _ _ hji]
    exact h3.2
theorem Dv {md : Region.Mode} {n g : Nat} {Lq : Act -> (World -> Prop) -> Prop} (hsel : Region.noSelect ops = true) (hn : n = ops.size) :
 ∀ (l : List Oper) (ss : List Spec) (k : Nat) (listed : Array Bool) (a : Act) (C : World -> Prop),(∀ j,j < l.length -> l[j]? = ops[k + j]?) -> (∀ (j : Nat) s,ss[j]? = some s -> sp (k + j) = s) -> k + l.length = n -> HeadInv md ops n listed ->
 Region.lexHead md ops g l.length k listed = true -> nN P ops w0 Lq ss l a C ->
 wpAnyL P md ops w0 sp n (λlisted' a' C'=>Region.seqB md ops g n listed' = true /\ Lq a' C') l.length listed a C
 | [],ss,k,listed,a,C,_,_,hk,_,hB,h=>by
   have : k = n:=by simpa using hk
   subst this
   refine ⟨by simpa [Region.lexHead] using hB,?_⟩
   cases ss <;> exact h
 | o :: l,[],k,listed,a,C,_,_,hk,inv,hB,h=>h.elim
 | o :: l,s :: ss,k,listed,a,C,hl,hsp,hk,inv,hB,h=>by
   have h0 : ops[k]? = some o:=by simpa using (hl 0 (by simp)).symm
   have hs0 : sp k = s:=by simpa using hsp 0 s (by simp)
   simp only [List.length_cons,Region.lexHead,Bool.and_eq_true] at hB
   obtain ⟨⟨hr,hf⟩,hB'⟩:=hB
   have hkn : k < n:=by simp only [List.length_cons] at hk;omega
   have hr' : k ∈ Region.ready md ops listed:=by simpa using hr
   obtain ⟨hy,hK⟩:=h
   refine IG h0 (Region.noSelect_spec hsel) hn hkn (λlisted' a' C' hL=>seqB_ready hL.1) l.length listed a C inv (Region.free_spec h0 hf) hr' (by rw [hs0];exact hy) (λv hv=>?_)
   rw [hs0] at hv ⊢
   exact Dv hsel hn l ss (k + 1) _ _ _ (λj hj=>by have:=hl (j + 1) (by simp;omega);simpa [Nat.add_assoc,Nat.add_comm 1 j] using this)
    (λj s' hj=>by have:=hsp (j + 1) s' (by simpa using hj);rw [← this];congr 1;omega) (by simp only [List.length_cons] at hk;omega) (inv.set hr' hkn) hB' (hK v hv)
def CJ (ops : Array Oper) : Bool:=Region.noSelect ops && Region.lexHead .any ops 0 ops.size 0 (Array.replicate ops.size false)
theorem wu {id : Nat} {Q : Exit -> Act -> World -> Prop} {a : Act} {w : World} {l : List Oper} (ss : List Spec) (hm : P.follows .mixedOrders = true) (hB : CJ l.toArray = true)
 (h : nN P l.toArray w (λa' C=>∀ W,aH w W -> C W -> Q .normal a' W) ss l a (λ_=>True)) : (Code.region id l.toArray true).wp P Q a w:=by
 simp only [CJ,Bool.and_eq_true] at hB
 obtain ⟨hsel,hlex⟩:=hB
 have htl : l.length = l.toArray.size:=by simp
 have inv0 : HeadInv .any l.toArray l.toArray.size (Array.replicate l.toArray.size false) :=
  ⟨by simp,λj oj _ hl=>(by rw [getD_replicate_false] at hl;cases hl),λt _ ht=>getD_in (by simpa using ht) (getD_replicate_false _ _)⟩
 have H:=Dv (sp:=λi=>ss.getD i (Spec.fix undef)) (md:=.any) (g:=0) hsel rfl l ss 0 _ a (λ_=>True) (λj hj=>by simp) (λj s hj=>by simp [List.getD,hj]) (by simp) inv0 (by rw [htl];exact hlex) h
 refine wp_region_any hm ?_
 have hI : aH w w.drew:=below_drewN aiU 1
 have:=tH (Q':=Q) (g:=0) (λlisted a' C hL W hW hC=>by
  have:=wpAny_of_seq (P:=P) (md:=.any) (Q':=Q) [] l.toArray.size listed a' W (λj=>by simp) hL.1 (hL.2 W hW hC)
  exact this) _ _ _ _ H w.drew hI trivial (λ_ _ _ _=>trivial)
 rw [htl,Nat.add_zero] at this
 exact this
end
end Go.Proofs.YtklkooeimkedgaaGreat
namespace Go.Proofs.YtklkooeimkedgaaGreat
open Go.RowKit
section
variable {P : Program} {ops : Array Oper} {I : Option Value -> World -> Prop} {one : Nat} {sp : Nat -> Value -> Prop}
def jN (P : Program) (s : Value -> Prop) (I : Value -> World -> Prop) : Result Next -> Prop
 | .ok (.value v) w'=>s v /\ I v w'
 | .ok .skip w'=>s undef /\ I undef w'
 | .ok (.enter f args) w'=>Calls P f args w' λe w''=>∃ v,e = .returned v /\ s v /\ I v w''
 | .ok (.row row args) w'=>Rows P row args w' λv w''=>s v /\ I v w''
 | _=>False
attribute [go_sem] jN
end
end Go.Proofs.YtklkooeimkedgaaGreat
namespace Go.Proofs.YtklkooeimkedgaaGreat
open Go.RowKit
section
variable {P : Program} {ops : Array Oper} {I : List Value -> World -> Prop} {one : List Nat} {sp : Nat -> Value -> Prop}
def jv (P : Program) (ops : Array Oper) (I : List Value -> World -> Prop) (one : List Nat) (i : Nat) (o : Oper) (s : Value -> Prop) (a : Act) (b : List Value) : Prop :=
 (∃ v,s v) /\ if i ∈ one then Region.wanted o (yielded ops a.tmps) = true /\ ∀ W,I b W -> jN P s (λv=>I (b ++ [v])) ((execOp a.eval o).run P W)
 else if Region.wanted o (yielded ops a.tmps) then ∀ b W,I b W -> jN P s (λ_=>I b) ((execOp a.eval o).run P W) else s undef
theorem jv.of_same {i : Nat} {o : Oper} {s : Value -> Prop} {a a' : Act} {b : List Value} (hy : jv P ops I one i o s a b) (he : execOp a'.eval o = execOp a.eval o)
 (hw : Region.wanted o (yielded ops a'.tmps) = Region.wanted o (yielded ops a.tmps)) : jv P ops I one i o s a' b:=by
 unfold jv at *
 rw [he,hw]
 exact hy
def gI (one : List Nat) (i : Nat) (v : Value) (b : List Value) : List Value:=if i ∈ one then b ++ [v] else b
theorem Ll {i j : Nat} (h : ¬ (i ∈ one /\ j ∈ one)) (u v : Value) (b : List Value) : gI one j u (gI one i v b) = gI one i v (gI one j u b):=by
 unfold gI
 by_cases h1 : i ∈ one
 ·by_cases h2 : j ∈ one
  ·exact absurd ⟨h1,h2⟩ h
  ·simp [h1,h2]
 ·simp [h1]
def qV (P : Program) (ops : Array Oper) (I : List Value -> World -> Prop) (one : List Nat) (sp : Nat -> Value -> Prop) (i : Nat) (K : Act -> List Value -> Prop) (a : Act) (b : List Value) : Prop :=
 match ops[i]? with
 | none=>K a b
 | some o=>jv P ops I one i o (sp i) a b /\ ∀ v,sp i v -> K (a.put o.dst v) (gI one i v b)
theorem Bf {i : Nat} {a : Act} {b : List Value} {K K' : Act -> List Value -> Prop} (h : ∀ a b,K a b -> K' a b) (hh : qV P ops I one sp i K a b) : qV P ops I one sp i K' a b:=by
 unfold qV at *
 split
 ·exact h _ _ (by simpa [*] using hh)
 ·rename_i o ho
  simp only [ho] at hh
  exact ⟨hh.1,λv hv=>h _ _ (hh.2 v hv)⟩
theorem JO {Q : Exit -> Act -> World -> Prop} {i : Nat} {a : Act} {b : List Value} {K : Act -> List Value -> Prop} {K' : Act -> World -> Prop} {W : World} (hin : i < ops.size) (hW : I b W)
 (h : ∀ a v W,I (gI one i v b) W -> K a (gI one i v b) -> K' a W) (hh : qV P ops I one sp i K a b) : wpOp P ops Q i K' a W:=by
 unfold qV at hh
 unfold wpOp
 have hsome : ops[i]? = some ops[i]:=Array.getElem?_eq_getElem hin
 split
 ·rename_i ho;rw [hsome] at ho;cases ho
 ·rename_i o ho
  simp only [ho] at hh
  obtain ⟨hy,hk⟩:=hh
  obtain ⟨_,hy⟩:=hy
  by_cases lF : i ∈ one
  ·rw [if_pos lF] at hy
   rw [if_pos hy.1]
   refine .inl ?_
   have hr:=hy.2 W hW
   have hp : ∀ v,gI one i v b = b ++ [v]:=λv=>by unfold gI;rw [if_pos lF]
   unfold Oper.wp
   generalize (execOp a.eval o).run P W = r at *
   cases r with
   | ok n w' =>
     cases n <;> simp only [jN] at hr <;> simp only [Oper.upon]
     case value u=>exact h _ u _ (by rw [hp];exact hr.2) (hk u hr.1)
     case row row args=>exact hr.mono (λu w'' hh=>h _ u _ (by rw [hp];exact hh.2) (hk u hh.1))
     case skip=>exact h _ undef _ (by rw [hp];exact hr.2) (hk undef hr.1)
     case enter f args =>
      refine hr.mono λe w'' hh=>?_
      obtain ⟨u,he,h2,h3⟩:=hh
      subst he
      exact h _ u _ (by rw [hp];exact h3) (hk u h2)
   | halt x w'=>simp only [jN] at hr
  ·rw [if_neg lF] at hy
   have hp : ∀ v,gI one i v b = b:=λv=>by unfold gI;rw [if_neg lF]
   split
   ·rename_i hw
    simp only [hw,if_true] at hy
    refine .inl ?_
    have hr:=hy b W hW
    unfold Oper.wp
    generalize (execOp a.eval o).run P W = r at *
    cases r with
    | ok n w' =>
      cases n <;> simp only [jN] at hr <;> simp only [Oper.upon]
      case value u=>exact h _ u _ (by rw [hp];exact hr.2) (hk u hr.1)
      case row row args=>exact hr.mono (λu w'' hh=>h _ u _ (by rw [hp];exact hh.2) (hk u hh.1))
      case skip=>exact h _ undef _ (by rw [hp];exact hr.2) (hk undef hr.1)
      case enter f args =>
       refine hr.mono λe w'' hh=>?_
       obtain ⟨u,he,h2,h3⟩:=hh
       subst he
       exact h _ u _ (by rw [hp];exact h3) (hk u h2)
    | halt x w'=>simp only [jN] at hr
   ·rename_i hw
    simp only [hw] at hy
    exact h _ undef _ (by rw [hp];exact hW) (hk undef hy)
theorem Bg {i j : Nat} {oi oj : Oper} (hi : ops[i]? = some oi) (hj : ops[j]? = some oj) (hij : ¬ (i ∈ one /\ j ∈ one)) (hap : oi.apart ops oj = true)
 (hsi : ∀ cs b,oi.op ≠ .select cs b) (hsj : ∀ cs b,oj.op ≠ .select cs b) {K : Act -> List Value -> Prop} {a : Act} {b : List Value}
 (hy : jv P ops I one i oi (sp i) a b) (h : ∀ v,sp i v -> qV P ops I one sp j K (a.put oi.dst v) (gI one i v b)) :
 qV P ops I one sp j (λa' b'=>jv P ops I one i oi (sp i) a' b' /\ ∀ v,sp i v -> K (a'.put oi.dst v) (gI one i v b')) a b:=by
 obtain ⟨h1,h2,h3⟩:=Oper.apart_spec hap
 unfold qV at *
 simp only [hj] at *
 obtain ⟨v0,hv0⟩:=hy.1
 refine ⟨?_,λu hu=>⟨?_,λv hv=>?_⟩⟩
 ·-- j,ahead of i
  have hh:=((h v0 hv0).1).of_same (execOp_put oj hsj a oi.dst v0 h1).symm (wanted_put oj a oi.dst v0 h1).symm
  by_cases hjo : j ∈ one
  ·have lF : i ∉ one:=λh=>hij ⟨h,hjo⟩
   unfold gI at hh
   rwa [if_neg lF] at hh
  ·unfold jv at *
   rw [if_neg hjo] at *
   exact hh
 ·have hh:=hy.of_same (execOp_put oi hsi a oj.dst u h3) (wanted_put oi a oj.dst u h3)
  by_cases lF : i ∈ one
  ·have hjo : j ∉ one:=λh=>hij ⟨lF,h⟩
   unfold gI
   rwa [if_neg hjo]
  ·unfold jv at *
   rw [if_neg lF] at *
   exact hh
 ·rw [← Act.put_comm a v u h2,← Ll hij]
  exact (h v hv).2 u hu
def mM (P : Program) (md : Region.Mode) (ops : Array Oper) (I : List Value -> World -> Prop) (one : List Nat) (sp : Nat -> Value -> Prop) (n : Nat) (L : Array Bool -> Act -> List Value -> Prop) : Nat -> Array Bool -> Act -> List Value -> Prop
 | 0,listed,a,b=>L listed a b
 | f + 1,listed,a,b =>
   Region.ready md ops listed ≠ [] /\ ∀ i ∈ Region.ready md ops listed,i < n /\ qV P ops I one sp i (mM P md ops I one sp n L f (listed.setIfInBounds i true)) a b
theorem oq {md : Region.Mode} {n g : Nat} {L : Array Bool -> Act -> List Value -> Prop} {Q' : Exit -> Act -> World -> Prop} (hn : n <= ops.size) (hL : ∀ listed a b,L listed a b -> ∀ W,I b W -> wpAny P md ops Q' g listed a W) :
 ∀ (f : Nat) (listed : Array Bool) (a : Act) (b : List Value),mM P md ops I one sp n L f listed a b -> ∀ W,I b W -> wpAny P md ops Q' (f + g) listed a W
 | 0,listed,a,b,h,W,hW=>by rw [Nat.zero_add];exact hL _ _ _ h W hW
 | f + 1,listed,a,b,h,W,hW=>by
   rw [show f + 1 + g = (f + g) + 1 by omega]
   refine ⟨λh0=>absurd h0 h.1,λi hi=>?_⟩
   have hin:=(h.2 i hi).1
   exact JO (b:=b) (Nat.lt_of_lt_of_le hin hn) hW (λa' v' W' hW' h'=>oq hn hL f _ a' _ h' W' hW') (h.2 i hi).2
def mO (md : Region.Mode) (ops : Array Oper) (j i : Nat) : Bool:=((ops[j]?).map (·.after.any λe=>Region.binds md e && e.on == i)).getD false
def tZ (md : Region.Mode) (ops : Array Oper) (one : List Nat) : Bool:=one.all λi=>one.all λj=>i == j || mO md ops j i || mO md ops i j
theorem Bh {md : Region.Mode} (h : tZ md ops one = true) {i j : Nat} (hi : i ∈ one) (hj : j ∈ one) (hij : i ≠ j) : mO md ops j i = true \/ mO md ops i j = true:=by
 have h1:=List.all_eq_true.1 (List.all_eq_true.1 h i hi) j hj
 simp only [Bool.or_eq_true,beq_iff_eq,hij,false_or] at h1
 exact h1
theorem ny {md : Region.Mode} {i j : Nat} {o : Oper} (h : mO md ops j i = true) (hj : ops[j]? = some o) : ∃ e ∈ o.after,Region.binds md e = true /\ e.on = i:=by
 unfold mO at h
 simp only [hj,Option.map_some,Option.getD_some,Array.any_eq_true',Bool.and_eq_true,beq_iff_eq] at h
 obtain ⟨e,he,hb,ho⟩:=h
 exact ⟨e,he,hb,ho⟩
theorem II {md : Region.Mode} {n i : Nat} {oi : Oper} {L : Array Bool -> Act -> List Value -> Prop} (jX : tZ md ops one = true) (hi : ops[i]? = some oi) (hsel : ∀ (j : Nat) (o : Oper) cs b,ops[j]? = some o -> o.op ≠ .select cs b)
 (hs : Region.sinkB md ops n = true) (hc : Region.chainB md ops n = true) (hn : n < ops.size) (hin : i < n)
 (hdone : ∀ listed a b,L listed a b -> ∀ j ∈ Region.ready md ops listed,n <= j) :
 ∀ (f : Nat) (listed : Array Bool) (a : Act) (b : List Value),HeadInv md ops n listed ->
  (∀ j oj,ops[j]? = some oj -> j ≠ i -> listed.getD j true = false -> (∀ e ∈ oj.after,Region.binds md e = true -> e.on ≠ i) -> oi.apart ops oj = true) ->
  i ∈ Region.ready md ops listed -> jv P ops I one i oi (sp i) a b ->
  (∀ v,sp i v -> mM P md ops I one sp n L f (listed.setIfInBounds i true) (a.put oi.dst v) (gI one i v b)) -> mM P md ops I one sp n L (f + 1) listed a b:=by
 intro f
 induction f with
 | zero =>
   intro listed a b inv _ hr hy H
   have hun:=(mem_ready.1 hr).1
   obtain ⟨v0,hv0⟩:=hy.1
   refine ⟨λh=>(by rw [h] at hr;cases hr),λj hj=>?_⟩
   have hjn : j < n:=by
    rcases Nat.lt_or_ge j n with h | h
    ·exact h
    ·exact absurd hj (tail_waits hs hc hn inv _ i rfl hin hun j h)
   refine ⟨hjn,?_⟩
   by_cases hji : j = i
   ·subst hji;unfold qV;simp only [hi];exact ⟨hy,H⟩
   ·have:=hdone _ _ _ (H v0 hv0) j (ready_mono hj hji)
    omega
 | succ f ih =>
   intro listed a b inv hfree hr hy H
   have hun:=(mem_ready.1 hr).1
   obtain ⟨v0,hv0⟩:=hy.1
   refine ⟨λh=>(by rw [h] at hr;cases hr),λj hj=>?_⟩
   have hjn : j < n:=by
    rcases Nat.lt_or_ge j n with h | h
    ·exact h
    ·exact absurd hj (tail_waits hs hc hn inv _ i rfl hin hun j h)
   refine ⟨hjn,?_⟩
   by_cases hji : j = i
   ·subst hji;unfold qV;simp only [hi];exact ⟨hy,H⟩
   ·have h1:=λv hv=>((H v hv).2 j (ready_mono hj hji)).2
    obtain ⟨hjun,oj,hoj,hall⟩:=mem_ready.1 hj
    have hnot : ∀ e ∈ oj.after,Region.binds md e = true -> e.on ≠ i:=λe he hb heq=>by
     have h1:=hall e he hb
     rw [heq,getD_both hun] at h1
     cases h1
    have hboth : ¬ (i ∈ one /\ j ∈ one):=λ⟨hi1,hj1⟩=>by
     rcases Bh jX hi1 hj1 (Ne.symm hji) with hp | hp
     ·obtain ⟨e,he,hb,heq⟩:=ny hp hoj
      exact hnot e he hb heq
     ·obtain ⟨e,he,hb,heq⟩:=ny hp hi
      obtain ⟨_,oi',Bj,ER⟩:=mem_ready.1 hr
      rw [hi] at Bj
      cases Bj
      have h3:=ER e he hb
      rw [heq,getD_both hjun] at h3
      cases h3
    have h2:=Bg hi hoj hboth (hfree j oj hoj hji hjun hnot) (λcs b=>hsel i oi cs b hi) (λcs b=>hsel j oj cs b hoj) hy h1
    have hfree' : ∀ k ok,ops[k]? = some ok -> k ≠ i -> (listed.setIfInBounds j true).getD k true = false ->
     (∀ e ∈ ok.after,Region.binds md e = true -> e.on ≠ i) -> oi.apart ops ok = true:=λk ok hk hki hun hno=>by
     refine hfree k ok hk hki ?_ hno
     by_cases hjk : j = k
     ·subst hjk;exact hjun
     ·rw [getD_set_ne true hjk] at hun;exact hun
    refine Bf (λa' b' h3=>ih (listed.setIfInBounds j true) a' b' (inv.set hj hjn) hfree' (ready_mono hr (Ne.symm hji)) h3.1 ?_) h2
    rw [Array.setIfInBounds_comm _ _ hji]
    exact h3.2
def kY (P : Program) (ops : Array Oper) (I : List Value -> World -> Prop) (one : List Nat) (Q : Act -> List Value -> Prop) : Nat -> List (Value -> Prop) -> List Oper -> Act -> List Value -> Prop
 | _,_,[],a,b=>Q a b
 | _,[],_ :: _,_,_=>False
 | k,s :: sp,o :: rest,a,b=>jv P ops I one k o s a b /\ ∀ v,s v -> kY P ops I one Q (k + 1) sp rest (a.put o.dst v) (gI one k v b)
theorem Dw {md : Region.Mode} {n g : Nat} {Lq : Act -> List Value -> Prop} (jX : tZ md ops one = true) (hsel : Region.noSelect ops = true) (hs : Region.sinkB md ops n = true) (hc : Region.chainB md ops n = true) (hn : n < ops.size) :
 ∀ (l : List Oper) (ss : List (Value -> Prop)) (k : Nat) (listed : Array Bool) (a : Act) (b : List Value),(∀ j,j < l.length -> l[j]? = ops[k + j]?) -> (∀ (j : Nat) s,ss[j]? = some s -> sp (k + j) = s) -> k + l.length = n -> HeadInv md ops n listed ->
 Region.lexHead md ops g l.length k listed = true -> kY P ops I one Lq k ss l a b ->
 mM P md ops I one sp n (λlisted' a' b'=>Region.seqB md ops g n listed' = true /\ Lq a' b') l.length listed a b
 | [],ss,k,listed,a,b,_,_,hk,_,hB,h=>by
   have : k = n:=by simpa using hk
   subst this
   refine ⟨by simpa [Region.lexHead] using hB,?_⟩
   cases ss <;> exact h
 | o :: l,[],k,listed,a,b,_,_,hk,inv,hB,h=>h.elim
 | o :: l,s :: ss,k,listed,a,b,hl,hsp,hk,inv,hB,h=>by
   have h0 : ops[k]? = some o:=by simpa using (hl 0 (by simp)).symm
   have hs0 : sp k = s:=by simpa using hsp 0 s (by simp)
   simp only [List.length_cons,Region.lexHead,Bool.and_eq_true] at hB
   obtain ⟨⟨hr,hf⟩,hB'⟩:=hB
   have hkn : k < n:=by simp only [List.length_cons] at hk;omega
   have hr' : k ∈ Region.ready md ops listed:=by simpa using hr
   obtain ⟨hy,hK⟩:=h
   refine II jX h0 (Region.noSelect_spec hsel) hs hc hn hkn (λlisted' a' b' hL=>seqB_ready hL.1) l.length listed a b inv (Region.free_spec h0 hf) hr' (by rw [hs0];exact hy) (λv hv=>?_)
   rw [hs0] at hv
   exact Dw jX hsel hs hc hn l ss (k + 1) _ _ _ (λj hj=>by have:=hl (j + 1) (by simp;omega);simpa [Nat.add_assoc,Nat.add_comm 1 j] using this)
    (λj s' hj=>by have:=hsp (j + 1) s' (by simpa using hj);rw [← this];congr 1;omega) (by simp only [List.length_cons] at hk;omega) (inv.set hr' hkn) hB' (hK v hv)
theorem lG {id : Nat} {Q : Exit -> Act -> World -> Prop} {a : Act} {w : World} {l : List Oper} (n : Nat) (one : List Nat) (I : List Value -> World -> Prop) (ss : List (Value -> Prop)) (hm : P.follows .mixedOrders = true) (hB : Region.lexTailB .any l.toArray n = true) (hp : tZ .any l.toArray one = true) (hI : I [] w.drew)
 (h : kY P l.toArray I one (λa' b=>∀ W,I b W -> wpList P l.toArray Q (l.drop n) a' W) 0 ss (l.take n) a []) : (Code.region id l.toArray true).wp P Q a w:=by
 simp only [Region.lexTailB,Bool.and_eq_true,decide_eq_true_eq] at hB
 obtain ⟨⟨⟨⟨hsel,hn⟩,hs⟩,hc⟩,hlex⟩:=hB
 have hn' : n < l.length:=by simpa using hn
 have htl : (l.take n).length = n:=by simp;omega
 have hdl : (l.drop n).length = l.toArray.size - n:=by simp
 have inv0 : HeadInv .any l.toArray n (Array.replicate l.toArray.size false) :=
  ⟨by simp,λj oj _ hl=>(by rw [getD_replicate_false] at hl;cases hl),λt _ ht=>getD_in (by simpa using ht) (getD_replicate_false _ _)⟩
 have H:=Dw (sp:=λi=>ss.getD i (λ_=>True)) (md:=.any) (g:=l.toArray.size - n) hp hsel hs hc hn (l.take n) ss 0 _ a [] (λj hj=>by
  have hj' : j < n:=by rw [htl] at hj;exact hj
  simp [hj']) (λj s hj=>by simp [List.getD,hj]) (by simpa using htl) inv0 (by rw [htl];exact hlex) h
 refine wp_region_any hm ?_
 have:=oq (Q':=Q) (g:=l.toArray.size - n) (Nat.le_of_lt hn) (λlisted a' b hL W hW=>by
  have:=wpAny_of_seq (P:=P) (md:=.any) (Q':=Q) (l.drop n) n listed a' W (λj=>by simp [List.getElem?_drop]) (by rw [hdl];exact hL.1) (hL.2 W hW)
  rwa [hdl] at this) _ _ _ _ H w.drew hI
 rw [htl,show n + (l.toArray.size - n) = l.toArray.size by omega] at this
 exact this
end
theorem kC {P : Program} {ops : Array Oper} {I : List Value -> World -> Prop} {one : List Nat} {k : Nat} {Q : Act -> List Value -> Prop} {a : Act} {b : List Value} (h : Q a b) : kY P ops I one Q k [] [] a b:=h
theorem bZ {P : Program} {ops : Array Oper} {I : List Value -> World -> Prop} {one : List Nat} {k : Nat} {Q : Act -> List Value -> Prop} {a : Act} {b : List Value} {o : Oper} {rest : List Oper} {ss : List (Value -> Prop)} (c : Value) (hk : one.contains k = false)
 (h : ∀ b W,I b W -> ∀ K : Value -> Prop,K c -> if Region.wanted o (yielded ops a.tmps) then gN P (I b) K ((execOp a.eval o).run P W) else K undef)
 (hI : ∃ W,I [] W) (h2 : kY P ops I one Q (k + 1) ss rest (a.put o.dst c) b) : kY P ops I one Q k ((λv=>v = c) :: ss) (o :: rest) a b:=by
 have hk' : k ∉ one:=by simpa using hk
 refine ⟨⟨⟨c,rfl⟩,?_⟩,λv hv=>?_⟩
 ·rw [if_neg hk']
  split
  ·rename_i hw
   intro b W hW
   have:=h b W hW (· = c) rfl
   simp only [hw,if_true] at this
   generalize (execOp a.eval o).run P W = r at *
   cases r with
   | ok n w' =>
     cases n <;> simp only [gN] at this <;> simp only [jN]
     case value u=>exact ⟨this.2,this.1⟩
     case skip=>exact ⟨this.2,this.1⟩
     case enter f args =>
      obtain ⟨h1,u,hc,hu⟩:=this
      exact hc.mono λe w'' hh=>⟨u,hh.1,hu,hh.2⟩
   | halt x w'=>simp only [gN] at this
  ·rename_i hw
   obtain ⟨W,hW⟩:=hI
   have:=h [] W hW (λu=>u = c) rfl
   rwa [if_neg (by simpa using hw)] at this
 ·have hv' : v = c:=hv
  subst hv'
  unfold gI
  rw [if_neg hk']
  exact h2
theorem dL {P : Program} {ops : Array Oper} {I : List Value -> World -> Prop} {one : List Nat} {k : Nat} {Q : Act -> List Value -> Prop} {a : Act} {b : List Value} {o : Oper} {rest : List Oper} {ss : List (Value -> Prop)} (s : Value -> Prop) (hk : one.contains k = true) (hne : ∃ v,s v)
 (hw : Region.wanted o (yielded ops a.tmps) = true)
 (h : ∀ W,I b W -> jN P s (λv=>I (b ++ [v])) ((execOp a.eval o).run P W))
 (h2 : ∀ v,s v -> kY P ops I one Q (k + 1) ss rest (a.put o.dst v) (b ++ [v])) : kY P ops I one Q k (s :: ss) (o :: rest) a b:=by
 have hk' : k ∈ one:=by simpa using hk
 refine ⟨⟨hne,?_⟩,λv hv=>?_⟩
 ·rw [if_pos hk']
  exact ⟨hw,h⟩
 ·unfold gI
  rw [if_pos hk']
  exact h2 v hv
theorem XL {a : Act} {d : Tmp} {v v' : Value} (hd : d < a.tmps.size) (h : a.put (some d) v = a.put (some d) v') : v = v':=by
 have h1 : (a.put (some d) v).tmps[d]? = some v:=by simp [Act.put,hd]
 have h2 : (a.put (some d) v').tmps[d]? = some v':=by simp [Act.put,hd]
 rw [h,h2] at h1
 cases h1;rfl
theorem Af {P : Program} {ops : Array Oper} {o : Oper} {a : Act} {W : World} {s : Value -> Prop} {I : Value -> World -> Prop} {d : Tmp} (hd : o.dst = some d) (hsz : d < a.tmps.size) (hg : o.guard = none)
 (h : ∀ Q : Exit -> Act -> World -> Prop,(∀ v w',s v -> I v w' -> Q .normal (a.put o.dst v) w') -> wpList P ops Q [o] a W) : jN P s I ((execOp a.eval o).run P W):=by
 have h1:=h (λe a' w'=>e = .normal /\ ∃ v,a' = a.put o.dst v /\ s v /\ I v w') (λv w' h1 h2=>⟨rfl,v,rfl,h1,h2⟩)
 have hw : Region.wanted o (yielded ops a.tmps) = true:=by simp [Region.wanted,hg]
 simp only [wpList,hw,if_true] at h1
 rcases h1 with h1 | ⟨_,h1⟩
 ·unfold Oper.wp at h1
  generalize (execOp a.eval o).run P W = r at *
  have inj : ∀ {v v'},a.put o.dst v = a.put o.dst v' -> v = v':=λhh=>by rw [hd] at hh;exact XL hsz hh
  cases r with
  | ok n w' =>
    cases n <;> simp only [Oper.upon] at h1 <;> simp only [jN]
    case value u=>obtain ⟨_,v,he,h2,h3⟩:=h1;cases inj he;exact ⟨h2,h3⟩
    case skip=>obtain ⟨_,v,he,h2,h3⟩:=h1;cases inj he;exact ⟨h2,h3⟩
    case enter f args =>
     refine h1.mono λe w'' hh=>?_
     cases e with
     | returned u=>obtain ⟨_,v,he,h2,h3⟩:=hh;cases inj he;exact ⟨u,rfl,h2,h3⟩
     | panicked c=>cases hh.1
     | outgrown=>exact absurd hh (by intro hh;have:=hh;simp [LetsOut] at this)
    case row row args=>exact h1.mono (λu w'' hh=>by obtain ⟨_,v,he,h2,h3⟩:=hh;cases inj he;exact ⟨h2,h3⟩)
    case defer dd=>obtain ⟨_,v,he,_⟩:=h1;have:=congrArg Act.defers he;rw [hd] at this;simp [Act.put] at this
  | halt x w'=>cases x <;> simp [Oper.upon,jN] at h1 ⊢
 ·simp [LetsOut] at h1
end Go.Proofs.YtklkooeimkedgaaGreat
namespace Go.Proofs.YtklkooeimkedgaaGreat
open Go.RowKit
section
variable {P : Program} {ops : Array Oper} {I : List (Nat × Value) -> World -> Prop} {one : List Nat} {sp : Nat -> Value -> Prop}
def jH (P : Program) (ops : Array Oper) (I : List (Nat × Value) -> World -> Prop) (one : List Nat) (i : Nat) (o : Oper) (s : Value -> Prop) (a : Act) (b : List (Nat × Value)) : Prop :=
 (∃ v,s v) /\ if i ∈ one then Region.wanted o (yielded ops a.tmps) = true /\ ∀ W,I b W -> jN P s (λv=>I (b ++ [(i,v)])) ((execOp a.eval o).run P W)
 else if Region.wanted o (yielded ops a.tmps) then ∀ b W,(∀ p ∈ b,mO .any ops p.1 i = false) -> I b W -> jN P s (λ_=>I b) ((execOp a.eval o).run P W) else s undef
theorem jH.of_same {i : Nat} {o : Oper} {s : Value -> Prop} {a a' : Act} {b : List (Nat × Value)} (hy : jH P ops I one i o s a b) (he : execOp a'.eval o = execOp a.eval o)
 (hw : Region.wanted o (yielded ops a'.tmps) = Region.wanted o (yielded ops a.tmps)) : jH P ops I one i o s a' b:=by
 unfold jH at *
 rw [he,hw]
 exact hy
def fI (one : List Nat) (i : Nat) (v : Value) (b : List (Nat × Value)) : List (Nat × Value):=if i ∈ one then b ++ [(i,v)] else b
theorem JW {i j : Nat} (h : ¬ (i ∈ one /\ j ∈ one)) (u v : Value) (b : List (Nat × Value)) : fI one j u (fI one i v b) = fI one i v (fI one j u b):=by
 unfold fI
 by_cases h1 : i ∈ one
 ·by_cases h2 : j ∈ one
  ·exact absurd ⟨h1,h2⟩ h
  ·simp [h1,h2]
 ·simp [h1]
def rX (P : Program) (ops : Array Oper) (I : List (Nat × Value) -> World -> Prop) (one : List Nat) (sp : Nat -> Value -> Prop) (i : Nat) (K : Act -> List (Nat × Value) -> Prop) (a : Act) (b : List (Nat × Value)) : Prop :=
 match ops[i]? with
 | none=>K a b
 | some o=>jH P ops I one i o (sp i) a b /\ ∀ v,sp i v -> K (a.put o.dst v) (fI one i v b)
theorem NZ {i : Nat} {a : Act} {b : List (Nat × Value)} {K K' : Act -> List (Nat × Value) -> Prop} (h : ∀ a b,K a b -> K' a b) (hh : rX P ops I one sp i K a b) : rX P ops I one sp i K' a b:=by
 unfold rX at *
 split
 ·exact h _ _ (by simpa [*] using hh)
 ·rename_i o ho
  simp only [ho] at hh
  exact ⟨hh.1,λv hv=>h _ _ (hh.2 v hv)⟩
theorem IJ {Q : Exit -> Act -> World -> Prop} {i : Nat} {a : Act} {b : List (Nat × Value)} {K : Act -> List (Nat × Value) -> Prop} {K' : Act -> World -> Prop} {W : World} (hin : i < ops.size) (hfree : ∀ p ∈ b,mO .any ops p.1 i = false) (hW : I b W)
 (h : ∀ a v W,I (fI one i v b) W -> K a (fI one i v b) -> K' a W) (hh : rX P ops I one sp i K a b) : wpOp P ops Q i K' a W:=by
 unfold rX at hh
 unfold wpOp
 have hsome : ops[i]? = some ops[i]:=Array.getElem?_eq_getElem hin
 split
 ·rename_i ho;rw [hsome] at ho;cases ho
 ·rename_i o ho
  simp only [ho] at hh
  obtain ⟨hy,hk⟩:=hh
  obtain ⟨_,hy⟩:=hy
  by_cases lF : i ∈ one
  ·rw [if_pos lF] at hy
   rw [if_pos hy.1]
   refine .inl ?_
   have hr:=hy.2 W hW
   have hp : ∀ v,fI one i v b = b ++ [(i,v)]:=λv=>by unfold fI;rw [if_pos lF]
   unfold Oper.wp
   generalize (execOp a.eval o).run P W = r at *
   cases r with
   | ok n w' =>
     cases n <;> simp only [jN] at hr <;> simp only [Oper.upon]
     case value u=>exact h _ u _ (by rw [hp];exact hr.2) (hk u hr.1)
     case row row args=>exact hr.mono (λu w'' hh=>h _ u _ (by rw [hp];exact hh.2) (hk u hh.1))
     case skip=>exact h _ undef _ (by rw [hp];exact hr.2) (hk undef hr.1)
     case enter f args =>
      refine hr.mono λe w'' hh=>?_
      obtain ⟨u,he,h2,h3⟩:=hh
      subst he
      exact h _ u _ (by rw [hp];exact h3) (hk u h2)
   | halt x w'=>simp only [jN] at hr
  ·rw [if_neg lF] at hy
   have hp : ∀ v,fI one i v b = b:=λv=>by unfold fI;rw [if_neg lF]
   split
   ·rename_i hw
    simp only [hw,if_true] at hy
    refine .inl ?_
    have hr:=hy b W hfree hW
    unfold Oper.wp
    generalize (execOp a.eval o).run P W = r at *
    cases r with
    | ok n w' =>
      cases n <;> simp only [jN] at hr <;> simp only [Oper.upon]
      case value u=>exact h _ u _ (by rw [hp];exact hr.2) (hk u hr.1)
      case row row args=>exact hr.mono (λu w'' hh=>h _ u _ (by rw [hp];exact hh.2) (hk u hh.1))
      case skip=>exact h _ undef _ (by rw [hp];exact hr.2) (hk undef hr.1)
      case enter f args =>
       refine hr.mono λe w'' hh=>?_
       obtain ⟨u,he,h2,h3⟩:=hh
       subst he
       exact h _ u _ (by rw [hp];exact h3) (hk u h2)
    | halt x w'=>simp only [jN] at hr
   ·rename_i hw
    simp only [hw] at hy
    exact h _ undef _ (by rw [hp];exact hW) (hk undef hy)
theorem N7 {i j : Nat} {oi oj : Oper} (hi : ops[i]? = some oi) (hj : ops[j]? = some oj) (hij : ¬ (i ∈ one /\ j ∈ one)) (hap : oi.apart ops oj = true)
 (hsi : ∀ cs b,oi.op ≠ .select cs b) (hsj : ∀ cs b,oj.op ≠ .select cs b) {K : Act -> List (Nat × Value) -> Prop} {a : Act} {b : List (Nat × Value)}
 (hy : jH P ops I one i oi (sp i) a b) (h : ∀ v,sp i v -> rX P ops I one sp j K (a.put oi.dst v) (fI one i v b)) :
 rX P ops I one sp j (λa' b'=>jH P ops I one i oi (sp i) a' b' /\ ∀ v,sp i v -> K (a'.put oi.dst v) (fI one i v b')) a b:=by
 obtain ⟨h1,h2,h3⟩:=Oper.apart_spec hap
 unfold rX at *
 simp only [hj] at *
 obtain ⟨v0,hv0⟩:=hy.1
 refine ⟨?_,λu hu=>⟨?_,λv hv=>?_⟩⟩
 ·-- j,ahead of i
  have hh:=((h v0 hv0).1).of_same (execOp_put oj hsj a oi.dst v0 h1).symm (wanted_put oj a oi.dst v0 h1).symm
  by_cases hjo : j ∈ one
  ·have lF : i ∉ one:=λh=>hij ⟨h,hjo⟩
   unfold fI at hh
   rwa [if_neg lF] at hh
  ·unfold jH at *
   rw [if_neg hjo] at *
   exact hh
 ·have hh:=hy.of_same (execOp_put oi hsi a oj.dst u h3) (wanted_put oi a oj.dst u h3)
  by_cases lF : i ∈ one
  ·have hjo : j ∉ one:=λh=>hij ⟨lF,h⟩
   unfold fI
   rwa [if_neg hjo]
  ·unfold jH at *
   rw [if_neg lF] at *
   exact hh
 ·rw [← Act.put_comm a v u h2,← JW hij]
  exact (h v hv).2 u hu
def wB (P : Program) (md : Region.Mode) (ops : Array Oper) (I : List (Nat × Value) -> World -> Prop) (one : List Nat) (sp : Nat -> Value -> Prop) (n : Nat) (L : Array Bool -> Act -> List (Nat × Value) -> Prop) : Nat -> Array Bool -> Act -> List (Nat × Value) -> Prop
 | 0,listed,a,b=>L listed a b
 | f + 1,listed,a,b =>
   Region.ready md ops listed ≠ [] /\ ∀ i ∈ Region.ready md ops listed,i < n /\ rX P ops I one sp i (wB P md ops I one sp n L f (listed.setIfInBounds i true)) a b
def XP (ops : Array Oper) (listed : Array Bool) (b : List (Nat × Value)) : Prop:=∀ p ∈ b,∀ i,mO .any ops p.1 i = true -> listed.getD i true = true
theorem getD_set_true {listed : Array Bool} {i j : Nat} (h : listed.getD j true = true) : (listed.setIfInBounds i true).getD j true = true:=by
 by_cases hij : i = j
 ·subst hij
  unfold Array.getD
  split
  ·simp
  ·rfl
 ·rw [getD_set_ne true hij];exact h
theorem wC {n g : Nat} {L : Array Bool -> Act -> List (Nat × Value) -> Prop} {Q' : Exit -> Act -> World -> Prop} (hn : n <= ops.size) (hL : ∀ listed a b,L listed a b -> ∀ W,I b W -> wpAny P .any ops Q' g listed a W) :
 ∀ (f : Nat) (listed : Array Bool) (a : Act) (b : List (Nat × Value)),wB P .any ops I one sp n L f listed a b -> XP ops listed b -> ∀ W,I b W -> wpAny P .any ops Q' (f + g) listed a W
 | 0,listed,a,b,h,hl,W,hW=>by rw [Nat.zero_add];exact hL _ _ _ h W hW
 | f + 1,listed,a,b,h,hl,W,hW=>by
   rw [show f + 1 + g = (f + g) + 1 by omega]
   refine ⟨λh0=>absurd h0 h.1,λi hi=>?_⟩
   have hin:=(h.2 i hi).1
   obtain ⟨hun,oi,hoi,hall⟩:=mem_ready.1 hi
   refine IJ (b:=b) (Nat.lt_of_lt_of_le hin hn) (λp hp=>?_) hW (λa' v' W' hW' h'=>wC hn hL f _ a' _ h' (λp hp j hj=>?_) W' hW') (h.2 i hi).2
   ·cases hc : mO .any ops p.1 i with
    | false=>rfl
    | true=>rw [hl p hp i hc] at hun;cases hun
   ·unfold fI at hp
    split at hp
    ·rcases List.mem_append.1 hp with hp | hp
     ·exact getD_set_true (hl p hp j hj)
     ·simp at hp
      subst hp
      obtain ⟨e,he,hb,heq⟩:=ny hj hoi
      have h3:=hall e he hb
      rw [heq] at h3
      refine getD_set_true ?_
      unfold Array.getD at h3 ⊢
      split
      ·rename_i hlt;rw [dif_pos hlt] at h3;exact h3
      ·rfl
    ·exact getD_set_true (hl p hp j hj)
theorem F9 {md : Region.Mode} {n i : Nat} {oi : Oper} {L : Array Bool -> Act -> List (Nat × Value) -> Prop} (jX : tZ md ops one = true) (hi : ops[i]? = some oi) (hsel : ∀ (j : Nat) (o : Oper) cs b,ops[j]? = some o -> o.op ≠ .select cs b)
 (hs : Region.sinkB md ops n = true) (hc : Region.chainB md ops n = true) (hn : n < ops.size) (hin : i < n)
 (hdone : ∀ listed a b,L listed a b -> ∀ j ∈ Region.ready md ops listed,n <= j) :
 ∀ (f : Nat) (listed : Array Bool) (a : Act) (b : List (Nat × Value)),HeadInv md ops n listed ->
  (∀ j oj,ops[j]? = some oj -> j ≠ i -> listed.getD j true = false -> (∀ e ∈ oj.after,Region.binds md e = true -> e.on ≠ i) -> oi.apart ops oj = true) ->
  i ∈ Region.ready md ops listed -> jH P ops I one i oi (sp i) a b ->
  (∀ v,sp i v -> wB P md ops I one sp n L f (listed.setIfInBounds i true) (a.put oi.dst v) (fI one i v b)) -> wB P md ops I one sp n L (f + 1) listed a b:=by
 intro f
 induction f with
 | zero =>
   intro listed a b inv _ hr hy H
   have hun:=(mem_ready.1 hr).1
   obtain ⟨v0,hv0⟩:=hy.1
   refine ⟨λh=>(by rw [h] at hr;cases hr),λj hj=>?_⟩
   have hjn : j < n:=by
    rcases Nat.lt_or_ge j n with h | h
    ·exact h
    ·exact absurd hj (tail_waits hs hc hn inv _ i rfl hin hun j h)
   refine ⟨hjn,?_⟩
   by_cases hji : j = i
   ·subst hji;unfold rX;simp only [hi];exact ⟨hy,H⟩
   ·have:=hdone _ _ _ (H v0 hv0) j (ready_mono hj hji)
    omega
 | succ f ih =>
   intro listed a b inv hfree hr hy H
   have hun:=(mem_ready.1 hr).1
   obtain ⟨v0,hv0⟩:=hy.1
   refine ⟨λh=>(by rw [h] at hr;cases hr),λj hj=>?_⟩
   have hjn : j < n:=by
    rcases Nat.lt_or_ge j n with h | h
    ·exact h
    ·exact absurd hj (tail_waits hs hc hn inv _ i rfl hin hun j h)
   refine ⟨hjn,?_⟩
   by_cases hji : j = i
   ·subst hji;unfold rX;simp only [hi];exact ⟨hy,H⟩
   ·have h1:=λv hv=>((H v hv).2 j (ready_mono hj hji)).2
    obtain ⟨hjun,oj,hoj,hall⟩:=mem_ready.1 hj
    have hnot : ∀ e ∈ oj.after,Region.binds md e = true -> e.on ≠ i:=λe he hb heq=>by
     have h1:=hall e he hb
     rw [heq,getD_both hun] at h1
     cases h1
    have hboth : ¬ (i ∈ one /\ j ∈ one):=λ⟨hi1,hj1⟩=>by
     rcases Bh jX hi1 hj1 (Ne.symm hji) with hp | hp
     ·obtain ⟨e,he,hb,heq⟩:=ny hp hoj
      exact hnot e he hb heq
     ·obtain ⟨e,he,hb,heq⟩:=ny hp hi
      obtain ⟨_,oi',Bj,ER⟩:=mem_ready.1 hr
      rw [hi] at Bj
      cases Bj
      have h3:=ER e he hb
      rw [heq,getD_both hjun] at h3
      cases h3
    have h2:=N7 hi hoj hboth (hfree j oj hoj hji hjun hnot) (λcs b=>hsel i oi cs b hi) (λcs b=>hsel j oj cs b hoj) hy h1
    have hfree' : ∀ k ok,ops[k]? = some ok -> k ≠ i -> (listed.setIfInBounds j true).getD k true = false ->
     (∀ e ∈ ok.after,Region.binds md e = true -> e.on ≠ i) -> oi.apart ops ok = true:=λk ok hk hki hun hno=>by
     refine hfree k ok hk hki ?_ hno
     by_cases hjk : j = k
     ·subst hjk;exact hjun
     ·rw [getD_set_ne true hjk] at hun;exact hun
    refine NZ (λa' b' h3=>ih (listed.setIfInBounds j true) a' b' (inv.set hj hjn) hfree' (ready_mono hr (Ne.symm hji)) h3.1 ?_) h2
    rw [Array.setIfInBounds_comm _ _ hji]
    exact h3.2
def oO (P : Program) (ops : Array Oper) (I : List (Nat × Value) -> World -> Prop) (one : List Nat) (Q : Act -> List (Nat × Value) -> Prop) : Nat -> List (Value -> Prop) -> List Oper -> Act -> List (Nat × Value) -> Prop
 | _,_,[],a,b=>Q a b
 | _,[],_ :: _,_,_=>False
 | k,s :: sp,o :: rest,a,b=>jH P ops I one k o s a b /\ ∀ v,s v -> oO P ops I one Q (k + 1) sp rest (a.put o.dst v) (fI one k v b)
theorem Bl {md : Region.Mode} {n g : Nat} {Lq : Act -> List (Nat × Value) -> Prop} (jX : tZ md ops one = true) (hsel : Region.noSelect ops = true) (hs : Region.sinkB md ops n = true) (hc : Region.chainB md ops n = true) (hn : n < ops.size) :
 ∀ (l : List Oper) (ss : List (Value -> Prop)) (k : Nat) (listed : Array Bool) (a : Act) (b : List (Nat × Value)),(∀ j,j < l.length -> l[j]? = ops[k + j]?) -> (∀ (j : Nat) s,ss[j]? = some s -> sp (k + j) = s) -> k + l.length = n -> HeadInv md ops n listed ->
 Region.lexHead md ops g l.length k listed = true -> oO P ops I one Lq k ss l a b ->
 wB P md ops I one sp n (λlisted' a' b'=>Region.seqB md ops g n listed' = true /\ Lq a' b') l.length listed a b
 | [],ss,k,listed,a,b,_,_,hk,_,hB,h=>by
   have : k = n:=by simpa using hk
   subst this
   refine ⟨by simpa [Region.lexHead] using hB,?_⟩
   cases ss <;> exact h
 | o :: l,[],k,listed,a,b,_,_,hk,inv,hB,h=>h.elim
 | o :: l,s :: ss,k,listed,a,b,hl,hsp,hk,inv,hB,h=>by
   have h0 : ops[k]? = some o:=by simpa using (hl 0 (by simp)).symm
   have hs0 : sp k = s:=by simpa using hsp 0 s (by simp)
   simp only [List.length_cons,Region.lexHead,Bool.and_eq_true] at hB
   obtain ⟨⟨hr,hf⟩,hB'⟩:=hB
   have hkn : k < n:=by simp only [List.length_cons] at hk;omega
   have hr' : k ∈ Region.ready md ops listed:=by simpa using hr
   obtain ⟨hy,hK⟩:=h
   refine F9 jX h0 (Region.noSelect_spec hsel) hs hc hn hkn (λlisted' a' b' hL=>seqB_ready hL.1) l.length listed a b inv (Region.free_spec h0 hf) hr' (by rw [hs0];exact hy) (λv hv=>?_)
   rw [hs0] at hv
   exact Bl jX hsel hs hc hn l ss (k + 1) _ _ _ (λj hj=>by have:=hl (j + 1) (by simp;omega);simpa [Nat.add_assoc,Nat.add_comm 1 j] using this)
    (λj s' hj=>by have:=hsp (j + 1) s' (by simpa using hj);rw [← this];congr 1;omega) (by simp only [List.length_cons] at hk;omega) (inv.set hr' hkn) hB' (hK v hv)
theorem DX {id : Nat} {Q : Exit -> Act -> World -> Prop} {a : Act} {w : World} {l : List Oper} (n : Nat) (one : List Nat) (I : List (Nat × Value) -> World -> Prop) (ss : List (Value -> Prop)) (hm : P.follows .mixedOrders = true) (hB : Region.lexTailB .any l.toArray n = true) (hp : tZ .any l.toArray one = true) (hI : I [] w.drew)
 (h : oO P l.toArray I one (λa' b=>∀ W,I b W -> wpList P l.toArray Q (l.drop n) a' W) 0 ss (l.take n) a []) : (Code.region id l.toArray true).wp P Q a w:=by
 simp only [Region.lexTailB,Bool.and_eq_true,decide_eq_true_eq] at hB
 obtain ⟨⟨⟨⟨hsel,hn⟩,hs⟩,hc⟩,hlex⟩:=hB
 have hn' : n < l.length:=by simpa using hn
 have htl : (l.take n).length = n:=by simp;omega
 have hdl : (l.drop n).length = l.toArray.size - n:=by simp
 have inv0 : HeadInv .any l.toArray n (Array.replicate l.toArray.size false) :=
  ⟨by simp,λj oj _ hl=>(by rw [getD_replicate_false] at hl;cases hl),λt _ ht=>getD_in (by simpa using ht) (getD_replicate_false _ _)⟩
 have H:=Bl (sp:=λi=>ss.getD i (λ_=>True)) (md:=.any) (g:=l.toArray.size - n) hp hsel hs hc hn (l.take n) ss 0 _ a [] (λj hj=>by
  have hj' : j < n:=by rw [htl] at hj;exact hj
  simp [hj']) (λj s hj=>by simp [List.getD,hj]) (by simpa using htl) inv0 (by rw [htl];exact hlex) h
 refine wp_region_any hm ?_
 have:=wC (Q':=Q) (g:=l.toArray.size - n) (Nat.le_of_lt hn) (λlisted a' b hL W hW=>by
  have:=wpAny_of_seq (P:=P) (md:=.any) (Q':=Q) (l.drop n) n listed a' W (λj=>by simp [List.getElem?_drop]) (by rw [hdl];exact hL.1) (hL.2 W hW)
  rwa [hdl] at this) _ _ _ _ H (λp hp=>by cases hp) w.drew hI
 rw [htl,show n + (l.toArray.size - n) = l.toArray.size by omega] at this
 exact this
end
theorem JX {P : Program} {ops : Array Oper} {I : List (Nat × Value) -> World -> Prop} {one : List Nat} {k : Nat} {Q : Act -> List (Nat × Value) -> Prop} {a : Act} {b : List (Nat × Value)} (h : Q a b) : oO P ops I one Q k [] [] a b:=h
theorem fF {P : Program} {ops : Array Oper} {I : List (Nat × Value) -> World -> Prop} {one : List Nat} {k : Nat} {Q : Act -> List (Nat × Value) -> Prop} {a : Act} {b : List (Nat × Value)} {o : Oper} {rest : List Oper} {ss : List (Value -> Prop)} (c : Value) (hk : one.contains k = false)
 (h : ∀ b W,(∀ p ∈ b,mO .any ops p.1 k = false) -> I b W -> ∀ K : Value -> Prop,K c -> if Region.wanted o (yielded ops a.tmps) then gN P (I b) K ((execOp a.eval o).run P W) else K undef)
 (hI : ∃ W,I [] W) (h2 : oO P ops I one Q (k + 1) ss rest (a.put o.dst c) b) : oO P ops I one Q k ((λv=>v = c) :: ss) (o :: rest) a b:=by
 have hk' : k ∉ one:=by simpa using hk
 refine ⟨⟨⟨c,rfl⟩,?_⟩,λv hv=>?_⟩
 ·rw [if_neg hk']
  split
  ·rename_i hw
   intro b W hf hW
   have:=h b W hf hW (· = c) rfl
   simp only [hw,if_true] at this
   generalize (execOp a.eval o).run P W = r at *
   cases r with
   | ok n w' =>
     cases n <;> simp only [gN] at this <;> simp only [jN]
     case value u=>exact ⟨this.2,this.1⟩
     case skip=>exact ⟨this.2,this.1⟩
     case enter f args =>
      obtain ⟨h1,u,hc,hu⟩:=this
      exact hc.mono λe w'' hh=>⟨u,hh.1,hu,hh.2⟩
   | halt x w'=>simp only [gN] at this
  ·rename_i hw
   obtain ⟨W,hW⟩:=hI
   have:=h [] W (λp hp=>by cases hp) hW (λu=>u = c) rfl
   rwa [if_neg (by simpa using hw)] at this
 ·have hv' : v = c:=hv
  subst hv'
  unfold fI
  rw [if_neg hk']
  exact h2
theorem wD {P : Program} {ops : Array Oper} {I : List (Nat × Value) -> World -> Prop} {one : List Nat} {k : Nat} {Q : Act -> List (Nat × Value) -> Prop} {a : Act} {b : List (Nat × Value)} {o : Oper} {rest : List Oper} {ss : List (Value -> Prop)} (s : Value -> Prop) (hk : one.contains k = true) (hne : ∃ v,s v)
 (hw : Region.wanted o (yielded ops a.tmps) = true)
 (h : ∀ W,I b W -> jN P s (λv=>I (b ++ [(k,v)])) ((execOp a.eval o).run P W))
 (h2 : ∀ v,s v -> oO P ops I one Q (k + 1) ss rest (a.put o.dst v) (b ++ [(k,v)])) : oO P ops I one Q k (s :: ss) (o :: rest) a b:=by
 have hk' : k ∈ one:=by simpa using hk
 refine ⟨⟨hne,?_⟩,λv hv=>?_⟩
 ·rw [if_pos hk']
  exact ⟨hw,h⟩
 ·unfold fI
  rw [if_pos hk']
  exact h2 v hv
end Go.Proofs.YtklkooeimkedgaaGreat
namespace Go.Proofs.YtklkooeimkedgaaGreat
open Go.RowKit
section
variable {P : Program} {ops : Array Oper} {I : List Value -> World -> Prop} {one : List Nat} {sp : Nat -> Value -> Prop}
theorem Gb {md : Region.Mode} {n i : Nat} {oi : Oper} {L : Array Bool -> Act -> List Value -> Prop} (jX : tZ md ops one = true) (hi : ops[i]? = some oi) (hsel : ∀ (j : Nat) (o : Oper) cs b,ops[j]? = some o -> o.op ≠ .select cs b)
 (hn : n = ops.size) (hin : i < n)
 (hdone : ∀ listed a b,L listed a b -> ∀ j ∈ Region.ready md ops listed,n <= j) :
 ∀ (f : Nat) (listed : Array Bool) (a : Act) (b : List Value),HeadInv md ops n listed ->
  (∀ j oj,ops[j]? = some oj -> j ≠ i -> listed.getD j true = false -> (∀ e ∈ oj.after,Region.binds md e = true -> e.on ≠ i) -> oi.apart ops oj = true) ->
  i ∈ Region.ready md ops listed -> jv P ops I one i oi (sp i) a b ->
  (∀ v,sp i v -> mM P md ops I one sp n L f (listed.setIfInBounds i true) (a.put oi.dst v) (gI one i v b)) -> mM P md ops I one sp n L (f + 1) listed a b:=by
 intro f
 induction f with
 | zero =>
   intro listed a b inv _ hr hy H
   have hun:=(mem_ready.1 hr).1
   obtain ⟨v0,hv0⟩:=hy.1
   refine ⟨λh=>(by rw [h] at hr;cases hr),λj hj=>?_⟩
   have hjn : j < n:=by
    obtain ⟨_,oj,hoj,_⟩:=mem_ready.1 hj
    rw [hn];exact (Array.getElem?_eq_some_iff.1 hoj).1
   refine ⟨hjn,?_⟩
   by_cases hji : j = i
   ·subst hji;unfold qV;simp only [hi];exact ⟨hy,H⟩
   ·have:=hdone _ _ _ (H v0 hv0) j (ready_mono hj hji)
    omega
 | succ f ih =>
   intro listed a b inv hfree hr hy H
   have hun:=(mem_ready.1 hr).1
   obtain ⟨v0,hv0⟩:=hy.1
   refine ⟨λh=>(by rw [h] at hr;cases hr),λj hj=>?_⟩
   have hjn : j < n:=by
    obtain ⟨_,oj,hoj,_⟩:=mem_ready.1 hj
    rw [hn];exact (Array.getElem?_eq_some_iff.1 hoj).1
   refine ⟨hjn,?_⟩
   by_cases hji : j = i
   ·subst hji;unfold qV;simp only [hi];exact ⟨hy,H⟩
   ·have h1:=λv hv=>((H v hv).2 j (ready_mono hj hji)).2
    obtain ⟨hjun,oj,hoj,hall⟩:=mem_ready.1 hj
    have hnot : ∀ e ∈ oj.after,Region.binds md e = true -> e.on ≠ i:=λe he hb heq=>by
     have h1:=hall e he hb
     rw [heq,getD_both hun] at h1
     cases h1
    have hboth : ¬ (i ∈ one /\ j ∈ one):=λ⟨hi1,hj1⟩=>by
     rcases Bh jX hi1 hj1 (Ne.symm hji) with hp | hp
     ·obtain ⟨e,he,hb,heq⟩:=ny hp hoj
      exact hnot e he hb heq
     ·obtain ⟨e,he,hb,heq⟩:=ny hp hi
      obtain ⟨_,oi',Bj,ER⟩:=mem_ready.1 hr
      rw [hi] at Bj
      cases Bj
      have h3:=ER e he hb
      rw [heq,getD_both hjun] at h3
      cases h3
    have h2:=Bg hi hoj hboth (hfree j oj hoj hji hjun hnot) (λcs b=>hsel i oi cs b hi) (λcs b=>hsel j oj cs b hoj) hy h1
    have hfree' : ∀ k ok,ops[k]? = some ok -> k ≠ i -> (listed.setIfInBounds j true).getD k true = false ->
     (∀ e ∈ ok.after,Region.binds md e = true -> e.on ≠ i) -> oi.apart ops ok = true:=λk ok hk hki hun hno=>by
     refine hfree k ok hk hki ?_ hno
     by_cases hjk : j = k
     ·subst hjk;exact hjun
     ·rw [getD_set_ne true hjk] at hun;exact hun
    refine Bf (λa' b' h3=>ih (listed.setIfInBounds j true) a' b' (inv.set hj hjn) hfree' (ready_mono hr (Ne.symm hji)) h3.1 ?_) h2
    rw [Array.setIfInBounds_comm _ _ hji]
    exact h3.2
theorem BD {md : Region.Mode} {n g : Nat} {Lq : Act -> List Value -> Prop} (jX : tZ md ops one = true) (hsel : Region.noSelect ops = true) (hn : n = ops.size) :
 ∀ (l : List Oper) (ss : List (Value -> Prop)) (k : Nat) (listed : Array Bool) (a : Act) (b : List Value),(∀ j,j < l.length -> l[j]? = ops[k + j]?) -> (∀ (j : Nat) s,ss[j]? = some s -> sp (k + j) = s) -> k + l.length = n -> HeadInv md ops n listed ->
 Region.lexHead md ops g l.length k listed = true -> kY P ops I one Lq k ss l a b ->
 mM P md ops I one sp n (λlisted' a' b'=>Region.seqB md ops g n listed' = true /\ Lq a' b') l.length listed a b
 | [],ss,k,listed,a,b,_,_,hk,_,hB,h=>by
   have : k = n:=by simpa using hk
   subst this
   refine ⟨by simpa [Region.lexHead] using hB,?_⟩
   cases ss <;> exact h
 | o :: l,[],k,listed,a,b,_,_,hk,inv,hB,h=>h.elim
 | o :: l,s :: ss,k,listed,a,b,hl,hsp,hk,inv,hB,h=>by
   have h0 : ops[k]? = some o:=by simpa using (hl 0 (by simp)).symm
   have hs0 : sp k = s:=by simpa using hsp 0 s (by simp)
   simp only [List.length_cons,Region.lexHead,Bool.and_eq_true] at hB
   obtain ⟨⟨hr,hf⟩,hB'⟩:=hB
   have hkn : k < n:=by simp only [List.length_cons] at hk;omega
   have hr' : k ∈ Region.ready md ops listed:=by simpa using hr
   obtain ⟨hy,hK⟩:=h
   refine Gb jX h0 (Region.noSelect_spec hsel) hn hkn (λlisted' a' b' hL=>seqB_ready hL.1) l.length listed a b inv (Region.free_spec h0 hf) hr' (by rw [hs0];exact hy) (λv hv=>?_)
   rw [hs0] at hv
   exact BD jX hsel hn l ss (k + 1) _ _ _ (λj hj=>by have:=hl (j + 1) (by simp;omega);simpa [Nat.add_assoc,Nat.add_comm 1 j] using this)
    (λj s' hj=>by have:=hsp (j + 1) s' (by simpa using hj);rw [← this];congr 1;omega) (by simp only [List.length_cons] at hk;omega) (inv.set hr' hkn) hB' (hK v hv)
theorem wE {id : Nat} {Q : Exit -> Act -> World -> Prop} {a : Act} {w : World} {l : List Oper} (one : List Nat) (I : List Value -> World -> Prop) (ss : List (Value -> Prop)) (hm : P.follows .mixedOrders = true) (hB : CJ l.toArray = true) (hp : tZ .any l.toArray one = true) (hI : I [] w.drew)
 (h : kY P l.toArray I one (λa' b=>∀ W,I b W -> Q .normal a' W) 0 ss l a []) : (Code.region id l.toArray true).wp P Q a w:=by
 simp only [CJ,Bool.and_eq_true] at hB
 obtain ⟨hsel,hlex⟩:=hB
 have htl : l.length = l.toArray.size:=by simp
 have inv0 : HeadInv .any l.toArray l.toArray.size (Array.replicate l.toArray.size false) :=
  ⟨by simp,λj oj _ hl=>(by rw [getD_replicate_false] at hl;cases hl),λt _ ht=>getD_in (by simpa using ht) (getD_replicate_false _ _)⟩
 have H:=BD (sp:=λi=>ss.getD i (λ_=>True)) (md:=.any) (g:=0) hp hsel rfl l ss 0 _ a [] (λj hj=>by simp) (λj s hj=>by simp [List.getD,hj]) (by simp) inv0 (by rw [htl];exact hlex) h
 refine wp_region_any hm ?_
 have:=oq (Q':=Q) (g:=0) (Nat.le_refl _) (λlisted a' b hL W hW=>by
  have:=wpAny_of_seq (P:=P) (md:=.any) (Q':=Q) [] l.toArray.size listed a' W (λj=>by simp) hL.1 (hL.2 W hW)
  exact this) _ _ _ _ H w.drew hI
 rw [htl,Nat.add_zero] at this
 exact this
end
end Go.Proofs.YtklkooeimkedgaaGreat
namespace Go.Proofs.YtklkooeimkedgaaGreat
open Go.RowKit
def uh (md : Region.Mode) (ops : Array Oper) : Nat -> Nat -> Nat -> Bool
 | 0,_,_=>false
 | f + 1,j,i=>((ops[j]?).map (·.after.any λe=>Region.binds md e && (e.on == i || uh md ops f e.on i))).getD false
def pairT (md : Region.Mode) (ops : Array Oper) (one : List Nat) : Bool:=one.all λi=>one.all λj=>i == j || uh md ops 8 j i || uh md ops 8 i j
section
variable {P : Program} {ops : Array Oper} {I : List Value -> World -> Prop} {one : List Nat} {sp : Nat -> Value -> Prop}
theorem OC {md : Region.Mode} (h : pairT md ops one = true) {i j : Nat} (hi : i ∈ one) (hj : j ∈ one) (hij : i ≠ j) : uh md ops 8 j i = true \/ uh md ops 8 i j = true:=by
 have h1:=List.all_eq_true.1 (List.all_eq_true.1 h i hi) j hj
 simp only [Bool.or_eq_true,beq_iff_eq,hij,false_or] at h1
 exact h1
theorem DL {md : Region.Mode} {n : Nat} {listed : Array Bool} (inv : HeadInv md ops n listed) : ∀ (f : Nat) {j i : Nat},uh md ops f j i = true -> listed.getD j false = true -> listed.getD i false = true
 | 0,j,i,h,_=>by simp [uh] at h
 | f + 1,j,i,h,hl=>by
   unfold uh at h
   cases hj : ops[j]? with
   | none=>rw [hj] at h;cases h
   | some o =>
     rw [hj] at h
     simp only [Option.map_some,Option.getD_some,Array.any_eq_true',Bool.and_eq_true,Bool.or_eq_true,beq_iff_eq] at h
     obtain ⟨e,he,hb,ho⟩:=h
     have h1:=inv.closed j o hj hl e he hb
     rcases ho with ho | ho
     ·rw [← ho];exact h1
     ·exact DL inv f ho h1
theorem FH {md : Region.Mode} {n : Nat} {listed : Array Bool} (inv : HeadInv md ops n listed) {j i : Nat} (hr : j ∈ Region.ready md ops listed) (h : uh md ops 8 j i = true) : listed.getD i false = true:=by
 obtain ⟨_,oj,hoj,hall⟩:=mem_ready.1 hr
 unfold uh at h
 rw [hoj] at h
 simp only [Option.map_some,Option.getD_some,Array.any_eq_true',Bool.and_eq_true,Bool.or_eq_true,beq_iff_eq] at h
 obtain ⟨e,he,hb,ho⟩:=h
 have h1:=hall e he hb
 rcases ho with ho | ho
 ·rw [← ho];exact h1
 ·exact DL inv 7 ho h1
theorem Gl {md : Region.Mode} {n i : Nat} {oi : Oper} {L : Array Bool -> Act -> List Value -> Prop} (jX : pairT md ops one = true) (hi : ops[i]? = some oi) (hsel : ∀ (j : Nat) (o : Oper) cs b,ops[j]? = some o -> o.op ≠ .select cs b)
 (hs : Region.sinkB md ops n = true) (hc : Region.chainB md ops n = true) (hn : n < ops.size) (hin : i < n)
 (hdone : ∀ listed a b,L listed a b -> ∀ j ∈ Region.ready md ops listed,n <= j) :
 ∀ (f : Nat) (listed : Array Bool) (a : Act) (b : List Value),HeadInv md ops n listed ->
  (∀ j oj,ops[j]? = some oj -> j ≠ i -> listed.getD j true = false -> (∀ e ∈ oj.after,Region.binds md e = true -> e.on ≠ i) -> oi.apart ops oj = true) ->
  i ∈ Region.ready md ops listed -> jv P ops I one i oi (sp i) a b ->
  (∀ v,sp i v -> mM P md ops I one sp n L f (listed.setIfInBounds i true) (a.put oi.dst v) (gI one i v b)) -> mM P md ops I one sp n L (f + 1) listed a b:=by
 intro f
 induction f with
 | zero =>
   intro listed a b inv _ hr hy H
   have hun:=(mem_ready.1 hr).1
   obtain ⟨v0,hv0⟩:=hy.1
   refine ⟨λh=>(by rw [h] at hr;cases hr),λj hj=>?_⟩
   have hjn : j < n:=by
    rcases Nat.lt_or_ge j n with h | h
    ·exact h
    ·exact absurd hj (tail_waits hs hc hn inv _ i rfl hin hun j h)
   refine ⟨hjn,?_⟩
   by_cases hji : j = i
   ·subst hji;unfold qV;simp only [hi];exact ⟨hy,H⟩
   ·have:=hdone _ _ _ (H v0 hv0) j (ready_mono hj hji)
    omega
 | succ f ih =>
   intro listed a b inv hfree hr hy H
   have hun:=(mem_ready.1 hr).1
   obtain ⟨v0,hv0⟩:=hy.1
   refine ⟨λh=>(by rw [h] at hr;cases hr),λj hj=>?_⟩
   have hjn : j < n:=by
    rcases Nat.lt_or_ge j n with h | h
    ·exact h
    ·exact absurd hj (tail_waits hs hc hn inv _ i rfl hin hun j h)
   refine ⟨hjn,?_⟩
   by_cases hji : j = i
   ·subst hji;unfold qV;simp only [hi];exact ⟨hy,H⟩
   ·have h1:=λv hv=>((H v hv).2 j (ready_mono hj hji)).2
    obtain ⟨hjun,oj,hoj,hall⟩:=mem_ready.1 hj
    have hnot : ∀ e ∈ oj.after,Region.binds md e = true -> e.on ≠ i:=λe he hb heq=>by
     have h1:=hall e he hb
     rw [heq,getD_both hun] at h1
     cases h1
    have hboth : ¬ (i ∈ one /\ j ∈ one):=λ⟨hi1,hj1⟩=>by
     rcases OC jX hi1 hj1 (Ne.symm hji) with hp | hp
     ·have h3:=FH inv hj hp
      rw [getD_both hun] at h3
      cases h3
     ·have h3:=FH inv hr hp
      rw [getD_both hjun] at h3
      cases h3
    have h2:=Bg hi hoj hboth (hfree j oj hoj hji hjun hnot) (λcs b=>hsel i oi cs b hi) (λcs b=>hsel j oj cs b hoj) hy h1
    have hfree' : ∀ k ok,ops[k]? = some ok -> k ≠ i -> (listed.setIfInBounds j true).getD k true = false ->
     (∀ e ∈ ok.after,Region.binds md e = true -> e.on ≠ i) -> oi.apart ops ok = true:=λk ok hk hki hun hno=>by
     refine hfree k ok hk hki ?_ hno
     by_cases hjk : j = k
     ·subst hjk;exact hjun
     ·rw [getD_set_ne true hjk] at hun;exact hun
    refine Bf (λa' b' h3=>ih (listed.setIfInBounds j true) a' b' (inv.set hj hjn) hfree' (ready_mono hr (Ne.symm hji)) h3.1 ?_) h2
    rw [Array.setIfInBounds_comm _ _ hji]
    exact h3.2
theorem Ck {md : Region.Mode} {n g : Nat} {Lq : Act -> List Value -> Prop} (jX : pairT md ops one = true) (hsel : Region.noSelect ops = true) (hs : Region.sinkB md ops n = true) (hc : Region.chainB md ops n = true) (hn : n < ops.size) :
 ∀ (l : List Oper) (ss : List (Value -> Prop)) (k : Nat) (listed : Array Bool) (a : Act) (b : List Value),(∀ j,j < l.length -> l[j]? = ops[k + j]?) -> (∀ (j : Nat) s,ss[j]? = some s -> sp (k + j) = s) -> k + l.length = n -> HeadInv md ops n listed ->
 Region.lexHead md ops g l.length k listed = true -> kY P ops I one Lq k ss l a b ->
 mM P md ops I one sp n (λlisted' a' b'=>Region.seqB md ops g n listed' = true /\ Lq a' b') l.length listed a b
 | [],ss,k,listed,a,b,_,_,hk,_,hB,h=>by
   have : k = n:=by simpa using hk
   subst this
   refine ⟨by simpa [Region.lexHead] using hB,?_⟩
   cases ss <;> exact h
 | o :: l,[],k,listed,a,b,_,_,hk,inv,hB,h=>h.elim
 | o :: l,s :: ss,k,listed,a,b,hl,hsp,hk,inv,hB,h=>by
   have h0 : ops[k]? = some o:=by simpa using (hl 0 (by simp)).symm
   have hs0 : sp k = s:=by simpa using hsp 0 s (by simp)
   simp only [List.length_cons,Region.lexHead,Bool.and_eq_true] at hB
   obtain ⟨⟨hr,hf⟩,hB'⟩:=hB
   have hkn : k < n:=by simp only [List.length_cons] at hk;omega
   have hr' : k ∈ Region.ready md ops listed:=by simpa using hr
   obtain ⟨hy,hK⟩:=h
   refine Gl jX h0 (Region.noSelect_spec hsel) hs hc hn hkn (λlisted' a' b' hL=>seqB_ready hL.1) l.length listed a b inv (Region.free_spec h0 hf) hr' (by rw [hs0];exact hy) (λv hv=>?_)
   rw [hs0] at hv
   exact Ck jX hsel hs hc hn l ss (k + 1) _ _ _ (λj hj=>by have:=hl (j + 1) (by simp;omega);simpa [Nat.add_assoc,Nat.add_comm 1 j] using this)
    (λj s' hj=>by have:=hsp (j + 1) s' (by simpa using hj);rw [← this];congr 1;omega) (by simp only [List.length_cons] at hk;omega) (inv.set hr' hkn) hB' (hK v hv)
theorem En {id : Nat} {Q : Exit -> Act -> World -> Prop} {a : Act} {w : World} {l : List Oper} (n : Nat) (one : List Nat) (I : List Value -> World -> Prop) (ss : List (Value -> Prop)) (hm : P.follows .mixedOrders = true) (hB : Region.lexTailB .any l.toArray n = true) (hp : pairT .any l.toArray one = true) (hI : I [] w.drew)
 (h : kY P l.toArray I one (λa' b=>∀ W,I b W -> wpList P l.toArray Q (l.drop n) a' W) 0 ss (l.take n) a []) : (Code.region id l.toArray true).wp P Q a w:=by
 simp only [Region.lexTailB,Bool.and_eq_true,decide_eq_true_eq] at hB
 obtain ⟨⟨⟨⟨hsel,hn⟩,hs⟩,hc⟩,hlex⟩:=hB
 have hn' : n < l.length:=by simpa using hn
 have htl : (l.take n).length = n:=by simp;omega
 have hdl : (l.drop n).length = l.toArray.size - n:=by simp
 have inv0 : HeadInv .any l.toArray n (Array.replicate l.toArray.size false) :=
  ⟨by simp,λj oj _ hl=>(by rw [getD_replicate_false] at hl;cases hl),λt _ ht=>getD_in (by simpa using ht) (getD_replicate_false _ _)⟩
 have H:=Ck (sp:=λi=>ss.getD i (λ_=>True)) (md:=.any) (g:=l.toArray.size - n) hp hsel hs hc hn (l.take n) ss 0 _ a [] (λj hj=>by
  have hj' : j < n:=by rw [htl] at hj;exact hj
  simp [hj']) (λj s hj=>by simp [List.getD,hj]) (by simpa using htl) inv0 (by rw [htl];exact hlex) h
 refine wp_region_any hm ?_
 have:=oq (Q':=Q) (g:=l.toArray.size - n) (Nat.le_of_lt hn) (λlisted a' b hL W hW=>by
  have:=wpAny_of_seq (P:=P) (md:=.any) (Q':=Q) (l.drop n) n listed a' W (λj=>by simp [List.getElem?_drop]) (by rw [hdl];exact hL.1) (hL.2 W hW)
  rwa [hdl] at this) _ _ _ _ H w.drew hI
 rw [htl,show n + (l.toArray.size - n) = l.toArray.size by omega] at this
 exact this
end
end Go.Proofs.YtklkooeimkedgaaGreat
