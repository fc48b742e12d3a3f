/- Walk of TopBeyond. -/
import Derived.RegionTactic
import Derived.Test.YtklkooeimkedgaaGreatB8
set_option linter.unusedVariables false
set_option linter.unusedSimpArgs false
namespace Go.Proofs.YtklkooeimkedgaaGreat
open Go.RowKit
section
variable {P : Program} {ops : Array Oper} {w : World} {n s : Nat}
structure Ee (ops : Array Oper) (n s : Nat) (listed : Array Bool) : Prop where
 head : HeadInv .any ops n listed
 done : listed.getD s false = true
def IX (ops : Array Oper) (n s : Nat) : Bool :=
 (List.range n).all λi=>i == s || (List.range (n + 1)).any λj=>decide (i < j) && Region.waitsFor .any ops j i
theorem Ee.set {i : Nat} {listed : Array Bool} (inv : Ee ops n s listed) (hi : i ∈ Region.ready .any ops listed) (hin : i < n) : Ee ops n s (listed.setIfInBounds i true) :=
 ⟨inv.head.set hi hin,getD_set_true inv.done⟩
theorem R9 (hs : IX ops n s = true) (hc : Region.chainB .any ops n = true) (hn : n < ops.size) {listed : Array Bool} (inv : Ee ops n s listed) :
 ∀ (d i : Nat),n - i <= d -> i < n -> listed.getD i true = false -> ∀ t,n <= t -> t ∉ Region.ready .any ops listed:=by
 have step : ∀ (t i : Nat),Region.waitsFor .any ops t i = true -> t ∈ Region.ready .any ops listed -> listed.getD i true = true:=by
  intro t i hw hr
  obtain ⟨_,ot,hot,hall⟩:=mem_ready.1 hr
  obtain ⟨o',ho',e,he,hb,hon⟩:=Region.waitsFor_spec hw
  obtain rfl : o' = ot:=Option.some.inj (ho'.symm.trans hot)
  have:=hall e he hb
  rw [hon] at this
  cases h : listed.getD i true with
  | true=>rfl
  | false=>rw [getD_both h] at this;cases this
 intro d
 induction d with
 | zero=>intro i hd hi;omega
 | succ d ih =>
   intro i hd hi hun t ht hr
   have htlt : t < ops.size:=by
    obtain ⟨_,ot,hot,_⟩:=mem_ready.1 hr
    exact (Array.getElem?_eq_some_iff.1 hot).1
   by_cases htn : t = n
   ·subst htn
    have h1:=List.all_eq_true.1 hs i (List.mem_range.2 hi)
    simp only [Bool.or_eq_true,beq_iff_eq] at h1
    rcases h1 with rfl | h1
    ·have:=inv.done;rw [getD_both hun] at this;cases this
    obtain ⟨j,hj,hj2⟩:=List.any_eq_true.1 h1
    simp only [Bool.and_eq_true,decide_eq_true_eq] at hj2
    have hjle : j <= t:=by have:=List.mem_range.1 hj;omega
    by_cases hjt : j = t
    ·subst hjt
     rw [step _ _ hj2.2 hr] at hun;cases hun
    ·cases hl : listed.getD j false with
     | true =>
       obtain ⟨oj,hoj,e,he,hb,hon⟩:=Region.waitsFor_spec hj2.2
       have h2:=inv.head.closed j oj hoj hl e he hb
       rw [hon,getD_both hun] at h2
       cases h2
     | false=>exact ih j (by omega) (by omega) (getD_in (by rw [inv.head.size];omega) hl) t (Nat.le_refl _) hr
   ·have h1:=List.all_eq_true.1 hc t (List.mem_range.2 htlt)
    simp only [Bool.or_eq_true,decide_eq_true_eq] at h1
    rcases h1 with h1 | h1
    ·omega
    ·have h2:=step _ _ h1 hr
     rw [inv.head.tail (t - 1) (by omega) (by omega)] at h2
     cases h2
theorem aac {i : Nat} {oi : Oper} {v : Value} {L : Array Bool -> Act -> Prop} (hi : ops[i]? = some oi) (hsel : ∀ (j : Nat) (o : Oper) cs b,ops[j]? = some o -> o.op ≠ .select cs b)
 (hs : IX ops n s = true) (hc : Region.chainB .any ops n = true) (hn : n < ops.size) (hin : i < n)
 (hdone : ∀ listed a,L listed a -> ∀ j ∈ Region.ready .any ops listed,n <= j) :
 ∀ (f : Nat) (listed : Array Bool) (a : Act),Ee ops n s listed ->
  (∀ j oj,ops[j]? = some oj -> j ≠ i -> listed.getD j true = false -> (∀ e ∈ oj.after,Region.binds .any e = true -> e.on ≠ i) -> oi.apart ops oj = true) ->
  i ∈ Region.ready .any ops listed -> YieldsAt P ops w oi v a ->
  wpAnyL P .any ops w n L f (listed.setIfInBounds i true) (a.put oi.dst v) -> wpAnyL P .any ops w n L (f + 1) listed a:=by
 intro f
 induction f with
 | zero =>
   intro listed a inv _ hr hy H
   refine ⟨λh=>(by rw [h] at hr;cases hr),λj hj=>?_⟩
   have hjn : j < n:=Nat.lt_of_not_le λh=>R9 hs hc hn inv _ i (Nat.le_refl _) hin (mem_ready.1 hr).1 j h hj
   by_cases hji : j = i
   ·subst hji;exact ⟨hjn,hy.stOp hi H⟩
   ·have:=hdone _ _ H j (ready_mono hj hji);omega
 | succ f ih =>
   intro listed a inv hfree hr hy H
   refine ⟨λh=>(by rw [h] at hr;cases hr),λj hj=>?_⟩
   have hjn : j < n:=Nat.lt_of_not_le λh=>R9 hs hc hn inv _ i (Nat.le_refl _) hin (mem_ready.1 hr).1 j h hj
   refine ⟨hjn,?_⟩
   by_cases hji : j = i
   ·subst hji;exact hy.stOp hi H
   ·obtain ⟨hjun,oj,hoj,hall⟩:=mem_ready.1 hj
    have hap:=hfree j oj hoj hji hjun λe he hb heq=>by
     have h1:=hall e he hb
     rw [heq,getD_both (mem_ready.1 hr).1] at h1
     cases h1
    refine stOp_mono (λa' h3=>ih (listed.setIfInBounds j true) a' (inv.set hj hjn) (λk ok hk hki hun hno=>hfree k ok hk hki ?_ hno) (ready_mono hr (Ne.symm hji)) h3.1 ?_)
     (stOp_put hoj hap (λcs b=>hsel i oi cs b hi) (λcs b=>hsel j oj cs b hoj) hy (H.2 j (ready_mono hj hji)).2)
    ·by_cases hjk : j = k
     ·subst hjk;exact hjun
     ·rwa [getD_set_ne true hjk] at hun
    ·rw [Array.setIfInBounds_comm _ _ hji]
     exact h3.2
def IY (ops : Array Oper) (g n : Nat) : List Nat -> Array Bool -> Bool
 | [],listed=>Region.seqB .any ops g n listed
 | k :: ks,listed=>decide (k < n) && (Region.ready .any ops listed).contains k && Region.free .any ops listed k && IY ops g n ks (listed.setIfInBounds k true)
theorem Wy {g : Nat} {Lq : Act -> Prop} (hsel : Region.noSelect ops = true) (hs : IX ops n s = true) (hc : Region.chainB .any ops n = true) (hn : n < ops.size) :
 ∀ (ks : List Nat) (l : List Oper) (listed : Array Bool) (a : Act),ks.map (ops[·]?) = l.map some -> Ee ops n s listed -> IY ops g n ks listed = true -> wpStill P ops w Lq l a ->
 wpAnyL P .any ops w n (λlisted' a'=>Region.seqB .any ops g n listed' = true /\ Lq a') ks.length listed a
 | [],l,listed,a,hl,_,hB,h=>by
   have : l = []:=by simpa using hl.symm
   subst this
   exact ⟨hB,h⟩
 | k :: ks,[],listed,a,hl,_,_,_=>by simp at hl
 | k :: ks,o :: l,listed,a,hl,inv,hB,h=>by
   simp only [List.map_cons,List.cons.injEq] at hl
   simp only [IY,Bool.and_eq_true,decide_eq_true_eq] at hB
   obtain ⟨⟨⟨hkn,hr⟩,hf⟩,hB'⟩:=hB
   have hr' : k ∈ Region.ready .any ops listed:=by simpa using hr
   have hst : stOp P ops w k (wpStill P ops w Lq l) a:=by unfold stOp;simp only [hl.1];exact h
   obtain ⟨v,hy,hK⟩:=yieldsAt_of_stOp hl.1 hst
   exact aac hl.1 (Region.noSelect_spec hsel) hs hc hn hkn (λlisted' a' hL=>seqB_ready hL.1) ks.length listed a inv (Region.free_spec hl.1 hf) hr' hy
    (Wy hsel hs hc hn ks l _ _ hl.2 (inv.set hr' hkn) hB' hK)
end
def Sb (ops : Array Oper) (n s : Nat) (ks : List Nat) : Bool :=
 Region.noSelect ops && decide (n < ops.size) && IX ops n s && Region.chainB .any ops n && decide (ks.length + 1 = n) && (Region.ready .any ops (Array.replicate ops.size false)).contains s && Region.free .any ops (Array.replicate ops.size false) s && decide (s < n) &&
  IY ops (ops.size - n) n ks ((Array.replicate ops.size false).setIfInBounds s true)
theorem Fv {P : Program} {id : Nat} {Q : Exit -> Act -> World -> Prop} {a : Act} {w : World} {l : List Oper} (n s : Nat) (ks : List Nat) (hm : P.follows .mixedOrders = true) (hB : Sb l.toArray n s ks = true)
 (os : Oper) (v : Value) (ho : l[s]? = some os) (hQ : ∀ c a w,Q (.panic c) (a.put os.dst v) w -> Q (.panic c) a w) (hy : Yields P l.toArray os v a) (hl : ks.map (l.toArray[·]?) = ((l.take n).eraseIdx s).map some)
 (h : wpStill P l.toArray w.drew (λa'=>wpList P l.toArray Q (l.drop n) a' w.drew) ((l.take n).eraseIdx s) (a.put os.dst v)) : (Code.region id l.toArray true).wp P Q a w:=by
 simp only [Sb,Bool.and_eq_true,decide_eq_true_eq] at hB
 obtain ⟨⟨⟨⟨⟨⟨⟨⟨hsel,hn⟩,hs⟩,hc⟩,hks⟩,hr⟩,hf⟩,hsn⟩,hlex⟩:=hB
 have ho' : l.toArray[s]? = some os:=by simpa using ho
 have inv0 : HeadInv .any l.toArray n (Array.replicate l.toArray.size false) :=
  ⟨by simp,λj oj _ hl=>(by rw [getD_replicate_false] at hl;cases hl),λt _ ht=>getD_in (by simpa using ht) (getD_replicate_false _ _)⟩
 have hr' : s ∈ Region.ready .any l.toArray (Array.replicate l.toArray.size false):=by simpa using hr
 have inv : Ee l.toArray n s ((Array.replicate l.toArray.size false).setIfInBounds s true):=⟨inv0.set hr' hsn,by
  have hlt : s < l.length:=by
   have : l.toArray.size = l.length:=by simp
   omega
  simp [hlt]⟩
 have H:=Wy (g:=l.toArray.size - n) hsel hs hc hn ks _ _ _ hl inv hlex h
 refine wp_region_any hm ?_
 have hdl : (l.drop n).length = l.toArray.size - n:=by simp
 have:=wpAny_of_head (Q':=Q) (g:=l.toArray.size - n) (λlisted a' hL=>by
  have:=wpAny_of_seq (md:=.any) (Q':=Q) (l.drop n) n listed a' w.drew (λj=>by simp [List.getElem?_drop]) (by rw [hdl];exact hL.1) hL.2
  rwa [hdl] at this) _ _ _ H
 have e : ks.length + (l.toArray.size - n) + 1 = l.toArray.size:=by omega
 rw [← e]
 exact wpAny_take ho' hsel (by rw [e];exact hf) (by rw [e];exact hr) hQ hy (by rw [e];exact this)
end Go.Proofs.YtklkooeimkedgaaGreat
