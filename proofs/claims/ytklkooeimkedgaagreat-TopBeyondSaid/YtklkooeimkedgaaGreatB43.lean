/- Walk of TopBeyond. -/
import Derived.Test.YtklkooeimkedgaaGreatB42
set_option linter.unusedVariables false
set_option linter.unusedSimpArgs false
namespace Go.Proofs.YtklkooeimkedgaaGreat
open Go.RowKit
set_option maxRecDepth 100000
theorem lI.weaken {w : World} {R : Nat} {l : List aG} {most floor : Int} {gone : Bool} {S S' : Nat -> Prop} {v : Value} (h : lI w R l most floor gone S v) (hs : ∀ k,S k -> S' k) : lI w R l most floor gone S' v :=
 ⟨h.blk,h.row,h.ents,hs _ h.sR,λj e=>hs _ (h.sv j e),λk hk j e=>hs _ (h.se k hk j e),h.up,h.len⟩
theorem RingAt.weaken {w : World} {R : Nat} {l : List aG} {most floor : Int} {gone : Bool} {S S' : Nat -> Prop} (h : RingAt w R l most floor gone S) (hs : ∀ k,S k -> S' k) : RingAt w R l most floor gone S':=by
 obtain ⟨v,h⟩:=h;exact ⟨v,h.weaken hs⟩
theorem Hg {w : World} {base base' k k' n n' : Nat} {e e' : TypeId} {v v' : Value} {xs xs' : List Value} (h : w.ownsRow base e k v n xs) (h' : w.ownsRow base' e' k' v' n' xs') (ht : e ≠ e') {j : Nat} (hj : v.ownBlock = some j) (hj' : v'.ownBlock = some j) : False:=by
 obtain ⟨_,⟨rfl,_⟩ | ⟨g,cap,cur,rfl,_,hh,_⟩⟩:=h
 ·cases hj
 obtain ⟨_,⟨rfl,_⟩ | ⟨g',cap',cur',rfl,_,hh',_⟩⟩:=h'
 ·cases hj'
 cases hj;cases hj'
 rw [hh] at hh'
 cases hh'
 exact ht rfl
theorem Ki {l : List aG} {key : Int} (h : ∀ k ∈ l,k.key < key) : dX l key = l.length:=by
 induction l with
 | nil=>rfl
 | cons y l ih =>
   unfold dX at *
   rw [List.takeWhile_cons_of_pos (by simpa using h y (by simp))]
   simp only [List.length_cons]
   rw [ih (λk hk=>h k (by simp [hk]))]
theorem UQ {l : List aG} {key : Int} (h : ∀ k ∈ l,k.key < key) : eF l key = false:=by
 unfold eF
 rw [Ki h,List.getElem?_eq_none (Nat.le_refl _)];rfl
theorem Kj {y : aG} {l : List aG} {key : Int} (h : y.key < key) : dX (y :: l) key = dX l key + 1:=by
 unfold dX;rw [List.takeWhile_cons_of_pos (by simpa using h)];rfl
theorem Kk {y : aG} {l : List aG} {key : Int} (h : ¬ y.key < key) : dX (y :: l) key = 0:=by
 unfold dX;rw [List.takeWhile_cons_of_neg (by simpa using h)];rfl
def yC (l : List aG) (p : Nat) (x : aG) : List aG:=l.take p ++ x :: l.drop p
def nU (l : List aG) (x : aG) : List aG:=yC l (dX l x.key) x
theorem UR (l : List aG) (p : Nat) (x : aG) : (yC l p x).length = l.length + 1:=by
 unfold yC;rw [List.length_append,List.length_cons,List.length_take,List.length_drop];omega
theorem D9 {l : List aG} {p : Nat} {x k : aG} (h : k ∈ yC l p x) : k = x \/ k ∈ l:=by
 unfold yC at h
 rcases List.mem_append.1 h with h | h
 ·exact .inr (List.mem_of_mem_take h)
 ·rcases List.mem_cons.1 h with h | h
  ·exact .inl h
  ·exact .inr (List.mem_of_mem_drop h)
theorem MN {y : aG} {l : List aG} {x : aG} (h : y.key < x.key) : nU (y :: l) x = y :: nU l x:=by
 unfold nU yC;rw [Kj h];rfl
theorem MO {y : aG} {l : List aG} {x : aG} (h : ¬ y.key < x.key) : nU (y :: l) x = x :: y :: l:=by
 unfold nU yC;rw [Kk h];rfl
theorem MP : ∀ {l : List aG} {x : aG},qF l -> eF l x.key = false -> qF (nU l x)
 | [],x,_,_=>List.pairwise_singleton _ _
 | y :: l,x,hu,hh=>by
   have hp:=List.pairwise_cons.1 hu
   by_cases hy : y.key < x.key
   ·rw [MN hy]
    refine List.pairwise_cons.2 ⟨λz hz=>?_,MP hp.2 (by unfold eF at hh ⊢;rw [Kj hy] at hh;exact hh)⟩
    rcases D9 hz with rfl | hz
    ·exact hy
    ·exact hp.1 z hz
   ·rw [MO hy]
    have hne : ¬ y.key = x.key:=by
     unfold eF at hh;rw [Kk hy] at hh
     simpa using hh
    refine List.pairwise_cons.2 ⟨λz hz=>?_,hu⟩
    rcases List.mem_cons.1 hz with rfl | hz
    ·omega
    ·have:=hp.1 z hz;omega
theorem xS : ∀ (l : List aG) (p : Nat),(l.flatMap oQ).take (p * 4) = (l.take p).flatMap oQ /\ (l.flatMap oQ).drop (p * 4) = (l.drop p).flatMap oQ
 | [],p=>by simp
 | y :: l,0=>by simp
 | y :: l,p + 1=>by
   obtain ⟨h1,h2⟩:=xS l p
   have e : (p + 1) * 4 = (oQ y).length + p * 4:=by show _ = 4 + _;omega
   constructor
   ·rw [List.flatMap_cons,e,List.take_length_add_append,h1];rfl
   ·rw [List.flatMap_cons,e,List.drop_length_add_append,h2];rfl
theorem MQ (l : List aG) : ∀ u ∈ l.flatMap oQ,u.oneCell' = true:=by
 intro u hu
 obtain ⟨k,_,hk⟩:=List.mem_flatMap.1 hu
 unfold oQ at hk
 simp at hk
 rcases hk with rfl | rfl | rfl | rfl <;> rfl
theorem Rp (l : List aG) (p : Nat) (x : aG) : (yC l p x).flatMap oQ = (l.flatMap oQ).take (p * 4) ++ [.int .i64 x.key,.int .i64 x.sn.tick,.int .i64 x.sn.time,fQ x] ++ (l.flatMap oQ).drop (p * 4):=by
 unfold yC
 rw [List.flatMap_append,List.flatMap_cons,(xS l p).1,(xS l p).2,← List.append_assoc]
 rfl
def sP (w : World) (R X : Nat) (v : Value) (n : Nat) (xs : List Value) (most floor : Int) (gone : Bool) (k t m : Int) (s : Value) (ys : List Value) : List Value -> World -> Prop
 | [],W=>ak W R #[v,.int .i64 most,.int .i64 floor,.bool gone] vF /\ ak W X #[.int .i64 t,.int .i64 m,s] 36 /\ Only (λj=>v.ownBlock = some j) w W /\ W.ownsRow 0 bL 4 v n xs
 | [u],W=>ak W R #[v,.int .i64 most,.int .i64 floor,.bool gone] vF /\ ak W X #[.int .i64 t,.int .i64 m,s] 36 /\ Only (λj=>v.ownBlock = some j) w W /\ W.ownsRow 0 bL 4 v n xs /\ ∃ g,u = .slice (some ⟨g,0,none⟩) 1 1 /\ ak W g #[.int .i64 k,.int .i64 t,.int .i64 m,s] bL /\ v.ownBlock ≠ some g
 | [u,v'],W=>ak W R #[v,.int .i64 most,.int .i64 floor,.bool gone] vF /\ ak W X #[.int .i64 t,.int .i64 m,s] 36 /\ Only (λj=>v.ownBlock = some j) w W /\ W.ownsRow 0 bL 4 v' (n + 1) ys /\ (v'.ownBlock = v.ownBlock \/ ∃ j,v'.ownBlock = some j /\ w.heap.size <= j /\ j < W.heap.size)
 | _,_=>False
theorem sP.ring {w : World} {R X : Nat} {v : Value} {n : Nat} {xs : List Value} {most floor : Int} {gone : Bool} {k t m : Int} {s : Value} {ys : List Value} {b : List Value} {W : World} (h : sP w R X v n xs most floor gone k t m s ys b W) : ak W R #[v,.int .i64 most,.int .i64 floor,.bool gone] vF /\ ak W X #[.int .i64 t,.int .i64 m,s] 36:=by
 unfold sP at h
 split at h
 ·exact ⟨h.1,h.2.1⟩
 ·exact ⟨h.1,h.2.1⟩
 ·exact ⟨h.1,h.2.1⟩
 ·exact h.elim
theorem Kl {w0 w1 WZ : World} {R : Nat} {l l2 : List aG} {most floor fl : Int} {gone g2 : Bool} {S : Nat -> Prop} {v v2 : Value} (hP : lI w1 R l most floor gone S v) (hB1 : Below w0.heap.size w0 w1)
 (hb : ak WZ R #[v2,.int .i64 most,.int .i64 fl,.bool g2] vF) (ho : Only (λj=>v.ownBlock = some j \/ j = R) w1 WZ) (hr : WZ.ownsRow 0 bL 4 v2 l2.length (l2.flatMap oQ)) (hv : v2.ownBlock = v.ownBlock \/ ∃ j,v2.ownBlock = some j /\ w0.heap.size <= j /\ j < WZ.heap.size)
 (jE : ∀ k ∈ l2,k ∈ l \/ (aM w1 0 (fQ k) k.sn.ents /\ (∀ e ∈ k.sn.ents,e.Ok) /\ ∀ j,(fQ k).ownBlock = some j -> S j)) (hup : qF l2) (hlen : (l2.length : Int) <= 64) :
 RingAt WZ R l2 most fl g2 (λk=>S k \/ (w0.heap.size <= k /\ k < WZ.heap.size)) /\ Only S w0 WZ:=by
 have hall : ∀ k ∈ l2,aM w1 0 (fQ k) k.sn.ents /\ (∀ e ∈ k.sn.ents,e.Ok) /\ ∀ j,(fQ k).ownBlock = some j -> S j:=λk hk=>by
  rcases jE k hk with h | h
  ·exact ⟨(hP.ents k h).1,(hP.ents k h).2,hP.se k h⟩
  ·exact h
 have hO : Only S w0 WZ:=(Only.of_below hB1).trans (ho.weaken (λk _ hk=>by
  rcases hk with hk | hk
  ·exact hP.sv k hk
  ·rw [hk];exact hP.sR))
 refine ⟨⟨v2,hb,hr,λk hk=>?_,.inl hP.sR,λj hj=>?_,λk hk j hj=>.inl ((hall k hk).2.2 j hj),hup,hlen⟩,hO⟩
 ·obtain ⟨a1,a2,a3⟩:=hall k hk
  refine ⟨a1.only ho (λj hj hv'=>?_),a2⟩
  rcases hv' with hv' | hv'
  ·exact Hg a1 hP.row (by decide) hj hv'
  ·exact bJ a1 hP.blk (by decide) (by rw [hj,hv'])
 ·rcases hv with h | ⟨j',h1,h2,h3⟩
  ·exact .inl (hP.sv j (by rw [← h];exact hj))
  ·rw [h1] at hj;cases hj;exact .inr ⟨h2,h3⟩
def aeY (R : Nat) (l l2 : List aG) (most floor : Int) (gone : Bool) (S : Nat -> Prop) (w : World) (e : Ending) (w' : World) : Prop :=
 ((l2.length : Int) <= most /\ e = .returned (.tuple #[.int .i64 0,.bool false,.int .i64 0]) /\ RingAt w' R l2 most floor gone (λk=>S k \/ (w.heap.size <= k /\ k < w'.heap.size)) /\ Only S w w') \/
 (most < (l2.length : Int) /\ ∃ k0,l2[0]? = some k0 /\ e = .returned (.tuple #[.int .i64 k0.key,.bool true,.int .i64 0]) /\ RingAt w' R (l2.drop 1) most k0.key true (λk=>S k \/ (w.heap.size <= k /\ k < w'.heap.size)) /\ Only S w w')
set_option maxHeartbeats 4000000 in
theorem ZF (R : Nat) (l : List aG) (most floor : Int) (gone : Bool) (S : Nat -> Prop) (x : aG) (w : World) (h : RingAt w R l most floor gone S)
 (hx : aM w 0 (fQ x) x.sn.ents) (hok : ∀ e ∈ x.sn.ents,e.Ok) (hsx : ∀ j,(fQ x).ownBlock = some j -> S j) (hhas : eF l x.key = false) (hroom : (l.length : Int) <= most) (Wi : most <= 64) (hfl : gone = true -> floor < x.key) (Oh : (l.length : Int) = most -> 0 < dX l x.key) :
 Calls Tryz.prog 78 #[.pointer (some ⟨R,0,none⟩),.int .i64 x.key,.agg #[.int .i64 x.sn.tick,.int .i64 x.sn.time,fQ x]] w (aeY R l (nU l x) most floor gone S w):=by
 have hup : qF (nU l x):=by
  obtain ⟨v,hp⟩:=h
  exact MP hp.up hhas
 have Wj : (nU l x).length = l.length + 1:=UR _ _ _
 have Oi:=Rp l (dX l x.key) x;have aeZ:=zm l x.key
 have hmem : ∀ k ∈ nU l x,k = x \/ k ∈ l:=λk hk=>D9 hk
 have pl:=λw h=>D6 R l most floor gone S x.key w h
 rw [hhas] at pl
 rw [show yC l (dX l x.key) x = nU l x from rfl] at Oi
 generalize nU l x = l2 at *
 generalize dX l x.key = p at *
 obtain ⟨k0,hk0⟩ : ∃ k0,l2[0]? = some k0:=⟨_,List.getElem?_eq_getElem (by omega)⟩
 obtain ⟨yD,Oj⟩ : ∃ q,k0.key = q:=⟨_,rfl⟩
 obtain ⟨ys,hys⟩ : ∃ ys,l2.flatMap oQ = ys:=⟨_,rfl⟩
 have hyh : ys[0]? = some (.int .i64 yD):=by
  cases l2 with
  | nil=>simp at hk0
  | cons y l2=>simp at hk0;subst hk0;rw [← hys,← Oj];rfl
 have Wm : ∀ u ∈ ys,u.oneCell' = true:=by rw [← hys];exact MQ l2
 have ins : ∀ (a : Option Addr) (c g : Nat) (W : World),W.ownsRow 0 bL 4 (.slice a l.length c) l.length (l.flatMap oQ) -> ak W g #[.int .i64 x.key,.int .i64 x.sn.tick,.int .i64 x.sn.time,fQ x] bL -> (Value.slice a l.length c).ownBlock ≠ some g -> _:=λa c g W h1 h2 h3=>abS a c l.length p (l.flatMap oQ) aeZ g x.key x.sn.tick x.sn.time (fQ x) rfl W h1 (MQ l) h2 h3 (by omega)
 rw [← Oi,hys] at ins
 obtain ⟨w0,hw0⟩ : ∃ w0,w.alloc (.cells #[.int .i64 x.sn.tick,.int .i64 x.sn.time,fQ x] 36) = w0:=⟨_,rfl⟩
 have HB0 : Hid (Below w.heap.size w w0):=aiS (by rw [← hw0];exact aiT)
 have HX0 : Hid (ak w0 w.heap.size #[.int .i64 x.sn.tick,.int .i64 x.sn.time,fQ x] 36):=aiS (by rw [← hw0];exact ak.new _ _ _)
 have xU : Hid (w0.heap.size = w.heap.size + 1):=aiS (by rw [← hw0];simp)
 have J3:=aiS (h.below HB0.out);have HE:=aiS (And.intro hok (And.intro hsx hx));have HFL:=aiS hfl
 have HPL : Hid (qF l2 /\ l2.length = l.length + 1 /\ (∀ k ∈ l2,k = x \/ k ∈ l) /\ l2[0]? = some k0 /\ k0.key = yD /\ l2.flatMap oQ = ys /\ ys[0]? = some (.int .i64 yD) /\ (∀ u ∈ ys,u.oneCell' = true)):=aiS ⟨hup,Wj,hmem,hk0,Oj,hys,hyh,Wm⟩
 have ae0:=aiS ins;have ae1:=aiS Oh;clear h hx hok hsx hfl hup Wj Oi hmem hk0 Oj hys hyh Wm ins Oh hhas
 go_enter Tryz.func78,Tryz.ntmps78
 go_wp2_with fail
 clear hw0
 refine (pl w0 J3.out).mono ?_
 rintro e w1 ⟨rfl,hB1⟩
 have HB1:=aiS (HB0.out.trans (hB1.mono HB0.out.size));have fu:=aiS (HX0.out.below hB1 HX0.out.lt)
 obtain ⟨v,hP⟩:=J3.out.below hB1
 have HP:=aiS hP
 obtain ⟨a,c,rfl,_,hlc⟩:=hP.slice
 have c0:=hP.blk.cell 0;have c1:=hP.blk.cell 1;have c2:=hP.blk.cell 2;have c3:=hP.blk.cell 3;simp at c0 c1 c2 c3;clear hB1 HB0 HX0 J3 pl hP hlc xU
 have hnn : (l.length : Int) <= 64:=by omega
 rcases Nat.eq_zero_or_pos p with hz | hz
 case' inl =>
  subst hz
  have n1 : ¬ (l.length : Int) = most:=λhh=>Nat.lt_irrefl 0 (ae1.out hh)
  have n3 : ((l.length : Int) == most) = false:=by simpa using n1
 case' inr =>
  have n1 : ¬ (p : Int) = 0:=by omega
  have n3 : ((p : Int) == 0) = false:=by simpa using n1
  have n4 : ¬ p = 0:=by omega
 all_goals (cases gone)
 all_goals
  ((try (have n6 : ¬ x.key <= floor:=by (have:=HFL.out rfl;omega)))
   go_wp2_with fail
   refine aQ 12 (by kernel_rfl) (by kernel_rfl) ?_
   simp only [List.take_succ_cons,List.take_zero,List.drop_succ_cons,List.drop_zero]
   repeat (apply aA;(next=>(intro W hW K hK;have y0:=hW.cell c0;have y1:=hW.cell c1;have y2:=hW.cell c2;have y3:=hW.cell c3;go_simp;first | exact ⟨hW,hK⟩ | exact hK));(next=>exact aH.self _);(try go_simp))
   refine aT ?_
   intro WC aP
   have bP : Below w1.heap.size w1 WC:=aP
   have HI:=aiS (show sP WC R w.heap.size (.slice a l.length c) l.length (l.flatMap oQ) most floor _ x.key x.sn.tick x.sn.time (fQ x) ys [] WC.drew from
    ⟨HP.out.blk.below (Below.drew bP) HP.out.blk.lt,fu.out.below (Below.drew bP) fu.out.lt,Only.of_below (Below.drew aiU),oU HP.out.row (Only.of_below (S:=λ_=>False) (Below.drew bP)) (λ_ _ h=>h)⟩)
   have HB2:=aiS (HB1.out.trans (Below.mono aP HB1.out.size));have HWC:=aiS bP;clear aP bP c0 c1 c2 c3
   go_wp2_with fail
   apply lG 11 [9,10] (sP WC R w.heap.size (.slice a l.length c) l.length (l.flatMap oQ) most floor _ x.key x.sn.tick x.sn.time (fQ x) ys)
   case hm=>kernel_rfl
   case hB=>kernel_rfl
   case hp=>kernel_rfl
   case hI=>exact HI.out
   simp only [List.take_succ_cons,List.take_zero,List.drop_succ_cons,List.drop_zero]
   repeat (apply bZ;(next=>rfl);(next=>(intro b W hW K hK;have y0:=(sP.ring hW).1.cell 0;have y1:=(sP.ring hW).2.cell 0;have y2:=(sP.ring hW).2.cell 1;have y3:=(sP.ring hW).2.cell 2;simp at y0 y1 y2 y3;go_simp;first | exact ⟨hW,hK⟩ | exact hK));(next=>exact ⟨_,HI.out⟩);(try go_simp))
   apply dL (s:=λ_=>True)
   case hk=>rfl
   case hne=>exact ⟨undef,trivial⟩
   case hw=>rfl
   case h =>
    intro W hW
    obtain ⟨h1,h2,h3,h4⟩:=hW
    have HN:=aiS (show sP WC R w.heap.size (.slice a l.length c) l.length (l.flatMap oQ) most floor _ x.key x.sn.tick x.sn.time (fQ x) ys [.slice (some ⟨W.heap.size,0,none⟩) 1 1] (W.alloc (.cells #[.int .i64 x.key,.int .i64 x.sn.tick,.int .i64 x.sn.time,fQ x] bL)) from ⟨h1.alloc _,h2.alloc _,h3.alloc _,h4.alloc _,_,rfl,ak.new _ _ _,λhh=>Nat.lt_irrefl _ (h4.lt _ hh).2⟩)
    clear h1 h2 h3 h4
    go_simp
    first | exact HN.out | exact ⟨trivial,HN.out⟩
   intro u1 _
   repeat (apply bZ;(next=>rfl);(next=>(intro b W hW K hK;have y0:=(sP.ring hW).1.cell 0;have y1:=(sP.ring hW).2.cell 0;have y2:=(sP.ring hW).2.cell 1;have y3:=(sP.ring hW).2.cell 2;simp at y0 y1 y2 y3;go_simp;first | exact ⟨hW,hK⟩ | exact hK));(next=>exact ⟨_,HI.out⟩);(try go_simp))
   apply dL (s:=λ_=>True)
   case hk=>rfl
   case hne=>exact ⟨undef,trivial⟩
   case hw=>rfl
   case h =>
    intro W hW
    obtain ⟨h1,h2,h3,h4,g,rfl,h5,h6⟩:=hW
    go_simp
    refine (ae0.out a c g W h4 h5 h6).mono ?_
    rintro e w2 ⟨v2,rfl,i1,i2,i3⟩
    first | refine ⟨v2,rfl,?_⟩ | refine ⟨v2,rfl,trivial,?_⟩
    have ne1:=bJ h4 h1 (by decide)
    have ne2:=bJ h4 h2 (by decide)
    refine ⟨h1.grown i2 ne1,h2.grown i2 ne2,h3.trans (jc i2),i1,?_⟩
    rcases i3 with i3 | i3
    ·exact .inl i3
    ·exact .inr ⟨_,i3,h3.size,(i1.lt _ i3).2⟩
   intro v2 _
   repeat (apply bZ;(next=>rfl);(next=>(intro b W hW K hK;have y0:=(sP.ring hW).1.cell 0;have y1:=(sP.ring hW).2.cell 0;have y2:=(sP.ring hW).2.cell 1;have y3:=(sP.ring hW).2.cell 2;simp at y0 y1 y2 y3;go_simp;first | exact ⟨hW,hK⟩ | exact hK));(next=>exact ⟨_,HI.out⟩);(try go_simp))
   refine kC ?_
   intro WD JN
   obtain ⟨g1,g2,g3,g4,g5⟩:=JN
   obtain ⟨gb,c2',rfl,hc2⟩ : ∃ gb c2',v2 = .slice (some ⟨gb,0,none⟩) (l.length + 1) c2' /\ l.length + 1 <= c2':=by
    obtain ⟨_,⟨rfl,hn⟩ | ⟨g,cap,cur,rfl,q1,q2,q3⟩⟩:=g4
    ·omega
    ·exact ⟨_,_,rfl,q3.1⟩
   obtain ⟨WE,hWE⟩ : ∃ WE,WD.setCell ⟨R,0,none⟩ (.slice (some ⟨gb,0,none⟩) (l.length + 1) c2') = WE:=⟨_,rfl⟩
   have hRv:=bJ g4 g1 (by decide)
   have Rq:=g1.set 0 (.slice (some ⟨gb,0,none⟩) (l.length + 1) c2')
   have Rs : Only (λk=>k = R) WD (WD.setCell ⟨R,0,none⟩ (.slice (some ⟨gb,0,none⟩) (l.length + 1) c2')):=Only.setCell (S:=λk=>k = R) (p:=⟨R,0,none⟩) (Only.refl _ _) (.inl rfl) _
   rw [hWE] at Rq Rs
   have hrE:=oU g4 Rs (λj hj hk=>hRv (by rw [hj,hk]))
   have Ri : Only (λj=>(Value.slice a l.length c).ownBlock = some j \/ j = R) w1 WE:=((Only.of_below HWC.out).trans (g3.weaken (λk _ hk=>Or.inl hk))).trans (Rs.weaken (λk _ hk=>Or.inr hk))
   have HVE : Hid ((Value.slice (some ⟨gb,0,none⟩) (l.length + 1) c2').ownBlock = (Value.slice a l.length c).ownBlock \/ ∃ j,(Value.slice (some ⟨gb,0,none⟩) (l.length + 1) c2').ownBlock = some j /\ w1.heap.size <= j /\ j < WE.heap.size):=aiS (g5.imp id (λ⟨j,q1,q2,q3⟩=>⟨j,q1,Nat.le_trans (Below.size HWC.out) q2,Nat.lt_of_lt_of_le q3 Rs.size⟩))
   have r0:=g1.cell 0;have r1:=Rq.cell 0;have r2:=Rq.cell 1;have f0:=g1.free 0;simp at r0 r1 r2 f0;have HRE:=aiS hrE;have sI:=aiS Rq;have HOE:=aiS Ri;clear g1 g2 g3 g4 g5 Rq Rs hrE Ri hRv
   go_wp2_with fail
   refine aQ 9 (by kernel_rfl) (by kernel_rfl) ?_
   simp only [List.take_succ_cons,List.take_zero,List.drop_succ_cons,List.drop_zero]
   repeat (apply aA;(next=>(intro W hW K hK;have y0:=hW.cell r1;have y1:=hW.cell r2;go_simp;first | exact ⟨hW,hK⟩ | exact hK));(next=>exact aH.self _);(try go_simp))
   refine aT ?_
   intro WF aP
   have Km : Below WE.heap.size WE WF:=aP
   have BM:=sI.out.below Km sI.out.lt
   have MR:=oU HRE.out (Only.of_below (S:=λ_=>False) Km) (λ_ _ h=>h)
   have Wn:=HOE.out.eX Km
   have Wo : (Value.slice (some ⟨gb,0,none⟩) (l.length + 1) c2').ownBlock = (Value.slice a l.length c).ownBlock \/ ∃ j,(Value.slice (some ⟨gb,0,none⟩) (l.length + 1) c2').ownBlock = some j /\ w1.heap.size <= j /\ j < WF.heap.size:=HVE.out.imp id (λ⟨j,q1,q2,q3⟩=>⟨j,q1,q2,Nat.lt_of_lt_of_le q3 Km.size⟩)
   clear aP Km r0 r1 r2 f0 hWE sI HRE HOE HVE
   obtain ⟨p1,p2,p3,p4,p5,p6,p7,p8⟩:=HPL.out
   have jE : ∀ k ∈ l2,k ∈ l \/ (aM w1 0 (fQ k) k.sn.ents /\ (∀ e ∈ k.sn.ents,e.Ok) /\ ∀ j,(fQ k).ownBlock = some j -> S j):=λk hk=>by
    rcases p3 k hk with rfl | hk
    ·exact .inr ⟨HE.out.2.2.below HB1.out,HE.out.1,HE.out.2.1⟩
    ·exact .inl hk
   by_cases m1 : ((l.length + 1 : Nat) : Int) <= most
   ·have HF:=aiS (Kl (l2:=l2) HP.out HB1.out (by simpa using BM) Wn (by rw [p2,p6];exact MR) (Wo.imp id (λ⟨j,q1,q2,q3⟩=>⟨j,q1,Nat.le_trans HB1.out.size q2,q3⟩)) jE p1 (by rw [p2];omega))
    have GY : Hid ((l2.length : Int) <= most):=aiS (by rw [p2];exact m1)
    clear BM MR Wn Wo p1 p2 p3 p4 p5 p6 p7 p8 jE
    go_wp2_with fail
    exact bodyPost_ret (v:=.tuple #[.int .i64 0,.bool false,.int .i64 0]) (by simp [results,Tryz.results78,go_sem]) rfl (.inl ⟨GY.out,rfl,HF.out⟩)
   ·(try (exfalso;omega))
    all_goals
     (have hy0 : WF.cell? ⟨gb,0,none⟩ = some (.int .i64 yD):=by
       have h:=MR.cells (g:=gb) rfl 0 _ p7
       have e : (⟨gb,0,none⟩ : Addr).add 0 = ⟨gb,0,none⟩:=by unfold Addr.add;split <;> simp_all
       rwa [e] at h
      have hRv:=bJ MR BM (by decide)
      have hne : ¬ gb = R:=λe=>hRv (by rw [e];rfl)
      have hne' : ¬ R = gb:=λe=>hne e.symm
      have s0:=BM.cell 0;have s1:=BM.cell 1;have s2:=BM.cell 2;have s3:=BM.cell 3;have f2:=BM.free 2;have f3:=(BM.set 2 (.int .i64 yD)).free 3
      obtain ⟨WG,hWG⟩ : ∃ WG,(WF.setCell ⟨R,2,none⟩ (.int .i64 yD)).setCell ⟨R,3,none⟩ (.bool true) = WG:=⟨_,rfl⟩
      have Wp:=(BM.set 2 (.int .i64 yD)).set 3 (.bool true)
      have Rt : Only (λk=>k = R) WF ((WF.setCell ⟨R,2,none⟩ (.int .i64 yD)).setCell ⟨R,3,none⟩ (.bool true)):=Only.setCell (S:=λk=>k = R) (p:=⟨R,3,none⟩) (Only.setCell (S:=λk=>k = R) (p:=⟨R,2,none⟩) (Only.refl _ _) (.inl rfl) _) (.inl rfl) _
      rw [hWG] at Wp Rt
      have ZG:=oU MR Rt (λj hj hk=>hRv (by rw [hj,hk]))
      have hoG:=Wn.trans (Rt.weaken (λk _ hk=>Or.inr hk))
      have del:=UO (some ⟨gb,0,none⟩) c2' (l.length + 1) ys (by have:=m1;omega) (by omega) p8 WG ZG
      have t0:=Wp.cell 0;simp at s0 s1 s2 s3 f2 f3 t0
      rw [Nat.add_sub_cancel] at del
      have HVG : Hid ((Value.slice (some ⟨gb,0,none⟩) (l.length + 1) c2').ownBlock = (Value.slice a l.length c).ownBlock \/ ∃ j,(Value.slice (some ⟨gb,0,none⟩) (l.length + 1) c2').ownBlock = some j /\ w1.heap.size <= j /\ j < WG.heap.size):=aiS (Wo.imp id (λ⟨j,q1,q2,q3⟩=>⟨j,q1,q2,Nat.lt_of_lt_of_le q3 Rt.size⟩))
      have HBG:=aiS Wp;have HOG:=aiS hoG;have ZH:=aiS ZG;have ae2:=aiS jE
      have HMO : Hid (most < ((l.length + 1 : Nat) : Int)):=aiS (by omega)
      clear BM MR Wn Wo Wp Rt ZG hoG p1 p2 p3 p4 p5 p6 p7 p8 jE hRv
      go_wp2_with fail
      refine del.mono ?_
      rintro e WH ⟨rfl,d1,d2⟩
      have hRv:=bJ ZH.out HBG.out (by decide)
      have Ru:=HBG.out.grown d2 hRv
      have hoH : Only (λj=>(Value.slice a l.length c).ownBlock = some j \/ j = R) w1 WH:=HOG.out.aW (jc d2) (λi hi hh=>by
       rcases HVG.out with h | ⟨j,q1,q2,_⟩
       ·exact .inl (by rw [← h];exact hh)
       ·rw [hh] at q1;cases q1;omega)
      have ZI:=bJ d1 Ru (by decide)
      have ZJ:=Ru.set 0 (.slice (some ⟨gb,0,none⟩) l.length c2')
      have Wq : Only (λk=>k = R) WH (WH.setCell ⟨R,0,none⟩ (.slice (some ⟨gb,0,none⟩) l.length c2')):=Only.setCell (S:=λk=>k = R) (p:=⟨R,0,none⟩) (Only.refl _ _) (.inl rfl) _
      have hrZ:=oU d1 Wq (λj hj hk=>ZI (by rw [hj,hk]))
      have hoZ:=hoH.trans (Wq.weaken (λk _ hk=>Or.inr hk))
      have z2:=ZJ.cell 2;have z0:=Ru.cell 0;have fz:=Ru.free 0;simp at z2 z0 fz
      obtain ⟨p1,p2,p3,p4,p5,p6,p7,p8⟩:=HPL.out
      have hl3 : (l2.drop 1).length = l.length:=by rw [List.length_drop,p2];rfl
      have HF:=aiS (Kl (l2:=l2.drop 1) HP.out HB1.out (by simpa using ZJ) hoZ (by rw [hl3,← (xS l2 1).2,p6];exact hrZ) (by
       rcases HVG.out with h | ⟨j,q1,q2,q3⟩
       ·exact .inl h
       ·exact .inr ⟨j,q1,Nat.le_trans HB1.out.size q2,Nat.lt_of_lt_of_le q3 (Nat.le_trans d2.size Wq.size)⟩) (λk hk=>ae2.out k (List.mem_of_mem_drop hk)) (p1.sublist (List.drop_sublist _ _)) (by rw [hl3];omega))
      have Ws : Hid (most < (l2.length : Int) /\ l2[0]? = some k0 /\ k0.key = yD):=aiS ⟨by rw [p2];exact HMO.out,p4,p5⟩
      clear d1 d2 Ru hoH ZI ZJ Wq hrZ hoZ p1 p2 p3 p4 p5 p6 p7 p8 hl3 del s0 s1 s2 s3 t0 f2 f3 hy0 hRv
      go_wp2_with fail
      exact bodyPost_ret (v:=.tuple #[.int .i64 yD,.bool true,.int .i64 0]) (by simp [results,Tryz.results78,go_sem]) rfl (.inr ⟨Ws.out.1,k0,Ws.out.2.1,by rw [Ws.out.2.2],by rw [Ws.out.2.2];exact HF.out.1,HF.out.2⟩)))
set_option maxRecDepth 100000
structure gG (w : World) (T R : Nat) (l : List aG) (most floor : Int) (gone : Bool) (S : Nat -> Prop) : Prop where
 blk : ∃ cs : List Int,cs.length = 18 /\ ak w T (#[.pointer (some ⟨R,0,none⟩),.int .i64 most] ++ (cs.map (Value.int .i64)).toArray) 145
 ring : RingAt w R l most floor gone S
 sT : S T
theorem gG.cells {w : World} {T R : Nat} {l : List aG} {most floor : Int} {gone : Bool} {S : Nat -> Prop} (h : gG w T R l most floor gone S) : w.cell? ⟨T,0,none⟩ = some (.pointer (some ⟨R,0,none⟩)) /\ w.cell? ⟨T,1,none⟩ = some (.int .i64 most):=by
 obtain ⟨⟨cs,hcs,hb⟩,_,_⟩:=h
 have h0:=hb.cell 0;have h1:=hb.cell 1;simp at h0 h1
 exact ⟨h0,h1⟩
theorem gG.only {w w' : World} {T R : Nat} {l : List aG} {most floor : Int} {gone : Bool} {S U : Nat -> Prop} (h : gG w T R l most floor gone S) (ho : Only U w w') (hd : ∀ k,S k -> ¬ U k) : gG w' T R l most floor gone S:=by
 obtain ⟨⟨cs,hcs,hb⟩,h2,h3⟩:=h
 exact ⟨⟨cs,hcs,ho.blk hb (hd _ h3)⟩,h2.only ho hd,h3⟩
theorem gG.below {w w' : World} {T R : Nat} {l : List aG} {most floor : Int} {gone : Bool} {S : Nat -> Prop} (h : gG w T R l most floor gone S) (hb : Below w.heap.size w w') : gG w' T R l most floor gone S :=
 h.only (Only.of_below (S:=λ_=>False) hb) (λ_ _ h=>h)
theorem ZK (p m : Value) : #[p,m] ++ ((List.replicate 18 (0 : Int)).map (Value.int .i64)).toArray = #[p,m,.int .i64 0,.int .i64 0,.int .i64 0,.int .i64 0,.int .i64 0,.int .i64 0,.int .i64 0,.int .i64 0,.int .i64 0,.int .i64 0,.int .i64 0,.int .i64 0,.int .i64 0,.int .i64 0,.int .i64 0,.int .i64 0,.int .i64 0,.int .i64 0]:=by simp [List.replicate]
set_option maxHeartbeats 1000000 in
theorem UU (most : Int) (h1 : 1 <= most) (h2 : most <= 64) (w : World) :
 Calls Tryz.prog 33 #[.int .i64 most] w λe w'=>∃ T,e = .returned (.tuple #[.pointer (some ⟨T,0,none⟩),.int .i64 0]) /\ gG w' T w.heap.size [] most 0 false (λk=>w.heap.size <= k /\ k < w'.heap.size) /\ Below w.heap.size w w' /\ w.heap.size <= T /\ T < w'.heap.size:=by
 have rn:=UK most h1 h2
 go_enter Tryz.func33,Tryz.ntmps33
 go_wp2_with fail
 refine (rn _).mono ?_
 rintro e w1 ⟨rfl,hR,hB,hlt⟩
 have HF:=aiS (show gG (w1.alloc (.cells #[.pointer (some ⟨w.heap.size,0,none⟩),.int .i64 most,.int .i64 0,.int .i64 0,.int .i64 0,.int .i64 0,.int .i64 0,.int .i64 0,.int .i64 0,.int .i64 0,.int .i64 0,.int .i64 0,.int .i64 0,.int .i64 0,.int .i64 0,.int .i64 0,.int .i64 0,.int .i64 0,.int .i64 0,.int .i64 0] 145)) w1.heap.size w.heap.size [] most 0 false (λk=>w.heap.size <= k /\ k < w1.heap.size + 1) from
  ⟨⟨List.replicate 18 0,List.length_replicate,by rw [ZK];exact ak.new _ _ _⟩,(hR.below (aiT)).weaken (λk hk=>by subst hk;omega),by omega⟩)
 have HB:=aiS (show Below w.heap.size w (w1.alloc (.cells #[.pointer (some ⟨w.heap.size,0,none⟩),.int .i64 most,.int .i64 0,.int .i64 0,.int .i64 0,.int .i64 0,.int .i64 0,.int .i64 0,.int .i64 0,.int .i64 0,.int .i64 0,.int .i64 0,.int .i64 0,.int .i64 0,.int .i64 0,.int .i64 0,.int .i64 0,.int .i64 0,.int .i64 0,.int .i64 0] 145)) from hB.alloc hB.size _)
 have dI:=aiS hlt;clear rn hR hB hlt
 go_wp2_with fail
 exact bodyPost_ret (v:=.tuple #[.pointer (some ⟨w1.heap.size,0,none⟩),.int .i64 0]) (by simp [results,Tryz.results33,go_sem]) rfl ⟨w1.heap.size,rfl,by simpa using HF.out,HB.out,by have:=dI.out;omega,by simp⟩
theorem fP.own {w : World} {a : Option Addr} {es : List aB} (h : fP w a es) (hm : es ≠ []) : ∃ b off,a = some ⟨b,off,none⟩ /\ ∀ j u,(es.flatMap jZ)[j]? = some u -> w.cell? ⟨b,off + j,none⟩ = some u:=by
 obtain ⟨h1,h2⟩:=h
 rcases h2 with h2 | ⟨b,off,rfl,hb,hc⟩
 ·exact absurd (List.eq_nil_of_length_eq_zero h2) hm
 refine ⟨b,off,rfl,λj u hj=>?_⟩
 have hlen : (es.flatMap jZ).length = es.length * 9:=qE (λ_=>rfl) es
 have hjl : j < es.length * 9:=by rw [← hlen];exact (List.getElem?_eq_some_iff.1 hj).1
 have hi : j / 9 < es.length:=by omega
 have hx : es[j / 9]? = some (es.getD (j / 9) bK):=by
  rw [List.getElem?_eq_getElem hi];simp [List.getD,hi]
 have hf:=CP (enc:=jZ) (λ_=>rfl) es (j / 9) _ hx (j % 9) (by omega)
 rw [show j / 9 * 9 + j % 9 = j by omega,hj] at hf
 have hcc : dF w b (off + j / 9 * 9) (es.getD (j / 9) bK):=hc (j / 9) hi
 obtain ⟨c0,c1,c2,c3,c4,c5,c6,c7,c8⟩:=hcc
 generalize es.getD (j / 9) bK = e at *
 have hr : j % 9 < 9:=by omega
 have e9 : off + j = off + j / 9 * 9 + j % 9:=by omega
 rw [e9]
 generalize j % 9 = r at *
 match r,hr with
 | 0,_=>cases hf;exact c0
 | 1,_=>cases hf;exact c1
 | 2,_=>cases hf;exact c2
 | 3,_=>cases hf;exact c3
 | 4,_=>cases hf;exact c4
 | 5,_=>cases hf;exact c5
 | 6,_=>cases hf;exact c6
 | 7,_=>cases hf;exact c7
 | 8,_=>cases hf;exact c8
end Go.Proofs.YtklkooeimkedgaaGreat
