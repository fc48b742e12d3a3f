/- Walk of TopBeyond. -/
import Derived.Laws.AppendOwnNone
import Derived.OpenShut
import Derived.OwnWalk
import Derived.Test.YtklkooeimkedgaaGreatB2
import Derived.Test.YtklkooeimkedgaaGreatB6
set_option linter.unusedVariables false
set_option linter.unusedSimpArgs false
namespace Go.Proofs.YtklkooeimkedgaaGreat
open Go.RowKit
set_option maxRecDepth 8000
abbrev uj (a : Int) : Prop:=0 <= a /\ a <= 4294967295
abbrev U8 (a : Int) : Prop:=0 <= a /\ a <= 255
theorem Pk {a : Int} (h : U8 a) : (Lit.int .u8 a).wf = true:=by
 obtain ⟨h1,h2⟩:=h
 simp [Lit.wf,IntKind.min,IntKind.max,IntKind.bits,IntKind.signed];omega
theorem abE {a : Int} (h : (Lit.int .u8 a).wf = true) : U8 a:=bounds_u8 h
def aV (zs : List Int) : Prop:=∀ z ∈ zs,U8 z
theorem aV.app {a b : List Int} (h : aV a) (k : aV b) : aV (a ++ b):=λz hz=>by
 rcases List.mem_append.1 hz with hz | hz
 ·exact h z hz
 ·exact k z hz
theorem aV.one {a : Int} (h : U8 a) : aV [a]:=λz hz=>by simp at hz;subst hz;exact h
theorem aV.nil : aV []:=λz hz=>by simp at hz
abbrev BytesAt (w : World) (a : Option Addr) (len : Nat) (zs : List Int) : Prop:=jT .u8 w a len zs
theorem jT.below {k : IntKind} {w w' : World} {a : Option Addr} {len : Nat} {zs : List Int} (h : jT k w a len zs) (hb : Below w.heap.size w w') : jT k w' a len zs:=by
 obtain ⟨h1,h2,h3⟩:=h
 refine ⟨h1,h2,?_⟩
 rcases h3 with h3 | ⟨b,off,e,hl,hc⟩
 ·exact .inl h3
 ·exact .inr ⟨b,off,e,Nat.lt_of_lt_of_le hl hb.size,λi hi=>(hb.cell (p:=⟨b,off + i,none⟩) hl).trans (hc i hi)⟩
theorem jT.u8 {w : World} {a : Option Addr} {len : Nat} {zs : List Int} (h : jT .u8 w a len zs) : aV zs:=λz hz=>abE (h.2.1 z hz)
def aY (w : World) (base : Nat) (v : Value) (zs : List Int) : Prop:=w.ownsRow base 5 1 v zs.length (zs.map (Value.int .u8)) /\ aV zs
theorem aY.nil (w : World) (base : Nat) : aY w base (.slice none 0 0) []:=⟨World.ownsRow_nil _ _ _ _,aV.nil⟩
theorem aY.bytes {w : World} {base : Nat} {v : Value} {zs : List Int} (h : aY w base v zs) : ∃ a c,v = .slice a zs.length c /\ BytesAt w a zs.length zs /\ (a = none -> c = 0):=by
 obtain ⟨h,h8⟩:=h
 have hwf : ∀ z ∈ zs,(Lit.int .u8 z).wf = true:=λz hz=>Pk (h8 z hz)
 have h':=h
 obtain ⟨_,⟨rfl,h0⟩ | ⟨g,cap,cur,rfl,hb,hg,hk,hm,hs,ht⟩⟩:=h'
 ·rw [h0]
  refine ⟨none,0,rfl,⟨h0,hwf,.inl rfl⟩,λ_=>rfl⟩
 ·refine ⟨_,_,rfl,⟨rfl,hwf,.inr ⟨g,0,rfl,(Array.getElem?_eq_some_iff.1 hg).1,λi hi=>?_⟩⟩,λh=>by cases h⟩
  have c:=h.cells (g:=g) rfl i (.int .u8 (zs.getD i 0)) (by simp [List.getD,hi])
  have e : (⟨g,0,none⟩ : Addr).add i = ⟨g,0 + i,none⟩:=by unfold Addr.add;split <;> simp_all
  rw [e] at c
  exact c
theorem aY.below {w w' : World} {base : Nat} {v : Value} {zs : List Int} (h : aY w base v zs) (hb : Below w.heap.size w w') : aY w' base v zs:=by
 obtain ⟨⟨h1,h2⟩,h8⟩:=h
 refine ⟨⟨h1,?_⟩,h8⟩
 rcases h2 with h2 | ⟨g,cap,cur,hv,hg,hh,r⟩
 ·exact Or.inl h2
 ·exact Or.inr ⟨g,cap,cur,hv,hg,by rw [hb.block g (Array.getElem?_eq_some_iff.1 hh).1];exact hh,r⟩
theorem Pm : (Tryz.prog.info? 5).map (λi=>(i.zero,i.size,i.bytes)) = some (some (.int .u8 0),1,1):=by kernel_rfl
theorem bF {ops : Array Oper} {rest : List Oper} {o : Oper} {a : Act} {Q : Exit -> Act -> World -> Prop} (w : World) (hgd : o.guard = none) (s x : Operand)
 (ho : o.op = .call { callee:=.builtin .append,args:=#[s,x],argTypes:=#[42,42] })
 (base : Nat) (v : Value) (xs : List Int) (hs : a.eval s = v) (hown : aY w base v xs)
 (ao : Option Addr) (m c : Nat) (zs : List Int) (hx : a.eval x = .slice ao m c) (hz : BytesAt w ao m zs) (hc : ao = none -> c = 0)
 (hb : xs.length + m <= 140737488355328) (hbase : base <= w.heap.size)
 (h : ∀ v' w',aY w' base v' (xs ++ zs) -> w.grownBy w' v.ownBlock -> wpList Tryz.prog ops Q rest (a.put o.dst v') w') : wpList Tryz.prog ops Q (o :: rest) a w:=by
 obtain ⟨i0,hi,hz0,hz1,hz2⟩:=info_parts Pm
 have h8:=hz.u8
 obtain ⟨hl,hw,hz⟩:=hz
 obtain ⟨hown,wW⟩:=hown
 cases ao with
 | none =>
   obtain rfl:=hc rfl
   have hm : m = 0:=by
    rcases hz with hz | ⟨b,off,e,_⟩
    ·exact hz
    ·cases e
   subst hm
   have hzs : zs = []:=List.eq_nil_of_length_eq_zero hl
   subst hzs
   refine wpList_append_own_none hgd s x 42 ho base 5 i0 1 Tryz.underlying42 hi v xs.length (xs.map (Value.int .u8)) hs hown hx ?_
   have:=h v w ⟨by simpa using hown,by simpa using wW⟩ (World.grownBy.refl _ _)
   exact this
 | some ad =>
   refine wpList_append_own w hgd s x 42 ho base 5 i0 (.int .u8 0) 1 1 Tryz.underlying42 hi hz0 hz1 hz2 rfl (by decide) v xs.length (xs.map (Value.int .u8)) hs hown ad m c (zs.map (Value.int .u8)) hx (by simp [hl]) ?_ (ints_oneCell _ _) (by unfold maxLen;omega) (by omega) hbase ?_
   ·intro j u hj
    have hj' : j < m:=by
     have:=(List.getElem?_eq_some_iff.1 hj).1
     simpa [hl] using this
    rcases hz with hz | ⟨b,off,e,hbl,hcell⟩
    ·omega
    ·cases e
     have e : (⟨b,off,none⟩ : Addr).add j = ⟨b,off + j,none⟩:=by unfold Addr.add;split <;> simp_all
     rw [e,hcell j hj']
     simp [List.getD,show j < zs.length by omega] at hj ⊢
     exact hj
   ·intro v' w' h1 h2 _
    refine h v' w' ⟨?_,wW.app h8⟩ h2
    rw [List.length_append,hl,List.map_append]
    exact h1
theorem aY.lt {w : World} {base : Nat} {v : Value} {zs : List Int} (h : aY w base v zs) : ∀ j,v.ownBlock = some j -> base <= j /\ j < w.heap.size:=λj e=>h.1.lt j e
end Go.Proofs.YtklkooeimkedgaaGreat
