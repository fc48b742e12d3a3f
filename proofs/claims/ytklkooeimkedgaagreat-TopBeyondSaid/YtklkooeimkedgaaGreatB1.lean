/- Walk of TopBeyond. -/
import Derived.Test.YtklkooeimkedgaaGreatB0
import Derived.Below
import Derived.OpenShut
import Derived.ProofKit
import Derived.SizedLaws
import Derived.WalkKit
import Derived.WalkSmall
set_option linter.unusedVariables false
set_option linter.unusedSimpArgs false
namespace Go.Proofs.YtklkooeimkedgaaGreat
open Go.ChangeShapes Go.WideShapes Go.RowKit
theorem wf_i64 {a : Int} (h : (Lit.int .i64 a).wf = true) : -9223372036854775808 <= a /\ a <= 9223372036854775807:=by
 simp [Lit.wf,IntKind.min,IntKind.max,IntKind.bits,IntKind.signed] at h;omega
variable {P : Program} {w : World} {r : Reach} {b : Nat}
theorem lN {u : TypeId} {k : IntKind} {x : Value} (hu : P.underlying u = some (.int k)) (h : Cell.okWide P w r b u x) : ∃ n,x = .int k n /\ (Lit.int k n).wf = true:=by
 have h':=h
 simp only [Cell.okWide,hu] at h'
 cases x <;> simp_all [Cell.ok,IntKind.has,Lit.wf]
theorem OZ {u : TypeId} {x : Value} (hu : P.underlying u = some .bool) (h : Cell.okWide P w r b u x) : ∃ n,x = .bool n:=by
 have h':=h
 simp only [Cell.okWide,hu] at h'
 cases x <;> simp_all [Cell.ok]
theorem O5 {t : TypeId} {v : Value} {ts : List TypeId} {n : Nat} (ht : (∃ fs,P.underlying t = some (.struct fs)) \/ (∃ m e,P.underlying t = some (.array m e)))
 (hc : P.cellsOf t = n) (hts : P.cellTypes P.depth t = some ts) (h : Value.okWide P w r b t v) :
 ∃ cs : Array Value,v = .agg cs /\ cs.size = n /\ ∀ i x,cs[i]? = some x -> ∃ u,ts[i % ts.length]? = some u /\ Cell.okWide P w r b u x:=by
 have key : ∃ cs,v = .agg cs /\ cs.size = P.cellsOf t /\ Row.okWide P w r b t cs:=by
  rcases ht with ⟨fs,hf⟩ | ⟨m,e,hf⟩
  ·simpa only [Value.okWide,hf] using h
  ·simpa only [Value.okWide,hf] using h
 obtain ⟨cs,rfl,hs,ts',h1,_,h2⟩:=key
 rw [hts] at h1
 obtain rfl:=Option.some.inj h1
 exact ⟨cs,rfl,hs.trans hc,h2⟩
theorem abB {cs : Array Value} (h : cs.size = 11) : ∃ c0 c1 c2 c3 c4 c5 c6 c7 c8 c9 c10 : Value,cs = #[c0,c1,c2,c3,c4,c5,c6,c7,c8,c9,c10]:=by
 obtain ⟨l⟩:=cs
 match l,h with
 | [c0,c1,c2,c3,c4,c5,c6,c7,c8,c9,c10],_=>exact ⟨c0,c1,c2,c3,c4,c5,c6,c7,c8,c9,c10,rfl⟩
end Go.Proofs.YtklkooeimkedgaaGreat
