/- Parts of the walk of TopOrders: Open. -/
import Derived.Below
import Derived.OpenShut
import Derived.ProofKit
import Derived.SizedLaws
import Derived.WalkKit
import Derived.WalkSmall
set_option linter.unusedVariables false
set_option linter.unusedSimpArgs false
namespace Go.Proofs.YtklkooeimkedgaaGreat
open Go.ChangeShapes Go.WideShapes Go.RowKit
theorem wf_i64 {a : Int} (h : (Lit.int .i64 a).wf = true) : -9223372036854775808 <= a /\ a <= 9223372036854775807:=by
 simp [Lit.wf,IntKind.min,IntKind.max,IntKind.bits,IntKind.signed] at h;omega
theorem wf_u16 {a : Int} (h : (Lit.int .u16 a).wf = true) : 0 <= a /\ a <= 65535:=by
 simp [Lit.wf,IntKind.min,IntKind.max,IntKind.bits,IntKind.signed] at h;omega
theorem wf_u8 {a : Int} (h : (Lit.int .u8 a).wf = true) : 0 <= a /\ a <= 255:=by
 simp [Lit.wf,IntKind.min,IntKind.max,IntKind.bits,IntKind.signed] at h;omega
variable {P : Program} {w : World} {r : Reach} {b : Nat}
theorem Ue {u : TypeId} {k : IntKind} {x : Value} (hu : P.underlying u = some (.int k)) (h : Cell.okWide P w r b u x) : ∃ n,x = .int k n /\ (Lit.int k n).wf = true:=by
 have h':=h
 simp only [Cell.okWide,hu] at h'
 cases x <;> simp_all [Cell.ok,IntKind.has,Lit.wf]
end Go.Proofs.YtklkooeimkedgaaGreat
