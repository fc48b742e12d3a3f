/- Walk of TopExact. -/
import Derived.ChangeKeysEq
import Derived.Test.YtklkooeimkedgaaGreatE17
set_option linter.unusedVariables false
set_option linter.unusedSimpArgs false
namespace Go.Proofs.YtklkooeimkedgaaGreat
open Go.RowKit
set_option maxRecDepth 8000
theorem jS (cs : Array Value) (off : Nat) (v : Value) (h : cs[off]? = some v) (w : World) : (part 2 cs off).run Tryz.prog w = .ok v w:=by
 simp [part,h,go_sem]
theorem Jo : ∃ i,Tryz.prog.info? 2 = some i:=by
 cases h : Tryz.prog.info? 2 with
 | some i=>exact ⟨i,rfl⟩
 | none =>
   have : (Tryz.prog.info? 2).isSome = true:=by kernel_rfl
   simp [h] at this
@[go_sem] theorem afp (a b c d e f : Int) (w : World) :
 (Op.equalIn 10000 22 (.agg #[.int .i64 a,.int .i64 b,.int .i64 c]) (.agg #[.int .i64 d,.int .i64 e,.int .i64 f])).run Tryz.prog w = .ok (a == d && b == e && c == f) w:=by
 obtain ⟨i,hi⟩:=Jo
 rw [show 10000 = 9999 + 1 from rfl,run_equalIn_array w 9999 _ _ Tryz.underlying22 hi,show Tryz.prog.cellsOf 2 = 1 by kernel_rfl]
 have q : ∀ x y : Int,(Op.equalIn 9999 2 (.int .i64 x) (.int .i64 y)).run Tryz.prog w = .ok (x == y) w:=λx y=>run_equalIn_int (P:=Tryz.prog) w 9998 2 .i64 .i64 x y Tryz.underlying2
 have p0:=jS #[.int .i64 a,.int .i64 b,.int .i64 c] 0 _ rfl w;have p1:=jS #[.int .i64 a,.int .i64 b,.int .i64 c] 1 _ rfl w;have p2:=jS #[.int .i64 a,.int .i64 b,.int .i64 c] 2 _ rfl w;have r0:=jS #[.int .i64 d,.int .i64 e,.int .i64 f] 0 _ rfl w;have r1:=jS #[.int .i64 d,.int .i64 e,.int .i64 f] 1 _ rfl w;have r2:=jS #[.int .i64 d,.int .i64 e,.int .i64 f] 2 _ rfl w
 rw [show List.range 3 = [0,1,2] from rfl]
 cases h0 : (a == d) <;> cases h1 : (b == e) <;> cases h2 : (c == f) <;> simp [Op.eqItems,p0,p1,p2,r0,r1,r2,q,h0,h1,h2]
end Go.Proofs.YtklkooeimkedgaaGreat
