/- Walk of TopBeyond. -/
import Derived.ChangeKeysEq
import Derived.Test.YtklkooeimkedgaaGreatB12
set_option linter.unusedVariables false
set_option linter.unusedSimpArgs false
namespace Go.Proofs.YtklkooeimkedgaaGreat
open Go.RowKit
set_option maxRecDepth 8000
theorem rA (cs : Array Value) (off : Nat) (v : Value) (h : cs[off]? = some v) (w : World) : (part 4 cs off).run Tryz.prog w = .ok v w:=by
 simp [part,h,go_sem]
theorem jP (cs : Array Value) (off : Nat) (v : Value) (h : cs[off]? = some v) (w : World) : (part 2 cs off).run Tryz.prog w = .ok v w:=by
 simp [part,h,go_sem]
theorem Qh : ∃ i,Tryz.prog.info? 4 = some i:=by
 cases h : Tryz.prog.info? 4 with
 | some i=>exact ⟨i,rfl⟩
 | none =>
   have : (Tryz.prog.info? 4).isSome = true:=by kernel_rfl
   simp [h] at this
theorem Js : ∃ i,Tryz.prog.info? 2 = some i:=by
 cases h : Tryz.prog.info? 2 with
 | some i=>exact ⟨i,rfl⟩
 | none =>
   have : (Tryz.prog.info? 2).isSome = true:=by kernel_rfl
   simp [h] at this
@[go_sem] theorem aeE (a b c d e f : Bool) (w : World) :
 (Op.equalIn 10000 121 (.agg #[.bool a,.bool b,.bool c]) (.agg #[.bool d,.bool e,.bool f])).run Tryz.prog w = .ok (a == d && b == e && c == f) w:=by
 obtain ⟨i,hi⟩:=Qh
 rw [show 10000 = 9999 + 1 from rfl,run_equalIn_array w 9999 _ _ Tryz.underlying121 hi,show Tryz.prog.cellsOf 4 = 1 by kernel_rfl]
 have q:=λx y=>run_equalIn_bool' (P:=Tryz.prog) w 9998 4 x y Tryz.underlying4
 simp only [show List.range 3 = [0,1,2] from rfl,Op.eqItems,Sem.run_bind,rA #[.bool a,.bool b,.bool c] 0 (.bool a) rfl w,rA #[.bool d,.bool e,.bool f] 0 (.bool d) rfl w,rA #[.bool a,.bool b,.bool c] 1 (.bool b) rfl w,rA #[.bool d,.bool e,.bool f] 1 (.bool e) rfl w,rA #[.bool a,.bool b,.bool c] 2 (.bool c) rfl w,rA #[.bool d,.bool e,.bool f] 2 (.bool f) rfl w,Result.andThen_ok,Nat.zero_mul,Nat.one_mul,Nat.mul_one,q]
 cases a <;> cases b <;> cases c <;> cases d <;> cases e <;> cases f <;> rfl
@[go_sem] theorem af8 (a b c d e f : Int) (w : World) :
 (Op.equalIn 10000 22 (.agg #[.int .i64 a,.int .i64 b,.int .i64 c]) (.agg #[.int .i64 d,.int .i64 e,.int .i64 f])).run Tryz.prog w = .ok (a == d && b == e && c == f) w:=by
 obtain ⟨i,hi⟩:=Js
 rw [show 10000 = 9999 + 1 from rfl,run_equalIn_array w 9999 _ _ Tryz.underlying22 hi,show Tryz.prog.cellsOf 2 = 1 by kernel_rfl]
 have q : ∀ x y : Int,(Op.equalIn 9999 2 (.int .i64 x) (.int .i64 y)).run Tryz.prog w = .ok (x == y) w:=λx y=>run_equalIn_int (P:=Tryz.prog) w 9998 2 .i64 .i64 x y Tryz.underlying2
 have p0:=jP #[.int .i64 a,.int .i64 b,.int .i64 c] 0 _ rfl w;have p1:=jP #[.int .i64 a,.int .i64 b,.int .i64 c] 1 _ rfl w;have p2:=jP #[.int .i64 a,.int .i64 b,.int .i64 c] 2 _ rfl w;have r0:=jP #[.int .i64 d,.int .i64 e,.int .i64 f] 0 _ rfl w;have r1:=jP #[.int .i64 d,.int .i64 e,.int .i64 f] 1 _ rfl w;have r2:=jP #[.int .i64 d,.int .i64 e,.int .i64 f] 2 _ rfl w
 rw [show List.range 3 = [0,1,2] from rfl]
 cases h0 : (a == d) <;> cases h1 : (b == e) <;> cases h2 : (c == f) <;> simp [Op.eqItems,p0,p1,p2,r0,r1,r2,q,h0,h1,h2]
end Go.Proofs.YtklkooeimkedgaaGreat
