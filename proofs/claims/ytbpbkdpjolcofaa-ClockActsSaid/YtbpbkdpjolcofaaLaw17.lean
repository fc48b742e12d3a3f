/- The laws of layer 17: how a clock goes on in a loop; the example. -/
import Derived.Test.YtbpbkdpjolcofaaClock5
import Derived.Test.YtbpbkdpjolcofaaActs
import Derived.Test.YtbpbkdpjolcofaaOpen
namespace Go.Proofs.Ytbpbkdpjolcofaa
set_option linter.unusedVariables false
set_option linter.unusedSimpArgs false
open Go.RowKit

/-- a clock in a loop: its blocks are none of those below B, which stay -/
structure Run (c : Cfg) (b B : Nat) (w0 : World) (n : Nat) (s : CS) (S : Nat → Prop) (wr : World) : Prop where
  at' : CkAt wr b c s S
  up : ∀ k, S k → B ≤ k
  ok : s.Ok c
  len : s.L.length ≤ n
  below : Below B w0 wr
  size : B ≤ wr.heap.size

theorem Run.step {c : Cfg} {b B : Nat} {w0 : World} {n : Nat} {s s' : CS} {S : Nat → Prop} {w w' : World} (h : Run c b B w0 n s S w) (hk : CkAt w' b c s' (Grow S w w')) (ho : Only S w w') (ok : s'.Ok c) {m : Nat} (hl : s'.L.length ≤ m) :
    Run c b B w0 m s' (Grow S w w') w' :=
  ⟨hk, fun k e => e.1.elim (h.up k) (fun hh => Nat.le_trans h.size hh), ok, hl, h.below.trans (ho.below h.size h.up), Nat.le_trans h.size ho.size⟩
theorem Run.stay {c : Cfg} {b B : Nat} {w0 : World} {n : Nat} {s s' : CS} {S : Nat → Prop} {w w' : World} (h : Run c b B w0 n s S w) (hk : CkAt w' b c s' S) (ho : Only S w w') (ok : s'.Ok c) (hl : s'.L.length ≤ n) :
    Run c b B w0 n s' S w' :=
  ⟨hk, h.up, ok, hl, h.below.trans (ho.below h.size h.up), Nat.le_trans h.size ho.size⟩
theorem Run.under {c : Cfg} {b B : Nat} {w0 : World} {n : Nat} {s : CS} {S : Nat → Prop} {w w' : World} (h : Run c b B w0 n s S w) (hb : Below w.heap.size w w') : Run c b B w0 n s S w' :=
  ⟨h.at'.only (Only.of_below (S := noB) hb) (fun _ _ hf => hf), h.up, h.ok, h.len, h.below.trans (hb.mono h.size), Nat.le_trans h.size hb.size⟩
theorem Run.more {c : Cfg} {b B : Nat} {w0 : World} {n m : Nat} {s : CS} {S : Nat → Prop} {w : World} (h : Run c b B w0 n s S w) (hm : n ≤ m) : Run c b B w0 m s S w :=
  ⟨h.at', h.up, h.ok, Nat.le_trans h.len hm, h.below, h.size⟩

theorem i64_0 : I64 0 := ⟨by decide, by decide⟩
theorem cs0_ok {c : Cfg} (hc : cchk c = 0) : (cs0 c).Ok c :=
  ⟨fun x hx => (by simp [cs0] at hx), by simp [cs0], ⟨Int.le_refl _, i64_0.2⟩, targF_lim (cchk_ok hc).2.1 0, i64_0, i64_0, .inl rfl⟩

theorem run_sample {c : Cfg} (okc : c.Ok) (hc : cchk c = 0) {b B : Nat} {w0 : World} {n : Nat} (hn : n < 1000) {s : CS} {S : Nat → Prop} {w : World} (h : Run c b B w0 n s S w) (x y : Int) (hx : I64 x) (hy : I64 y) :
    Calls Try.prog 12 #[.pointer (some ⟨b, 0, none⟩), .int .i64 x, .int .i64 y] w fun e w' => e = .returned (.int .i64 0) ∧ Run c b B w0 (n + 1) (smp c s (subF x y)) (Grow S w w') w' ∧ Only S w w' :=
  (csample_f b c okc hc s h.ok (by have := h.len; omega) x y hx hy S w h.at').mono fun e w' ⟨he, hk, ho⟩ =>
    ⟨he, h.step hk ho (smp_ok h.ok (cchk_ok hc).2.1 (subF_i64 _ _) (by have := h.len; omega)) (by have := h.len; simp [smp]; omega), ho⟩
theorem run_frame {c : Cfg} (hc : cchk c = 0) {b B : Nat} {w0 : World} {n : Nat} {s : CS} {S : Nat → Prop} {w : World} (h : Run c b B w0 n s S w) (x : Int) (hx : I64 x) (hL : s.L ≠ []) :
    Calls Try.prog 13 #[.pointer (some ⟨b, 0, none⟩), .int .i64 x] w fun e w' => e = .returned (.tuple #[.int .i64 (frm c s x).at0, .bool true]) ∧ Run c b B w0 n (frm c s x) S w' ∧ Only S w w' :=
  (cframe_f b c hc s h.ok x hx S w h.at' hL).mono fun e w' ⟨he, hk, ho⟩ => ⟨he, h.stay hk ho (frm_ok h.ok hx) h.len, ho⟩

def exE : Cfg := ⟨1, 2, 10, 0, 0, 100, 0, 1, 1, 0, false⟩
theorem exE_ok : exE.Ok := by constructor <;> exact ⟨by decide, by decide⟩
theorem exE_val : cfgV exE = .agg #[.int .i64 1, .int .i64 2, .int .i64 10, .int .i64 0, .int .i64 0, .int .i64 100, .int .i64 0, .int .i64 1, .int .i64 1, .int .i64 0, .bool false] := rfl
theorem example17_f (w : World) : Calls Try.prog 33 #[] w fun e w' => e = .returned (cfgV exE) ∧ Below w.heap.size w w' := by
  go_enter Try.func33, Try.ntmps33
  go_wp2
  exact bodyPost_ret (v := cfgV exE) (by rw [exE_val]; simp [results, Try.results33, go_sem]) rfl ⟨rfl, (Below.refl _ _).alloc (Nat.le_refl _) _⟩

set_option maxRecDepth 100000 in
theorem alive17_f (w : World) : Calls Try.prog 11 #[] w fun e w' => e = .returned (.bool true) ∧ Below w.heap.size w w' := by
  have ex := example17_f
  have hc : cchk exE = 0 := by decide
  have nw := cnew_ok exE exE_ok hc
  rw [exE_val] at ex nw
  go_enter Try.func11, Try.ntmps11
  go_wp2_with fail
  refine (ex _).mono ?_; rintro e w' ⟨rfl, hb0⟩
  have HB0 := Lib.hid hb0
  clear hb0
  go_wp2_with fail
  refine (nw _).mono ?_; rintro e w1 ⟨b, S, rfl, hk, hup, hb1⟩
  have R0 : Run exE b w.heap.size w 0 (cs0 exE) S w1 := ⟨hk, fun k e => Nat.le_trans HB0.out.size (hup k e), cs0_ok hc, Nat.le_refl _, HB0.out.trans (hb1.mono HB0.out.size), Nat.le_trans HB0.out.size hb1.size⟩
  clear hk hup hb1 ex nw HB0
  have f1 := cframe_none b exE hc (cs0 exE) 7 S w1 R0.at' rfl
  go_wp2_with fail
  refine f1.mono ?_; rintro e w' ⟨rfl, rfl⟩
  have sm := run_sample exE_ok hc (by omega) R0 100 40 ⟨by decide, by decide⟩ ⟨by decide, by decide⟩
  rw [show subF 100 40 = 60 by decide] at sm
  clear f1 R0
  go_wp2_with fail
  refine sm.mono ?_; rintro e w2 ⟨rfl, R1, _⟩
  have f2 := run_frame hc R1 105 ⟨by decide, by decide⟩ (by simp [smp])
  rw [show (frm exE (smp exE (cs0 exE) 60) 105).at0 = 35 by decide] at f2
  clear sm R1
  go_wp2_with fail
  refine f2.mono ?_; rintro e w3 ⟨rfl, R2, _⟩
  have f3 := run_frame hc R2 120 ⟨by decide, by decide⟩ (by simp [smp, frm])
  rw [show (frm exE (frm exE (smp exE (cs0 exE) 60) 105) 120).at0 = 50 by decide] at f3
  clear f2 R2
  go_wp2_with fail
  refine f3.mono ?_; rintro e w4 ⟨rfl, R3, _⟩
  have HB := Lib.hid R3.below
  clear R3 f3
  go_wp2
  go_ret
  exact ⟨rfl, HB.out⟩
end Go.Proofs.Ytbpbkdpjolcofaa
