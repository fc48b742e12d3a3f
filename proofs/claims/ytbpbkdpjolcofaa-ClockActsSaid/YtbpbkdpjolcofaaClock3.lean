/- package clock: the object. -/
import Derived.Test.YtbpbkdpjolcofaaClock1
import Derived.Test.YtbpbkdpjolcofaaClock2
namespace Go.Proofs.Ytbpbkdpjolcofaa
set_option linter.unusedVariables false
set_option linter.unusedSimpArgs false
open Go.RowKit

/-- the last so many -/
def lastN (n : Nat) (L : List Int) : List Int := L.drop (L.length - n)
theorem lastN_len (n : Nat) (L : List Int) : (lastN n L).length = min n L.length := by unfold lastN; rw [List.length_drop]; omega
theorem lastN_snoc_room {n : Nat} {L : List Int} (h : L.length < n) (x : Int) : lastN n (L ++ [x]) = lastN n L ++ [x] := by
  unfold lastN
  rw [List.length_append, List.length_singleton, show L.length + 1 - n = 0 by omega, show L.length - n = 0 by omega]
  rfl
theorem lastN_snoc_full {n : Nat} {L : List Int} (hn : 1 ≤ n) (h : n ≤ L.length) (x : Int) : ∃ y M, lastN n L = y :: M ∧ M.length + 1 = n ∧ lastN n (L ++ [x]) = M ++ [x] := by
  have hl := lastN_len n L
  cases hd : lastN n L with
  | nil => rw [hd] at hl; simp at hl; omega
  | cons y M =>
    rw [hd] at hl
    simp at hl
    refine ⟨y, M, rfl, by omega, ?_⟩
    unfold lastN at hd ⊢
    rw [List.length_append, List.length_singleton, show L.length + 1 - n = L.length - n + 1 by omega, List.drop_append_of_le_length (by omega)]
    rw [← List.drop_drop, hd]
    rfl
theorem lastN_mem {n : Nat} {L : List Int} {x : Int} (h : x ∈ lastN n L) : x ∈ L := List.mem_of_mem_drop h
theorem lastN_nil {n : Nat} {L : List Int} (hn : 1 ≤ n) : lastN n L = [] ↔ L = [] := by
  have hl := lastN_len n L
  constructor
  · intro h
    rw [h] at hl
    exact List.length_eq_zero_iff.1 (by simp at hl; omega)
  · rintro rfl; simp [lastN]

theorem wadd_f (b : Nat) (n : Nat) (hn : 1 ≤ n) (hn2 : n ≤ 64) (L : List Int) (S : Nat → Prop) (x : Int) (w : World) (h : WinAt w b n (lastN n L) S) :
    Calls Try.prog 34 #[.pointer (some ⟨b, 0, none⟩), .int .i64 x] w fun e w' => e = .returned (.int .i64 0) ∧ WinAt w' b n (lastN n (L ++ [x])) (fun k => S k ∨ w.heap.size ≤ k) ∧ Only S w w' := by
  have hl := lastN_len n L
  by_cases hc : L.length < n
  · rw [lastN_snoc_room hc]
    have g1 : ((lastN n L).length : Int) < n := by omega
    have g2 : (lastN n L).length ≤ 1000 := by omega
    exact wadd_room b n (lastN n L) S x w h g1 g2
  · obtain ⟨y, M, h1, h2, h3⟩ := lastN_snoc_full hn (Nat.le_of_not_lt hc) x
    rw [h3]
    rw [h1] at h
    subst h2
    have hb : M.length ≤ 1000 := by omega
    exact wadd_full b y M S x w (by simpa using h) hb

theorem WinP.cap {w : World} {b : Nat} {most : Int} {L1 L2 L3 : List Int} {S : Nat → Prop} {v1 v2 v3 : Value} {g1 g2 g3 : Option Nat} (h : WinP w b most L1 L2 L3 S v1 v2 v3 g1 g2 g3) : WinP w b most L1 L2 L3 (fun k => S k ∧ k < w.heap.size) v1 v2 v3 g1 g2 g3 :=
  ⟨h.blk, h.last, h.low, h.high, ⟨h.sb, h.blk.lt⟩, fun k e => ⟨⟨(h.s1 k e).1, h.last.gt k e⟩, (h.s1 k e).2⟩, fun k e => ⟨⟨(h.s2 k e).1, h.low.gt k e⟩, (h.s2 k e).2⟩, fun k e => ⟨⟨(h.s3 k e).1, h.high.gt k e⟩, (h.s3 k e).2⟩, h.d12, h.d13, h.d23⟩
theorem WinAt.cap {w : World} {b : Nat} {most : Int} {L : List Int} {S : Nat → Prop} (h : WinAt w b most L S) : WinAt w b most L (fun k => S k ∧ k < w.heap.size) := by
  obtain ⟨v1, v2, v3, g1, g2, g3, h⟩ := h
  exact ⟨v1, v2, v3, g1, g2, g3, h.cap⟩

/-- how a clock stands: all differences, the estimate, the delay, where it stands, the last reading, whether it was begun -/
structure CS where
  L : List Int
  jit : Int
  dly : Int
  at0 : Int
  last : Int
  st : Int

/-- its numbers fit -/
structure CS.Ok (c : Cfg) (s : CS) : Prop where
  l : ∀ x ∈ s.L, I64 x
  len : s.L.length ≤ 1000
  jit : 0 ≤ s.jit ∧ s.jit ≤ 9223372036854775807
  dly : InLim c s.dly
  at0 : I64 s.at0
  last : I64 s.last
  st : s.st = 0 ∨ s.st = 1

structure CkP (w : World) (b : Nat) (c : Cfg) (s : CS) (S : Nat → Prop) (bw bs bj bd : Nat) (Sw : Nat → Prop) (ch : Int) : Prop where
  blk : Blk w b #[.pointer (some ⟨bw, 0, none⟩), .pointer (some ⟨bs, 0, none⟩), .pointer (some ⟨bj, 0, none⟩), .pointer (some ⟨bd, 0, none⟩)] 73
  win : WinAt w bw (c.window.toNat : Nat) (lastN c.window.toNat s.L) Sw
  clk : ClkAt w bs c.num c.den s.at0 s.last s.st
  jt : JitAt w bj s.jit s.L.length
  del : DelAt w bd c s.dly ch
  ch : 0 ≤ ch ∧ ch ≤ s.L.length
  sS : ∀ k, S k → k < w.heap.size
  sb : S b ∧ S bs ∧ S bj ∧ S bd ∧ ∀ k, Sw k → S k
  nw : ¬ Sw b ∧ ¬ Sw bs ∧ ¬ Sw bj ∧ ¬ Sw bd
  ne : b ≠ bs ∧ b ≠ bj ∧ b ≠ bd ∧ bs ≠ bj ∧ bs ≠ bd ∧ bj ≠ bd
def CkAt (w : World) (b : Nat) (c : Cfg) (s : CS) (S : Nat → Prop) : Prop := ∃ bw bs bj bd Sw ch, CkP w b c s S bw bs bj bd Sw ch

theorem CkAt.lt {w : World} {b : Nat} {c : Cfg} {s : CS} {S : Nat → Prop} (h : CkAt w b c s S) : ∀ k, S k → k < w.heap.size := by
  obtain ⟨bw, bs, bj, bd, Sw, ch, h⟩ := h
  exact h.sS
theorem CkAt.only {w w' : World} {b : Nat} {c : Cfg} {s : CS} {S T : Nat → Prop} (h : CkAt w b c s S) (ho : Only T w w') (hd : ∀ k, S k → ¬ T k) : CkAt w' b c s S := by
  obtain ⟨bw, bs, bj, bd, Sw, ch, h⟩ := h
  obtain ⟨s1, s2, s3, s4, s5⟩ := h.sb
  exact ⟨bw, bs, bj, bd, Sw, ch, ho.blk h.blk (hd _ s1), h.win.only ho (fun k e => hd k (s5 k e)), ho.blk h.clk (hd _ s2), ho.blk h.jt (hd _ s3), ho.blk h.del (hd _ s4), h.ch, fun k e => Nat.lt_of_lt_of_le (h.sS k e) ho.size, h.sb, h.nw, h.ne⟩

/-- a sample more; a frame more -/
def smp (c : Cfg) (s : CS) (d : Int) : CS :=
  let L := s.L ++ [d]
  let j := jstep s.jit (subF d (leastF (lastN c.window.toNat L)))
  { s with L := L, jit := j, dly := updF c s.dly j }
def wantF (c : Cfg) (s : CS) (r : Int) : Int := subF (subF r (leastF (lastN c.window.toNat s.L))) s.dly
def frm (c : Cfg) (s : CS) (r : Int) : CS :=
  { s with at0 := if s.st = 0 then wantF c s r else toF s.at0 s.last r (wantF c s r) c.num c.den, last := if s.st = 0 then r else max s.last r, st := 1 }
def cs0 (c : Cfg) : CS := ⟨[], 0, targF c 0, 0, 0, 0⟩

theorem coffset_f (b : Nat) (c : Cfg) (s : CS) (S : Nat → Prop) (w : World) (h : CkAt w b c s S) :
    Calls Try.prog 17 #[.pointer (some ⟨b, 0, none⟩)] w fun e w' => e = .returned (.tuple #[.int .i64 (leastF (lastN c.window.toNat s.L)), .bool (decide (lastN c.window.toNat s.L ≠ []))]) ∧ w = w' := by
  obtain ⟨bw, bs, bj, bd, Sw, ch, h⟩ := h
  have q0 := h.blk.cell 0
  simp at q0
  have cl := wleast_f bw _ _ Sw w h.win
  clear h
  generalize decide (lastN c.window.toNat s.L ≠ []) = t at *
  generalize leastF (lastN c.window.toNat s.L) = m at *
  go_enter Try.func17, Try.ntmps17
  go_wp2_with fail
  refine cl.mono ?_; rintro e w' ⟨rfl, rfl⟩
  go_wp2
  go_ret2
  exact ⟨rfl, rfl⟩

theorem cjitter_f (b : Nat) (c : Cfg) (s : CS) (S : Nat → Prop) (w : World) (h : CkAt w b c s S) :
    Calls Try.prog 19 #[.pointer (some ⟨b, 0, none⟩)] w fun e w' => e = .returned (.int .i64 s.jit) ∧ w = w' := by
  obtain ⟨bw, bs, bj, bd, Sw, ch, h⟩ := h
  have q0 := h.blk.cell 2
  simp at q0
  have cl := jnow_f bj _ _ w h.jt
  clear h
  go_enter Try.func19, Try.ntmps19
  go_wp2_with fail
  refine cl.mono ?_; rintro e w' ⟨rfl, rfl⟩
  go_wp2
  go_ret
  exact ⟨rfl, rfl⟩

theorem csamples_f (b : Nat) (c : Cfg) (s : CS) (S : Nat → Prop) (w : World) (h : CkAt w b c s S) :
    Calls Try.prog 28 #[.pointer (some ⟨b, 0, none⟩)] w fun e w' => e = .returned (.int .i64 s.L.length) ∧ w = w' := by
  obtain ⟨bw, bs, bj, bd, Sw, ch, h⟩ := h
  have q0 := h.blk.cell 2
  simp at q0
  have cl := jcount_f bj _ _ w h.jt
  clear h
  generalize (s.L.length : Int) = n at *
  go_enter Try.func28, Try.ntmps28
  go_wp2_with fail
  refine cl.mono ?_; rintro e w' ⟨rfl, rfl⟩
  go_wp2
  go_ret
  exact ⟨rfl, rfl⟩

theorem cdelay_f (b : Nat) (c : Cfg) (s : CS) (S : Nat → Prop) (w : World) (h : CkAt w b c s S) :
    Calls Try.prog 20 #[.pointer (some ⟨b, 0, none⟩)] w fun e w' => e = .returned (.int .i64 s.dly) ∧ w = w' := by
  obtain ⟨bw, bs, bj, bd, Sw, ch, h⟩ := h
  have q0 := h.blk.cell 3
  simp at q0
  have cl := dnow_f bd c _ _ w h.del
  clear h
  go_enter Try.func20, Try.ntmps20
  go_wp2_with fail
  refine cl.mono ?_; rintro e w' ⟨rfl, rfl⟩
  go_wp2
  go_ret
  exact ⟨rfl, rfl⟩
end Go.Proofs.Ytbpbkdpjolcofaa
