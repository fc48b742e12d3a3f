/- The document's clock. -/
import Derived.Test.YtbpbkdpjolcofaaRef13
import Derived.Test.YtbpbkdpjolcofaaLaw17
namespace Go.Proofs.Ytbpbkdpjolcofaa
set_option linter.unusedVariables false
set_option linter.unusedSimpArgs false
open Go.RowKit

theorem lmR {b i : Nat} {wa wb : World} {v : Value} (h : Below wa.heap.size wa wb) (l : b < wa.heap.size) (hc : wa.cell? ⟨b, i, none⟩ = some v) : wb.cell? ⟨b, i, none⟩ = some v :=
  (h.cell (p := ⟨b, i, none⟩) l).trans hc

structure RkP (w : World) (b : Nat) (c : Cfg) (s : CS) (S : Nat → Prop) (bs : Nat) (v : Value) (g : Option Nat) : Prop where
  blk : Blk w b #[.int .i64 c.ring, .int .i64 c.window, .int .i64 c.base, .int .i64 c.gain, .int .i64 c.least, .int .i64 c.most, .int .i64 c.slack, .int .i64 c.num, .int .i64 c.den, .int .i64 c.extra, .bool c.curved, v, .int .i64 s.jit, .int .i64 s.dly, .pointer (some ⟨bs, 0, none⟩)] 55
  row : RowI w v s.L g
  clk : RClkAt w bs c.num c.den s.at0 s.last (decide (s.st = 1))
  lt : ∀ k, S k → k < w.heap.size
  sb : S b ∧ S bs ∧ ∀ k, g = some k → S k
  ne : b ≠ bs ∧ ∀ k, g = some k → k ≠ b ∧ k ≠ bs
def RkAt (w : World) (b : Nat) (c : Cfg) (s : CS) (S : Nat → Prop) : Prop := ∃ bs v g, RkP w b c s S bs v g

theorem RkP.only {w w' : World} {b : Nat} {c : Cfg} {s : CS} {S T : Nat → Prop} {bs : Nat} {v : Value} {g : Option Nat} (h : RkP w b c s S bs v g) (ho : Only T w w') (hd : ∀ k, S k → ¬ T k) : RkP w' b c s S bs v g :=
  ⟨ho.blk h.blk (hd _ h.sb.1), h.row.only ho (fun k e => hd k (h.sb.2.2 k e)), ho.blk h.clk (hd _ h.sb.2.1), fun k e => Nat.lt_of_lt_of_le (h.lt k e) ho.size, h.sb, h.ne⟩
theorem RkAt.only {w w' : World} {b : Nat} {c : Cfg} {s : CS} {S T : Nat → Prop} (h : RkAt w b c s S) (ho : Only T w w') (hd : ∀ k, S k → ¬ T k) : RkAt w' b c s S := by
  obtain ⟨bs, v, g, h⟩ := h
  exact ⟨bs, v, g, h.only ho hd⟩
theorem RkAt.lt {w : World} {b : Nat} {c : Cfg} {s : CS} {S : Nat → Prop} (h : RkAt w b c s S) : ∀ k, S k → k < w.heap.size := by
  obtain ⟨bs, v, g, h⟩ := h
  exact h.lt

theorem roffset_f (b : Nat) (c : Cfg) (hc : cchk c = 0) (s : CS) (hl : s.L.length ≤ 1000000) (S : Nat → Prop) (w : World) (h : RkAt w b c s S) :
    Calls Try.prog 27 #[.pointer (some ⟨b, 0, none⟩)] w fun e w' => e = .returned (.tuple #[.int .i64 (leastF (lastN c.window.toNat s.L)), .bool (decide (lastN c.window.toNat s.L ≠ []))]) ∧ ∃ n, w' = w.drewN n := by
  obtain ⟨bs, v, g, h⟩ := h
  obtain ⟨_, _, w1, w2⟩ := winOk_iff.1 (cchk_ok hc).1
  have q1 := h.blk.cell 1; have q11 := h.blk.cell 11
  simp at q1 q11
  rw [show c.window = (c.window.toNat : Nat) by omega] at q1
  have cl := fun n => rleast_f c.window.toNat (by omega) (by omega) s.L v g (w.drewN n) h.row hl
  obtain ⟨a, m, cap, rfl⟩ := row_val3 h.row
  clear h w1 w2 hc
  generalize c.window.toNat = n at *
  generalize leastF (lastN n s.L) = t at *
  generalize decide (lastN n s.L ≠ []) = tb at *
  go_enter Try.func27, Try.ntmps27
  go_wp2_with fail
  go_quiet ((go_at_call 54; exact qsameS (cl _)))
  go_wp2
  go_ret2
  exact ⟨rfl, nq, rfl⟩

set_option maxHeartbeats 1000000 in
theorem rframe_none (b : Nat) (c : Cfg) (hc : cchk c = 0) (s : CS) (x : Int) (S : Nat → Prop) (w : World) (h : RkAt w b c s S) (hL : s.L = []) :
    Calls Try.prog 26 #[.pointer (some ⟨b, 0, none⟩), .int .i64 x] w fun e w' => e = .returned (.tuple #[.int .i64 0, .bool false]) ∧ ∃ n, w' = w.drewN n := by
  have co := roffset_f b c hc s (by rw [hL]; simp) S w h
  rw [hL, show lastN c.window.toNat [] = [] by simp [lastN], show decide (([] : List Int) ≠ []) = false from rfl] at co
  generalize leastF [] = m at *
  go_enter Try.func26, Try.ntmps26
  go_wp2_with fail
  refine co.mono ?_; rintro e w' ⟨rfl, n, rfl⟩
  go_wp2
  go_ret2
  exact ⟨rfl, n, rfl⟩

set_option maxRecDepth 8000 in
set_option maxHeartbeats 1000000 in
theorem rframe_f (b : Nat) (c : Cfg) (hc : cchk c = 0) (s : CS) (ok : s.Ok c) (x : Int) (hx : I64 x) (S : Nat → Prop) (w : World) (h : RkAt w b c s S) (hL : s.L ≠ []) :
    Calls Try.prog 26 #[.pointer (some ⟨b, 0, none⟩), .int .i64 x] w fun e w' => e = .returned (.tuple #[.int .i64 (frm c s x).at0, .bool true]) ∧ RkAt w' b c (frm c s x) S ∧ Only S w w' := by
  obtain ⟨hw, h0, hr⟩ := cchk_ok hc
  obtain ⟨_, _, w1, w2⟩ := winOk_iff.1 hw
  have hLn : lastN c.window.toNat s.L ≠ [] := fun e => hL ((lastN_nil (by omega)).1 e)
  have co := roffset_f b c hc s (by have := ok.len; omega) S w h
  rw [show decide (lastN c.window.toNat s.L ≠ []) = true by simpa using hLn] at co
  have hle : I64 (leastF (lastN c.window.toNat s.L)) := leastF_i64 fun z hz => ok.l z (lastN_mem hz)
  have s1 := rsub_f x (leastF (lastN c.window.toNat s.L)) hx hle
  have s2 := rsub_f (subF x (leastF (lastN c.window.toNat s.L))) s.dly (subF_i64 _ _) (inlim_i64 h0 ok.dly)
  have hwant : I64 (wantF c s x) := subF_i64 _ _
  have HF : Hid (frm c s x = { s with at0 := if s.st = 0 then wantF c s x else toF s.at0 s.last x (wantF c s x) c.num c.den, last := if s.st = 0 then x else max s.last x, st := 1 }) := Lib.hid rfl
  rw [show subF (subF x (leastF (lastN c.window.toNat s.L))) s.dly = wantF c s x from rfl] at s2
  obtain ⟨bs, v, g, h⟩ := h
  obtain ⟨p1, p2, p3⟩ := h.sb
  obtain ⟨e1, e2⟩ := h.ne
  have ct : ∀ n, Calls Try.prog 53 #[.pointer (some ⟨bs, 0, none⟩), .int .i64 x, .int .i64 (wantF c s x)] (w.drewN n) fun e w'' =>
      e = .returned (.int .i64 (frm c s x).at0) ∧ RClkAt w'' bs c.num c.den (frm c s x).at0 (frm c s x).last (decide ((frm c s x).st = 1)) ∧ Only (· = bs) (w.drewN n) w'' := by
    intro n
    have hk := h.clk.draws n
    rcases ok.st with hs | hs
    · rw [hs, show decide ((0 : Int) = 1) = false from rfl] at hk
      have := rto_first bs c.num c.den s.at0 s.last x (wantF c s x) _ hk
      rw [HF.out]
      simpa [hs] using this
    · rw [hs, show decide ((1 : Int) = 1) = true from rfl] at hk
      have := rto_next bs c.num c.den s.at0 s.last x (wantF c s x) hr ok.at0 ok.last hx hwant _ hk
      rw [HF.out]
      simpa [hs] using this
  have HF2 : Hid ((frm c s x).L = s.L ∧ (frm c s x).jit = s.jit ∧ (frm c s x).dly = s.dly) := Lib.hid ⟨rfl, rfl, rfl⟩
  have q13 := h.blk.cell 13; have q14 := h.blk.cell 14
  simp at q13 q14
  clear HF hle hwant hx
  generalize frm c s x = s' at *
  generalize wantF c s x = wt at *
  generalize subF x (leastF (lastN c.window.toNat s.L)) = sb at *
  generalize leastF (lastN c.window.toNat s.L) = le at *
  obtain ⟨d0, hd0⟩ : ∃ d0, s.dly = d0 := ⟨_, rfl⟩
  rw [hd0] at q13 s2
  have H := Lib.hid h
  clear h ok hc hw h0 hr hL hLn hd0
  go_enter Try.func26, Try.ntmps26
  go_wp2_with fail
  refine co.mono ?_; rintro e w' ⟨rfl, n, rfl⟩
  go_wp2_with fail
  (refine wp_region_tail 13 (by kernel_rfl) (by kernel_rfl) ?_; simp only [List.take_succ_cons, List.take_zero, List.drop_succ_cons, List.drop_zero]; (repeat still_step); (try refine wpStill_nil ?_))
  (still_call (still_of (s1 _)); (repeat still_step); (try refine wpStill_nil ?_))
  (still_call (still_of (s2 _)); (repeat still_step); (try refine wpStill_nil ?_))
  go_wp2_with fail
  refine (ct _).mono ?_; rintro e w3 ⟨rfl, k2, k3⟩
  go_wp2
  go_ret2
  have O : Only (· = bs) w w3 := ((Only.refl (· = bs) w).draws (n + 1)).trans k3
  obtain ⟨t1, t2, t3⟩ := HF2.out
  refine ⟨rfl, ⟨bs, v, g, ?_⟩, O.weaken (fun k _ e => by subst e; exact p2)⟩
  refine ⟨?_, ?_, k2, fun k hk => Nat.lt_of_lt_of_le (H.out.lt k hk) O.size, H.out.sb, H.out.ne⟩
  · rw [t2, t3]; exact O.blk H.out.blk e1
  · rw [t1]; exact H.out.row.only O (fun k e e' => (e2 k e).2 e')

set_option maxRecDepth 8000 in
set_option maxHeartbeats 2000000 in
theorem rsample_f (b : Nat) (c : Cfg) (okc : c.Ok) (hc : cchk c = 0) (s : CS) (ok : s.Ok c) (hlen : s.L.length < 1000) (x y : Int) (hx : I64 x) (hy : I64 y) (S : Nat → Prop) (w : World) (h : RkAt w b c s S) :
    Calls Try.prog 25 #[.pointer (some ⟨b, 0, none⟩), .int .i64 x, .int .i64 y] w fun e w' => e = .returned (.tuple #[]) ∧ RkAt w' b c (smp c s (subF x y)) (Grow S w w') ∧ Only S w w' := by
  obtain ⟨hw, h0, hr⟩ := cchk_ok hc
  obtain ⟨_, _, w1, w2⟩ := winOk_iff.1 hw
  obtain ⟨bs, v, g, h⟩ := h
  obtain ⟨p1, p2, p3⟩ := h.sb
  obtain ⟨e1, e2⟩ := h.ne
  have okS := smp_ok ok h0 (subF_i64 x y) hlen
  have hne : s.L ++ [subF x y] ≠ [] := by simp
  have hnn : lastN c.window.toNat (s.L ++ [subF x y]) ≠ [] := fun e => hne ((lastN_nil (by omega)).1 e)
  have hlle : leastF (lastN c.window.toNat (s.L ++ [subF x y])) ≤ subF x y := by
    have hm : subF x y ∈ lastN c.window.toNat (s.L ++ [subF x y]) := by
      unfold lastN
      rw [List.length_append, List.length_singleton, List.drop_append_of_le_length (by omega)]
      simp
    exact (leastF_spec hnn).2 _ hm
  have hsub0 : 0 ≤ subF (subF x y) (leastF (lastN c.window.toNat (s.L ++ [subF x y]))) := by
    unfold subF sat at *; omega
  have cs := rsub_f x y hx hy
  have cs2 := rsub_f (subF x y) (leastF (lastN c.window.toNat (s.L ++ [subF x y]))) (subF_i64 _ _) (leastF_i64 fun z hz => okS.l z (lastN_mem hz))
  have cj := rstep_f s.jit (subF (subF x y) (leastF (lastN c.window.toNat (s.L ++ [subF x y])))) ok.jit ⟨hsub0, (subF_i64 _ _).2⟩
  have cu := rupdate_f c s.dly (jstep s.jit (subF (subF x y) (leastF (lastN c.window.toNat (s.L ++ [subF x y]))))) okc h0 ok.dly (by have := okS.jit; exact ⟨by have := this.1; simp only [smp] at this; omega, this.2⟩)
  have HSM : Hid (smp c s (subF x y) = { s with L := s.L ++ [subF x y], jit := jstep s.jit (subF (subF x y) (leastF (lastN c.window.toNat (s.L ++ [subF x y])))), dly := updF c s.dly (jstep s.jit (subF (subF x y) (leastF (lastN c.window.toNat (s.L ++ [subF x y]))))) }) := Lib.hid rfl
  have coff := fun (w' : World) (S' : Nat → Prop) (hh : RkAt w' b c { s with L := s.L ++ [subF x y] } S') => roffset_f b c hc { s with L := s.L ++ [subF x y] } (by simp; omega) S' w' hh
  rw [show decide (lastN c.window.toNat (s.L ++ [subF x y]) ≠ []) = true by simpa using hnn] at coff
  generalize smp c s (subF x y) = s' at *
  generalize jstep s.jit (subF (subF x y) (leastF (lastN c.window.toNat (s.L ++ [subF x y])))) = j at *
  generalize updF c s.dly j = dl at *
  generalize subF (subF x y) (leastF (lastN c.window.toNat (s.L ++ [subF x y]))) = jd at *
  generalize hle : leastF (lastN c.window.toNat (s.L ++ [subF x y])) = le at *
  generalize subF x y = d at *
  have HLE := Lib.hid hle
  have H := Lib.hid h
  clear h okS ok okc h0 hw hr hc hne hnn hlle hsub0 hle
  have q11 := H.out.blk.cell 11
  have f11 := H.out.blk.free 11
  simp at q11
  obtain ⟨a, m, cap, rfl⟩ := row_val3 H.out.row
  unfold cfgV at cu
  go_enter Try.func25, Try.ntmps25
  go_wp2_with fail
  refine (cs _).mono ?_; rintro e w' ⟨rfl, rfl⟩
  go_wp2_with (at_builtin; refine wpList_append_row rfl (.tmp 16) (.tmp 18) rfl _ s.L g rfl (H.out.row.only ((Only.refl noB _).alloc _) (fun _ _ hf => hf)) d ⟨w.heap.size, 0, none⟩ rfl ?c1 ?c2 ?_)
  case c1 => exact new_cell _ _ rfl _
  case c2 => omega
  intro v1' v1 g' r1 o1 n1
  have B1 := o1.blk (H.out.blk.alloc (.cells #[.int .i64 d] 2)) (fun e => (e2 b e).1 rfl)
  have O1 : Hid (Only (fun k => g = some k) w v1) := Lib.hid (((Only.refl (fun k => g = some k) w).alloc (.cells #[.int .i64 d] 2)).trans o1)
  have N1 : Hid (∀ k, g' = some k → g = some k ∨ w.heap.size ≤ k) := Lib.hid (fun k e => (n1 k e).imp id (fun hh => Nat.le_trans (by simp) hh))
  obtain ⟨a1, m1, cap1, rfl⟩ := row_val3 r1
  have G1 : Hid (∀ k, g' = some k → k ≠ b ∧ k ≠ bs) := Lib.hid (fun k e => by
    rcases N1.out k e with h1 | h1
    · exact e2 k h1
    · exact ⟨fun e' => by have := H.out.lt b p1; omega, fun e' => by have := H.out.lt bs p2; omega⟩)
  have R1 := Lib.hid (r1.only (onlyB v1 b (.slice a1 m1 cap1) 11) (fun k e => (G1.out k e).1))
  have BB1 := Lib.hid (B1.set 11 (.slice a1 m1 cap1))
  have z1 := O1.out.size
  clear q11 f11 r1 o1 n1
  have q11 := B1.cell 11
  have f11 := B1.free 11
  simp at q11
  have RK : Hid (RkAt (v1.setCell ⟨b, 11, none⟩ (.slice a1 m1 cap1)) b c { s with L := s.L ++ [d] } (fun k => (S k ∨ w.heap.size ≤ k) ∧ k < (v1.setCell ⟨b, 11, none⟩ (.slice a1 m1 cap1)).heap.size)) := Lib.hid ⟨bs, .slice a1 m1 cap1, g', by
    have lt1 := H.out.lt b p1; have lt2 := H.out.lt bs p2
    refine ⟨?_, R1.out, ?_, fun k hk => hk.2, ⟨⟨.inl p1, by simp; omega⟩, ⟨.inl p2, by simp; omega⟩, fun k e => ⟨(N1.out k e).imp (p3 k) id, R1.out.gt k e⟩⟩, e1, G1.out⟩
    · have := BB1.out; simpa using this
    · exact (onlyB v1 b _ 11).blk (O1.out.blk H.out.clk (fun e => (e2 bs e).2 rfl)) e1.symm⟩
  have co := coff _ _ RK.out
  clear coff B1
  go_wp2_with fail
  refine co.mono ?_; rintro e w2 ⟨rfl, n2, rfl⟩
  clear co RK q11 f11
  have CK1 := Lib.hid ((onlyB v1 b (.slice a1 m1 cap1) 11).blk (O1.out.blk H.out.clk (fun e => (e2 bs e).2 rfl)) e1.symm)
  have OW := Lib.hid ((O1.out.weaken (T := S) (fun k _ e => p3 k e)).trans_new (onlyB v1 b (.slice a1 m1 cap1) 11) (fun k _ e => by subst e; exact p1))
  have zW : w.heap.size ≤ (v1.setCell ⟨b, 11, none⟩ (.slice a1 m1 cap1)).heap.size := OW.out.size
  have BB := BB1.out
  simp only [List.size_toArray, List.setIfInBounds_toArray, List.set_cons_succ, List.set_cons_zero] at BB
  clear BB1
  generalize v1.setCell ⟨b, 11, none⟩ (.slice a1 m1 cap1) = W at *
  have q12 := BB.cell 12; have f12 := BB.free 12
  simp at q12
  have HBB := Lib.hid BB
  clear BB
  go_wp2_with fail
  (refine wp_region_tail 9 (by kernel_rfl) (by kernel_rfl) ?_; simp only [List.take_succ_cons, List.take_zero, List.drop_succ_cons, List.drop_zero]; (repeat still_step); (try refine wpStill_nil ?_))
  (still_call (still_of (cs2 _)); (repeat still_step); (try refine wpStill_nil ?_))
  (still_call (still_of (cj _)); (repeat still_step); (try refine wpStill_nil ?_))
  have B3 := (HBB.out.draws (n2 + 1)).set 12 (.int .i64 j)
  simp only [List.size_toArray, List.setIfInBounds_toArray, List.set_cons_succ, List.set_cons_zero] at B3
  go_upto_region 4 with fail
  have O3 := Lib.hid (((Only.refl (fun k => k = b) W).draws (n2 + 1)).setCell (p := ⟨b, 12, none⟩) (.inl rfl) (.int .i64 j))
  generalize (W.drewN (n2 + 1)).setCell ⟨b, 12, none⟩ (.int .i64 j) = W2 at *
  have q0 := B3.cell 0; have q1 := B3.cell 1; have q2 := B3.cell 2; have q3 := B3.cell 3; have q4 := B3.cell 4; have q5 := B3.cell 5; have q6 := B3.cell 6; have q7 := B3.cell 7; have q8 := B3.cell 8; have q9 := B3.cell 9; have q10 := B3.cell 10
  clear q12 f12
  have q12 := B3.cell 12; have q13 := B3.cell 13
  simp at q0 q1 q2 q3 q4 q5 q6 q7 q8 q9 q10 q12 q13
  have HB3 := Lib.hid B3
  have hb2 := B3.lt
  clear B3
  (refine wp_region_tail1 13 0 [1,2,3,4,5,6,7,8,9,10,11,12] (by kernel_rfl) (by kernel_rfl) _ (.pointer (some ⟨b, 0, none⟩)) rfl (fun _ _ _ h => h) (Or.inl ⟨by rfl, fun w => by rfl⟩) (by kernel_rfl) ?_; simp only [List.take_succ_cons, List.take_zero, List.eraseIdx_cons_succ, List.eraseIdx_cons_zero, List.drop_succ_cons, List.drop_zero]; (repeat still_step); (try refine wpStill_nil ?_))
  go_wp2_with fail
  refine (cu _).mono ?_; rintro e w4 ⟨rfl, hb4⟩
  have O4 := Lib.hid ((onlyDrew noB W2).trans (Only.of_below (S := noB) hb4))
  clear q0 q1 q2 q3 q4 q5 q6 q7 q8 q9 q10 q12 q13 hb4
  have B4 := O4.out.blk HB3.out (fun hf => hf)
  have q13 := B4.cell 13
  have f13 := B4.free 13
  simp at q13
  have HB4 := Lib.hid B4
  clear B4
  go_wp2
  have zz := O4.out.size
  have z3 := O3.out.size
  have OT : Only S w (w4.setCell ⟨b, 13, none⟩ (.int .i64 dl)) := (((OW.out.trans_new O3.out (fun i _ e => by subst e; exact p1)).trans_new O4.out (fun _ _ hf => hf.elim))).setCell (.inl p1) _
  have lb := H.out.lt b p1; have lbs := H.out.lt bs p2
  go_end0
  refine ⟨rfl, ⟨bs, .slice a1 m1 cap1, g', ?_⟩, OT⟩
  rw [HSM.out]
  have O5 := onlyB w4 b (.int .i64 dl) 13
  refine ⟨?_, ?_, ?_, fun k hk => hk.2, ⟨⟨.inl p1, by simp; omega⟩, ⟨.inl p2, by simp; omega⟩, fun k e => ⟨(N1.out k e).imp (p3 k) id, by have := R1.out.gt k e; simp; omega⟩⟩, e1, G1.out⟩
  · have := HB4.out.set 13 (.int .i64 dl)
    simpa using this
  · exact ((R1.out.only O3.out (fun k e => (G1.out k e).1)).only O4.out (fun _ _ hf => hf)).only O5 (fun k e => (G1.out k e).1)
  · exact O5.blk (O4.out.blk (O3.out.blk CK1.out e1.symm) (fun hf => hf)) e1.symm

/-- a new one is told -/
def NewR (c : Cfg) (w : World) (e : Ending) (w' : World) : Prop :=
  ∃ b S, e = .returned (.pointer (some ⟨b, 0, none⟩)) ∧ RkAt w' b c (cs0 c) S ∧ (∀ k, S k → w.heap.size ≤ k) ∧ Below w.heap.size w w'

theorem newR_of {c : Cfg} {w W : World} {b bs : Nat} {t0 : Int} (CS0 : (cs0 c).L = [] ∧ (cs0 c).jit = 0 ∧ (cs0 c).dly = t0 ∧ (cs0 c).at0 = 0 ∧ (cs0 c).last = 0 ∧ decide ((cs0 c).st = 1) = false)
    (hb : Blk W b #[.int .i64 c.ring, .int .i64 c.window, .int .i64 c.base, .int .i64 c.gain, .int .i64 c.least, .int .i64 c.most, .int .i64 c.slack, .int .i64 c.num, .int .i64 c.den, .int .i64 c.extra, .bool c.curved, .slice none 0 0, .int .i64 0, .int .i64 t0, .pointer (some ⟨bs, 0, none⟩)] 55) (hs : Blk W bs #[.int .i64 c.num, .int .i64 c.den, .int .i64 0, .int .i64 0, .bool false] 85)
    (hne : b ≠ bs) (h1 : w.heap.size ≤ b) (h2 : w.heap.size ≤ bs) (hB : Below w.heap.size w W) : NewR c w (.returned (.pointer (some ⟨b, 0, none⟩))) W := by
  obtain ⟨c1, c2, c3, c4, c5, c6⟩ := CS0
  refine ⟨b, fun k => k = b ∨ k = bs, rfl, ⟨bs, .slice none 0 0, none, ?_, ?_, ?_, ?_, ?_, hne, fun k e => by cases e⟩, fun k hk => by omega, hB⟩
  · rw [c2, c3]; exact hb
  · rw [c1]; exact RowI.nil W
  · rw [c4, c5, c6]; exact hs
  · have := hb.lt; have := hs.lt; intro k hk; omega
  · exact ⟨.inl rfl, .inr rfl, fun k e => by cases e⟩

set_option maxRecDepth 100000 in
set_option maxHeartbeats 2000000 in
theorem rnew_f (c : Cfg) (okc : c.Ok) (hc : cchk c = 0) (w : World) :
    Calls Try.prog 24 #[cfgV c] w (NewR c w) := by
  have tg := rtarget_f c 0 okc i64_0
  unfold cfgV at tg ⊢
  have hcc := (Blk.new w #[.int .i64 c.ring, .int .i64 c.window, .int .i64 c.base, .int .i64 c.gain, .int .i64 c.least, .int .i64 c.most, .int .i64 c.slack, .int .i64 c.num, .int .i64 c.den, .int .i64 c.extra, .bool c.curved] 23)
  have hs0 : w.heap.size < (w.alloc (.cells #[.int .i64 c.ring, .int .i64 c.window, .int .i64 c.base, .int .i64 c.gain, .int .i64 c.least, .int .i64 c.most, .int .i64 c.slack, .int .i64 c.num, .int .i64 c.den, .int .i64 c.extra, .bool c.curved] 23)).heap.size := by simp
  have CS0 : Hid ((cs0 c).L = [] ∧ (cs0 c).jit = 0 ∧ (cs0 c).dly = targF c 0 ∧ (cs0 c).at0 = 0 ∧ (cs0 c).last = 0 ∧ decide ((cs0 c).st = 1) = false) := Lib.hid ⟨rfl, rfl, rfl, rfl, rfl, rfl⟩
  generalize targF c 0 = t0 at *
  clear hc okc
  go_enter Try.func24, Try.ntmps24
  go_wp2_with fail
  obtain ⟨q0, q1, q2, q3, q4, q5, q6, q7, q8, q9, q10⟩ := cfg_cells hcc
  have hB0 : Below w.heap.size w (w.alloc (.cells #[.int .i64 c.ring, .int .i64 c.window, .int .i64 c.base, .int .i64 c.gain, .int .i64 c.least, .int .i64 c.most, .int .i64 c.slack, .int .i64 c.num, .int .i64 c.den, .int .i64 c.extra, .bool c.curved] 23)) := (Below.refl _ _).alloc (Nat.le_refl _) _
  go_region_held3 (fun w' => (w'.cell? ⟨w.heap.size, 0, none⟩ = some (.int .i64 c.ring) ∧ w'.cell? ⟨w.heap.size, 1, none⟩ = some (.int .i64 c.window) ∧ w'.cell? ⟨w.heap.size, 2, none⟩ = some (.int .i64 c.base) ∧ w'.cell? ⟨w.heap.size, 3, none⟩ = some (.int .i64 c.gain) ∧ w'.cell? ⟨w.heap.size, 4, none⟩ = some (.int .i64 c.least) ∧ w'.cell? ⟨w.heap.size, 5, none⟩ = some (.int .i64 c.most) ∧ w'.cell? ⟨w.heap.size, 6, none⟩ = some (.int .i64 c.slack) ∧ w'.cell? ⟨w.heap.size, 7, none⟩ = some (.int .i64 c.num) ∧ w'.cell? ⟨w.heap.size, 8, none⟩ = some (.int .i64 c.den) ∧ w'.cell? ⟨w.heap.size, 9, none⟩ = some (.int .i64 c.extra) ∧ w'.cell? ⟨w.heap.size, 10, none⟩ = some (.bool c.curved)) ∧ w.heap.size < w'.heap.size ∧ Below w.heap.size w w')
    (first | (go_keep; done) | (go_split_ands; ((try dsimp only); repeat' apply And.intro) <;> (first | assumption | exact Below.drew (by assumption) | exact Below.alloc (by assumption) (Nat.le_of_lt (by assumption)) _ | exact Below.drew (Below.alloc (by assumption) (Nat.le_of_lt (by assumption)) _) | (rw [World.size_alloc]; exact Nat.lt_succ_of_lt (by assumption)) | (simp; done) | (simp; omega) | (go_keep; done))) | (((try dsimp only); repeat' apply And.intro) <;> (first | assumption | exact Below.drew (by assumption) | exact Below.alloc (by assumption) (Nat.le_of_lt (by assumption)) _ | exact Below.drew (Below.alloc (by assumption) (Nat.le_of_lt (by assumption)) _) | (go_keep; done) | (simp; done) | (simp; omega))) | (go_split_ands; exact ⟨⟨lmR hbk (by assumption) (by assumption), lmR hbk (by assumption) (by assumption), lmR hbk (by assumption) (by assumption), lmR hbk (by assumption) (by assumption), lmR hbk (by assumption) (by assumption), lmR hbk (by assumption) (by assumption), lmR hbk (by assumption) (by assumption), lmR hbk (by assumption) (by assumption), lmR hbk (by assumption) (by assumption), lmR hbk (by assumption) (by assumption), lmR hbk (by assumption) (by assumption)⟩, Nat.lt_of_lt_of_le (by assumption) hbk.size, Below.trans (by assumption) (hbk.mono (Nat.le_of_lt (by assumption)))⟩))
    ((first | (go_at_call 49; refine (tg _).mono ?_; rintro e wx ⟨rfl, hbk⟩)))
  · go_wp2
    go_ret
    go_split_ands
    have hb9 : Below w.heap.size w wx := (Below.drew hB0).trans (hbk.mono (by simp))
    have hsz := hb9.size
    have B1 := (Blk.new wx #[.int .i64 c.num, .int .i64 c.den, .int .i64 0, .int .i64 0, .bool false] 85).alloc (.cells #[.int .i64 c.ring, .int .i64 c.window, .int .i64 c.base, .int .i64 c.gain, .int .i64 c.least, .int .i64 c.most, .int .i64 c.slack, .int .i64 c.num, .int .i64 c.den, .int .i64 c.extra, .bool c.curved, .slice none 0 0, .int .i64 0, .int .i64 t0, .pointer (some ⟨wx.heap.size, 0, none⟩)] 55)
    have B2 := Blk.new (wx.alloc (.cells #[.int .i64 c.num, .int .i64 c.den, .int .i64 0, .int .i64 0, .bool false] 85)) #[.int .i64 c.ring, .int .i64 c.window, .int .i64 c.base, .int .i64 c.gain, .int .i64 c.least, .int .i64 c.most, .int .i64 c.slack, .int .i64 c.num, .int .i64 c.den, .int .i64 c.extra, .bool c.curved, .slice none 0 0, .int .i64 0, .int .i64 t0, .pointer (some ⟨wx.heap.size, 0, none⟩)] 55
    simp only [World.size_alloc] at B2
    exact newR_of CS0.out B2 B1 (by omega) (by omega) (by omega) ((hb9.alloc hsz _).alloc (by simp; omega) _)
  · go_wp2
    go_ret
    go_split_ands
    have hb9 : Below w.heap.size w wx := (Below.drew (hB0.alloc (Nat.le_of_lt hs0) _)).trans (hbk.mono (by simp; omega))
    have hsz := hb9.size
    have hs2 := hbk.size
    simp at hs2
    have B1 := (((Blk.new (w.alloc (.cells #[.int .i64 c.ring, .int .i64 c.window, .int .i64 c.base, .int .i64 c.gain, .int .i64 c.least, .int .i64 c.most, .int .i64 c.slack, .int .i64 c.num, .int .i64 c.den, .int .i64 c.extra, .bool c.curved] 23)) #[.int .i64 c.num, .int .i64 c.den, .int .i64 0, .int .i64 0, .bool false] 85).draws 1).below hbk (by simp)).alloc (.cells #[.int .i64 c.ring, .int .i64 c.window, .int .i64 c.base, .int .i64 c.gain, .int .i64 c.least, .int .i64 c.most, .int .i64 c.slack, .int .i64 c.num, .int .i64 c.den, .int .i64 c.extra, .bool c.curved, .slice none 0 0, .int .i64 0, .int .i64 t0, .pointer (some ⟨w.heap.size + 1, 0, none⟩)] 55)
    simp only [World.size_alloc] at B1
    have B2 := Blk.new wx #[.int .i64 c.ring, .int .i64 c.window, .int .i64 c.base, .int .i64 c.gain, .int .i64 c.least, .int .i64 c.most, .int .i64 c.slack, .int .i64 c.num, .int .i64 c.den, .int .i64 c.extra, .bool c.curved, .slice none 0 0, .int .i64 0, .int .i64 t0, .pointer (some ⟨w.heap.size + 1, 0, none⟩)] 55
    exact newR_of CS0.out B2 B1 (by omega) (by omega) (by omega) (hb9.alloc hsz _)
end Go.Proofs.Ytbpbkdpjolcofaa
