/- package clock: a sample, a frame. -/
import Derived.Test.YtbpbkdpjolcofaaClock3
import Derived.Deep.RegionHeld3
namespace Go.Proofs.Ytbpbkdpjolcofaa
set_option linter.unusedVariables false
set_option linter.unusedSimpArgs false
open Go.RowKit

theorem onlyDrew (S : Nat → Prop) (w : World) : Only S w w.drew := ⟨rfl, rfl, rfl, Nat.le_refl _, fun _ _ _ => rfl⟩
theorem leastF_i64 {L : List Int} (h : ∀ x ∈ L, I64 x) : I64 (leastF L) := by
  by_cases hL : L = []
  · subst hL; exact ⟨by decide, by decide⟩
  · exact h _ (leastF_spec hL).1

theorem updN_one (c : Cfg) (now ch j : Int) : ch ≤ updN c now ch j ∧ updN c now ch j ≤ ch + 1 := by
  unfold updN; split <;> omega

/-- what a call leaves of a clock's blocks: S, and what is new -/
def Grow (S : Nat → Prop) (w w' : World) : Nat → Prop := fun k => (S k ∨ w.heap.size ≤ k) ∧ k < w'.heap.size

theorem smp_ok {c : Cfg} {s : CS} {d : Int} (ok : s.Ok c) (h0 : dchk c = 0) (hd : I64 d) (hl : s.L.length < 1000) : (smp c s d).Ok c := by
  have hL : ∀ x ∈ s.L ++ [d], I64 x := fun x hx => by
    rcases List.mem_append.1 hx with h | h
    · exact ok.l x h
    · simp at h; subst h; exact hd
  have hsub := subF_i64 d (leastF (lastN c.window.toNat (s.L ++ [d])))
  exact ⟨hL, by simp [smp]; omega, jstep_bd ok.jit hsub.2, upd_lim h0 ok.dly, ok.at0, ok.last, ok.st⟩

set_option maxRecDepth 8000 in
set_option maxHeartbeats 1000000 in
theorem csample_f (b : Nat) (c : Cfg) (okc : c.Ok) (hc : cchk c = 0) (s : CS) (ok : s.Ok c) (hlen : s.L.length < 1000) (x y : Int) (hx : I64 x) (hy : I64 y) (S : Nat → Prop) (w : World) (h : CkAt w b c s S) :
    Calls Try.prog 12 #[.pointer (some ⟨b, 0, none⟩), .int .i64 x, .int .i64 y] w fun e w' => e = .returned (.int .i64 0) ∧ CkAt w' b c (smp c s (subF x y)) (Grow S w w') ∧ Only S w w' := by
  obtain ⟨hw, h0, hr⟩ := cchk_ok hc
  obtain ⟨_, _, w1, w2⟩ := winOk_iff.1 hw
  obtain ⟨bw, bs, bj, bd, Sw, ch, h⟩ := h
  obtain ⟨s1, s2, s3, s4, s5⟩ := h.sb
  obtain ⟨n1, n2, n3, n4⟩ := h.nw
  obtain ⟨e1, e2, e3, e4, e5, e6⟩ := h.ne
  obtain ⟨ch1, ch2⟩ := h.ch
  have lb := h.sS b s1; have lbs := h.sS bs s2; have lbj := h.sS bj s3; have lbd := h.sS bd s4
  have q0 := h.blk.cell 0; have q2 := h.blk.cell 2; have q3 := h.blk.cell 3
  simp at q0 q2 q3
  have okS := smp_ok ok h0 (subF_i64 x y) hlen
  have cs := sub_f x y hx hy
  have ca := fun d => wadd_f bw c.window.toNat (by omega) (by omega) s.L Sw d w h.win
  have cl := fun (w' : World) (T : Nat → Prop) (hh : WinAt w' bw (c.window.toNat : Nat) (lastN c.window.toNat (s.L ++ [subF x y])) T) => wleast_f bw _ _ T w' hh
  have cs2 := sub_f (subF x y) (leastF (lastN c.window.toNat (s.L ++ [subF x y]))) (subF_i64 _ _) (leastF_i64 fun z hz => okS.l z (lastN_mem hz))
  have cj := fun (w' : World) (hh : JitAt w' bj s.jit s.L.length) => jadd_f bj s.jit s.L.length (subF (subF x y) (leastF (lastN c.window.toNat (s.L ++ [subF x y])))) w' hh ⟨by have := ok.jit; omega, ok.jit.2⟩ (subF_i64 _ _) (by omega) (by omega)
  have cn := fun (w' : World) (hh : JitAt w' bj (jstep s.jit (subF (subF x y) (leastF (lastN c.window.toNat (s.L ++ [subF x y]))))) (s.L.length + 1)) => jnow_f bj _ _ w' hh
  have cu := fun (w' : World) (hh : DelAt w' bd c s.dly ch) => dupdate_f bd c s.dly ch (jstep s.jit (subF (subF x y) (leastF (lastN c.window.toNat (s.L ++ [subF x y]))))) w' okc h0 ok.dly (by have := okS.jit; exact ⟨by have := this.1; simp only [smp] at this; omega, this.2⟩) ch1 (by omega) hh
  have HU := Lib.hid (upd_lim (j := (jstep s.jit (subF (subF x y) (leastF (lastN c.window.toNat (s.L ++ [subF x y])))))) h0 ok.dly)
  have HSM : Hid (smp c s (subF x y) = { s with L := s.L ++ [subF x y], jit := jstep s.jit (subF (subF x y) (leastF (lastN c.window.toNat (s.L ++ [subF x y])))), dly := updF c s.dly (jstep s.jit (subF (subF x y) (leastF (lastN c.window.toNat (s.L ++ [subF x y]))))) }) := Lib.hid rfl
  generalize smp c s (subF x y) = s' at *
  have HUN := fun j => updN_one c s.dly ch j
  generalize jstep s.jit (subF (subF x y) (leastF (lastN c.window.toNat (s.L ++ [subF x y])))) = j at *
  have HUN := Lib.hid (HUN j)
  generalize updN c s.dly ch j = ch' at *
  generalize updF c s.dly j = dl at *
  generalize subF (subF x y) (leastF (lastN c.window.toNat (s.L ++ [subF x y]))) = jd at *
  generalize decide (lastN c.window.toNat (s.L ++ [subF x y]) ≠ []) = tb at *
  generalize leastF (lastN c.window.toNat (s.L ++ [subF x y])) = le at *
  generalize subF x y = d at *
  have H := Lib.hid h
  clear h okS ok okc h0 hw hr hc
  go_enter Try.func12, Try.ntmps12
  go_wp2_with fail
  refine (cs _).mono ?_; rintro e w' ⟨rfl, rfl⟩
  go_wp2_with fail
  refine (ca d).mono ?_; rintro e v1 ⟨rfl, k1, o1⟩
  have B1 := o1.blk H.out.blk n1
  have WIN := Lib.hid k1.cap
  have O1 := Lib.hid o1
  have hz1 := Lib.hid o1.size
  clear q0 q2 q3 k1 o1
  have q0 := B1.cell 0; have q2 := B1.cell 2; have q3 := B1.cell 3
  simp at q0 q2 q3
  clear B1
  go_wp2_with fail
  refine (cl _ _ WIN.out).mono ?_; rintro e w' ⟨rfl, rfl⟩
  go_wp2_with fail
  (refine wp_region_tail 8 (by kernel_rfl) (by kernel_rfl) ?_; simp only [List.take_succ_cons, List.take_zero, List.drop_succ_cons, List.drop_zero]; (repeat still_step); (try refine wpStill_nil ?_))
  (still_call (still_of (cs2 _)); (repeat still_step); (try refine wpStill_nil ?_))
  go_wp2_with fail
  refine (cj _ ((O1.out.blk H.out.jt n3).draws 1)).mono ?_; rintro e v2 ⟨rfl, k2, o2⟩
  have B2 := o2.blk ((O1.out.blk H.out.blk n1).draws 1) e2
  have J2 := Lib.hid k2
  have O2 := Lib.hid (((Only.refl (· = bj) v1).draws 1).trans o2)
  clear q0 q2 q3 k2 o2
  have q2 := B2.cell 2; have q3 := B2.cell 3
  simp at q2 q3
  clear B2
  go_wp2_with fail
  (refine wp_region_tail 11 (by kernel_rfl) (by kernel_rfl) ?_; simp only [List.take_succ_cons, List.take_zero, List.drop_succ_cons, List.drop_zero]; (repeat still_step); (try refine wpStill_nil ?_))
  have cnn := cn v2.drew (J2.out.draws 1)
  (still_call (still_of (cnn)); (repeat still_step); (try refine wpStill_nil ?_))
  clear cnn
  go_wp2_with fail
  refine (cu _ ((O2.out.blk (O1.out.blk H.out.del n4) e6.symm).draws 1)).mono ?_; rintro e v3 ⟨rfl, k3, o3⟩
  have O3 := Lib.hid (((Only.refl (· = bd) v2).draws 1).trans o3)
  have D3 := Lib.hid k3
  clear q2 q3 k3 o3
  go_wp2
  go_ret
  have z1 := O1.out.size; have z2 := O2.out.size; have z3 := O3.out.size
  refine ⟨rfl, ⟨bw, bs, bj, bd, fun k => (Sw k ∨ w.heap.size ≤ k) ∧ k < v1.heap.size, ch', ?_⟩, ?_⟩
  · rw [HSM.out]
    have nn : ∀ k, k < w.heap.size → ¬ Sw k → ¬ ((Sw k ∨ w.heap.size ≤ k) ∧ k < v1.heap.size) := fun k hk hn ⟨hh, _⟩ => hh.elim hn (by omega)
    have nw2 : ∀ k, ((Sw k ∨ w.heap.size ≤ k) ∧ k < v1.heap.size) → k ≠ bj ∧ k ≠ bd := fun k hk => ⟨fun e => nn bj lbj n3 (e ▸ hk), fun e => nn bd lbd n4 (e ▸ hk)⟩
    refine ⟨?_, ?_, ?_, ?_, D3.out, ?_, ?_, ?_, ⟨nn b lb n1, nn bs lbs n2, nn bj lbj n3, nn bd lbd n4⟩, H.out.ne⟩
    · exact O3.out.blk (O2.out.blk (O1.out.blk H.out.blk n1) e2) e3
    · exact (WIN.out.only O2.out (fun k hk => (nw2 k hk).1)).only O3.out (fun k hk => (nw2 k hk).2)
    · exact O3.out.blk (O2.out.blk (O1.out.blk H.out.clk n2) e4) e5
    · have := O3.out.blk J2.out e6
      simpa using this
    · have := HUN.out
      simp only [List.length_append, List.length_singleton]
      omega
    · exact fun k hk => hk.2
    · exact ⟨⟨.inl s1, by omega⟩, ⟨.inl s2, by omega⟩, ⟨.inl s3, by omega⟩, ⟨.inl s4, by omega⟩, fun k hk => ⟨hk.1.imp (s5 k) id, by have := hk.2; omega⟩⟩
  · exact ((O1.out.weaken (T := S) (fun k _ hk => s5 k hk)).trans_new O2.out (fun i _ e => by subst e; exact s3)).trans_new O3.out (fun i _ e => by subst e; exact s4)

theorem cframe_none (b : Nat) (c : Cfg) (hc : cchk c = 0) (s : CS) (x : Int) (S : Nat → Prop) (w : World) (h : CkAt w b c s S) (hL : s.L = []) :
    Calls Try.prog 13 #[.pointer (some ⟨b, 0, none⟩), .int .i64 x] w fun e w' => e = .returned (.tuple #[.int .i64 0, .bool false]) ∧ w = w' := by
  have co := coffset_f b c s S w h
  rw [hL, show lastN c.window.toNat [] = [] by simp [lastN], show decide (([] : List Int) ≠ []) = false from rfl] at co
  generalize leastF [] = m at *
  go_enter Try.func13, Try.ntmps13
  go_wp2_with fail
  refine co.mono ?_; rintro e w' ⟨rfl, rfl⟩
  go_wp2
  go_ret2
  exact ⟨rfl, rfl⟩

theorem frm_ok {c : Cfg} {s : CS} {x : Int} (ok : s.Ok c) (hx : I64 x) : (frm c s x).Ok c := by
  have hw : I64 (wantF c s x) := subF_i64 _ _
  refine ⟨ok.l, ok.len, ok.jit, ok.dly, ?_, ?_, .inr rfl⟩
  · simp only [frm]
    split
    · exact hw
    · exact toF_i64 ok.at0 hw
  · simp only [frm]
    split
    · exact hx
    · have := ok.last; unfold I64 at *; omega

set_option maxHeartbeats 1000000 in
theorem cframe_f (b : Nat) (c : Cfg) (hc : cchk c = 0) (s : CS) (ok : s.Ok c) (x : Int) (hx : I64 x) (S : Nat → Prop) (w : World) (h : CkAt w b c s S) (hL : s.L ≠ []) :
    Calls Try.prog 13 #[.pointer (some ⟨b, 0, none⟩), .int .i64 x] w fun e w' => e = .returned (.tuple #[.int .i64 (frm c s x).at0, .bool true]) ∧ CkAt w' b c (frm c s x) S ∧ Only S w w' := by
  obtain ⟨hw, h0, hr⟩ := cchk_ok hc
  obtain ⟨_, _, w1, w2⟩ := winOk_iff.1 hw
  have hLn : lastN c.window.toNat s.L ≠ [] := fun e => hL ((lastN_nil (by omega)).1 e)
  have co := coffset_f b c s S w h
  rw [show decide (lastN c.window.toNat s.L ≠ []) = true by simpa using hLn] at co
  have cd := fun (w' : World) (ho : Only noB w w') => cdelay_f b c s S w' (h.only ho (fun _ _ hf => hf))
  have hle : I64 (leastF (lastN c.window.toNat s.L)) := leastF_i64 fun z hz => ok.l z (lastN_mem hz)
  have s1 := sub_f x (leastF (lastN c.window.toNat s.L)) hx hle
  have s2 := sub_f (subF x (leastF (lastN c.window.toNat s.L))) s.dly (subF_i64 _ _) (inlim_i64 h0 ok.dly)
  have hwant : I64 (wantF c s x) := subF_i64 _ _
  have HF : Hid (frm c s x = { s with at0 := if s.st = 0 then wantF c s x else toF s.at0 s.last x (wantF c s x) c.num c.den, last := if s.st = 0 then x else max s.last x, st := 1 }) := Lib.hid rfl
  rw [show subF (subF x (leastF (lastN c.window.toNat s.L))) s.dly = wantF c s x from rfl] at s2
  obtain ⟨bw, bs, bj, bd, Sw, ch, h⟩ := h
  obtain ⟨p1, p2, p3, p4, p5⟩ := h.sb
  obtain ⟨n1, n2, n3, n4⟩ := h.nw
  obtain ⟨e1, e2, e3, e4, e5, e6⟩ := h.ne
  have q1 := h.blk.cell 1
  simp at q1
  have ct : ∀ w' : World, Only noB w w' → Calls Try.prog 39 #[.pointer (some ⟨bs, 0, none⟩), .int .i64 x, .int .i64 (wantF c s x)] w' fun e w'' =>
      e = .returned (.tuple #[.int .i64 (frm c s x).at0, .int .i64 0]) ∧ ClkAt w'' bs c.num c.den (frm c s x).at0 (frm c s x).last (frm c s x).st ∧ Only (· = bs) w' w'' := by
    intro w' ho
    have hk := ho.blk h.clk (fun hf => hf)
    rcases ok.st with hs | hs
    · have := sto_first bs c.num c.den s.at0 s.last x (wantF c s x) hr hx hwant w' (by rw [hs] at hk; exact hk)
      rw [HF.out]
      simpa [hs] using this
    · have := sto_next bs c.num c.den s.at0 s.last x (wantF c s x) hr ok.at0 ok.last hx hwant w' (by rw [hs] at hk; exact hk)
      rw [HF.out]
      simpa [hs] using this
  have HF2 : Hid ((frm c s x).L = s.L ∧ (frm c s x).jit = s.jit ∧ (frm c s x).dly = s.dly) := Lib.hid ⟨rfl, rfl, rfl⟩
  clear HF hle hwant hx
  generalize frm c s x = s' at *
  generalize wantF c s x = wt at *
  generalize subF x (leastF (lastN c.window.toNat s.L)) = sb at *
  generalize leastF (lastN c.window.toNat s.L) = le at *
  have H := Lib.hid h
  have OK := Lib.hid ok
  have BB := Lib.hid h.blk
  clear h ok hc hw h0 hr hL hLn
  go_enter Try.func13, Try.ntmps13
  go_wp2_with fail
  refine co.mono ?_; rintro e w' ⟨rfl, rfl⟩
  go_wp2_with fail
  go_region_held3 (fun w' => w'.cell? ⟨b, 1, none⟩ = some (.pointer (some ⟨bs, 0, none⟩))) (first | go_keep | (have := (k3.blk (BB.out.draws 1) e1).cell 1; simpa using this)) ((first | (go_at_call 15; (with_reducible refine (s1 _).mono ?_); rintro e wx ⟨rfl, rfl⟩) | (go_at_call 15; (with_reducible refine (s2 _).mono ?_); rintro e wx ⟨rfl, rfl⟩) | (go_at_call 20; refine (cd _ (onlyDrew _ _)).mono ?_; rintro e wx ⟨rfl, rfl⟩) | (go_at_call 39; refine (ct _ (onlyDrew _ _)).mono ?_; rintro e wx ⟨rfl, k2, k3⟩)))
  go_wp2
  go_ret2
  have O : Only (· = bs) w wx := (onlyDrew _ w).trans k3
  obtain ⟨t1, t2, t3⟩ := HF2.out
  refine ⟨rfl, ⟨bw, bs, bj, bd, Sw, ch, ?_⟩, O.weaken (fun k _ e => by subst e; exact p2)⟩
  refine ⟨O.blk H.out.blk e1, ?_, k2.draws 0, ?_, ?_, ?_, fun k hk => Nat.lt_of_lt_of_le (H.out.sS k hk) O.size, H.out.sb, H.out.nw, H.out.ne⟩
  · rw [t1]; exact H.out.win.only O (fun k hk e => by subst e; exact n2 hk)
  · rw [t1, t2]; exact O.blk H.out.jt e4.symm
  · rw [t3]; exact O.blk H.out.del e5.symm
  · rw [t1]; exact H.out.ch
end Go.Proofs.Ytbpbkdpjolcofaa
