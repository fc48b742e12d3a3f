/- bracket.Pick: between which snapshots a time is. -/
import Derived.Test.YtobphhbmlhjbcaaBr3
import Derived.RegionIn
namespace Go.Proofs.Ytobphhbmlhjbcaa
set_option linter.unusedVariables false
set_option linter.unusedSimpArgs false
open Go.RowKit Go.Shelf

attribute [local go_sem] Oper.semAt_some

theorem blk_own {β : Type} (B : Nat) (t : TypeId) (f : β → Array Value) : Own (fun s W => Blk W B (f s) t) := fun s X Y row hs hg hrow => by
  unfold Blk at *
  exact (grownBy_keeps_cells hg hrow hs rfl).trans hs
/-- what comes next: the place that came last, or -1 -/
def nxt (pre : List Nat) : Int := match pre.getLast? with
  | none => -1
  | some i => i
theorem nxt_snoc (pre : List Nat) (x : Nat) : nxt (pre ++ [x]) = x := by simp [nxt]
theorem nxt_nil : nxt [] = -1 := rfl

set_option maxRecDepth 100000 in
set_option maxHeartbeats 4000000 in
theorem pick_ok (at0 : Int) (s : Option Addr) (len cap : Nat) (K T : Nat → Int) (E : Nat → Option Addr × Nat × Nat) (w : World) (h : SnapsAt w s len K T E) (hlen : (len : Int) ≤ 4611686018427387904) (hc : chkT T len = 0) :
    Calls Try.prog 49 #[.int .i64 at0, .slice s len cap] w fun e w' => e = .returned (.tuple #[.int .i64 (pickA T at0 len), .int .i64 (pickB T at0 len), .int .i64 (pickE T at0 len)]) ∧ Below w.heap.size w w' := by
  have CK := fun w' hb => bcheck_f s len cap K T E w' (h.below hb) hlen
  rw [hc] at CK
  have PA : Hid (pickA T at0 len = if lastLe T at0 len = 0 then 0 else (lastLe T at0 len : Int) - 1) := Lib.hid (by unfold pickA; rw [if_pos hc])
  have PB : Hid (pickB T at0 len = if lastLe T at0 len = 0 then 0 else if lastLe T at0 len = len then -1 else (lastLe T at0 len : Int)) := Lib.hid (by unfold pickB; rw [if_pos hc])
  have PE : Hid (pickE T at0 len = if lastLe T at0 len = 0 then 5 else 0) := Lib.hid (by unfold pickE; rw [if_pos hc])
  generalize pickA T at0 len = pa at *
  generalize pickB T at0 len = pb at *
  generalize pickE T at0 len = pe at *
  refine (callsIn_wide (n := 9)).1 ?_
  refine callsIn_of_wp_marks Try.func49 rfl trivial ?_ rfl
  simp only [Try.ntmps49, List.size_toArray, List.length_cons, List.length_nil, Nat.reduceAdd, Nat.reduceSub, Array.replicate_succ, Array.replicate_zero, List.push_toArray, List.append_toArray, List.nil_append, List.cons_append]
  gi_wp2_with (first
    | (refine ⟨trivial, ?_⟩; gi_at_call 53; refine (callsIn_wide.2 (CK _ (by (repeat (first | exact Below.refl _ _ | assumption | (refine Below.drew ?_) | (refine below_drewN ?_ _) | (refine Below.alloc ?_ (by simp <;> omega) _) | (refine Below.setCell ?_ (by simp <;> omega) _)))))).mono ?_; rintro e w1 ⟨rfl, hb1⟩)
    | (refine ⟨trivial, ?_⟩; gi_at_call 77; refine (back_in Fence.wide _ trivial rfl _ _ _ _).mono ?_; rintro e w' ⟨rfl, rfl⟩))
  have hsz1 : w.heap.size + 1 + 1 + 1 + 1 ≤ w1.heap.size := by have := hb1.size; simpa using this
  have B2 : Blk w1 w.heap.size #[.int .i64 at0] 2 := ((((Blk.new w #[.int .i64 at0] 2).alloc (.cells #[.int .i64 0] 3)).alloc (.cells #[.int .i64 0] 3)).alloc (.cells #[.int .i64 0] 31)).below hb1 (by simp; omega)
  have B4 : Blk w1 (w.heap.size + 1) #[.int .i64 0] 3 := by
    have e := ((Blk.new (w.alloc (.cells #[.int .i64 at0] 2)) #[.int .i64 0] 3).alloc (.cells #[.int .i64 0] 3)).alloc (.cells #[.int .i64 0] 31)
    simp at e
    exact e.below hb1 (by simp)
  have B5 : Blk w1 (w.heap.size + 1 + 1) #[.int .i64 0] 3 := by
    have e := (Blk.new ((w.alloc (.cells #[.int .i64 at0] 2)).alloc (.cells #[.int .i64 0] 3)) #[.int .i64 0] 3).alloc (.cells #[.int .i64 0] 31)
    simp at e
    exact e.below hb1 (by simp)
  have B6 : Blk w1 (w.heap.size + 1 + 1 + 1) #[.int .i64 0] 31 := by
    have e := Blk.new (((w.alloc (.cells #[.int .i64 at0] 2)).alloc (.cells #[.int .i64 0] 3)).alloc (.cells #[.int .i64 0] 3)) #[.int .i64 0] 31
    simp at e
    exact e.below hb1 (by simp)
  have hB1 : Below w.heap.size w w1 := Below.trans (by (repeat (first | exact Below.refl _ _ | assumption | (refine Below.drew ?_) | (refine below_drewN ?_ _) | (refine Below.alloc ?_ (by simp <;> omega) _) | (refine Below.setCell ?_ (by simp <;> omega) _)))) (hb1.mono (by simp; omega))
  clear hb1
  have C2 := (B2.alloc (.cells #[.int .i64 (-1)] 3)).alloc (.cells #[.slice s len cap] 59)
  have C4 := (B4.alloc (.cells #[.int .i64 (-1)] 3)).alloc (.cells #[.slice s len cap] 59)
  have C5 := (B5.alloc (.cells #[.int .i64 (-1)] 3)).alloc (.cells #[.slice s len cap] 59)
  have C6 := (B6.alloc (.cells #[.int .i64 (-1)] 3)).alloc (.cells #[.slice s len cap] 59)
  have C8 := (Blk.new w1 #[.int .i64 (-1)] 3).alloc (.cells #[.slice s len cap] 59)
  have CS := Blk.new (w1.alloc (.cells #[.int .i64 (-1)] 3)) #[.slice s len cap] 59
  rw [World.size_alloc] at CS
  have HB0 : Below w.heap.size w ((w1.alloc (.cells #[.int .i64 (-1)] 3)).alloc (.cells #[.slice s len cap] 59)) := (hB1.alloc hB1.size _).alloc (by simp; omega) _
  have hsz : ((w1.alloc (.cells #[.int .i64 (-1)] 3)).alloc (.cells #[.slice s len cap] 59)).heap.size = w1.heap.size + 1 + 1 := by simp
  obtain ⟨W0, hW0⟩ : ∃ W0, (w1.alloc (.cells #[.int .i64 (-1)] 3)).alloc (.cells #[.slice s len cap] 59) = W0 := ⟨_, rfl⟩
  rw [hW0] at C2 C4 C5 C6 C8 CS HB0 hsz ⊢
  clear hW0 B2 B4 B5 B6 hB1
  obtain ⟨nx, hnx⟩ : ∃ n, w1.heap.size = n := ⟨_, rfl⟩
  rw [hnx] at C8 CS hsz hsz1 ⊢
  clear hnx CK
  obtain ⟨s0, hs0⟩ : ∃ n, w.heap.size = n := ⟨_, rfl⟩
  rw [hs0] at C2 C4 C5 C6 HB0 hsz1 ⊢
  refine wpIn_rangeFunc_ownH rfl (by omega) (gf := 94) (lb := #[.pointer (some ⟨nx + 1, 0, none⟩)]) rfl trivial (enters_of Try.func94 (by kernel_rfl) rfl)
    (back_stops Fence.wide 8 trivial rfl (by omega) (nx + 1) s0 s len cap K T E hlen W0 w (by omega) (by omega) (CS.cell 0) hs0 h HB0) (fun h k => h.trans k) (KeepB.putObj (by omega) (by omega)) (Below.refl _ _) (fun _ => rfl)
    (fun pre W => ((((((Blk W s0 #[.int .i64 at0] 2 ∧ Blk W (s0 + 1) #[.int .i64 0] 3) ∧ Blk W (s0 + 1 + 1) #[.int .i64 0] 3) ∧ Blk W (s0 + 1 + 1 + 1) #[.int .i64 0] 31) ∧ Blk W nx #[.int .i64 (nxt pre)] 3) ∧ Blk W (nx + 1) #[.slice s len cap] 59) ∧ (∀ i ∈ pre, at0 < T i)) ∧ Below s0 w W)
    (fun c pre W => ((((c = .ret ∧ ∃ ini i, pre = ini ++ [i] ∧ T i ≤ at0 ∧ ∀ j ∈ ini, at0 < T j) ∧ Blk W (s0 + 1) #[.int .i64 (nxt pre)] 3) ∧ Blk W (s0 + 1 + 1) #[.int .i64 (nxt pre.dropLast)] 3) ∧ Blk W (s0 + 1 + 1 + 1) #[.int .i64 0] 31) ∧ Below s0 w W)
    (OwnFrom.and (OwnFrom.and (OwnFrom.and (OwnFrom.and (OwnFrom.and (OwnFrom.and (OwnFrom.and (Own.from (blk_own _ _ (fun _ => #[.int .i64 at0])) _) (Own.from (blk_own _ _ (fun _ => #[.int .i64 0])) _)) (Own.from (blk_own _ _ (fun _ => #[.int .i64 0])) _)) (Own.from (blk_own _ _ (fun _ => #[.int .i64 0])) _)) (Own.from (blk_own _ _ (fun pre => #[.int .i64 (nxt pre)])) _)) (Own.from (blk_own _ _ (fun _ => #[.slice s len cap])) _)) (ownFrom_pure _ (fun pre => ∀ i ∈ pre, at0 < T i))) (ownFrom_below (by omega) (by omega)))
    (fun c => OwnFrom.and (OwnFrom.and (OwnFrom.and (OwnFrom.and (ownFrom_pure _ (fun pre => c = .ret ∧ ∃ ini i, pre = ini ++ [i] ∧ T i ≤ at0 ∧ ∀ j ∈ ini, at0 < T j)) (Own.from (blk_own _ _ (fun pre => #[.int .i64 (nxt pre)])) _)) (Own.from (blk_own _ _ (fun (pre : List Nat) => #[.int .i64 (nxt pre.dropLast)])) _)) (Own.from (blk_own _ _ (fun _ => #[.int .i64 0])) _)) (ownFrom_below (by omega) (by omega)))
    ⟨⟨⟨⟨⟨⟨⟨C2, C4⟩, C5⟩, C6⟩, C8⟩, CS⟩, by simp⟩, HB0⟩
    (fun x a' W => ∃ Bx, nx + 1 < Bx ∧ Blk W Bx #[.int .i64 (K x), .int .i64 (T x), .slice (E x).1 (E x).2.1 (E x).2.2] 26 ∧ a' = { tmps := #[.int .i64 at0, .slice s len cap, .pointer (some ⟨s0, 0, none⟩), undef, .pointer (some ⟨s0 + 1, 0, none⟩), .pointer (some ⟨s0 + 1 + 1, 0, none⟩), .pointer (some ⟨s0 + 1 + 1 + 1, 0, none⟩), .int .i64 0, .pointer (some ⟨nx, 0, none⟩), .int .i64 (x : Int), .pointer (some ⟨Bx, 0, none⟩), .slice s len cap, .int .i64 0, .int .i64 0, .bool false, undef, .slice s len cap, .func (.func 94) #[] #[.pointer (some ⟨nx + 1, 0, none⟩)], .int .i64 (x : Int), .agg #[.int .i64 (K x), .int .i64 (T x), .slice (E x).1 (E x).2.1 (E x).2.2], undef, undef, undef, undef, undef, undef, undef], defers := [] })
    (fun x a' _ X Y row hs hg hr => by obtain ⟨Bx, h1, h2, h3⟩ := hs; exact ⟨Bx, h1, blk_own Bx 26 (fun (_ : Unit) => #[.int .i64 (K x), .int .i64 (T x), .slice (E x).1 (E x).2.1 (E x).2.2]) () X Y row h2 hg (fun r e => (hr r e).2), h3⟩)
    ?assign ?body ?done ?stop
  case assign =>
    rintro l pre x W KK ⟨⟨⟨⟨⟨⟨⟨c2, c4⟩, c5⟩, c6⟩, c8⟩, cS⟩, hp⟩, hB⟩ hK
    have hBs : s0 ≤ W.heap.size := by have := hB.size; omega
    unfold snapE
    gi_wp2
    exact hK _ _ ((KeepsOthers.alloc _ _).from _) ⟨(Below.refl _ W).alloc hBs _, (cS.alloc _).trans cS.symm⟩ ⟨⟨⟨⟨⟨⟨⟨c2.alloc _, c4.alloc _⟩, c5.alloc _⟩, c6.alloc _⟩, c8.alloc _⟩, cS.alloc _⟩, hp⟩, hB.alloc hBs _⟩ ⟨W.heap.size, cS.lt, Blk.new W _ _, rfl⟩
  case body =>
    rintro l pre x a' W hl ⟨r, hr⟩ ⟨⟨⟨⟨⟨⟨⟨c2, c4⟩, c5⟩, c6⟩, c8⟩, cS⟩, hp⟩, hB⟩ ⟨Bx, hBx, bX, rfl⟩ hlt
    have hBs : s0 ≤ W.heap.size := by have := hB.size; omega
    have q2 := c2.cell 0; have q8 := c8.cell 0; have x1 := bX.cell 1
    have q4 := c4.cell 0; have q5 := c5.cell 0; have q6 := c6.cell 0
    have f4 := c4.free 0; have f5 := c5.free 0; have f6 := c6.free 0; have f8 := c8.free 0
    simp at q2 q8 x1 f4 f5 f6 f8 q4 q5 q6
    by_cases hT : T x ≤ at0
    · have hmx : Try.prog.follows .mixedOrders = true := by kernel_rfl
      gi_wp2
      gi_region_with_o (fail)
      all_goals gi_wp2
      all_goals (try go_bits)
      all_goals
        refine ⟨((((KeepsOthers.setCell _ _ _).trans (KeepsOthers.setCell _ _ _)).trans (KeepsOthers.setCell _ _ _)).trans (KeepsOthers.drew _)).from _, ⟨⟨⟨⟨rfl, pre, x, rfl, hT, hp⟩, ?_⟩, ?_⟩, ?_⟩, ?_⟩
        · rw [nxt_snoc]
          exact (((c4.set 0 (.int .i64 x)).far (by simp) _).far (by simp) _).draws 1
        · rw [List.dropLast_concat]
          exact (((c5.far (p := ⟨s0 + 1, 0, none⟩) (by simp <;> omega) _).set 0 (.int .i64 (nxt pre))).far (p := ⟨s0 + 1 + 1 + 1, 0, none⟩) (by simp <;> omega) _).draws 1
        · exact (((c6.far (p := ⟨s0 + 1, 0, none⟩) (by simp <;> omega) _).far (p := ⟨s0 + 1 + 1, 0, none⟩) (by simp <;> omega) _).set 0 (.int .i64 0)).draws 1
        · exact (((hB.setCell (p := ⟨s0 + 1, 0, none⟩) (by simp) _).setCell (p := ⟨s0 + 1 + 1, 0, none⟩) (by simp <;> omega) _).setCell (p := ⟨s0 + 1 + 1 + 1, 0, none⟩) (by simp <;> omega) _).drew
    · have hT2 : decide (T x ≤ at0) = false := decide_eq_false hT
      gi_wp2
      refine ⟨(KeepsOthers.setCell _ _ _).from _, ⟨(Below.refl s0 W).setCell (p := ⟨nx, 0, none⟩) (by show s0 ≤ nx; omega) _, (cS.far (p := ⟨nx, 0, none⟩) (by simp) _).trans cS.symm⟩, ⟨⟨⟨⟨⟨⟨⟨c2.far (by simp only [ne_eq]; omega) _, c4.far (by simp only [ne_eq]; omega) _⟩, c5.far (by simp only [ne_eq]; omega) _⟩, c6.far (by simp only [ne_eq]; omega) _⟩, by rw [nxt_snoc]; exact c8.set 0 _⟩, cS.far (by simp) _⟩, ?_⟩, hB.setCell (p := ⟨nx, 0, none⟩) (by show s0 ≤ nx; omega) _⟩⟩
      intro i hi
      rcases List.mem_append.1 hi with hi | hi
      · exact hp i hi
      · simp at hi; subst hi; omega
  case done =>
    rintro D ys W hD rfl ⟨⟨⟨⟨⟨⟨⟨c2, c4⟩, c5⟩, c6⟩, c8⟩, cS⟩, hp⟩, hB⟩ hK
    have hz : lastLe T at0 len = 0 := lastLe_stop T at0 len 0 (Nat.zero_le _) (fun i _ hi => hp i (by
      simp only [dn, List.mem_map, List.mem_range]; exact ⟨len - 1 - i, by omega, by omega⟩))
    have pa0 : pa = 0 := by rw [PA.out, if_pos hz]
    have pb0 : pb = 0 := by rw [PB.out, if_pos hz]
    have pe0 : pe = 5 := by rw [PE.out, if_pos hz]
    subst pa0; subst pb0; subst pe0
    have q4 := c4.cell 0; have q5 := c5.cell 0; have q6 := c6.cell 0
    have f4 := c4.free 0; have f5 := c5.free 0; have f6 := c6.free 0
    simp at f4 f5 f6 q4 q5 q6
    gi_wp2
    have hKK := (((KeepsOthers.setCell W ⟨s0 + 1, 0, none⟩ (.int .i64 0)).trans (KeepsOthers.setCell _ ⟨s0 + 1 + 1, 0, none⟩ (.int .i64 0))).trans (KeepsOthers.setCell _ ⟨s0 + 1 + 1 + 1, 0, none⟩ (.int .i64 5))).same D _ hK rfl
    refine ⟨by simp, .inl ⟨_, _, rfl, run_takeDeferred hKK, ?_⟩⟩
    have r4 := cell_kept ((((c4.set 0 (.int .i64 0)).far (p := ⟨s0 + 1 + 1, 0, none⟩) (by simp) (.int .i64 0)).far (p := ⟨s0 + 1 + 1 + 1, 0, none⟩) (by simp) (.int .i64 5)).cell 0) (grownBy_putObj' _ D (.deferred none)) (fun r e => by cases e; exact ⟨_, hKK, rfl⟩)
    have r5 := cell_kept ((((c5.far (p := ⟨s0 + 1, 0, none⟩) (by simp <;> omega) (.int .i64 0)).set 0 (.int .i64 0)).far (p := ⟨s0 + 1 + 1 + 1, 0, none⟩) (by simp <;> omega) (.int .i64 5)).cell 0) (grownBy_putObj' _ D (.deferred none)) (fun r e => by cases e; exact ⟨_, hKK, rfl⟩)
    have r6 := cell_kept ((((c6.far (p := ⟨s0 + 1, 0, none⟩) (by simp <;> omega) (.int .i64 0)).far (p := ⟨s0 + 1 + 1, 0, none⟩) (by simp <;> omega) (.int .i64 0)).set 0 (.int .i64 5)).cell 0) (grownBy_putObj' _ D (.deferred none)) (fun r e => by cases e; exact ⟨_, hKK, rfl⟩)
    simp at r4 r5 r6
    refine ⟨.tuple #[.int .i64 0, .int .i64 0, .int .i64 5], ?_, rfl, by rw [hs0]; exact (((hB.setCell (p := ⟨s0 + 1, 0, none⟩) (by simp) _).setCell (p := ⟨s0 + 1 + 1, 0, none⟩) (by simp <;> omega) _).setCell (p := ⟨s0 + 1 + 1 + 1, 0, none⟩) (by simp <;> omega) _).trans (belowK_b (w := w) (by omega) _ D _ _ (by omega) hKK rfl rfl)⟩
    simp [results, Try.f49, go_sem, r4, r5, r6]
  case stop =>
    rintro D c pre W hD ⟨k, hk, rfl⟩ ⟨⟨⟨⟨⟨rfl, ini, i, e1, e2, e3⟩, c4⟩, c5⟩, c6⟩, hB⟩ hK
    obtain ⟨k', rfl⟩ : ∃ k', k = k' + 1 := by
      cases k with
      | zero => simp [dn] at e1
      | succ k' => exact ⟨k', rfl⟩
    rw [dn_succ] at e1
    obtain ⟨rfl, e5⟩ := List.append_inj' e1 rfl
    obtain rfl : len - 1 - k' = i := by simpa using e5
    rw [dn_succ, nxt_snoc] at c4
    rw [dn_succ, List.dropLast_concat] at c5
    have hl : lastLe T at0 len = len - 1 - k' + 1 := by
      rw [lastLe_stop T at0 len (len - 1 - k' + 1) (by omega) (fun i h1 h2 => e3 i (by
        simp only [dn, List.mem_map, List.mem_range]; exact ⟨len - 1 - i, by omega, by omega⟩)), lastLe_at e2]
    have hn0 : ¬ lastLe T at0 len = 0 := by omega
    have pa0 : pa = ((len - 1 - k' : Nat) : Int) := by rw [PA.out, if_neg hn0, hl]; omega
    have pb0 : pb = nxt (dn len k') := by
      rw [PB.out, if_neg hn0, hl]
      cases k' with
      | zero => rw [if_pos (by omega)]; rfl
      | succ k2 => rw [if_neg (by omega), dn_succ, nxt_snoc]; omega
    have pe0 : pe = 0 := by rw [PE.out, if_neg hn0]
    subst pa0; subst pb0; subst pe0
    gi_wp2
    refine ⟨by simp, .inl ⟨_, _, rfl, run_takeDeferred hK, ?_⟩⟩
    have r4 := cell_kept (c4.cell 0) (grownBy_putObj' _ D (.deferred none)) (fun r e => by cases e; exact ⟨_, hK, rfl⟩)
    have r5 := cell_kept (c5.cell 0) (grownBy_putObj' _ D (.deferred none)) (fun r e => by cases e; exact ⟨_, hK, rfl⟩)
    have r6 := cell_kept (c6.cell 0) (grownBy_putObj' _ D (.deferred none)) (fun r e => by cases e; exact ⟨_, hK, rfl⟩)
    refine ⟨.tuple #[.int .i64 ((len - 1 - k' : Nat) : Int), .int .i64 (nxt (dn len k')), .int .i64 0], ?_, rfl, by (try rw [hs0]); exact hB.trans (belowK_b (w := w) (by omega) _ D _ _ (by omega) hK rfl rfl)⟩
    simp at r4 r5 r6
    simp [results, Try.f49, go_sem, r4, r5, r6]
end Go.Proofs.Ytobphhbmlhjbcaa
