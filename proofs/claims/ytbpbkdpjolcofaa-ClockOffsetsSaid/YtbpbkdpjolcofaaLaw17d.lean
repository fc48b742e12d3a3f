/- ClockOffsets, walked. -/
import Derived.Test.YtbpbkdpjolcofaaLaw17b
namespace Go.Proofs.Ytbpbkdpjolcofaa
set_option linter.unusedVariables false
set_option linter.unusedSimpArgs false
open Go.RowKit

/-- what is behind the first so many -/
theorem rowI_drop {w : World} {v : Value} {L : List Int} {g : Option Nat} (h : RowI w v L g) (hL : L ≠ []) (d : Nat) (hd : d < L.length) :
    ∃ b off cap, v = .slice (some ⟨b, off, none⟩) L.length cap ∧ L.length ≤ cap ∧ 0 < cap ∧ cap ≤ maxLen ∧ b < w.heap.size ∧ g = some b ∧ ∀ i, i < L.length - d → w.cell? ⟨b, off + d + i, none⟩ = some (.int .i64 ((L.drop d).getD i 0)) := by
  rcases h with ⟨_, h, _⟩ | ⟨b, off, cap, cur, rfl, rfl, h3, h4, h5, h6, h7, h8⟩
  · exact absurd h hL
  · refine ⟨b, off, cap, rfl, h3, h4, h5, (Array.getElem?_eq_some_iff.1 h6).1, rfl, fun i hi => ?_⟩
    have e : L[d + i]? = some ((L.drop d).getD i 0) := by
      rw [List.getD_eq_getElem?_getD, List.getElem?_drop, List.getElem?_eq_getElem (by omega)]; rfl
    have := h8 (d + i) _ e
    rw [← Nat.add_assoc] at this
    simpa [World.cell?, h6] using this
theorem getD_mem' {L : List Int} {i : Nat} (h : i < L.length) : L.getD i 0 ∈ L := by
  rw [List.getD_eq_getElem?_getD, List.getElem?_eq_getElem h]
  exact List.getElem_mem h
theorem mem_getD {L : List Int} {x : Int} (h : x ∈ L) : ∃ i, i < L.length ∧ L.getD i 0 = x := by
  obtain ⟨i, hi, e⟩ := List.mem_iff_getElem.1 h
  exact ⟨i, hi, by rw [List.getD_eq_getElem?_getD, List.getElem?_eq_getElem hi]; exact e⟩

set_option maxHeartbeats 1000000 in
theorem clockOffsets_bad (c : Cfg) (hc : cchk c ≠ 0) (a : Option Addr) (len cap : Nat) (w : World) :
    Calls Try.prog 4 #[cfgV c, .slice a len cap] w fun e w' => e = .returned (.bool true) ∧ Below w.heap.size w w' := by
  have nw := cnew_bad c hc
  have al := alive17_f
  have h0' : (cchk c != 0) = true := by simpa using hc
  clear hc
  generalize cchk c = k at *
  unfold cfgV at nw ⊢
  go_enter Try.func4, Try.ntmps4
  go_wp2_with fail
  refine (nw _).mono ?_; rintro e w1 ⟨rfl, hb1⟩
  have HB : Hid (Below w.heap.size w w1) := Lib.hid (((Below.refl _ _).alloc (Nat.le_refl _) _).trans (hb1.mono (by simp)))
  clear hb1
  go_wp2_with fail
  refine (al _).mono ?_; rintro e w2 ⟨rfl, hb2⟩
  have HB2 : Hid (Below w.heap.size w w2) := Lib.hid (HB.out.trans (hb2.mono HB.out.size))
  clear hb2
  go_wp2
  go_ret
  exact ⟨rfl, HB2.out⟩

set_option maxRecDepth 8000 in
set_option maxHeartbeats 4000000 in
theorem clockOffsets_ok (c : Cfg) (okc : c.Ok) (hc : cchk c = 0) (a : Option Addr) (len cap : Nat) (K X Y : Nat → Int) (w : World) (hs : ActsAt w a len K X Y) (hl : (len : Int) ≤ 4611686018427387904) :
    Calls Try.prog 4 #[cfgV c, .slice a len cap] w fun e w' => e = .returned (.bool true) ∧ Below w.heap.size w w' := by
  have nw := cnew_ok c okc hc
  have al := alive17_f
  have OKC := Lib.hid okc
  have HC := Lib.hid hc
  have WN := Lib.hid (winOk_iff.1 (cchk_ok hc).1)
  clear okc hc
  unfold cfgV at nw ⊢
  obtain ⟨hi, hz | ⟨ab, off, rfl, hab, hcell⟩⟩ := hs
  all_goals
    have HI := Lib.hid hi
    clear hi
    go_enter Try.func4, Try.ntmps4
    go_wp2_with fail
    refine (nw _).mono ?_; rintro e w1 ⟨b1, S1, rfl, hk1, hup1, hb1⟩
    have CB := Lib.hid ((Blk.new w #[.int .i64 c.ring, .int .i64 c.window, .int .i64 c.base, .int .i64 c.gain, .int .i64 c.least, .int .i64 c.most, .int .i64 c.slack, .int .i64 c.num, .int .i64 c.den, .int .i64 c.extra, .bool c.curved] 23).below hb1 (by simp))
    obtain ⟨q0, q1, q2, q3, q4, q5, q6, q7, q8, q9, q10⟩ := cfg_cells CB.out
    have HB : Hid (Below w.heap.size w w1) := Lib.hid (((Below.refl _ _).alloc (Nat.le_refl _) _).trans (hb1.mono (by simp)))
    have R0 := Lib.hid (show Run c b1 (w.heap.size + 1) w1 0 (cs0 c) S1 w1 from ⟨hk1, fun k e => by have := hup1 k e; simpa using this, cs0_ok HC.out, Nat.le_refl _, Below.refl _ _, by have := hb1.size; simpa using this⟩)
    have Q1 := Lib.hid q1
    clear hk1 hup1 hb1 nw q0 q1 q2 q3 q4 q5 q6 q7 q8 q9 q10
    by_cases hlen : len ≤ 300
    · go_wp2_with fail
      go_loopw [7, 34] (fun v i wr => ∃ (k : Nat) (s : CS) (S : Nat → Prop) (g : Option Nat), i = .int .i64 k ∧ k ≤ len ∧ Run c b1 (w.heap.size + 1) w1 k s S wr ∧ RowI wr v s.L g ∧ (∀ j, g = some j → ¬ S j ∧ w.heap.size + 1 ≤ j)) (fun _ i _ => len - (intOf i).toNat)
      case atStart => exact ⟨0, cs0 c, S1, none, rfl, Nat.zero_le _, R0.out, RowI.nil _, fun j e => by cases e⟩
      case round =>
        rename_i wr
        obtain ⟨k, s, S, g, rfl, hk, hR, hrow, hg⟩ := hrel
        have HRR := Lib.hid hR
        have ROW := Lib.hid hrow
        have HG := Lib.hid hg
        clear hR hg
        have hsz : w.heap.size + 1 ≤ wr.heap.size := HRR.out.size
        have hltS := Lib.hid (HRR.out.at'.lt)
        by_cases hlt : k < len
        · first
          | (exfalso; omega)
          | (clear hrow
             have e0 := ((HRR.out.below.cell (p := ⟨ab, off + k * 3, none⟩) (by simp; omega)).trans (HB.out.cell (p := ⟨ab, off + k * 3, none⟩) hab)).trans (hcell k hlt).1
             have e1 := ((HRR.out.below.cell (p := ⟨ab, off + k * 3 + 1, none⟩) (by simp; omega)).trans (HB.out.cell (p := ⟨ab, off + k * 3 + 1, none⟩) hab)).trans (hcell k hlt).2.1
             have e2 := ((HRR.out.below.cell (p := ⟨ab, off + k * 3 + 2, none⟩) (by simp; omega)).trans (HB.out.cell (p := ⟨ab, off + k * 3 + 2, none⟩) hab)).trans (hcell k hlt).2.2
             obtain ⟨hik, hix, hiy⟩ := HI.out k hlt
             have HC2 := Lib.hid hcell
             have hlt' : (k : Int) < len := by omega
             clear hcell
             generalize X k = x at *
             generalize Y k = y at *
             generalize K k = kd at *

             have cs := sub_f x y hix hiy
             go_wp2_with fail
             refine (run_sample OKC.out HC.out (by omega) (HRR.out.under ((Below.refl _ _).alloc (Nat.le_refl _) _)) x y hix hiy).mono ?_; rintro e v1 ⟨rfl, R1, o1⟩
             have BA := o1.blk (Blk.new wr #[.int .i64 kd, .int .i64 x, .int .i64 y] 31) (fun e => by have := hltS.out _ e; omega)
             have g1 := BA.cell 1; have g2 := BA.cell 2
             simp at g1 g2
             have ROW1 := Lib.hid ((ROW.out.only ((Only.refl noB wr).alloc (.cells #[.int .i64 kd, .int .i64 x, .int .i64 y] 31)) (fun _ _ hf => hf)).only o1 (fun j e => (HG.out j e).1))
             have Z1 := Lib.hid o1.size
             have R1h := Lib.hid R1
             clear R1 o1 BA
             have hlen9 : s.L.length ≤ 1000000 := by have := HRR.out.len; omega
             go_wp2_with fail
             refine (cs _).mono ?_; rintro e w' ⟨rfl, rfl⟩
             generalize subF x y = d at *
             go_wp2_with (at_builtin; refine wpList_append_row rfl (.tmp 44) (.tmp 50) rfl _ s.L g rfl (ROW1.out.only ((Only.refl noB _).alloc _) (fun _ _ hf => hf)) d ⟨v1.heap.size, 0, none⟩ rfl ?c1 ?c2 ?_)
             case c1 => exact new_cell _ _ rfl _
             case c2 => omega
             intro v' v2 g' r2 o2 n2
             have h9 : v1.heap.size ≤ v2.heap.size := by have := o2.size; simp at this; omega
             have o2b : Only (fun j => g = some j) v1 v2 := ((Only.refl _ v1).alloc _).trans o2
             have R2 : Run c b1 (w.heap.size + 1) w1 (k + 1) (smp c s d) (Grow S (wr.alloc (.cells #[.int .i64 kd, .int .i64 x, .int .i64 y] 31)) v1) v2 :=
               ⟨R1h.out.at'.only o2b (fun j e1 e2 => e1.1.elim (HG.out j e2).1 (fun hh => by have := ROW.out.gt j e2; simp at hh; omega)), R1h.out.up, R1h.out.ok, R1h.out.len, R1h.out.below.trans (o2b.below R1h.out.size (fun j e => (HG.out j e).2)), Nat.le_trans R1h.out.size h9⟩
             have G2 : ∀ j, g' = some j → ¬ (Grow S (wr.alloc (.cells #[.int .i64 kd, .int .i64 x, .int .i64 y] 31)) v1) j ∧ w.heap.size + 1 ≤ j := fun j e => by
               rcases n2 j e with h1 | h1
               · exact ⟨fun e1 => e1.1.elim (HG.out j h1).1 (fun hh => by have := ROW.out.gt j h1; simp at hh; omega), (HG.out j h1).2⟩
               · have h1 : v1.heap.size ≤ j := Nat.le_trans (by simp) h1
                 exact ⟨fun e1 => by have := e1.2; omega, by have := R1h.out.size; omega⟩
             have R2h := Lib.hid R2
             have G2h := Lib.hid G2
             have r2' : RowI v2 v' (smp c s d).L g' := r2
             clear r2 o2 o2b n2 R2 G2 g1 g2
             have hne : (smp c s d).L ≠ [] := by simp [smp]
             have co := coffset_f b1 c (smp c s d) _ _ R2h.out.at'
             obtain ⟨wn1, wn2⟩ : 1 ≤ c.window ∧ c.window ≤ 64 := ⟨WN.out.2.2.1, WN.out.2.2.2⟩
             have hnn : lastN c.window.toNat (smp c s d).L ≠ [] := fun e => hne ((lastN_nil (by omega)).1 e)
             rw [show decide (lastN c.window.toNat (smp c s d).L ≠ []) = true by simpa using hnn] at co
             obtain ⟨sp1, sp2⟩ := leastF_spec hnn
             have hll := R2h.out.len
             generalize smp c s d = s' at *
             obtain ⟨D, hD⟩ : ∃ D, s'.L.length - c.window.toNat = D := ⟨_, rfl⟩
             have hpos : 0 < s'.L.length := List.length_pos_iff.2 hne
             have hDl : D < s'.L.length := by omega
             obtain ⟨rb, ro, rc, rfl, t1, t2, t3, t4, t5, t6⟩ := rowI_drop r2' hne D hDl
             have ROW2 := Lib.hid r2'
             have hLD : lastN c.window.toNat s'.L = s'.L.drop D := by unfold lastN; rw [hD]
             rw [hLD] at sp1 sp2 co
             have hlD : (s'.L.drop D).length = s'.L.length - D := List.length_drop
             generalize s'.L.drop D = M at *
             obtain ⟨n, hn⟩ : ∃ n, s'.L.length = n := ⟨_, rfl⟩
             rw [hn] at hlD t1 t6 hDl hD hpos hll
             obtain ⟨m, rfl⟩ : ∃ m, n = D + m := ⟨n - D, by omega⟩
             rw [show D + m - D = m by omega] at hlD t6
             have hmax : max 0 (wrap64 (((D + m : Nat) : Int) - c.window)) = (D : Int) := by unfold wrap64; omega
             have hmx : max 0 (((D : Int) + (m : Int)) - c.window) = (D : Int) := by omega
             have hq1 := (R2h.out.below.cell (p := ⟨w.heap.size, 1, none⟩) (by simp)).trans Q1.out
             have T6 := Lib.hid t6
             have SP1 := Lib.hid sp1
             have SP2 := Lib.hid sp2
             generalize leastF M = lst at *
             have hltr : rb < v2.heap.size := t4
             clear t6 sp1 sp2 hne hnn r2' hLD t5
             rw [hn]
             go_wp2_with fail
             refine co.mono ?_; rintro e w' ⟨rfl, rfl⟩
             go_wp2_with fail
             go_loopw [12, 66] (fun tb j wr2 => ∃ (i : Nat) (b : Bool), j = .int .i64 i ∧ i ≤ m ∧ tb = .bool b ∧ (b = true ∨ ∃ i', i ≤ i' ∧ i' < m ∧ M.getD i' 0 = lst) ∧ v2 = wr2) (fun _ j _ => m - (intOf j).toNat)
             case atStart =>
               obtain ⟨i', h1, h2⟩ := mem_getD SP1.out
               exact ⟨0, false, rfl, Nat.zero_le _, rfl, .inr ⟨i', Nat.zero_le _, by omega, h2⟩, rfl⟩
             case round =>
               obtain ⟨i, bb, rfl, hi, rfl, hb, hw2⟩ := hrel
               subst hw2
               by_cases hil : i < m
               · have hc9 := T6.out i hil
                 have hge := SP2.out _ (getD_mem' (L := M) (i := i) (by omega))
                 have hil' : (i : Int) < m := by omega
                 have HBB := Lib.hid hb
                 clear hb
                 generalize hdd : M.getD i 0 = dd at *
                 have HDD := Lib.hid hdd
                 clear hdd
                 cases bb with
                 | true =>
                   go_wp2
                   go_roundw
                   case rel => exact ⟨i + 1, true, by go_num, by omega, rfl, .inl rfl, by first | rfl | trivial⟩
                   case measure => simp [intOf]; omega
                 | false =>
                   by_cases hdl : dd = lst
                   · have hdl2 : (dd == lst) = true := by simpa using hdl
                     have HDL := Lib.hid hdl
                     clear hdl
                     go_wp2
                     go_roundw
                     case rel => exact ⟨i + 1, true, by go_num, by omega, by simp, .inl rfl, by first | rfl | trivial⟩
                     case measure => simp [intOf]; omega
                   · have hdl2 : (dd == lst) = false := by simpa using hdl
                     have hnx : ∃ i', i + 1 ≤ i' ∧ i' < m ∧ M.getD i' 0 = lst := by
                       rcases HBB.out with h | ⟨i', h1, h2, h3⟩
                       · cases h
                       · refine ⟨i', ?_, h2, h3⟩
                         rcases Nat.eq_or_lt_of_le h1 with h | h
                         · subst h; exact absurd (HDD.out.symm.trans h3) hdl
                         · exact h
                     have HNX := Lib.hid hnx
                     clear hnx hdl
                     go_wp2
                     go_roundw
                     case rel => exact ⟨i + 1, false, by go_num, by omega, by simp, .inr HNX.out, by first | rfl | trivial⟩
                     case measure => simp [intOf]; omega
               · obtain rfl : i = m := by omega
                 obtain rfl : bb = true := by
                   rcases hb with h | ⟨i', h1, h2, _⟩
                   · exact h
                   · omega
                 clear hb
                 go_wp2
                 go_roundw
                 case rel => exact ⟨k + 1, s', _, _, by go_num, by omega, R2h.out, by have := ROW2.out; rw [hn] at this; exact this, G2h.out⟩
                 case measure => simp [intOf]; omega)
        · obtain rfl : k = len := by omega
          go_wp2_with fail
          refine (al _).mono ?_; rintro e w5 ⟨rfl, hb5⟩
          have HB2 : Hid (Below w.heap.size w w5) := Lib.hid ((HB.out.trans (HRR.out.below.mono (by omega))).trans (hb5.mono (by omega)))
          clear hb5
          go_wp2
          go_ret
          exact ⟨rfl, HB2.out⟩
    · first
      | (exfalso; omega)
      | (go_wp2_with fail
         refine (al _).mono ?_; rintro e w5 ⟨rfl, hb5⟩
         have HB2 : Hid (Below w.heap.size w w5) := Lib.hid (HB.out.trans (hb5.mono HB.out.size))
         clear hb5
         go_wp2
         go_ret
         exact ⟨rfl, HB2.out⟩)

theorem clockOffsets_walk (r wi bs g l m s n d e : Int) (cu : Bool) (a : Option Addr) (len cap : Nat) (K X Y : Nat → Int) (w : World) (h1 : I64 r) (h2 : I64 wi) (h3 : I64 bs) (h4 : I64 g) (h5 : I64 l) (h6 : I64 m) (h7 : I64 s) (h8 : I64 n) (h9 : I64 d) (h10 : I64 e) (hs : ActsAt w a len K X Y) (hy : len * 24 ≤ 140737488351232) :
    Calls Try.prog 4 #[.agg #[.int .i64 r, .int .i64 wi, .int .i64 bs, .int .i64 g, .int .i64 l, .int .i64 m, .int .i64 s, .int .i64 n, .int .i64 d, .int .i64 e, .bool cu], .slice a len cap] w fun e w' => e = .returned (.bool true) ∧ Below w.heap.size w w' := by
  have ok : (mkC r wi bs g l m s n d e cu).Ok := ⟨h1, h2, h3, h4, h5, h6, h7, h8, h9, h10⟩
  by_cases h0 : cchk (mkC r wi bs g l m s n d e cu) = 0
  · exact clockOffsets_ok (mkC r wi bs g l m s n d e cu) ok h0 a len cap K X Y w hs (by omega)
  · exact clockOffsets_bad (mkC r wi bs g l m s n d e cu) h0 a len cap w
end Go.Proofs.Ytbpbkdpjolcofaa
