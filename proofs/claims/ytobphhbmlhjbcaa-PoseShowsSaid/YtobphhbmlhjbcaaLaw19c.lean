/- The law PoseShows, walked: it returns true. -/
import Derived.Test.YtobphhbmlhjbcaaPose13
import Derived.Test.YtobphhbmlhjbcaaPose11
namespace Go.Proofs.Ytobphhbmlhjbcaa
set_option linter.unusedVariables false
set_option linter.unusedSimpArgs false
open Go.RowKit
set_option maxRecDepth 100000

theorem shN_le {c : Cfg} {at0 : Int} {K T : Nat → Int} {E : Nat → Option Addr × Nat × Nat} {EE : Nat → Nat → Ent} {len : Nat} (h : ∀ i, i < len → ((E i).2.1 : Int) ≤ 4611686018427387904) : ((shN c at0 K T E EE len : Nat) : Int) ≤ 4611686018427387904 := by
  unfold shN
  split
  · rename_i h0
    have hp : pickE T at0 len = 0 := by
      unfold shE at h0
      split at h0
      · split at h0
        · assumption
        · assumption
      · contradiction
    exact h _ (pick_in hp).2.1
  · decide

set_option maxHeartbeats 2000000 in
theorem poseShows_c (c : Cfg) (ok : c.Ok) (at0 : Int) (hat : I64 at0) (s : Option Addr) (len cap : Nat) (K T : Nat → Int) (E : Nat → Option Addr × Nat × Nat) (EE : Nat → Nat → Ent) (w : World) (h : SnsAt w s len K T E EE) (hT : ∀ i, i < len → I64 (T i)) (hlen : (len : Int) ≤ 4611686018427387904) :
    Calls Try.prog 9 #[cfgV c, .int .i64 at0, .slice s len cap] w fun e w' => e = .returned (.bool true) ∧ Below w.heap.size w w' := by
  have BC := Lib.hid (Blk.new w #[.int .i64 c.ring, .int .i64 c.window, .int .i64 c.base, .int .i64 c.gain, .int .i64 c.least, .int .i64 c.most, .int .i64 c.slack, .int .i64 c.num, .int .i64 c.den, .int .i64 c.extra, .bool c.curved] 23)
  have hB0 : Below w.heap.size w (w.alloc (.cells #[.int .i64 c.ring, .int .i64 c.window, .int .i64 c.base, .int .i64 c.gain, .int .i64 c.least, .int .i64 c.most, .int .i64 c.slack, .int .i64 c.num, .int .i64 c.den, .int .i64 c.extra, .bool c.curved] 23)) := (Below.refl _ _).alloc (Nat.le_refl _) _
  have GR := great_f s len cap K T E (w.alloc (.cells #[.int .i64 c.ring, .int .i64 c.window, .int .i64 c.base, .int .i64 c.gain, .int .i64 c.least, .int .i64 c.most, .int .i64 c.slack, .int .i64 c.num, .int .i64 c.den, .int .i64 c.extra, .bool c.curved] 23)) (h.1.below hB0) hlen
  have BT := fun w' hA => psh_f c ok at0 hat s len cap K T E EE w' hA hT hlen
  have RT := fun w' hA => rsh_f c ok at0 hat s len cap K T E EE w' hA hT hlen
  have hn := shN_le (c := c) (at0 := at0) (K := K) (T := T) (EE := EE) (fun i hi => (h.2 i hi).2)
  unfold Rets at BT RT
  generalize shN c at0 K T E EE len = rn at *
  generalize shE c at0 K T E EE len = re at *
  generalize shP c at0 K T E EE len = rp at *
  generalize greatB E len = g at *
  unfold cfgV at BT RT
  unfold cfgV
  go_enter Try.func9, Try.ntmps9
  go_wp2_with fail
  generalize (w.alloc (.cells #[.int .i64 c.ring, .int .i64 c.window, .int .i64 c.base, .int .i64 c.gain, .int .i64 c.least, .int .i64 c.most, .int .i64 c.slack, .int .i64 c.num, .int .i64 c.den, .int .i64 c.extra, .bool c.curved] 23)) = W at *
  refine GR.mono ?_; rintro e w1 ⟨rfl, hb1⟩
  have HB1 : Hid (Below w.heap.size w w1) := Lib.hid (hB0.trans (hb1.mono hB0.size))
  have BCn := Lib.hid (BC.out.below hb1 BC.out.lt)
  clear BC
  have BC := BCn
  clear BCn
  clear hb1 hB0 GR
  cases g
  · obtain ⟨q0, q1, q2, q3, q4, q5, q6, q7, q8, q9, q10⟩ := cfg_cells BC.out
    have bt := BT w1 (h.below HB1.out)
    go_wp2_with fail
    refine bt.mono ?_; rintro e w2 ⟨s2, c2, rfl, hp2, hb2⟩
    have HP2 := Lib.hid hp2
    have BCn := Lib.hid (BC.out.below hb2 BC.out.lt)
    clear BC
    have BC := BCn
    clear BCn
    have HB2 : Hid (Below w.heap.size w w2) := Lib.hid (HB1.out.trans (hb2.mono HB1.out.size))
    clear hb2 hp2 bt BT HB1 q0 q1 q2 q3 q4 q5 q6 q7 q8 q9 q10
    obtain ⟨q0, q1, q2, q3, q4, q5, q6, q7, q8, q9, q10⟩ := cfg_cells BC.out
    have bt := RT w2 (h.below HB2.out)
    go_wp2_with fail
    refine bt.mono ?_; rintro e w3 ⟨s3, c3, rfl, hp3, hb3⟩
    have HP3 := Lib.hid hp3
    have HQ3 := Lib.hid (HP2.out.below hb3)
    have HB3 : Hid (Below w.heap.size w w3) := Lib.hid (HB2.out.trans (hb3.mono HB2.out.size))
    clear hb3 hp3 bt RT HB2 HP2 BC q0 q1 q2 q3 q4 q5 q6 q7 q8 q9 q10
    go_wp2_with fail
    refine (alive19_f _).mono ?_; rintro e w4 ⟨rfl, hb4⟩
    have sm := same_f s2 s3 rn c2 c3 rp w4 (HQ3.out.below hb4) (HP3.out.below hb4) hn
    have HB4 : Hid (Below w.heap.size w w4) := Lib.hid (HB3.out.trans (hb4.mono HB3.out.size))
    clear hb4
    go_wp2_with fail
    refine sm.mono ?_; rintro e w5 ⟨rfl, hb5⟩
    have HB5 : Hid (Below w.heap.size w w5) := Lib.hid (HB4.out.trans (hb5.mono HB4.out.size))
    clear hb5 sm
    go_wp2
    go_ret
    exact ⟨rfl, HB5.out⟩
  · go_wp2_with fail
    refine (alive19_f _).mono ?_; rintro e w2 ⟨rfl, hb2⟩
    have HB2 : Hid (Below w.heap.size w w2) := Lib.hid (HB1.out.trans (hb2.mono HB1.out.size))
    clear hb2
    go_wp2
    go_ret
    exact ⟨rfl, HB2.out⟩

set_option maxHeartbeats 2000000 in
theorem poseShows_g (c : Cfg) (ok : c.Ok) (at0 : Int) (hat : I64 at0) (s : Option Addr) (len cap : Nat) (K T : Nat → Int) (E : Nat → Option Addr × Nat × Nat) (EE : Nat → Nat → Ent) (w : World) (h1 : SnapsAt w s len K T E) (hT : ∀ i, i < len → I64 (T i)) (hlen : (len : Int) ≤ 4611686018427387904) (hg : greatB E len = true) :
    Calls Try.prog 9 #[cfgV c, .int .i64 at0, .slice s len cap] w fun e w' => e = .returned (.bool true) ∧ Below w.heap.size w w' := by
  have BC := Lib.hid (Blk.new w #[.int .i64 c.ring, .int .i64 c.window, .int .i64 c.base, .int .i64 c.gain, .int .i64 c.least, .int .i64 c.most, .int .i64 c.slack, .int .i64 c.num, .int .i64 c.den, .int .i64 c.extra, .bool c.curved] 23)
  have hB0 : Below w.heap.size w (w.alloc (.cells #[.int .i64 c.ring, .int .i64 c.window, .int .i64 c.base, .int .i64 c.gain, .int .i64 c.least, .int .i64 c.most, .int .i64 c.slack, .int .i64 c.num, .int .i64 c.den, .int .i64 c.extra, .bool c.curved] 23)) := (Below.refl _ _).alloc (Nat.le_refl _) _
  have GR := great_f s len cap K T E (w.alloc (.cells #[.int .i64 c.ring, .int .i64 c.window, .int .i64 c.base, .int .i64 c.gain, .int .i64 c.least, .int .i64 c.most, .int .i64 c.slack, .int .i64 c.num, .int .i64 c.den, .int .i64 c.extra, .bool c.curved] 23)) (h1.below hB0) hlen
  rw [hg] at GR
  unfold cfgV
  go_enter Try.func9, Try.ntmps9
  go_wp2_with fail
  generalize (w.alloc (.cells #[.int .i64 c.ring, .int .i64 c.window, .int .i64 c.base, .int .i64 c.gain, .int .i64 c.least, .int .i64 c.most, .int .i64 c.slack, .int .i64 c.num, .int .i64 c.den, .int .i64 c.extra, .bool c.curved] 23)) = W at *
  refine GR.mono ?_; rintro e w1 ⟨rfl, hb1⟩
  have HB1 : Hid (Below w.heap.size w w1) := Lib.hid (hB0.trans (hb1.mono hB0.size))
  have BCn := Lib.hid (BC.out.below hb1 BC.out.lt)
  clear BC
  have BC := BCn
  clear BCn
  clear hb1 hB0 GR
  go_wp2_with fail
  refine (alive19_f _).mono ?_; rintro e w2 ⟨rfl, hb2⟩
  have HB2 : Hid (Below w.heap.size w w2) := Lib.hid (HB1.out.trans (hb2.mono HB1.out.size))
  clear hb2
  go_wp2
  go_ret
  exact ⟨rfl, HB2.out⟩

theorem poseShows_w (c : Cfg) (ok : c.Ok) (at0 : Int) (hat : I64 at0) (s : Option Addr) (len cap : Nat) (K T : Nat → Int) (E : Nat → Option Addr × Nat × Nat) (EE : Nat → Nat → Ent) (w : World) (h1 : SnapsAt w s len K T E) (h2 : ∀ i, i < len → EntsAt w (E i).1 (E i).2.1 (EE i)) (hT : ∀ i, i < len → I64 (T i)) (hlen : (len : Int) ≤ 4611686018427387904) :
    Calls Try.prog 9 #[cfgV c, .int .i64 at0, .slice s len cap] w fun e w' => e = .returned (.bool true) ∧ Below w.heap.size w w' := by
  cases hg : greatB E len
  · have l := great_le hg
    exact poseShows_c c ok at0 hat s len cap K T E EE w ⟨h1, fun i hi => ⟨h2 i hi, by have := l i hi; omega⟩⟩ hT hlen
  · exact poseShows_g c ok at0 hat s len cap K T E EE w h1 hT hlen hg

theorem poseShows_walk (r wi bs g l m s n d e : Int) (cu : Bool) (at0 : Int) (s0 : Option Addr) (len cap : Nat) (K T : Nat → Int) (E : Nat → Option Addr × Nat × Nat) (EE : Nat → Nat → Ent) (w : World) (h1 : I64 r) (h2 : I64 wi) (h3 : I64 bs) (h4 : I64 g) (h5 : I64 l) (h6 : I64 m) (h7 : I64 s) (h8 : I64 n) (h9 : I64 d) (h10 : I64 e) (hat : I64 at0) (hS : SnapsAt w s0 len K T E) (hx : ∀ i, i < len → I64 (K i) ∧ I64 (T i) ∧ EntsAt w (E i).1 (E i).2.1 (EE i)) (hy : len * 40 ≤ 140737488351232) :
    Calls Try.prog 9 #[.agg #[.int .i64 r, .int .i64 wi, .int .i64 bs, .int .i64 g, .int .i64 l, .int .i64 m, .int .i64 s, .int .i64 n, .int .i64 d, .int .i64 e, .bool cu], .int .i64 at0, .slice s0 len cap] w fun e w' => e = .returned (.bool true) ∧ Below w.heap.size w w' :=
  poseShows_w ⟨r, wi, bs, g, l, m, s, n, d, e, cu⟩ ⟨h1, h2, h3, h4, h5, h6, h7, h8, h9, h10⟩ at0 hat s0 len cap K T E EE w hS (fun i hi => (hx i hi).2.2) (fun i hi => (hx i hi).2.1) (by omega)
end Go.Proofs.Ytobphhbmlhjbcaa
