/- Between and Beyond, whole; are poses the same? is it too much? -/
import Derived.Test.YtobphhbmlhjbcaaPose9
import Derived.DeepKeys
namespace Go.Proofs.Ytobphhbmlhjbcaa
set_option linter.unusedVariables false
set_option linter.unusedSimpArgs false
open Go.RowKit
set_option maxRecDepth 100000

/-- poses and an error that are handed back -/
def Rets (w : World) (n : Nat) (E : Int) (P : Nat → Po) (e : Ending) (w' : World) : Prop :=
  ∃ s cp, e = .returned (.tuple #[.slice s n cp, .int .i64 E]) ∧ PosesAt w' s n P ∧ Below w.heap.size w w'
def btwE (c : Cfg) (ka ta : Int) (aa : Option Addr) (la ca : Nat) (A : Nat → Ent) (kb tb : Int) (ab : Option Addr) (lb cb : Nat) (B : Nat → Ent) (at0 : Int) : Int :=
  if chk2 c ka ta aa la ca A kb tb ab lb cb B = 0 then partE ta tb at0 else chk2 c ka ta aa la ca A kb tb ab lb cb B
def bydE (c : Cfg) (ka ta : Int) (aa : Option Addr) (la ca : Nat) (A : Nat → Ent) (at0 : Int) : Int :=
  if chk1 c ka ta aa la ca A = 0 then beyE ta at0 else chk1 c ka ta aa la ca A
def okN (E : Int) (n : Nat) : Nat := if E = 0 then n else 0

theorem pbtw_f (c : Cfg) (ka ta : Int) (aa : Option Addr) (la ca : Nat) (A : Nat → Ent) (kb tb : Int) (ab : Option Addr) (lb cb : Nat) (B : Nat → Ent) (at0 : Int) (w : World) (ha : EntsAt w aa la A) (hb : EntsAt w ab lb B) (hla : (la : Int) ≤ 4611686018427387904) (hlb : (lb : Int) ≤ 4611686018427387904) :
    Calls Try.prog 12 #[cfgV c, snapV ka ta aa la ca, snapV kb tb ab lb cb, .int .i64 at0] w (Rets w (okN (btwE c ka ta aa la ca A kb tb ab lb cb B at0) la) (btwE c ka ta aa la ca A kb tb ab lb cb B at0) (btwF c.curved A B lb (at0 - ta) (tb - ta))) := by
  by_cases h0 : chk2 c ka ta aa la ca A kb tb ab lb cb B = 0
  · by_cases h1 : partE ta tb at0 = 0
    · have e : btwE c ka ta aa la ca A kb tb ab lb cb B at0 = 0 := by unfold btwE; rw [if_pos h0, h1]
      rw [e]
      unfold Rets okN
      rw [if_pos rfl]
      cases hc : c.curved
      · exact pbtw_line c hc ka ta aa la ca A kb tb ab lb cb B at0 w ha hb hla hlb h0 h1
      · exact pbtw_curved c hc ka ta aa la ca A kb tb ab lb cb B at0 w ha hb hla hlb h0 h1
    · have e : btwE c ka ta aa la ca A kb tb ab lb cb B at0 = partE ta tb at0 := by unfold btwE; rw [if_pos h0]
      rw [e]
      unfold Rets okN
      rw [if_neg h1]
      exact (pbtw_bad2 c ka ta aa la ca A kb tb ab lb cb B at0 w ha hb hla hlb h0 h1).mono fun e w' ⟨h2, h3⟩ => ⟨none, 0, h2, .inl rfl, h3⟩
  · have e : btwE c ka ta aa la ca A kb tb ab lb cb B at0 = chk2 c ka ta aa la ca A kb tb ab lb cb B := by unfold btwE; rw [if_neg h0]
    rw [e]
    unfold Rets okN
    rw [if_neg h0]
    exact (pbtw_bad c ka ta aa la ca A kb tb ab lb cb B at0 w ha hb hla hlb h0).mono fun e w' ⟨h2, h3⟩ => ⟨none, 0, h2, .inl rfl, h3⟩

theorem rbtw_f (c : Cfg) (ka ta : Int) (aa : Option Addr) (la ca : Nat) (A : Nat → Ent) (kb tb : Int) (ab : Option Addr) (lb cb : Nat) (B : Nat → Ent) (at0 : Int) (w : World) (ha : EntsAt w aa la A) (hb : EntsAt w ab lb B) (hla : (la : Int) ≤ 4611686018427387904) (hlb : (lb : Int) ≤ 4611686018427387904) :
    Calls Try.prog 13 #[cfgV c, snapV ka ta aa la ca, snapV kb tb ab lb cb, .int .i64 at0] w (Rets w (okN (btwE c ka ta aa la ca A kb tb ab lb cb B at0) la) (btwE c ka ta aa la ca A kb tb ab lb cb B at0) (btwF c.curved A B lb (at0 - ta) (tb - ta))) := by
  by_cases h0 : chk2 c ka ta aa la ca A kb tb ab lb cb B = 0
  · by_cases h1 : partE ta tb at0 = 0
    · have e : btwE c ka ta aa la ca A kb tb ab lb cb B at0 = 0 := by unfold btwE; rw [if_pos h0, h1]
      rw [e]
      unfold Rets okN
      rw [if_pos rfl]
      cases hc : c.curved
      · exact rbtw_line c hc ka ta aa la ca A kb tb ab lb cb B at0 w ha hb hla hlb h0 h1
      · exact rbtw_curved c hc ka ta aa la ca A kb tb ab lb cb B at0 w ha hb hla hlb h0 h1
    · have e : btwE c ka ta aa la ca A kb tb ab lb cb B at0 = partE ta tb at0 := by unfold btwE; rw [if_pos h0]
      rw [e]
      unfold Rets okN
      rw [if_neg h1]
      exact (rbtw_bad2 c ka ta aa la ca A kb tb ab lb cb B at0 w ha hb hla hlb h0 h1).mono fun e w' ⟨h2, h3⟩ => ⟨none, 0, h2, .inl rfl, h3⟩
  · have e : btwE c ka ta aa la ca A kb tb ab lb cb B at0 = chk2 c ka ta aa la ca A kb tb ab lb cb B := by unfold btwE; rw [if_neg h0]
    rw [e]
    unfold Rets okN
    rw [if_neg h0]
    exact (rbtw_bad c ka ta aa la ca A kb tb ab lb cb B at0 w ha hb hla hlb h0).mono fun e w' ⟨h2, h3⟩ => ⟨none, 0, h2, .inl rfl, h3⟩

theorem pbyd_f (c : Cfg) (ok : c.Ok) (ka ta : Int) (aa : Option Addr) (la ca : Nat) (A : Nat → Ent) (at0 : Int) (w : World) (hta : I64 ta) (hat : I64 at0) (ha : EntsAt w aa la A) (hla : (la : Int) ≤ 4611686018427387904) :
    Calls Try.prog 17 #[cfgV c, snapV ka ta aa la ca, .int .i64 at0] w (Rets w (okN (bydE c ka ta aa la ca A at0) la) (bydE c ka ta aa la ca A at0) (byF (byM c (subF at0 ta)) (byD c (subF at0 ta)) A)) := by
  by_cases h0 : chk1 c ka ta aa la ca A = 0
  · by_cases h1 : beyE ta at0 = 0
    · have e : bydE c ka ta aa la ca A at0 = 0 := by unfold bydE; rw [if_pos h0, h1]
      rw [e]
      unfold Rets okN
      rw [if_pos rfl]
      obtain ⟨_, hex, _, _⟩ := chk1_ok h0
      by_cases hd : subF at0 ta = 0
      · have := pbey_Z c ok ka ta aa la ca A at0 w hta hat ha hla h0 h1 hd
        rw [show byM c (subF at0 ta) = 0 by unfold byM; rw [if_pos hd], show byD c (subF at0 ta) = 0 by unfold byD; rw [if_neg (by omega)]; exact hd]
        exact this
      · by_cases hf : c.extra < subF at0 ta
        · have := pbey_F c ok ka ta aa la ca A at0 w hta hat ha hla h0 h1 hd hf
          rw [show byM c (subF at0 ta) = 4 by unfold byM; rw [if_neg hd, if_pos hf], show byD c (subF at0 ta) = c.extra by unfold byD; rw [if_pos hf]]
          exact this
        · have := pbey_N c ok ka ta aa la ca A at0 w hta hat ha hla h0 h1 hd hf
          rw [show byM c (subF at0 ta) = 3 by unfold byM; rw [if_neg hd, if_neg hf], show byD c (subF at0 ta) = subF at0 ta by unfold byD; rw [if_neg hf]]
          exact this
    · have e : bydE c ka ta aa la ca A at0 = beyE ta at0 := by unfold bydE; rw [if_pos h0]
      rw [e]
      unfold Rets okN
      rw [if_neg h1]
      exact (pbey_bad2 c ka ta aa la ca A at0 w hta hat ha hla h0 h1).mono fun e w' ⟨h2, h3⟩ => ⟨none, 0, h2, .inl rfl, h3⟩
  · have e : bydE c ka ta aa la ca A at0 = chk1 c ka ta aa la ca A := by unfold bydE; rw [if_neg h0]
    rw [e]
    unfold Rets okN
    rw [if_neg h0]
    exact (pbey_bad c ka ta aa la ca A at0 w hta hat ha hla h0).mono fun e w' ⟨h2, h3⟩ => ⟨none, 0, h2, .inl rfl, h3⟩

theorem rbyd_f (c : Cfg) (ok : c.Ok) (ka ta : Int) (aa : Option Addr) (la ca : Nat) (A : Nat → Ent) (at0 : Int) (w : World) (hta : I64 ta) (hat : I64 at0) (ha : EntsAt w aa la A) (hla : (la : Int) ≤ 4611686018427387904) :
    Calls Try.prog 20 #[cfgV c, snapV ka ta aa la ca, .int .i64 at0] w (Rets w (okN (bydE c ka ta aa la ca A at0) la) (bydE c ka ta aa la ca A at0) (byF (byM c (subF at0 ta)) (byD c (subF at0 ta)) A)) := by
  by_cases h0 : chk1 c ka ta aa la ca A = 0
  · by_cases h1 : beyE ta at0 = 0
    · have e : bydE c ka ta aa la ca A at0 = 0 := by unfold bydE; rw [if_pos h0, h1]
      rw [e]
      unfold Rets okN
      rw [if_pos rfl]
      obtain ⟨_, hex, _, _⟩ := chk1_ok h0
      by_cases hd : subF at0 ta = 0
      · have := rbey_Z c ok ka ta aa la ca A at0 w hta hat ha hla h0 h1 hd
        rw [show byM c (subF at0 ta) = 0 by unfold byM; rw [if_pos hd], show byD c (subF at0 ta) = 0 by unfold byD; rw [if_neg (by omega)]; exact hd]
        exact this
      · by_cases hf : c.extra < subF at0 ta
        · have := rbey_F c ok ka ta aa la ca A at0 w hta hat ha hla h0 h1 hd hf
          rw [show byM c (subF at0 ta) = 4 by unfold byM; rw [if_neg hd, if_pos hf], show byD c (subF at0 ta) = c.extra by unfold byD; rw [if_pos hf]]
          exact this
        · have := rbey_N c ok ka ta aa la ca A at0 w hta hat ha hla h0 h1 hd hf
          rw [show byM c (subF at0 ta) = 3 by unfold byM; rw [if_neg hd, if_neg hf], show byD c (subF at0 ta) = subF at0 ta by unfold byD; rw [if_neg hf]]
          exact this
    · have e : bydE c ka ta aa la ca A at0 = beyE ta at0 := by unfold bydE; rw [if_pos h0]
      rw [e]
      unfold Rets okN
      rw [if_neg h1]
      exact (rbey_bad2 c ka ta aa la ca A at0 w hta hat ha hla h0 h1).mono fun e w' ⟨h2, h3⟩ => ⟨none, 0, h2, .inl rfl, h3⟩
  · have e : bydE c ka ta aa la ca A at0 = chk1 c ka ta aa la ca A := by unfold bydE; rw [if_neg h0]
    rw [e]
    unfold Rets okN
    rw [if_neg h0]
    exact (rbey_bad c ka ta aa la ca A at0 w hta hat ha hla h0).mono fun e w' ⟨h2, h3⟩ => ⟨none, 0, h2, .inl rfl, h3⟩

theorem infoV3 : (Try.prog.info? 42).map (fun i => i.size) = some 3 := by kernel_rfl
theorem part_v3 (cs : Array Value) (w : World) : (part 42 cs 1).run Try.prog w = .ok (.agg (cs.extract 1 4)) w := by
  obtain ⟨i, hi, hz⟩ := Option.map_eq_some_iff.1 infoV3
  simp [part, isAgg, run_underlying Try.underlying42, run_sizeOf w hi, hz]
theorem part_cell {t : TypeId} {d : TypeDesc} (hu : Try.prog.underlying t = some d) (hd : (match d with | .array _ _ => true | .struct _ => true | _ => false) = false) (cs : Array Value) (off : Nat) (v : Value) (h : cs[off]? = some v) (w : World) : (part t cs off).run Try.prog w = .ok v w := by
  cases d <;> simp_all [part, isAgg, run_underlying hu]
theorem eq_v3 (a b c d e f : Int) (n : Nat) (w : World) :
    (Op.equalIn (n + 2) 42 (.agg #[.int .i64 a, .int .i64 b, .int .i64 c]) (.agg #[.int .i64 d, .int .i64 e, .int .i64 f])).run Try.prog w = .ok (a == d && b == e && c == f) w := by
  obtain ⟨i, hi⟩ := info_int
  rw [run_equalIn_array w (n + 1) _ _ Try.underlying42 hi, show Try.prog.cellsOf 2 = 1 by kernel_rfl]
  have q : ∀ x y : Int, (Op.equalIn (n + 1) 2 (.int .i64 x) (.int .i64 y)).run Try.prog w = .ok (x == y) w := fun x y => run_equalIn_int (P := Try.prog) w n 2 .i64 .i64 x y Try.underlying2
  have p0 := part_int #[.int .i64 a, .int .i64 b, .int .i64 c] 0 _ rfl w
  have p1 := part_int #[.int .i64 a, .int .i64 b, .int .i64 c] 1 _ rfl w
  have p2 := part_int #[.int .i64 a, .int .i64 b, .int .i64 c] 2 _ rfl w
  have r0 := part_int #[.int .i64 d, .int .i64 e, .int .i64 f] 0 _ rfl w
  have r1 := part_int #[.int .i64 d, .int .i64 e, .int .i64 f] 1 _ rfl w
  have r2 := part_int #[.int .i64 d, .int .i64 e, .int .i64 f] 2 _ rfl w
  rw [show List.range 3 = [0, 1, 2] from rfl]
  cases h0 : (a == d) <;> cases h1 : (b == e) <;> cases h2 : (c == f) <;> simp [Op.eqItems, p0, p1, p2, r0, r1, r2, q, h0, h1, h2]
@[go_sem] theorem eq_v3' (a b c d e f : Int) (w : World) :
    (Op.equalIn 9999 42 (.agg #[.int .i64 a, .int .i64 b, .int .i64 c]) (.agg #[.int .i64 d, .int .i64 e, .int .i64 f])).run Try.prog w = .ok (a == d && b == e && c == f) w := eq_v3 a b c d e f 9997 w
theorem poseFields : ((Try.prog.fieldsOf 45).toList.map fun f => (f.name, f.type, f.offset)) = [("Id", 3, 0), ("Pos", 42, 1), ("Angle", 43, 4), ("Mode", 3, 5)] := by kernel_rfl
theorem poseStood : Try.prog.stoodInHeld 45 = false := by kernel_rfl
theorem pose_struct : Try.prog.underlying 45 = some (.struct (Try.prog.fieldsOf 45)) := by kernel_rfl
theorem eqFields4 {d : Nat} {xs ys : Array Value} {w : World} {fs : List Field} {n0 n1 n2 n3 : String} {t0 t1 t2 t3 : TypeId} {o0 o1 o2 o3 : Nat} {a0 a1 a2 a3 b0 b1 b2 b3 : Value} {r0 r1 r2 r3 : Bool}
    (hf : (fs.map fun f => (f.name, f.type, f.offset)) = [(n0, t0, o0), (n1, t1, o1), (n2, t2, o2), (n3, t3, o3)])
    (hn : n0 ≠ "_" ∧ n1 ≠ "_" ∧ n2 ≠ "_" ∧ n3 ≠ "_")
    (ha0 : (part t0 xs o0).run Try.prog w = .ok a0 w) (hb0 : (part t0 ys o0).run Try.prog w = .ok b0 w) (he0 : (Op.equalIn d t0 a0 b0).run Try.prog w = .ok r0 w)
    (ha1 : (part t1 xs o1).run Try.prog w = .ok a1 w) (hb1 : (part t1 ys o1).run Try.prog w = .ok b1 w) (he1 : (Op.equalIn d t1 a1 b1).run Try.prog w = .ok r1 w)
    (ha2 : (part t2 xs o2).run Try.prog w = .ok a2 w) (hb2 : (part t2 ys o2).run Try.prog w = .ok b2 w) (he2 : (Op.equalIn d t2 a2 b2).run Try.prog w = .ok r2 w)
    (ha3 : (part t3 xs o3).run Try.prog w = .ok a3 w) (hb3 : (part t3 ys o3).run Try.prog w = .ok b3 w) (he3 : (Op.equalIn d t3 a3 b3).run Try.prog w = .ok r3 w) :
    (Op.eqFields d xs ys fs).run Try.prog w = .ok (r0 && r1 && r2 && r3) w := by
  match fs, hf with
  | [f0, f1, f2, f3], hf =>
    simp only [List.map_cons, List.map_nil, List.cons.injEq, Prod.mk.injEq, and_true] at hf
    obtain ⟨⟨rfl, rfl, rfl⟩, ⟨rfl, rfl, rfl⟩, ⟨rfl, rfl, rfl⟩, ⟨rfl, rfl, rfl⟩⟩ := hf
    obtain ⟨h0, h1, h2, h3⟩ := hn
    cases r0 <;> cases r1 <;> cases r2 <;> cases r3 <;> simp [Op.eqFields, h0, h1, h2, h3, ha0, hb0, he0, ha1, hb1, he1, ha2, hb2, he2, ha3, hb3, he3]
theorem eq_pose (a0 a1 a2 a3 a4 a5 b0 b1 b2 b3 b4 b5 : Int) (w : World) :
    (Op.equalIn 10000 45 (.agg #[.int .i64 a0, .int .i64 a1, .int .i64 a2, .int .i64 a3, .int .u16 a4, .int .i64 a5]) (.agg #[.int .i64 b0, .int .i64 b1, .int .i64 b2, .int .i64 b3, .int .u16 b4, .int .i64 b5])).run Try.prog w = .ok (a0 == b0 && (a1 == b1 && a2 == b2 && a3 == b3) && a4 == b4 && a5 == b5) w := by
  rw [show 10000 = 9999 + 1 from rfl, run_equalIn_struct w 9999 _ _ _ pose_struct poseStood]
  exact eqFields4 poseFields (by decide)
    (part_cell Try.underlying3 rfl _ 0 _ rfl w) (part_cell Try.underlying3 rfl _ 0 _ rfl w) (run_equalIn_int (P := Try.prog) w 9998 3 .i64 .i64 _ _ Try.underlying3)
    (part_v3 _ w) (part_v3 _ w) (eq_v3 _ _ _ _ _ _ 9997 w)
    (part_cell Try.underlying43 rfl _ 4 _ rfl w) (part_cell Try.underlying43 rfl _ 4 _ rfl w) (run_equalIn_int (P := Try.prog) w 9998 43 .u16 .u16 _ _ Try.underlying43)
    (part_cell Try.underlying3 rfl _ 5 _ rfl w) (part_cell Try.underlying3 rfl _ 5 _ rfl w) (run_equalIn_int (P := Try.prog) w 9998 3 .i64 .i64 _ _ Try.underlying3)

set_option maxHeartbeats 1000000 in
theorem same_f (s1 s2 : Option Addr) (n c1 c2 : Nat) (P : Nat → Po) (w : World) (h1 : PosesAt w s1 n P) (h2 : PosesAt w s2 n P) (hn : (n : Int) ≤ 4611686018427387904) :
    Calls Try.prog 14 #[.slice s1 n c1, .slice s2 n c2] w fun e w' => e = .returned (.bool true) ∧ Below w.heap.size w w' := by
  rcases h1 with hz | ⟨b1, o1, rfl, hb1, hc1⟩
  · subst hz
    go_enter Try.func14, Try.ntmps14
    go_wp2_with fail
    go_loopw [5] (fun i wr => i = .int .i64 0 ∧ Below w.heap.size w wr) (fun _ _ => 0)
    case atStart => exact ⟨rfl, Below.refl _ _⟩
    case round =>
      obtain ⟨rfl, hB⟩ := hrel
      go_wp2
      go_ret
      exact ⟨rfl, hB⟩
  rcases h2 with hz | ⟨b2, o2, rfl, hb2, hc2⟩
  · subst hz
    go_enter Try.func14, Try.ntmps14
    go_wp2_with fail
    go_loopw [5] (fun i wr => i = .int .i64 0 ∧ Below w.heap.size w wr) (fun _ _ => 0)
    case atStart => exact ⟨rfl, Below.refl _ _⟩
    case round =>
      obtain ⟨rfl, hB⟩ := hrel
      go_wp2
      go_ret
      exact ⟨rfl, hB⟩
  · go_enter Try.func14, Try.ntmps14
    go_wp2_with fail
    go_loopw [5] (fun i wr => ∃ k : Nat, k ≤ n ∧ i = .int .i64 k ∧ Below w.heap.size w wr) (fun i _ => n - (intOf i).toNat)
    case atStart => exact ⟨0, Nat.zero_le _, rfl, Below.refl _ _⟩
    case round =>
      rename_i wr
      obtain ⟨k, hk, rfl, hB⟩ := hrel
      by_cases hlt : k < n
      · have u1 : PoCells wr b1 (o1 + k * 6) (P k) := by
          have := hc1 k hlt
          unfold PoCells at *
          refine ⟨?_, ?_, ?_, ?_, ?_, ?_⟩ <;> (rw [hB.cell (by simpa using hb1)]; first | exact this.1 | exact this.2.1 | exact this.2.2.1 | exact this.2.2.2.1 | exact this.2.2.2.2.1 | exact this.2.2.2.2.2)
        have u2 : PoCells wr b2 (o2 + k * 6) (P k) := by
          have := hc2 k hlt
          unfold PoCells at *
          refine ⟨?_, ?_, ?_, ?_, ?_, ?_⟩ <;> (rw [hB.cell (by simpa using hb2)]; first | exact this.1 | exact this.2.1 | exact this.2.2.1 | exact this.2.2.2.1 | exact this.2.2.2.2.1 | exact this.2.2.2.2.2)
        have HC := Lib.hid (And.intro hc1 hc2)
        clear hc1 hc2
        have hkn : (k : Int) < n := by omega
        generalize P k = p at *
        obtain ⟨xid, px, py, pz, ang, mode⟩ := p
        obtain ⟨p0, p1, p2, p3, p4, p5⟩ := u1
        obtain ⟨q0, q1, q2, q3, q4, q5⟩ := u2
        dsimp only at p0 p1 p2 p3 p4 p5 q0 q1 q2 q3 q4 q5
        go_wp2_with fail
        refine wp_region_calm 8 (by kernel_rfl) (by kernel_rfl) ?_
        simp only [List.take_succ_cons, List.take_zero, List.drop_succ_cons, List.drop_zero]
        repeat (apply wpCalm_step; (next => (intro W hW K hK; have y0 := hW.cell p0; have y1 := hW.cell p1; have y2 := hW.cell p2; have y3 := hW.cell p3; have y4 := hW.cell p4; have y5 := hW.cell p5; have y6 := hW.cell q0; have y7 := hW.cell q1; have y8 := hW.cell q2; have y9 := hW.cell q3; have y10 := hW.cell q4; have y11 := hW.cell q5; go_simp; first | exact ⟨hW, hK⟩ | exact hK)); (next => exact CalmI.self _); (try go_simp))
        refine wpCalm_nil ?_
        intro WC hWC
        have HB2 : Hid (Below w.heap.size w WC) := Lib.hid (hB.trans (Below.mono hWC hB.size))
        clear hWC p0 p1 p2 p3 p4 p5 q0 q1 q2 q3 q4 q5
        go_wp2
        go_roundw
        case rel => exact ⟨k + 1, by omega, by go_num, HB2.out⟩
        case measure => simp [intOf]; omega
      · obtain rfl : k = n := by omega
        clear hc1 hc2
        go_wp2
        go_ret
        exact ⟨rfl, hB⟩

/-- is one of n snapshots from the i-th on too great? -/
def grtF (E : Nat → Option Addr × Nat × Nat) : Nat → Nat → Bool
  | 0, _ => false
  | n + 1, i => if 100 < (E i).2.1 then true else grtF E n (i + 1)
def greatB (E : Nat → Option Addr × Nat × Nat) (len : Nat) : Bool := if grtF E len 0 = true then true else decide (60 < len)
set_option maxHeartbeats 1000000 in
theorem great_f (s : Option Addr) (len cap : Nat) (K T : Nat → Int) (E : Nat → Option Addr × Nat × Nat) (w : World) (h : SnapsAt w s len K T E) (hlen : (len : Int) ≤ 4611686018427387904) :
    Calls Try.prog 10 #[.slice s len cap] w fun e w' => e = .returned (.bool (greatB E len)) ∧ Below w.heap.size w w' := by
  have HR : Hid (greatB E len = if grtF E len 0 = true then true else decide (60 < len)) := Lib.hid rfl
  generalize greatB E len = r at *
  rcases h with hz | ⟨b, off, rfl, hb, hcs⟩
  all_goals
    go_enter Try.func10, Try.ntmps10
    go_wp2_with fail
    go_loopw [7] (fun i wr => ∃ k : Nat, k ≤ len ∧ i = .int .i64 k ∧ Hid (grtF E len 0 = grtF E (len - k) k) ∧ Below w.heap.size w wr) (fun i _ => len - (intOf i).toNat)
    case atStart => exact ⟨0, Nat.zero_le _, rfl, Lib.hid rfl, Below.refl _ _⟩
    case round =>
      rename_i wr
      obtain ⟨k, hk, rfl, hch, hB⟩ := hrel
      have hsz := hB.size
      by_cases hlt : k < len
      · first
        | (exfalso; omega)
        | (obtain ⟨n, hn⟩ : ∃ n, len - k = n + 1 := ⟨len - k - 1, by omega⟩
           have hn2 : len - (k + 1) = n := by omega
           rw [hn] at hch
           obtain ⟨d0, d1, d2⟩ := hcs k hlt
           have c0 := (hB.cell (p := ⟨b, off + k * 3, none⟩) hb).trans d0
           have c1 := (hB.cell (p := ⟨b, off + k * 3 + 1, none⟩) hb).trans d1
           have c2 := (hB.cell (p := ⟨b, off + k * 3 + 2, none⟩) hb).trans d2
           have HCH : Hid (grtF E len 0 = if 100 < (E k).2.1 then true else grtF E n (k + 1)) := Lib.hid hch.out
           have HC := Lib.hid hcs
           have HB := Lib.hid hB
           have hlt' : (k : Int) < len := by omega
           clear hch hcs hn d0 d1 d2 hB
           generalize K k = kk at *
           generalize T k = tt at *
           generalize (E k).1 = ea at *
           generalize (E k).2.1 = el at *
           generalize (E k).2.2 = ec at *
           by_cases hg : 100 < el
           · have HF : Hid (r = true) := Lib.hid (by rw [HR.out, HCH.out, if_pos hg, if_pos rfl])
             have hg2 : decide ((100 : Int) < (el : Int)) = true := decide_eq_true (by omega)
             clear HCH
             go_wp2
             go_ret
             exact ⟨ret_bool HF.out.symm, HB.out.alloc hsz _⟩
           · have HF : Hid (grtF E len 0 = grtF E n (k + 1)) := Lib.hid (by rw [HCH.out, if_neg hg])
             have hg2 : decide ((100 : Int) < (el : Int)) = false := decide_eq_false (by omega)
             clear HCH
             go_wp2
             go_roundw
             case rel => exact ⟨k + 1, by omega, by go_num, by rw [hn2]; exact HF, HB.out.alloc hsz _⟩
             case measure => simp [intOf]; omega)
      · obtain rfl : k = len := by omega
        have HF : Hid (r = decide (60 < k)) := Lib.hid (by rw [HR.out, hch.out, Nat.sub_self]; rfl)
        clear hch
        go_wp2
        go_ret
        refine ⟨ret_bool ?_, hB⟩
        rw [HF.out]
        first | rfl | (congr 1; simp; omega) | (simp; omega)
end Go.Proofs.Ytobphhbmlhjbcaa
