/- package vec: between; the document's between and near; the example. -/
import Derived.Test.YtbefllijmbcpjaaVec4
import Derived.LoopTactic
namespace Go.Proofs.Ytbefllijmbcpjaa
set_option linter.unusedVariables false
set_option linter.unusedSimpArgs false
open Go.RowKit

theorem qsameV {P : Program} {f : FuncId} {args : Array Value} {w : World} {n : Nat} {v : Value}
    (h : Calls P f args (w.drewN n) fun e w' => e = .returned v ∧ w.drewN n = w') : Calls P f args (w.drewN n) fun e w'' => e = .returned v ∧ ∃ m, w'' = w.drewN m :=
  h.mono fun _ _ ⟨he, hm⟩ => ⟨he, n, hm.symm⟩

def vbetwF (x0 x1 x2 a0 a1 a2 b0 b1 b2 : Int) : Bool := clampF x0 a0 b0 == x0 && clampF x1 a1 b1 == x1 && clampF x2 a2 b2 == x2

set_option maxHeartbeats 1000000 in
theorem vbetw_f (x0 x1 x2 a0 a1 a2 b0 b1 b2 : Int) (w : World) :
    Calls Try.prog 20 #[v3 x0 x1 x2, v3 a0 a1 a2, v3 b0 b1 b2] w fun e w' => e = .returned (.bool (vbetwF x0 x1 x2 a0 a1 a2 b0 b1 b2)) ∧ Below w.heap.size w w' := by
  have c := vclamp_f x0 x1 x2 a0 a1 a2 b0 b1 b2
  have HE : Hid ((clampF x0 a0 b0 == x0 && clampF x1 a1 b1 == x1 && clampF x2 a2 b2 == x2) = vbetwF x0 x1 x2 a0 a1 a2 b0 b1 b2) := Lib.hid rfl
  generalize vbetwF x0 x1 x2 a0 a1 a2 b0 b1 b2 = r at *
  generalize clampF x0 a0 b0 = r0 at *
  generalize clampF x1 a1 b1 = r1 at *
  generalize clampF x2 a2 b2 = r2 at *
  have BA : ∀ w1, Below (w.heap.size + 1 + 1 + 1) (((w.alloc (.cells #[.int .i64 x0, .int .i64 x1, .int .i64 x2] 22)).alloc (.cells #[.int .i64 a0, .int .i64 a1, .int .i64 a2] 22)).alloc (.cells #[.int .i64 b0, .int .i64 b1, .int .i64 b2] 22)) w1 → Vec3At w1 w.heap.size x0 x1 x2 ∧ Below w.heap.size w w1 := fun w1 hb =>
    ⟨(((Blk.new w #[.int .i64 x0, .int .i64 x1, .int .i64 x2] 22).alloc (.cells #[.int .i64 a0, .int .i64 a1, .int .i64 a2] 22)).alloc (.cells #[.int .i64 b0, .int .i64 b1, .int .i64 b2] 22)).below hb (by omega), Below.trans (by (repeat (first | exact Below.refl _ _ | assumption | (refine Below.drew ?_) | (refine below_drewN ?_ _) | (refine Below.alloc ?_ (by simp <;> omega) _) | (refine Below.setCell ?_ (by simp <;> omega) _)))) (hb.mono (by omega))⟩
  have HA := Lib.hid BA
  clear BA
  go_enter Try.func20, Try.ntmps20
  go_wp2_with fail
  go_region_with (first
    | (go_at_call 18; refine (c _).mono ?_; rintro e w1 ⟨rfl, hb⟩; have HB1 := HA.out _ (show Below (w.heap.size + 1 + 1 + 1) (((w.alloc (.cells #[.int .i64 x0, .int .i64 x1, .int .i64 x2] 22)).alloc (.cells #[.int .i64 a0, .int .i64 a1, .int .i64 a2] 22)).alloc (.cells #[.int .i64 b0, .int .i64 b1, .int .i64 b2] 22)) w1 from Below.trans (by (repeat (first | exact Below.refl _ _ | assumption | (refine Below.drew ?_) | (refine below_drewN ?_ _) | (refine Below.alloc ?_ (by simp <;> omega) _) | (refine Below.setCell ?_ (by simp <;> omega) _)))) (hb.mono (by simp <;> omega))); obtain ⟨qa0, qa1, qa2⟩ := vec_cells HB1.1; have HB2 := Lib.hid HB1.2; clear hb HB1))
  all_goals go_wp2
  all_goals go_ret
  all_goals first
    | exact ⟨by rw [← HE.out]; rfl, HB2.out⟩
    | exact ⟨by rw [← HE.out]; rfl, by have := HB2.out; (repeat (first | exact Below.refl _ _ | assumption | (refine Below.drew ?_) | (refine below_drewN ?_ _) | (refine Below.alloc ?_ (by simp <;> omega) _) | (refine Below.setCell ?_ (by simp <;> omega) _)))⟩

set_option maxHeartbeats 1000000 in
theorem rvbetw_f (x0 x1 x2 a0 a1 a2 b0 b1 b2 : Int) (w : World) :
    Calls Try.prog 21 #[v3 x0 x1 x2, v3 a0 a1 a2, v3 b0 b1 b2] w fun e w' => e = .returned (.bool (vbetwF x0 x1 x2 a0 a1 a2 b0 b1 b2)) ∧ Below w.heap.size w w' := by
  have c := rvclamp_f x0 x1 x2 a0 a1 a2 b0 b1 b2
  have HE : Hid ((clampF x0 a0 b0 == x0 && clampF x1 a1 b1 == x1 && clampF x2 a2 b2 == x2) = vbetwF x0 x1 x2 a0 a1 a2 b0 b1 b2) := Lib.hid rfl
  generalize vbetwF x0 x1 x2 a0 a1 a2 b0 b1 b2 = r at *
  generalize clampF x0 a0 b0 = r0 at *
  generalize clampF x1 a1 b1 = r1 at *
  generalize clampF x2 a2 b2 = r2 at *
  have BA : ∀ w1, Below (w.heap.size + 1 + 1 + 1) (((w.alloc (.cells #[.int .i64 x0, .int .i64 x1, .int .i64 x2] 22)).alloc (.cells #[.int .i64 a0, .int .i64 a1, .int .i64 a2] 22)).alloc (.cells #[.int .i64 b0, .int .i64 b1, .int .i64 b2] 22)) w1 → Vec3At w1 w.heap.size x0 x1 x2 ∧ Below w.heap.size w w1 := fun w1 hb =>
    ⟨(((Blk.new w #[.int .i64 x0, .int .i64 x1, .int .i64 x2] 22).alloc (.cells #[.int .i64 a0, .int .i64 a1, .int .i64 a2] 22)).alloc (.cells #[.int .i64 b0, .int .i64 b1, .int .i64 b2] 22)).below hb (by omega), Below.trans (by (repeat (first | exact Below.refl _ _ | assumption | (refine Below.drew ?_) | (refine below_drewN ?_ _) | (refine Below.alloc ?_ (by simp <;> omega) _) | (refine Below.setCell ?_ (by simp <;> omega) _)))) (hb.mono (by omega))⟩
  have HA := Lib.hid BA
  clear BA
  go_enter Try.func21, Try.ntmps21
  go_wp2_with fail
  go_region_with (first
    | (go_at_call 19; refine (c _).mono ?_; rintro e w1 ⟨rfl, hb⟩; have HB1 := HA.out _ (show Below (w.heap.size + 1 + 1 + 1) (((w.alloc (.cells #[.int .i64 x0, .int .i64 x1, .int .i64 x2] 22)).alloc (.cells #[.int .i64 a0, .int .i64 a1, .int .i64 a2] 22)).alloc (.cells #[.int .i64 b0, .int .i64 b1, .int .i64 b2] 22)) w1 from Below.trans (by (repeat (first | exact Below.refl _ _ | assumption | (refine Below.drew ?_) | (refine below_drewN ?_ _) | (refine Below.alloc ?_ (by simp <;> omega) _) | (refine Below.setCell ?_ (by simp <;> omega) _)))) (hb.mono (by simp <;> omega))); obtain ⟨qa0, qa1, qa2⟩ := vec_cells HB1.1; have HB2 := Lib.hid HB1.2; clear hb HB1))
  all_goals go_wp2
  all_goals go_ret
  all_goals first
    | exact ⟨by rw [← HE.out]; rfl, HB2.out⟩
    | exact ⟨by rw [← HE.out]; rfl, by have := HB2.out; (repeat (first | exact Below.refl _ _ | assumption | (refine Below.drew ?_) | (refine below_drewN ?_ _) | (refine Below.alloc ?_ (by simp <;> omega) _) | (refine Below.setCell ?_ (by simp <;> omega) _)))⟩

theorem apart_f (a b : Int) (ha : I64 a) (hb : I64 b) (w : World) :
    Calls Try.prog 43 #[.int .i64 a, .int .i64 b] w fun e w' => e = .returned (.int .u64 (max a b - min a b)) ∧ w = w' := by
  obtain ⟨a1, a2⟩ := ha
  obtain ⟨b1, b2⟩ := hb
  by_cases h : b < a
  · have HE : Hid (IntKind.u64.wrap (IntKind.u64.wrap a - IntKind.u64.wrap b) = max a b - min a b) := Lib.hid (by simp only [IntKind.wrap_u64]; omega)
    go_enter Try.func43, Try.ntmps43
    go_wp2
    all_goals go_ret
    all_goals first
      | exact ⟨ret_int HE.out, rfl⟩
      | (refine ⟨ret_int ?_, rfl⟩; simp only [IntKind.wrap_u64]; omega)
  · have HE : Hid (IntKind.u64.wrap (IntKind.u64.wrap b - IntKind.u64.wrap a) = max a b - min a b) := Lib.hid (by simp only [IntKind.wrap_u64]; omega)
    go_enter Try.func43, Try.ntmps43
    go_wp2
    all_goals go_ret
    all_goals first
      | exact ⟨ret_int HE.out, rfl⟩
      | (refine ⟨ret_int ?_, rfl⟩; simp only [IntKind.wrap_u64]; omega)

theorem rvnear_f (a0 a1 a2 b0 b1 b2 d : Int) (h0 : I64 a0) (h1 : I64 a1) (h2 : I64 a2) (k0 : I64 b0) (k1 : I64 b1) (k2 : I64 b2) (hd : I64 d) (w : World) :
    Calls Try.prog 16 #[v3 a0 a1 a2, v3 b0 b1 b2, .int .i64 d] w fun e w' => e = .returned (.bool (vnearF a0 a1 a2 b0 b1 b2 d)) ∧ Below w.heap.size w w' := by
  obtain ⟨d1, d2⟩ := hd
  by_cases d0 : 0 ≤ d
  · have c0 := apart_f a0 b0 h0 k0
    have c1 := apart_f a1 b1 h1 k1
    have c2 := apart_f a2 b2 h2 k2
    have HE : Hid (vnearF a0 a1 a2 b0 b1 b2 d = (nearF a0 b0 d && nearF a1 b1 d && nearF a2 b2 d)) := Lib.hid (by unfold vnearF; rw [decide_eq_true d0, Bool.true_and])
    have H0 := Lib.hid (show nearF a0 b0 d = decide (max a0 b0 - min a0 b0 ≤ d) from rfl)
    have H1 := Lib.hid (show nearF a1 b1 d = decide (max a1 b1 - min a1 b1 ≤ d) from rfl)
    have H2 := Lib.hid (show nearF a2 b2 d = decide (max a2 b2 - min a2 b2 ≤ d) from rfl)
    clear h0 h1 h2 k0 k1 k2
    obtain ⟨p0, hp0⟩ : ∃ p, max a0 b0 - min a0 b0 = p := ⟨_, rfl⟩
    obtain ⟨p1, hp1⟩ : ∃ p, max a1 b1 - min a1 b1 = p := ⟨_, rfl⟩
    obtain ⟨p2, hp2⟩ : ∃ p, max a2 b2 - min a2 b2 = p := ⟨_, rfl⟩
    rw [hp0] at c0 H0
    rw [hp1] at c1 H1
    rw [hp2] at c2 H2
    clear hp0 hp1 hp2
    have hw : IntKind.u64.wrap d = d := by rw [IntKind.wrap_u64]; omega
    go_enter Try.func16, Try.ntmps16
    go_wp2_with fail
    go_loopw [7] (fun i wr => (i = .int .i64 0 ∨ (i = .int .i64 1 ∧ p0 ≤ d) ∨ (i = .int .i64 2 ∧ p0 ≤ d ∧ p1 ≤ d) ∨ (i = .int .i64 3 ∧ p0 ≤ d ∧ p1 ≤ d ∧ p2 ≤ d)) ∧ Vec3At wr w.heap.size a0 a1 a2 ∧ Vec3At wr (w.heap.size + 1) b0 b1 b2 ∧ Below w.heap.size w wr) (fun i _ => 3 - (intOf i).toNat)
    case atStart => exact ⟨.inl rfl, (Blk.new _ _ _).alloc _, by simpa using Blk.new (w.alloc (.cells #[.int .i64 a0, .int .i64 a1, .int .i64 a2] 22)) #[.int .i64 b0, .int .i64 b1, .int .i64 b2] 22, by (repeat (first | exact Below.refl _ _ | assumption | (refine Below.drew ?_) | (refine below_drewN ?_ _) | (refine Below.alloc ?_ (by simp <;> omega) _) | (refine Below.setCell ?_ (by simp <;> omega) _)))⟩
    case round =>
      rename_i wr
      obtain ⟨hi, A, B, hB⟩ := hrel
      obtain ⟨qa0, qa1, qa2⟩ := vec_cells A
      obtain ⟨qb0, qb1, qb2⟩ := vec_cells B
      rcases hi with rfl | ⟨rfl, e0⟩ | ⟨rfl, e0, e1⟩ | ⟨rfl, e0, e1, e2⟩
      · by_cases g : p0 ≤ d
        · go_wp2_with fail
          go_quiet (first | (go_at_call 43; exact qsameV (c0 _)))
          go_wp2_with fail
          go_roundw
          case rel => exact ⟨.inr (.inl ⟨rfl, g⟩), A.draws nq, B.draws nq, below_drewN hB nq⟩
          case measure => decide
        · have HF : Hid (vnearF a0 a1 a2 b0 b1 b2 d = false) := Lib.hid (by rw [HE.out, H0.out, H1.out, H2.out]; simp [g])
          go_wp2_with fail
          go_quiet (first | (go_at_call 43; exact qsameV (c0 _)))
          go_wp2
          go_ret
          exact ⟨by rw [HF.out]; rfl, below_drewN hB nq⟩
      · by_cases g : p1 ≤ d
        · go_wp2_with fail
          go_quiet (first | (go_at_call 43; exact qsameV (c1 _)))
          go_wp2_with fail
          go_roundw
          case rel => exact ⟨.inr (.inr (.inl ⟨rfl, e0, g⟩)), A.draws nq, B.draws nq, below_drewN hB nq⟩
          case measure => decide
        · have HF : Hid (vnearF a0 a1 a2 b0 b1 b2 d = false) := Lib.hid (by rw [HE.out, H0.out, H1.out, H2.out]; simp [g])
          go_wp2_with fail
          go_quiet (first | (go_at_call 43; exact qsameV (c1 _)))
          go_wp2
          go_ret
          exact ⟨by rw [HF.out]; rfl, below_drewN hB nq⟩
      · by_cases g : p2 ≤ d
        · go_wp2_with fail
          go_quiet (first | (go_at_call 43; exact qsameV (c2 _)))
          go_wp2_with fail
          go_roundw
          case rel => exact ⟨.inr (.inr (.inr ⟨rfl, e0, e1, g⟩)), A.draws nq, B.draws nq, below_drewN hB nq⟩
          case measure => decide
        · have HF : Hid (vnearF a0 a1 a2 b0 b1 b2 d = false) := Lib.hid (by rw [HE.out, H0.out, H1.out, H2.out]; simp [g])
          go_wp2_with fail
          go_quiet (first | (go_at_call 43; exact qsameV (c2 _)))
          go_wp2
          go_ret
          exact ⟨by rw [HF.out]; rfl, below_drewN hB nq⟩
      · have HF : Hid (vnearF a0 a1 a2 b0 b1 b2 d = true) := Lib.hid (by rw [HE.out, H0.out, H1.out, H2.out]; simp [e0, e1, e2])
        go_wp2
        go_ret
        exact ⟨by rw [HF.out]; rfl, hB⟩
  · have HE : Hid (vnearF a0 a1 a2 b0 b1 b2 d = false) := Lib.hid (by unfold vnearF; rw [decide_eq_false d0, Bool.false_and])
    clear h0 h1 h2 k0 k1 k2
    go_enter Try.func16, Try.ntmps16
    go_wp2
    go_ret
    exact ⟨by rw [HE.out]; rfl, by (repeat (first | exact Below.refl _ _ | assumption | (refine Below.drew ?_) | (refine below_drewN ?_ _) | (refine Below.alloc ?_ (by simp <;> omega) _) | (refine Below.setCell ?_ (by simp <;> omega) _)))⟩

theorem i64_of (a : Int) (h : -9223372036854775808 ≤ a ∧ a ≤ 9223372036854775807) : I64 a := h

theorem alive02_f (w : World) : Calls Try.prog 15 #[] w fun e w' => e = .returned (.bool true) ∧ Below w.heap.size w w' := by
  have g := vgo_f 0 0 0 65536 0 (-1) 2 (i64_of _ (by omega)) (i64_of _ (by omega)) (i64_of _ (by omega)) (i64_of _ (by omega)) (i64_of _ (by omega)) (i64_of _ (by omega)) (i64_of _ (by omega))
  rw [show addF 0 (mulF 65536 2) = 2 by decide, show addF 0 (mulF 0 2) = 0 by decide, show addF 0 (mulF (-1) 2) = -1 by decide] at g
  have n1 := vnear_f 1 2 3 1 2 5 1 (i64_of _ (by omega)) (i64_of _ (by omega)) (i64_of _ (by omega)) (i64_of _ (by omega)) (i64_of _ (by omega)) (i64_of _ (by omega)) (i64_of _ (by omega))
  rw [show vnearF 1 2 3 1 2 5 1 = false by decide] at n1
  have n2 := vnear_f 1 2 3 1 2 4 1 (i64_of _ (by omega)) (i64_of _ (by omega)) (i64_of _ (by omega)) (i64_of _ (by omega)) (i64_of _ (by omega)) (i64_of _ (by omega)) (i64_of _ (by omega))
  rw [show vnearF 1 2 3 1 2 4 1 = true by decide] at n2
  go_enter Try.func15, Try.ntmps15
  go_wp2_with fail
  refine (g _).mono ?_; rintro e w1 ⟨rfl, b1⟩
  go_wp2_with fail
  refine (n1 _).mono ?_; rintro e w2 ⟨rfl, b2⟩
  go_wp2_with fail
  refine (n2 _).mono ?_; rintro e w3 ⟨rfl, b3⟩
  go_wp2
  go_ret
  exact ⟨rfl, (b1.trans (b2.mono b1.size)).trans (b3.mono (Nat.le_trans b1.size b2.size))⟩
end Go.Proofs.Ytbefllijmbcpjaa
