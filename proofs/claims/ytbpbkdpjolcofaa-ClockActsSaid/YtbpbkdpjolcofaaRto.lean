/- The document's clock that never goes back. -/
import Derived.Test.YtbpbkdpjolcofaaSlew2
namespace Go.Proofs.Ytbpbkdpjolcofaa
set_option linter.unusedVariables false
set_option linter.unusedSimpArgs false
open Go.RowKit

theorem subF_maxR (r l : Int) : subF (max r l) l = max 0 (subF r l) := by unfold subF sat; omega

/-- the document's clock at b -/
abbrev RClkAt (w : World) (b : Nat) (num den at0 last : Int) (st : Bool) : Prop := Blk w b #[.int .i64 num, .int .i64 den, .int .i64 at0, .int .i64 last, .bool st] 85

theorem rto_first (b : Nat) (num den at0 last reading want : Int) (w : World) (h : RClkAt w b num den at0 last false) :
    Calls Try.prog 53 #[.pointer (some ⟨b, 0, none⟩), .int .i64 reading, .int .i64 want] w fun e w' =>
      e = .returned (.int .i64 want) ∧ RClkAt w' b num den want reading true ∧ Only (· = b) w w' := by
  have q0 := h.cell 0; have q1 := h.cell 1; have q2 := h.cell 2; have q3 := h.cell 3; have q4 := h.cell 4
  have f2 := h.free 2; have f3 := h.free 3; have f4 := h.free 4
  simp at q0 q1 q2 q3 q4 f2 f3 f4
  have H := Lib.hid h
  clear h
  go_enter Try.func53, Try.ntmps53
  go_wp2
  go_ret
  have B2 := ((H.out.set 4 (.bool true)).set 2 (.int .i64 want)).set 3 (.int .i64 reading)
  refine ⟨rfl, B2, ?_⟩
  exact (((Only.refl (· = b) w).setCell (.inl rfl) _).setCell (.inl rfl) _).setCell (.inl rfl) _

theorem toF_split {at0 last x y num den : Int} : toF at0 last x y num den = max at0 (min y (addF at0 (roomF (max 0 (subF x last)) num den))) := by unfold toF; rw [subF_maxR]

set_option maxHeartbeats 1000000 in
theorem rto_next (b : Nat) (num den at0 last reading want : Int) (hr : ratioB num den = true) (ha : I64 at0) (hl : I64 last) (h1 : I64 reading) (h2 : I64 want) (w : World) (h : RClkAt w b num den at0 last true) :
    Calls Try.prog 53 #[.pointer (some ⟨b, 0, none⟩), .int .i64 reading, .int .i64 want] w fun e w' =>
      e = .returned (.int .i64 (toF at0 last reading want num den)) ∧ RClkAt w' b num den (toF at0 last reading want num den) (max last reading) true ∧ Only (· = b) w w' := by
  have s1 := rsub_f reading last h1 hl
  obtain ⟨adv, hadv⟩ : ∃ adv, max 0 (subF reading last) = adv := ⟨_, rfl⟩
  have TE : Hid (toF at0 last reading want num den = max at0 (min want (addF at0 (roomF adv num den)))) := Lib.hid (by rw [toF_split, hadv])
  have mi : I64 adv := by have := subF_i64 reading last; unfold I64 at *; omega
  have r1 := rroom_f adv num den mi hr
  have rb := roomF_bounds (adv := adv) (num := num) (den := den) (by have := ratioB_iff.1 hr; omega) (by have := ratioB_iff.1 hr; omega)
  have a1 := radd_f at0 (roomF adv num den) ha ⟨by omega, rb.2⟩
  have AD : Hid ((last < reading → subF reading last = adv) ∧ (¬ last < reading → 0 = adv)) := Lib.hid (by
    unfold I64 at h1 hl; unfold subF sat at *; omega)
  generalize toF at0 last reading want num den = t at *
  generalize roomF adv num den = rm at *
  generalize addF at0 rm = fr at *
  generalize subF reading last = sb at *
  have H := Lib.hid h
  by_cases c1 : last < reading
  · obtain rfl := AD.out.1 c1
    have hm : max last reading = reading := by omega
    rw [hm]
    clear hm
    by_cases c2 : fr < want <;> by_cases c3 : at0 < min want fr
    · have e : min want fr = fr := by omega
      rw [e] at c3
      have E : t = fr := by rw [TE.out]; omega
      subst E
      have q0 := h.cell 0; have q1 := h.cell 1; have q2 := h.cell 2; have q3 := h.cell 3; have q4 := h.cell 4
      have f2 := h.free 2; have f3 := h.free 3; have f4 := h.free 4
      simp at q0 q1 q2 q3 q4 f2 f3 f4
      clear h ha hl h1 h2 mi rb hr hadv e TE AD
      go_enter Try.func53, Try.ntmps53
      go_wp2_with fail
      refine (s1 _).mono ?_; rintro e w' ⟨rfl, rfl⟩
      go_wp2_with fail
      go_quiet (first | (go_at_call 72; exact qsameS (r1 _)) | (go_at_call 70; exact qsameS (a1 _)))
      go_wp2
      go_ret
      exact ⟨rfl, ((H.out.set 3 (.int .i64 reading)).draws nq).set 2 (.int .i64 t), ((((Only.refl (· = b) w).setCell (.inl rfl) _).draws nq).setCell (.inl rfl) _)⟩
    · have e : min want fr = fr := by omega
      rw [e] at c3
      have E : t = at0 := by rw [TE.out]; omega
      subst E
      have q0 := h.cell 0; have q1 := h.cell 1; have q2 := h.cell 2; have q3 := h.cell 3; have q4 := h.cell 4
      have f2 := h.free 2; have f3 := h.free 3; have f4 := h.free 4
      simp at q0 q1 q2 q3 q4 f2 f3 f4
      clear h ha hl h1 h2 mi rb hr hadv e TE AD
      go_enter Try.func53, Try.ntmps53
      go_wp2_with fail
      refine (s1 _).mono ?_; rintro e w' ⟨rfl, rfl⟩
      go_wp2_with fail
      go_quiet (first | (go_at_call 72; exact qsameS (r1 _)) | (go_at_call 70; exact qsameS (a1 _)))
      go_wp2
      go_ret
      exact ⟨rfl, ((H.out.set 3 (.int .i64 reading)).draws nq), (((Only.refl (· = b) w).setCell (.inl rfl) _).draws nq)⟩
    · have e : min want fr = want := by omega
      rw [e] at c3
      have E : t = want := by rw [TE.out]; omega
      subst E
      have q0 := h.cell 0; have q1 := h.cell 1; have q2 := h.cell 2; have q3 := h.cell 3; have q4 := h.cell 4
      have f2 := h.free 2; have f3 := h.free 3; have f4 := h.free 4
      simp at q0 q1 q2 q3 q4 f2 f3 f4
      clear h ha hl h1 h2 mi rb hr hadv e TE AD
      go_enter Try.func53, Try.ntmps53
      go_wp2_with fail
      refine (s1 _).mono ?_; rintro e w' ⟨rfl, rfl⟩
      go_wp2_with fail
      go_quiet (first | (go_at_call 72; exact qsameS (r1 _)) | (go_at_call 70; exact qsameS (a1 _)))
      go_wp2
      go_ret
      exact ⟨rfl, ((H.out.set 3 (.int .i64 reading)).draws nq).set 2 (.int .i64 t), ((((Only.refl (· = b) w).setCell (.inl rfl) _).draws nq).setCell (.inl rfl) _)⟩
    · have e : min want fr = want := by omega
      rw [e] at c3
      have E : t = at0 := by rw [TE.out]; omega
      subst E
      have q0 := h.cell 0; have q1 := h.cell 1; have q2 := h.cell 2; have q3 := h.cell 3; have q4 := h.cell 4
      have f2 := h.free 2; have f3 := h.free 3; have f4 := h.free 4
      simp at q0 q1 q2 q3 q4 f2 f3 f4
      clear h ha hl h1 h2 mi rb hr hadv e TE AD
      go_enter Try.func53, Try.ntmps53
      go_wp2_with fail
      refine (s1 _).mono ?_; rintro e w' ⟨rfl, rfl⟩
      go_wp2_with fail
      go_quiet (first | (go_at_call 72; exact qsameS (r1 _)) | (go_at_call 70; exact qsameS (a1 _)))
      go_wp2
      go_ret
      exact ⟨rfl, ((H.out.set 3 (.int .i64 reading)).draws nq), (((Only.refl (· = b) w).setCell (.inl rfl) _).draws nq)⟩
  · obtain rfl := AD.out.2 c1
    have hm : max last reading = last := by omega
    rw [hm]
    clear hm
    by_cases c2 : fr < want <;> by_cases c3 : at0 < min want fr
    · have e : min want fr = fr := by omega
      rw [e] at c3
      have E : t = fr := by rw [TE.out]; omega
      subst E
      have q0 := h.cell 0; have q1 := h.cell 1; have q2 := h.cell 2; have q3 := h.cell 3; have q4 := h.cell 4
      have f2 := h.free 2; have f3 := h.free 3; have f4 := h.free 4
      simp at q0 q1 q2 q3 q4 f2 f3 f4
      clear h ha hl h1 h2 mi rb hr hadv e TE AD
      go_enter Try.func53, Try.ntmps53
      go_wp2_with fail
      go_quiet (first | (go_at_call 72; exact qsameS (r1 _)) | (go_at_call 70; exact qsameS (a1 _)))
      go_wp2
      go_ret
      exact ⟨rfl, (H.out.draws nq).set 2 (.int .i64 t), (((Only.refl (· = b) w).draws nq).setCell (.inl rfl) _)⟩
    · have e : min want fr = fr := by omega
      rw [e] at c3
      have E : t = at0 := by rw [TE.out]; omega
      subst E
      have q0 := h.cell 0; have q1 := h.cell 1; have q2 := h.cell 2; have q3 := h.cell 3; have q4 := h.cell 4
      have f2 := h.free 2; have f3 := h.free 3; have f4 := h.free 4
      simp at q0 q1 q2 q3 q4 f2 f3 f4
      clear h ha hl h1 h2 mi rb hr hadv e TE AD
      go_enter Try.func53, Try.ntmps53
      go_wp2_with fail
      go_quiet (first | (go_at_call 72; exact qsameS (r1 _)) | (go_at_call 70; exact qsameS (a1 _)))
      go_wp2
      go_ret
      exact ⟨rfl, H.out.draws nq, (Only.refl (· = b) w).draws nq⟩
    · have e : min want fr = want := by omega
      rw [e] at c3
      have E : t = want := by rw [TE.out]; omega
      subst E
      have q0 := h.cell 0; have q1 := h.cell 1; have q2 := h.cell 2; have q3 := h.cell 3; have q4 := h.cell 4
      have f2 := h.free 2; have f3 := h.free 3; have f4 := h.free 4
      simp at q0 q1 q2 q3 q4 f2 f3 f4
      clear h ha hl h1 h2 mi rb hr hadv e TE AD
      go_enter Try.func53, Try.ntmps53
      go_wp2_with fail
      go_quiet (first | (go_at_call 72; exact qsameS (r1 _)) | (go_at_call 70; exact qsameS (a1 _)))
      go_wp2
      go_ret
      exact ⟨rfl, (H.out.draws nq).set 2 (.int .i64 t), (((Only.refl (· = b) w).draws nq).setCell (.inl rfl) _)⟩
    · have e : min want fr = want := by omega
      rw [e] at c3
      have E : t = at0 := by rw [TE.out]; omega
      subst E
      have q0 := h.cell 0; have q1 := h.cell 1; have q2 := h.cell 2; have q3 := h.cell 3; have q4 := h.cell 4
      have f2 := h.free 2; have f3 := h.free 3; have f4 := h.free 4
      simp at q0 q1 q2 q3 q4 f2 f3 f4
      clear h ha hl h1 h2 mi rb hr hadv e TE AD
      go_enter Try.func53, Try.ntmps53
      go_wp2_with fail
      go_quiet (first | (go_at_call 72; exact qsameS (r1 _)) | (go_at_call 70; exact qsameS (a1 _)))
      go_wp2
      go_ret
      exact ⟨rfl, H.out.draws nq, (Only.refl (· = b) w).draws nq⟩

end Go.Proofs.Ytbpbkdpjolcofaa
