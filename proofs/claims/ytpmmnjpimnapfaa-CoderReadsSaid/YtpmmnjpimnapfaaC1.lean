import Derived.Test.YtpmmnjpimnapfaaC0
set_option linter.unusedVariables false
set_option linter.unusedSimpArgs false
namespace Go.Proofs.Ytpmmnjpimnapfaa.A
open Go.RowKit Go.Proofs.YtpmmnjpimnapfaaW.PrintWords Go.Proofs.YtpmmnjpimnapfaaW.PrintLast Go.Proofs.YtpmmnjpimnapfaaW.PrintMore

theorem unfold_lt {z : Nat} (h : z < 4294967296) : unfold_ z < 4294967296 := by unfold unfold_; split <;> omega
theorem unfold_fold {d : Nat} (h : d < 4294967296) : unfold_ (fold d) = d := by unfold fold unfold_; split <;> split <;> omega
theorem fold_unfold {z : Nat} (h : z < 4294967296) : fold (unfold_ z) = z := by unfold fold unfold_; split <;> split <;> omega

theorem coderFolds (d : Nat) (w : World) (h : d < 4294967296) : Calls Try.prog 4 #[.int .u32 d] w fun e w' => e = .returned (.bool true) ∧ Below w.heap.size w w' := by
  go_enter Try.func4, Try.ntmps4
  go_wp2_with (first | (go_at_call 10; refine (known_calls _).mono ?_; rintro e w1 ⟨rfl, b1⟩; have B1 := Aside0.mk b1; clear b1) | (go_at_call 11; refine (fold_calls _ _ h).mono ?_; rintro e w2 ⟨rfl, rfl⟩) | (go_at_call 12; refine (rFold_calls _ _ h).mono ?_; rintro e w2 ⟨rfl, rfl⟩) | (go_at_call 13; refine (unfold_calls _ _ h).mono ?_; rintro e w2 ⟨rfl, rfl⟩) | (go_at_call 14; refine (rUnfold_calls _ _ h).mono ?_; rintro e w2 ⟨rfl, rfl⟩))
  go_ret
  exact ⟨rfl, B1.out⟩
set_option maxHeartbeats 1000000 in
theorem coderFolded (d : Nat) (w : World) (h : d < 4294967296) : Calls Try.prog 9 #[.int .u32 d] w fun e w' => e = .returned (.bool true) ∧ Below w.heap.size w w' := by
  obtain ⟨z, hz⟩ : ∃ z, z = fold d := ⟨_, rfl⟩
  obtain ⟨y, hy⟩ : ∃ y, y = unfold_ d := ⟨_, rfl⟩
  have hzl : z < 4294967296 := by rw [hz]; exact fold_lt h
  have hyl : y < 4294967296 := by rw [hy]; exact unfold_lt h
  have h1 : unfold_ z = d := by rw [hz]; exact unfold_fold h
  have h2 : fold y = d := by rw [hy]; exact fold_unfold h
  have hs : z ≤ 2 ↔ (d = 0 ∨ d = 1 ∨ d = 4294967295) := by rw [hz]; unfold fold; split <;> omega
  have HZ := Aside0.mk hz
  have HY := Aside0.mk hy
  have H1 := Aside0.mk h1
  have H2 := Aside0.mk h2
  clear hz hy h1 h2
  have main : ∀ (b0 b1 b2 b3 : Bool), ((d : Int) == 0) = b0 → ((d : Int) == 1) = b1 → ((d : Int) == 4294967295) = b2 → decide ((z : Int) ≤ 2) = b3 → (b3 = (b0 || b1 || b2)) → Calls Try.prog 9 #[.int .u32 d] w fun e w' => e = .returned (.bool true) ∧ Below w.heap.size w w' := by
    intro b0 b1 b2 b3 t0 t1 t2 t3 hb
    subst hb
    clear hs
    cases b0 <;> cases b1 <;> cases b2 <;> simp only [Bool.or_true, Bool.or_false, Bool.true_or, Bool.false_or] at t3 <;> (
      go_enter Try.func9, Try.ntmps9
      go_wp2_with (first | (go_at_call 10; refine (known_calls _).mono ?_; rintro e w1 ⟨rfl, b1⟩; have B1 := Aside0.mk b1; clear b1) | (go_at_call 11; have hn := K13; clear hn; refine (fold_calls y _ hyl).mono ?_; rw [H2.out]; rintro e w2 ⟨rfl, rfl⟩) | (go_at_call 11; refine (fold_calls d _ h).mono ?_; rw [← HZ.out]; rintro e w2 ⟨rfl, rfl⟩) | (go_at_call 13; have hn := K13; clear hn; refine (unfold_calls d _ h).mono ?_; rw [← HY.out]; rintro e w2 ⟨rfl, rfl⟩) | (go_at_call 13; refine (unfold_calls z _ hzl).mono ?_; rw [H1.out]; rintro e w2 ⟨rfl, rfl⟩; have K13 := Aside0.mk True.intro))
      go_ret
      exact ⟨rfl, B1.out⟩)
  refine main _ _ _ _ rfl rfl rfl rfl ?_
  rw [Bool.eq_iff_iff]
  simp only [decide_eq_true_eq, Bool.or_eq_true, beq_iff_eq]
  omega
end Go.Proofs.Ytpmmnjpimnapfaa.A
