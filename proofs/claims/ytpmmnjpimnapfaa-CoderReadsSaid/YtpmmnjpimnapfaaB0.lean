import Derived.Test.YtpmmnjpimnapfaaA9
set_option linter.unusedVariables false
set_option linter.unusedSimpArgs false
namespace Go.Proofs.Ytpmmnjpimnapfaa.A
open Go.RowKit Go.Proofs.YtpmmnjpimnapfaaW.PrintWords Go.Proofs.YtpmmnjpimnapfaaW.PrintLast Go.Proofs.YtpmmnjpimnapfaaW.PrintMore

theorem rFold_int (d : Int) (w : World) (h0 : 0 ≤ d) (h : d < 4294967296) : Calls Try.prog 12 #[.int .u32 d] w fun e w' => e = .returned (.int .u32 (if d < 2147483648 then 2 * d else 2 * (4294967296 - d) - 1)) ∧ w = w' := by
  by_cases h1 : d < 2147483648
  · rw [if_pos h1]
    go_enter Try.func12, Try.ntmps12
    go_wp2
    go_ret
    exact ⟨ret_int rfl, rfl⟩
  · rw [if_neg h1]
    go_enter Try.func12, Try.ntmps12
    go_wp2
    go_ret
    exact ⟨ret_int (by simp), rfl⟩
theorem rFold_calls (d : Nat) (w : World) (h : d < 4294967296) : Calls Try.prog 12 #[.int .u32 d] w fun e w' => e = .returned (.int .u32 (fold d)) ∧ w = w' := by
  refine (rFold_int d w (by omega) (by omega)).mono fun e w' ⟨h1, h2⟩ => ⟨h1.trans (ret_int ?_), h2⟩
  unfold fold
  by_cases h3 : d < 2147483648
  · rw [if_pos h3, if_pos (by omega)]; omega
  · rw [if_neg h3, if_neg (by omega)]; omega
theorem rUnfold_calls (z : Nat) (w : World) (h : z < 4294967296) : Calls Try.prog 14 #[.int .u32 z] w fun e w' => e = .returned (.int .u32 (unfold_ z)) ∧ w = w' := by

  by_cases h1 : z % 2 = 0
  · have t1 : ((z : Int) % 2 == 0) = true := by rw [beq_iff_eq]; omega
    go_enter Try.func14, Try.ntmps14
    go_wp2
    go_ret
    exact ⟨ret_int (by unfold unfold_; rw [if_pos h1]; simp), rfl⟩
  · have t1 : ((z : Int) % 2 == 0) = false := by rw [beq_eq_false_iff_ne]; omega
    go_enter Try.func14, Try.ntmps14
    go_wp2
    go_ret
    exact ⟨ret_int (by unfold unfold_; rw [if_neg h1]; omega), rfl⟩
theorem rbegin_calls (w : World) : Calls Try.prog 32 #[] w fun e w' => e = .returned (.agg #[.int .i64 16, .int .i64 1]) ∧ Below w.heap.size w w' := by
  go_enter Try.func32, Try.ntmps32
  go_wp2
  exact bodyPost_ret (v := .agg #[.int .i64 16, .int .i64 1]) (by simp [results, Try.results32, go_sem]) rfl ⟨rfl, (Below.refl _ _).alloc (Nat.le_refl _) _⟩
set_option maxHeartbeats 1000000 in
theorem rk_calls (s c : Nat) (w : World) (hcb : c < 4294967296) :
    Calls Try.prog 34 #[.agg #[.int .i64 s, .int .i64 c]] w fun e w' => e = .returned (.int .i64 (kOf s c)) ∧ Below w.heap.size w w' := by
  go_enter Try.func34, Try.ntmps34
  go_wp2
  go_loopw [3] (fun v w' => ∃ k : Nat, k ≤ 31 ∧ v = .int .i64 k ∧ Aside0 (kFrom s c (31 - k) k = kOf s c) ∧ Aside0 (w'.heap[w.heap.size]? = some (.cells #[.int .i64 s, .int .i64 c] 66 (0, 0))) ∧ Aside0 (Below w.heap.size w w')) (fun v _ => 31 - (intOf v).toNat)
  case atStart => exact ⟨0, by omega, rfl, ⟨rfl⟩, ⟨blk_new w _⟩, ⟨(Below.refl _ _).alloc (Nat.le_refl _) _⟩⟩
  case round =>
    obtain ⟨k, hk, rfl, HK, HE, HD⟩ := hrel
    have hs' : wr.cell? ⟨w.heap.size, 0, none⟩ = some (.int .i64 s) := (blk_cell HE.out 0).trans rfl
    have hc' : wr.cell? ⟨w.heap.size, 1, none⟩ = some (.int .i64 c) := (blk_cell HE.out 1).trans rfl
    by_cases h31 : k < 31
    · have c1 : decide ((k : Int) < 31) = true := decide_eq_true (by omega)
      have hw : IntKind.i64.wrap ((c : Int) * 2 ^ k) = ((c * 2 ^ k : Nat) : Int) := by
        have h2 : c * 2 ^ k < 9223372036854775808 := Nat.lt_of_le_of_lt (Nat.mul_le_mul (Nat.le_refl _) (Nat.pow_le_pow_right (by omega) (show k ≤ 30 by omega))) (show c * 2 ^ 30 < _ by omega)
        have h3 : ((c : Int) * 2 ^ k) = ((c * 2 ^ k : Nat) : Int) := by simp
        rw [h3]
        simp only [IntKind.wrap_i64]
        omega
      have hst : kFrom s c (31 - k) k = if c * 2 ^ k < s then kFrom s c (31 - (k + 1)) (k + 1) else k := by
        rw [show 31 - k = (31 - (k + 1)) + 1 from by omega]; rfl
      have hw64 : wrap64 ((c : Int) * 2 ^ k) = ((c * 2 ^ k : Nat) : Int) := (i64_w _).symm.trans hw
      by_cases h2 : c * 2 ^ k < s
      · have c2 : decide (IntKind.i64.wrap ((c : Int) * 2 ^ k) < (s : Int)) = true := decide_eq_true (by rw [hw]; omega)
        have c3 : decide (wrap64 ((c : Int) * 2 ^ k) < (s : Int)) = true := decide_eq_true (by rw [hw64]; omega)
        have HK' := Aside0.mk ((by rw [hst, if_pos h2] : kFrom s c (31 - k) k = kFrom s c (31 - (k + 1)) (k + 1)))
        clear hw hst h2 hw64
        go_wp2
        repeat (go_quiet (fail); try go_wp2)
        go_roundw
        case measure => simp [intOf]; omega
        case rel => exact ⟨k + 1, by omega, by go_num, ⟨HK'.out ▸ HK.out⟩, ⟨HE.out⟩, ⟨pw_below_drewN HD.out _⟩⟩
      · have c2 : decide (IntKind.i64.wrap ((c : Int) * 2 ^ k) < (s : Int)) = false := decide_eq_false (by rw [hw]; omega)
        have c3 : decide (wrap64 ((c : Int) * 2 ^ k) < (s : Int)) = false := decide_eq_false (by rw [hw64]; omega)
        have HK' := Aside0.mk ((by rw [hst, if_neg h2] : kFrom s c (31 - k) k = k))
        clear hw hst h2 hw64
        go_wp2
        repeat (go_quiet (fail); try go_wp2)
        go_ret
        exact ⟨by rw [← HK.out, HK'.out]; rfl, pw_below_drewN HD.out _⟩
    · have c1 : decide ((k : Int) < 31) = false := decide_eq_false (by omega)
      obtain rfl : k = 31 := by omega
      go_wp2
      repeat (go_quiet (fail); try go_wp2)
      go_ret
      exact ⟨by rw [← HK.out]; rfl, pw_below_drewN HD.out _⟩
theorem rnext_calls (s c z : Nat) (w : World) (hs : s < 1152921504606846976) (hc : c < 64) (hz : z < 4294967296) :
    Calls Try.prog 35 #[.agg #[.int .i64 s, .int .i64 c], .int .i64 z] w fun e w' => e = .returned (.agg #[.int .i64 (nextS s c z), .int .i64 (nextC c)]) ∧ Below w.heap.size w w' := by
  by_cases h64 : c + 1 = 64
  · have t1 : ((c : Int) + 1 == 64) = true := by rw [beq_iff_eq]; omega
    go_enter Try.func35, Try.ntmps35
    go_wp2
    exact bodyPost_ret (v := .agg #[.int .i64 (((s : Int) + z) / 2), .int .i64 32]) (by simp [results, Try.results35, go_sem]) rfl ⟨by simp [nextS, nextC, h64], ((Below.refl _ _).alloc (Nat.le_refl _) _).alloc (by simp) _⟩
  · have t1 : ((c : Int) + 1 == 64) = false := by rw [beq_eq_false_iff_ne]; omega
    go_enter Try.func35, Try.ntmps35
    go_wp2
    exact bodyPost_ret (v := .agg #[.int .i64 ((s : Int) + z), .int .i64 ((c : Int) + 1)]) (by simp [results, Try.results35, go_sem]) rfl ⟨by simp [nextS, nextC, h64], ((Below.refl _ _).alloc (Nat.le_refl _) _).alloc (by simp) _⟩
end Go.Proofs.Ytpmmnjpimnapfaa.A
