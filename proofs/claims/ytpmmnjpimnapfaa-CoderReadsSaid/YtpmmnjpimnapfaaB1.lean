import Derived.Test.YtpmmnjpimnapfaaB0
set_option linter.unusedVariables false
set_option linter.unusedSimpArgs false
namespace Go.Proofs.Ytpmmnjpimnapfaa.A
open Go.RowKit Go.Proofs.YtpmmnjpimnapfaaW.PrintWords Go.Proofs.YtpmmnjpimnapfaaW.PrintLast Go.Proofs.YtpmmnjpimnapfaaW.PrintMore

def par (l : List Nat) : List Nat := l.map (· % 2)
theorem par_append (l m : List Nat) : par (l ++ m) = par l ++ par m := List.map_append
theorem par_replicate (n : Nat) : par (List.replicate n 1) = List.replicate n 1 := by simp [par]
theorem par_length (l : List Nat) : (par l).length = l.length := by simp [par]
theorem lowBits_par (z m : Nat) : par (lowBits z (m + 1)) = z / 2 ^ m % 2 :: par (lowBits z m) := rfl
theorem rep_snoc (q j : Nat) : List.replicate j q ++ [q] = List.replicate (j + 1) q := by rw [← List.replicate_succ']

set_option maxHeartbeats 4000000 in
set_option maxRecDepth 100000 in
theorem rcode_calls (z k : Nat) (w : World) (hz : z < 4294967296) (hk : k ≤ 31) :
    Calls Try.prog 33 #[.int .i64 z, .int .i64 k] w fun e w' => ∃ v, e = .returned v ∧ Kd.R (nat .u8) 5 w' w.heap.size (fun _ => True) v (par (codeBits z k)) ∧ Below w.heap.size w w' := by
  obtain ⟨q, hqe⟩ : ∃ q, q = z / 2 ^ k := ⟨_, rfl⟩
  have hq : q < 4294967296 := by rw [hqe]; exact Nat.lt_of_le_of_lt (Nat.div_le_self _ _) hz
  have hw : (z : Int) / 2 ^ k = (q : Int) := by rw [hqe]; simp
  have HQ := Aside0.mk hqe
  clear hqe
  by_cases h24 : q < 24
  · have HC : Aside0 (par (codeBits z k) = List.replicate q 1 ++ [0] ++ par (lowBits z k)) := ⟨by unfold codeBits; rw [← HQ.out, if_pos h24, par_append, par_replicate, List.append_assoc]; rfl⟩
    have t1 : decide ((q : Int) < 24) = true := decide_eq_true (by omega)
    go_enter Try.func33, Try.ntmps33
    go_wp2
    go_loopw [5, 7] (fun u v wr => ∃ (j : Nat), j ≤ q ∧ v = .int .i64 j ∧ Aside0 (Kd.R (nat .u8) 5 wr w.heap.size (fun _ => True) u (List.replicate j 1)) ∧ Aside0 (Below w.heap.size w wr)) (fun _ v _ => q - (intOf v).toNat)
    case atStart => exact ⟨0, by omega, rfl, ⟨Kd.R_nil _ _ _ _ _⟩, ⟨Below.refl _ _⟩⟩
    case round =>
      obtain ⟨j, hj, rfl, HA, HB⟩ := hrel
      by_cases hjn : j < q
      · go_wp2_with ((with_reducible refine gate_builtin (b := .append) (xs := #[.tmp 20, .tmp 21]) rfl ?_); at_builtin; refine Kd.R_append (nat .u8) (w0 := w) w.heap.size rfl (.tmp 20) (.tmp 21) 40 5 (.int .u8 0) 1 rfl Try.underlying40 info5 rfl (by decide) (by omega) u5 (List.replicate j 1) 1 [.int .u8 ((1 : Nat) : Int)] (fun _ => True) (fun _ => False) rfl rfl rfl (fun _ hk => hk.elim) (fun _ _ => trivial) HA.out HB.out HB.out.size ?aL ?_; (case aL => simp; omega); intro v1 w1 hR1 hB1 hg1 hat1; have A1 := Aside0.mk hR1; have B1 := Aside0.mk hB1; clear hR1 hB1 hg1 hat1)
        go_roundw
        case measure => simp [intOf]; omega
        case rel => first | exact ⟨j + 1, by omega, by go_num, ⟨by rw [← rep_snoc]; exact A1.out⟩, B1⟩ | ((repeat apply Exists.intro); exact ⟨⟨j + 1, by omega, by go_num, ⟨by rw [← rep_snoc]; exact A1.out⟩, B1⟩, rfl⟩)
      · obtain rfl : j = q := by omega
        go_wp2_with ((with_reducible refine gate_builtin (b := .append) (xs := #[.tmp 23, .tmp 24]) rfl ?_); at_builtin; refine Kd.R_append (nat .u8) (w0 := w) w.heap.size rfl (.tmp 23) (.tmp 24) 40 5 (.int .u8 0) 1 rfl Try.underlying40 info5 rfl (by decide) (by omega) u5 (List.replicate j 1) 0 [.int .u8 ((0 : Nat) : Int)] (fun _ => True) (fun _ => False) rfl rfl rfl (fun _ hk => hk.elim) (fun _ _ => trivial) HA.out HB.out HB.out.size ?aL ?_; (case aL => simp; omega); intro v1 w1 hR1 hB1 hg1 hat1; have A2 := Aside0.mk hR1; have B2 := Aside0.mk hB1; clear hR1 hB1 hg1 hat1)
        go_loopw [5, 9] (fun u v wr => ∃ (i : Int) (j : Nat) (bs : List Nat), i + 1 = j ∧ j ≤ k ∧ v = .int .i64 i ∧ Aside0 (Kd.R (nat .u8) 5 wr w.heap.size (fun _ => True) u bs) ∧ Aside0 (bs ++ par (lowBits z j) = par (codeBits z k)) ∧ bs.length + j ≤ 100 ∧ Aside0 (Below w.heap.size w wr)) (fun _ v _ => (intOf v + 1).toNat)
        case atStart => exact ⟨(k : Int) - 1, k, (List.replicate j 1 ++ [0]), by omega, by omega, rfl, A2, ⟨by first | (rw [HC.out]; done) | (rw [HC.out]; simp)⟩, by first | (simp; done) | (simp; omega), B2⟩
        case round =>
          obtain ⟨i, j, bs, hij, hjm, rfl, HA, HP, hbl, HB⟩ := hrel
          by_cases hi : 0 ≤ i
          · obtain ⟨j', rfl⟩ := Int.eq_ofNat_of_zero_le hi
            obtain rfl : j = j' + 1 := by omega
            have hzi : ((z : Int) / 2 ^ j').tmod 2 % 256 = ((z / 2 ^ j' % 2 : Nat) : Int) := by
              rw [show ((z : Int) / 2 ^ j') = ((z / 2 ^ j' : Nat) : Int) from by simp, Int.tmod_eq_emod_of_nonneg (Int.natCast_nonneg _)]; omega
            obtain ⟨y, hy⟩ : ∃ y, y = z / 2 ^ j' % 2 := ⟨_, rfl⟩
            rw [← hy] at hzi
            have hyl : y < 2 := by rw [hy]; exact Nat.mod_lt _ (by omega)
            have HY := Aside0.mk hy
            clear hij hy
            go_wp2_with ((with_reducible refine gate_builtin (b := .append) (xs := #[.tmp 39, .tmp 45]) rfl ?_); at_builtin; refine Kd.R_append (nat .u8) (w0 := w) w.heap.size rfl (.tmp 39) (.tmp 45) 40 5 (.int .u8 0) 1 rfl Try.underlying40 info5 rfl (by decide) (by omega) u5 bs y [.int .u8 ((y : Nat) : Int)] (fun _ => True) (fun _ => False) rfl rfl rfl (fun _ hk => hk.elim) (fun _ _ => trivial) HA.out HB.out HB.out.size ?aL ?_; (case aL => omega); intro v1 w1 hR1 hB1 hg1 hat1; have A1 := Aside0.mk hR1; have B1 := Aside0.mk hB1; clear hR1 hB1 hg1 hat1)
            go_roundw
            case measure => simp [intOf]
            case rel => first | exact ⟨(j' : Int) - 1, j', _, by omega, by omega, rfl, A1, ⟨by rw [← HP.out, lowBits_par, ← HY.out]; simp⟩, by simp; omega, B1⟩ | ((repeat apply Exists.intro); exact ⟨⟨(j' : Int) - 1, j', _, by omega, by omega, rfl, A1, ⟨by rw [← HP.out, lowBits_par, ← HY.out]; simp⟩, by simp; omega, B1⟩, rfl⟩)
          · obtain rfl : j = 0 := by omega
            clear hij
            go_wp2
            go_ret
            have hP := HP.out
            simp [lowBits, par] at hP
            exact ⟨_, rfl, by rw [par, ← hP]; exact HA.out, HB.out⟩
  · have HC : Aside0 (par (codeBits z k) = List.replicate 24 1 ++ par (lowBits z 32)) := ⟨by unfold codeBits; rw [← HQ.out, if_neg h24, par_append, par_replicate]⟩
    have t1 : decide ((q : Int) < 24) = false := decide_eq_false (by omega)
    go_enter Try.func33, Try.ntmps33
    go_wp2
    go_loopw [5, 8] (fun u v wr => ∃ (j : Nat), j ≤ 24 ∧ v = .int .i64 j ∧ Aside0 (Kd.R (nat .u8) 5 wr w.heap.size (fun _ => True) u (List.replicate j 1)) ∧ Aside0 (Below w.heap.size w wr)) (fun _ v _ => 24 - (intOf v).toNat)
    case atStart => exact ⟨0, by omega, rfl, ⟨Kd.R_nil _ _ _ _ _⟩, ⟨Below.refl _ _⟩⟩
    case round =>
      obtain ⟨j, hj, rfl, HA, HB⟩ := hrel
      by_cases hjn : j < 24
      · go_wp2_with ((with_reducible refine gate_builtin (b := .append) (xs := #[.tmp 30, .tmp 31]) rfl ?_); at_builtin; refine Kd.R_append (nat .u8) (w0 := w) w.heap.size rfl (.tmp 30) (.tmp 31) 40 5 (.int .u8 0) 1 rfl Try.underlying40 info5 rfl (by decide) (by omega) u5 (List.replicate j 1) 1 [.int .u8 ((1 : Nat) : Int)] (fun _ => True) (fun _ => False) rfl rfl rfl (fun _ hk => hk.elim) (fun _ _ => trivial) HA.out HB.out HB.out.size ?aL ?_; (case aL => simp; omega); intro v1 w1 hR1 hB1 hg1 hat1; have A1 := Aside0.mk hR1; have B1 := Aside0.mk hB1; clear hR1 hB1 hg1 hat1)
        go_roundw
        case measure => simp [intOf]; omega
        case rel => first | exact ⟨j + 1, by omega, by go_num, ⟨by rw [← rep_snoc]; exact A1.out⟩, B1⟩ | ((repeat apply Exists.intro); exact ⟨⟨j + 1, by omega, by go_num, ⟨by rw [← rep_snoc]; exact A1.out⟩, B1⟩, rfl⟩)
      · obtain rfl : j = 24 := by omega
        go_wp2
        go_loopw [5, 9] (fun u v wr => ∃ (i : Int) (j : Nat) (bs : List Nat), i + 1 = j ∧ j ≤ 32 ∧ v = .int .i64 i ∧ Aside0 (Kd.R (nat .u8) 5 wr w.heap.size (fun _ => True) u bs) ∧ Aside0 (bs ++ par (lowBits z j) = par (codeBits z k)) ∧ bs.length + j ≤ 100 ∧ Aside0 (Below w.heap.size w wr)) (fun _ v _ => (intOf v + 1).toNat)
        case atStart => exact ⟨(32 : Int) - 1, 32, (List.replicate 24 1), by omega, by omega, rfl, HA, ⟨by first | (rw [HC.out]; done) | (rw [HC.out]; simp)⟩, by first | (simp; done) | (simp; omega), HB⟩
        case round =>
          obtain ⟨i, j, bs, hij, hjm, rfl, HA, HP, hbl, HB⟩ := hrel
          by_cases hi : 0 ≤ i
          · obtain ⟨j', rfl⟩ := Int.eq_ofNat_of_zero_le hi
            obtain rfl : j = j' + 1 := by omega
            have hzi : ((z : Int) / 2 ^ j').tmod 2 % 256 = ((z / 2 ^ j' % 2 : Nat) : Int) := by
              rw [show ((z : Int) / 2 ^ j') = ((z / 2 ^ j' : Nat) : Int) from by simp, Int.tmod_eq_emod_of_nonneg (Int.natCast_nonneg _)]; omega
            obtain ⟨y, hy⟩ : ∃ y, y = z / 2 ^ j' % 2 := ⟨_, rfl⟩
            rw [← hy] at hzi
            have hyl : y < 2 := by rw [hy]; exact Nat.mod_lt _ (by omega)
            have HY := Aside0.mk hy
            clear hij hy
            go_wp2_with ((with_reducible refine gate_builtin (b := .append) (xs := #[.tmp 39, .tmp 45]) rfl ?_); at_builtin; refine Kd.R_append (nat .u8) (w0 := w) w.heap.size rfl (.tmp 39) (.tmp 45) 40 5 (.int .u8 0) 1 rfl Try.underlying40 info5 rfl (by decide) (by omega) u5 bs y [.int .u8 ((y : Nat) : Int)] (fun _ => True) (fun _ => False) rfl rfl rfl (fun _ hk => hk.elim) (fun _ _ => trivial) HA.out HB.out HB.out.size ?aL ?_; (case aL => omega); intro v1 w1 hR1 hB1 hg1 hat1; have A1 := Aside0.mk hR1; have B1 := Aside0.mk hB1; clear hR1 hB1 hg1 hat1)
            go_roundw
            case measure => simp [intOf]
            case rel => first | exact ⟨(j' : Int) - 1, j', _, by omega, by omega, rfl, A1, ⟨by rw [← HP.out, lowBits_par, ← HY.out]; simp⟩, by simp; omega, B1⟩ | ((repeat apply Exists.intro); exact ⟨⟨(j' : Int) - 1, j', _, by omega, by omega, rfl, A1, ⟨by rw [← HP.out, lowBits_par, ← HY.out]; simp⟩, by simp; omega, B1⟩, rfl⟩)
          · obtain rfl : j = 0 := by omega
            clear hij
            go_wp2
            go_ret
            have hP := HP.out
            simp [lowBits, par] at hP
            exact ⟨_, rfl, by rw [par, ← hP]; exact HA.out, HB.out⟩
end Go.Proofs.Ytpmmnjpimnapfaa.A
