import Derived.Test.YtpmmnjpimnapfaaRows
import Derived.Test.YtpmmnjpimnapfaaWWords
import Derived.Test.YtpmmnjpimnapfaaWLast
import Derived.Test.YtpmmnjpimnapfaaWMore
import Derived.WalkKit
set_option linter.unusedVariables false
set_option linter.unusedSimpArgs false
namespace Go.Proofs.Ytpmmnjpimnapfaa.A
open Go.RowKit Go.Proofs.YtpmmnjpimnapfaaW.PrintWords Go.Proofs.YtpmmnjpimnapfaaW.PrintLast Go.Proofs.YtpmmnjpimnapfaaW.PrintMore

/-- how many low bits: the least k below 31 with count * 2^k not below sum -/
def kFrom (s c : Nat) : Nat → Nat → Nat
  | 0, k => k
  | d + 1, k => if c * 2 ^ k < s then kFrom s c d (k + 1) else k
def kOf (s c : Nat) : Nat := kFrom s c 31 0

set_option maxHeartbeats 1000000 in
theorem k_calls (g : Nat) (s c : Nat) (w : World) (hs : w.cell? ⟨g, 0, none⟩ = some (.int .u64 s)) (hc : w.cell? ⟨g, 1, none⟩ = some (.int .u64 c)) (hcb : c < 4294967296) :
    Calls Try.prog 44 #[.pointer (some ⟨g, 0, none⟩)] w fun e w' => e = .returned (.int .i64 (kOf s c)) ∧ Drawn0 w w' := by
  go_enter Try.func44, Try.ntmps44
  go_wp2
  go_loopw [3] (fun v w' => ∃ k : Nat, k ≤ 31 ∧ v = .int .i64 k ∧ Aside0 (kFrom s c (31 - k) k = kOf s c) ∧ Aside0 (Drawn0 w w')) (fun v _ => 31 - (intOf v).toNat)
  case atStart => exact ⟨0, by omega, rfl, ⟨rfl⟩, ⟨Drawn0.refl w⟩⟩
  case round =>
    obtain ⟨k, hk, rfl, HK, HD⟩ := hrel
    obtain ⟨n, hn⟩ := HD.out.out
    have hs' : wr.cell? ⟨g, 0, none⟩ = some (.int .u64 s) := by rw [hn]; exact hs
    have hc' : wr.cell? ⟨g, 1, none⟩ = some (.int .u64 c) := by rw [hn]; exact hc
    have HN := Aside0.mk hn
    clear hn
    by_cases h31 : k < 31
    · have c1 : decide ((k : Int) < 31) = true := decide_eq_true (by omega)
      have hw : IntKind.u64.wrap ((c : Int) * 2 ^ k) = ((c * 2 ^ k : Nat) : Int) := by
        have h2 : c * 2 ^ k < 18446744073709551616 := by
          calc c * 2 ^ k ≤ c * 2 ^ 31 := Nat.mul_le_mul (Nat.le_refl _) (Nat.pow_le_pow_right (by omega) (by omega))
            _ < 18446744073709551616 := by omega
        have h3 : ((c : Int) * 2 ^ k) = ((c * 2 ^ k : Nat) : Int) := by simp
        rw [h3]
        simp only [IntKind.wrap_u64]
        omega
      have hst : kFrom s c (31 - k) k = if c * 2 ^ k < s then kFrom s c (31 - (k + 1)) (k + 1) else k := by
        rw [show 31 - k = (31 - (k + 1)) + 1 from by omega]; rfl
      by_cases h2 : c * 2 ^ k < s
      · have c2 : decide (IntKind.u64.wrap ((c : Int) * 2 ^ k) < (s : Int)) = true := decide_eq_true (by rw [hw]; omega)
        have HK' := Aside0.mk ((by rw [hst, if_pos h2] : kFrom s c (31 - k) k = kFrom s c (31 - (k + 1)) (k + 1)))
        clear hw hst h2
        go_wp2
        go_quiet (fail)
        go_wp2
        go_roundw
        case measure => simp [intOf]; omega
        case rel => exact ⟨k + 1, by omega, by go_num, ⟨HK'.out ▸ HK.out⟩, ⟨HD.out.step _⟩⟩
      · have c2 : decide (IntKind.u64.wrap ((c : Int) * 2 ^ k) < (s : Int)) = false := decide_eq_false (by rw [hw]; omega)
        have HK' := Aside0.mk ((by rw [hst, if_neg h2] : kFrom s c (31 - k) k = k))
        clear hw hst h2
        go_wp2
        go_quiet (fail)
        go_wp2
        go_ret
        exact ⟨by rw [← HK.out, HK'.out]; rfl, HD.out.step _⟩
    · have c1 : decide ((k : Int) < 31) = false := decide_eq_false (by omega)
      obtain rfl : k = 31 := by omega
      go_wp2
      go_quiet (fail)
      go_wp2
      go_ret
      exact ⟨by rw [← HK.out]; rfl, HD.out.step _⟩
end Go.Proofs.Ytpmmnjpimnapfaa.A
