import Derived.Test.YtpmmnjpimnapfaaA7
set_option linter.unusedVariables false
set_option linter.unusedSimpArgs false
namespace Go.Proofs.Ytpmmnjpimnapfaa.A
open Go.RowKit Go.Proofs.YtpmmnjpimnapfaaW.PrintWords Go.Proofs.YtpmmnjpimnapfaaW.PrintLast Go.Proofs.YtpmmnjpimnapfaaW.PrintMore

/-- bits 0 up to a byte's end; none: a bit 1 among them -/
def padR (b : List Nat) : Nat → Nat → Option Nat
  | 0, p => some p
  | d + 1, p => if p % 8 = 0 then some p else if bitAt b p = 0 then padR b d (p + 1) else none
def endsOf (n : Nat) : Option Nat → Bool
  | some p' => decide (p' = 8 * n)
  | none => false
def endsR (b : List Nat) (p : Nat) : Bool := endsOf b.length (padR b 8 p)
theorem RX.below {w w1 : World} {g B s c : Nat} {b : List Nat} {p : Nat} (h : RX w g B s c b p) (hb : Below w.heap.size w w1) : RX w1 g B s c b p := by
  have hlt := h.lt
  obtain ⟨hg, A, cap, hb0, hC⟩ := h
  exact ⟨hg, A, cap, blk_below hb0 hb, hC.below (hb.mono (by omega))⟩
set_option maxHeartbeats 4000000 in
theorem rends {g B s c : Nat} {b : List Nat} {p : Nat} {w : World} (h : RX w g B s c b p) (hp : p ≤ 8 * b.length) (hl : b.length < 1152921504606846976) (hb8 : ∀ i, gt b i < 256) :
    Calls Try.prog 42 #[.pointer (some ⟨g, 0, none⟩)] w fun e w' => e = .returned (.bool (endsR b p)) ∧ w.grownBy w' (some g) := by
  have H := Aside0.mk h
  clear h
  obtain ⟨R, hR⟩ : ∃ R, R = padR b 8 p := ⟨_, rfl⟩
  have HE : Aside0 (endsR b p = endsOf b.length R) := ⟨by rw [hR]; rfl⟩
  have HR := Aside0.mk hR
  clear hR
  have hwm : IntKind.i64.wrap (8 * (b.length : Int)) = 8 * (b.length : Int) := by simp only [IntKind.wrap_i64]; omega
  go_enter Try.func42, Try.ntmps42
  go_wp2
  go_loopg [] 8 (fun kq wr => ∃ p' : Nat, p' ≤ 8 * b.length ∧ Aside0 (p' % 8 ≠ 0 → 8 - p' % 8 ≤ kq) ∧ Aside0 (RX wr g B s c b p') ∧ Aside0 (padR b kq p' = R) ∧ Aside0 (w.grownBy wr (some g)))
  case atStart => exact ⟨p, hp, ⟨fun _ => by omega⟩, H, ⟨HR.out.symm⟩, ⟨World.grownBy.refl w _⟩⟩
  case round =>
    obtain ⟨p', hp', HK, HX, HL, HB⟩ := hrel
    obtain ⟨hg, A, cap, hb, hC⟩ := HX.out
    have c2 := (blk_cell hb 2).trans rfl
    have c3 := (blk_cell hb 3).trans rfl
    clear hb hC
    by_cases h8 : p' % 8 = 0
    · have hRs : Aside0 (R = some p') := ⟨by rw [← HL.out]; cases gk with
        | zero => rfl
        | succ k => unfold padR; rw [if_pos h8]⟩
      have t1 : ((p' : Int) % 8 != 0) = false := by rw [bne_eq_false_iff_eq]; omega
      have t2 : ((p' : Int) == 8 * (b.length : Int)) = decide (p' = 8 * b.length) := by
        by_cases h : p' = 8 * b.length
        · rw [decide_eq_true h, beq_iff_eq]; omega
        · rw [decide_eq_false h, beq_eq_false_iff_ne]; omega
      clear h8
      go_wp2
      repeat (go_quiet (fail); try go_wp2)
      go_ret
      rw [HE.out, hRs.out]
      exact ⟨rfl, gdrewN HB.out _⟩
    · obtain ⟨k, rfl⟩ : ∃ k, gk = k + 1 := ⟨gk - 1, by have := HK.out h8; omega⟩
      have hps : p' < 8 * b.length := by omega
      have t1 : ((p' : Int) % 8 != 0) = true := by rw [bne_iff_ne]; omega
      have hx := bitAt_lt b p'
      have hst : padR b (k + 1) p' = if bitAt b p' = 0 then padR b k (p' + 1) else none := by conv => lhs; unfold padR; rw [if_neg h8]
      obtain ⟨x, hxe⟩ : ∃ x, x = bitAt b p' := ⟨_, rfl⟩
      rw [← hxe] at hx hst
      have Hxe := Aside0.mk hxe
      have HK2 : Aside0 ((p' + 1) % 8 ≠ 0 → 8 - (p' + 1) % 8 ≤ k) := ⟨fun h => by have := HK.out h8; omega⟩
      clear hxe h8
      by_cases hx0 : x = 0
      · have hRs : Aside0 (padR b k (p' + 1) = R) := ⟨by rw [← HL.out, hst, if_pos hx0]⟩
        have t2 : ((x : Int) != 0) = false := by rw [bne_eq_false_iff_eq]; omega
        clear hst hx0
        go_wp2_with (go_at_call 48; refine (rbit HX.out hps hl hb8).mono ?_; rw [← Hxe.out]; rintro e w1 ⟨rfl, h1, b1⟩; have H1 := Aside0.mk h1; have B1 := Aside0.mk b1; clear h1 b1)
        go_roundg k
        case measure => omega
        case rel => exact ⟨p' + 1, by omega, HK2, H1, hRs, ⟨HB.out.trans B1.out⟩⟩
      · have hRs : Aside0 (R = none) := ⟨by rw [← HL.out, hst, if_neg hx0]⟩
        have t2 : ((x : Int) != 0) = true := by rw [bne_iff_ne]; omega
        clear hst hx0
        go_wp2_with (go_at_call 48; refine (rbit HX.out hps hl hb8).mono ?_; rw [← Hxe.out]; rintro e w1 ⟨rfl, h1, b1⟩; have H1 := Aside0.mk h1; have B1 := Aside0.mk b1; clear h1 b1)
        go_ret
        rw [HE.out, hRs.out]
        exact ⟨rfl, HB.out.trans B1.out⟩
def unfold_ (z : Nat) : Nat := if z % 2 = 0 then z / 2 else 4294967295 - z / 2
theorem unfold_calls (z : Nat) (w : World) (h : z < 4294967296) : Calls Try.prog 13 #[.int .u32 z] w fun e w' => e = .returned (.int .u32 (unfold_ z)) ∧ w = w' := by
  go_enter Try.func13, Try.ntmps13
  go_wp2
  go_ret
  refine ⟨ret_int ?_, rfl⟩
  have h1 := u32_and_nat z 1 h (by omega)
  rw [Nat.and_one_is_mod] at h1
  have h1' : bits .and .u32 (z : Int) 1 = ((z % 2 : Nat) : Int) := h1
  rw [h1']
  unfold unfold_
  by_cases h2 : z % 2 = 0
  · rw [if_pos h2, h2, show (-(((0 : Nat) : Int)) % 4294967296) = ((0 : Nat) : Int) from by omega, show ((z : Int) / 2) = ((z / 2 : Nat) : Int) from by omega, u32_xor_nat _ _ (by omega) (by omega), Nat.xor_zero]
  · rw [if_neg h2, show z % 2 = 1 from by omega, show (-(((1 : Nat) : Int)) % 4294967296) = ((4294967295 : Nat) : Int) from by omega, show ((z : Int) / 2) = ((z / 2 : Nat) : Int) from by omega, u32_xor_nat _ _ (by omega) (by omega), xor_ones _ (by omega)]
end Go.Proofs.Ytpmmnjpimnapfaa.A
