import Derived.Test.YtpmmnjpimnapfaaA6
set_option linter.unusedVariables false
set_option linter.unusedSimpArgs false
namespace Go.Proofs.Ytpmmnjpimnapfaa.A
open Go.RowKit Go.Proofs.YtpmmnjpimnapfaaW.PrintWords Go.Proofs.YtpmmnjpimnapfaaW.PrintLast Go.Proofs.YtpmmnjpimnapfaaW.PrintMore

inductive Got (α : Type) where
  | ok (a : α)
  | err (e : Nat)

def formR (q z k p : Nat) : Got (Nat × Nat) :=
  if q = 24 then (if z / 2 ^ k < 24 then .err 170 else .ok (z, p)) else if 4294967295 < q * 2 ^ k then .err 170 else .ok (q * 2 ^ k + z, p)
def numR (b : List Nat) (p k : Nat) : Got (Nat × Nat) :=
  match onesR b 24 p 0 with
  | none => .err 171
  | some (q, p1) => match lowR b (if q = 24 then 32 else k) p1 0 with
    | none => .err 171
    | some (z, p2) => formR q z k p2

theorem RX.lt {w : World} {g B s c : Nat} {b : List Nat} {p : Nat} (h : RX w g B s c b p) : g < w.heap.size := by obtain ⟨_, _, _, hb, _⟩ := h; exact blk_lt hb
theorem rkX {g B s c : Nat} {b : List Nat} {p : Nat} {w : World} (h : RX w g B s c b p) (hc : c < 64) :
    Calls Try.prog 44 #[.pointer (some ⟨g, 0, none⟩)] w fun e w' => e = .returned (.int .i64 (kOf s c)) ∧ RX w' g B s c b p ∧ w.grownBy w' (some g) := by
  have H := h
  obtain ⟨hg, A, cap, hb, hC⟩ := h
  refine (k_calls g s c w ((blk_cell hb 0).trans rfl) ((blk_cell hb 1).trans rfl) (by omega)).mono fun e w' ⟨h1, h2⟩ => ⟨h1, ?_⟩
  obtain ⟨m, rfl⟩ := h2.out
  exact ⟨H.drewN m, gdrewN (World.grownBy.refl w _) m⟩
theorem rlearnX {g B s c : Nat} {b : List Nat} {p : Nat} (z : Nat) {w : World} (h : RX w g B s c b p) (hs : s < 1152921504606846976) (hc : c < 64) (hz : z < 4294967296) :
    Calls Try.prog 47 #[.pointer (some ⟨g, 0, none⟩), .int .u32 z] w fun e w' => e = .returned (.tuple #[]) ∧ RX w' g B (nextS s c z) (nextC c) b p ∧ w.grownBy w' (some g) := by
  obtain ⟨hg, A, cap, hb, hC⟩ := h
  refine (wlearn g s c z 88 [.slice A b.length cap, .int .i64 p] w hb hs hc hz).mono fun e w' ⟨h1, h2, h3⟩ => ?_
  have hB : Below B w w' := below_of_grown h3 hg (by have := blk_lt hb; omega)
  exact ⟨h1, ⟨hg, A, cap, h2, hC.below hB⟩, h3⟩
def NumPost (R : Got (Nat × Nat)) (g B s c : Nat) (b : List Nat) (w : World) (e : Ending) (w' : World) : Prop :=
  (match R with
    | .ok (z, p') => e = .returned (.tuple #[.int .u32 z, .int .i64 0]) ∧ RX w' g B (nextS s c z) (nextC c) b p'
    | .err n => e = .returned (.tuple #[.int .u32 0, .int .i64 n]) ∧ ∃ s' c' p', RX w' g B s' c' b p') ∧ w.grownBy w' (some g)

set_option maxHeartbeats 4000000 in
theorem rnumber {g B s c : Nat} {b : List Nat} {p : Nat} {w : World} (h : RX w g B s c b p) (hp : p ≤ 8 * b.length) (hl : b.length < 1152921504606846976) (hb8 : ∀ i, gt b i < 256) (hs : s < 1152921504606846976) (hc : c < 64) :
    Calls Try.prog 41 #[.pointer (some ⟨g, 0, none⟩)] w (NumPost (numR b p (kOf s c)) g B s c b w) := by
  have H := Aside0.mk h
  clear h
  have hk := kOf_le s c
  obtain ⟨k, hkk⟩ : ∃ k, k = kOf s c := ⟨_, rfl⟩
  rw [← hkk] at hk ⊢
  have HK := Aside0.mk hkk
  clear hkk
  rcases hO : onesR b 24 p 0 with _ | ⟨q, p1⟩
  · have HR : Aside0 (numR b p k = .err 171) := ⟨by unfold numR; rw [hO]⟩
    have HO := Aside0.mk hO
    clear hO
    go_enter Try.func41, Try.ntmps41
    go_wp2_with (first | (go_at_call 44; refine (rkX H.out hc).mono ?_; rw [← HK.out]; rintro e w1 ⟨rfl, h1, b1⟩; have H1 := Aside0.mk h1; have B1 := Aside0.mk b1; clear h1 b1) | (go_at_call 45; refine (rones H1.out hp hl hb8).mono ?_; rw [HO.out]; rintro e w2 ⟨⟨⟨q, rfl⟩, p', h2⟩, b2⟩; have H2 := Aside0.mk h2; have B2 := Aside0.mk (B1.out.trans b2); clear h2 b2))
    go_ret2
    rw [HR.out]
    exact ⟨⟨rfl, _, _, _, H2.out⟩, B2.out⟩
  · obtain ⟨hq, hp1⟩ := onesR_at hO hp
    have hq : q ≤ 24 := by omega
    have HO := Aside0.mk hO
    by_cases hq24 : q = 24
    · subst hq24
      rcases hL : lowR b 32 p1 0 with _ | ⟨z, p2⟩
      · have HR : Aside0 (numR b p k = .err 171) := ⟨by unfold numR; rw [hO]; simp only [if_true]; rw [hL]⟩
        have HL := Aside0.mk hL
        clear hO hL
        go_enter Try.func41, Try.ntmps41
        go_wp2_with (first | (go_at_call 44; refine (rkX H.out hc).mono ?_; rw [← HK.out]; rintro e w1 ⟨rfl, h1, b1⟩; have H1 := Aside0.mk h1; have B1 := Aside0.mk b1; clear h1 b1) | (go_at_call 45; refine (rones H1.out hp hl hb8).mono ?_; rw [HO.out]; rintro e w2 ⟨⟨rfl, h2⟩, b2⟩; have H2 := Aside0.mk h2; have B2 := Aside0.mk (B1.out.trans b2); clear h2 b2) | (go_at_call 46; refine (rlow 32 H2.out hp1 hl hb8 (by omega)).mono ?_; rw [HL.out]; rintro e w3 ⟨⟨rfl, p', h3⟩, b3⟩; have H3 := Aside0.mk h3; have B3 := Aside0.mk (B2.out.trans b3); clear h3 b3))
        go_ret2
        rw [HR.out]
        exact ⟨⟨rfl, _, _, _, H3.out⟩, B3.out⟩
      · have HR : Aside0 (numR b p k = formR 24 z k p2) := ⟨by unfold numR; rw [hO]; simp only [if_true]; rw [hL]⟩
        have hz : z < 4294967296 := by have := (lowR_at hL hp1).2.2; omega
        have HL := Aside0.mk hL
        clear hO hL
        have hzi : ((z : Int) / 2 ^ k) = ((z / 2 ^ k : Nat) : Int) := by simp
        by_cases hf : z / 2 ^ k < 24
        · have HF : Aside0 (formR 24 z k p2 = .err 170) := ⟨by unfold formR; rw [if_pos rfl, if_pos hf]⟩
          have t1 : decide ((z : Int) / 2 ^ k < 24) = true := decide_eq_true (by rw [hzi]; omega)
          have t2 : ((z : Int) / 2 ^ k < 24) = True := eq_true (by rw [hzi]; omega)
          clear hf hzi
          go_enter Try.func41, Try.ntmps41
          go_wp2_with (first | (go_at_call 44; refine (rkX H.out hc).mono ?_; rw [← HK.out]; rintro e w1 ⟨rfl, h1, b1⟩; have H1 := Aside0.mk h1; have B1 := Aside0.mk b1; clear h1 b1) | (go_at_call 45; refine (rones H1.out hp hl hb8).mono ?_; rw [HO.out]; rintro e w2 ⟨⟨rfl, h2⟩, b2⟩; have H2 := Aside0.mk h2; have B2 := Aside0.mk (B1.out.trans b2); clear h2 b2) | (go_at_call 46; refine (rlow 32 H2.out hp1 hl hb8 (by omega)).mono ?_; rw [HL.out]; rintro e w3 ⟨⟨rfl, h3⟩, b3⟩; have H3 := Aside0.mk h3; have B3 := Aside0.mk (B2.out.trans b3); clear h3 b3))
          go_ret2
          rw [HR.out, HF.out]
          exact ⟨⟨rfl, _, _, _, H3.out⟩, B3.out⟩
        · have HF : Aside0 (formR 24 z k p2 = .ok (z, p2)) := ⟨by unfold formR; rw [if_pos rfl, if_neg hf]⟩
          have t1 : decide ((z : Int) / 2 ^ k < 24) = false := decide_eq_false (by rw [hzi]; omega)
          clear hf hzi
          go_enter Try.func41, Try.ntmps41
          go_wp2_with (first | (go_at_call 44; refine (rkX H.out hc).mono ?_; rw [← HK.out]; rintro e w1 ⟨rfl, h1, b1⟩; have H1 := Aside0.mk h1; have B1 := Aside0.mk b1; clear h1 b1) | (go_at_call 45; refine (rones H1.out hp hl hb8).mono ?_; rw [HO.out]; rintro e w2 ⟨⟨rfl, h2⟩, b2⟩; have H2 := Aside0.mk h2; have B2 := Aside0.mk (B1.out.trans b2); clear h2 b2) | (go_at_call 46; refine (rlow 32 H2.out hp1 hl hb8 (by omega)).mono ?_; rw [HL.out]; rintro e w3 ⟨⟨rfl, h3⟩, b3⟩; have H3 := Aside0.mk h3; have B3 := Aside0.mk (B2.out.trans b3); clear h3 b3) | (go_at_call 47; refine (rlearnX z H3.out hs hc hz).mono ?_; rintro e w4 ⟨rfl, h4, b4⟩; have H4 := Aside0.mk h4; have B4 := Aside0.mk (B3.out.trans b4); clear h4 b4))
          go_ret2
          rw [HR.out, HF.out]
          exact ⟨⟨rfl, H4.out⟩, B4.out⟩
    · rcases hL : lowR b k p1 0 with _ | ⟨z, p2⟩
      · have HR : Aside0 (numR b p k = .err 171) := ⟨by unfold numR; rw [hO]; simp only [if_neg hq24]; rw [hL]⟩
        have t1 : ((q : Int) == 24) = false := by rw [beq_eq_false_iff_ne]; omega
        have HL := Aside0.mk hL
        clear hO hL
        go_enter Try.func41, Try.ntmps41
        go_wp2_with (first | (go_at_call 44; refine (rkX H.out hc).mono ?_; rw [← HK.out]; rintro e w1 ⟨rfl, h1, b1⟩; have H1 := Aside0.mk h1; have B1 := Aside0.mk b1; clear h1 b1) | (go_at_call 45; refine (rones H1.out hp hl hb8).mono ?_; rw [HO.out]; rintro e w2 ⟨⟨rfl, h2⟩, b2⟩; have H2 := Aside0.mk h2; have B2 := Aside0.mk (B1.out.trans b2); clear h2 b2) | (go_at_call 46; refine (rlow k H2.out hp1 hl hb8 (by omega)).mono ?_; rw [HL.out]; rintro e w3 ⟨⟨rfl, p', h3⟩, b3⟩; have H3 := Aside0.mk h3; have B3 := Aside0.mk (B2.out.trans b3); clear h3 b3))
        go_ret2
        rw [HR.out]
        exact ⟨⟨rfl, _, _, _, H3.out⟩, B3.out⟩
      · have HR : Aside0 (numR b p k = formR q z k p2) := ⟨by unfold numR; rw [hO]; simp only [if_neg hq24]; rw [hL]⟩
        have hz : z < 2 ^ k := by have := (lowR_at hL hp1).2.2; omega
        have t1 : ((q : Int) == 24) = false := by rw [beq_eq_false_iff_ne]; omega
        have t2 : decide ((q : Int) < 24) = true := decide_eq_true (by omega)
        have Hz := Aside0.mk hz
        have HL := Aside0.mk hL
        clear hO hL hz
        have hpk : 2 ^ k ≤ 2147483648 := Nat.pow_le_pow_right (by omega) hk
        have hqk : q * 2 ^ k < 51539607552 := Nat.lt_of_le_of_lt (Nat.mul_le_mul (show q ≤ 23 by omega) hpk) (by omega)
        have hqi : ((q : Int) * 2 ^ k) = ((q * 2 ^ k : Nat) : Int) := by simp
        by_cases hf : 4294967295 < q * 2 ^ k
        · have HF : Aside0 (formR q z k p2 = .err 170) := ⟨by unfold formR; rw [if_neg hq24, if_pos hf]⟩
          have t3 : decide (4294967295 < IntKind.u64.wrap ((q : Int) * 2 ^ k)) = true := decide_eq_true (by rw [hqi]; simp only [IntKind.wrap_u64]; omega)
          clear hf hqi hqk hpk
          go_enter Try.func41, Try.ntmps41
          go_wp2_with (first | (go_at_call 44; refine (rkX H.out hc).mono ?_; rw [← HK.out]; rintro e w1 ⟨rfl, h1, b1⟩; have H1 := Aside0.mk h1; have B1 := Aside0.mk b1; clear h1 b1) | (go_at_call 45; refine (rones H1.out hp hl hb8).mono ?_; rw [HO.out]; rintro e w2 ⟨⟨rfl, h2⟩, b2⟩; have H2 := Aside0.mk h2; have B2 := Aside0.mk (B1.out.trans b2); clear h2 b2) | (go_at_call 46; refine (rlow k H2.out hp1 hl hb8 (by omega)).mono ?_; rw [HL.out]; rintro e w3 ⟨⟨rfl, h3⟩, b3⟩; have H3 := Aside0.mk h3; have B3 := Aside0.mk (B2.out.trans b3); clear h3 b3))
          go_ret2
          rw [HR.out, HF.out]
          exact ⟨⟨rfl, _, _, _, H3.out⟩, B3.out⟩
        · have HF : Aside0 (formR q z k p2 = .ok (q * 2 ^ k + z, p2)) := ⟨by unfold formR; rw [if_neg hq24, if_neg hf]⟩
          have t3 : decide (4294967295 < IntKind.u64.wrap ((q : Int) * 2 ^ k)) = false := decide_eq_false (by rw [hqi]; simp only [IntKind.wrap_u64]; omega)
          have hz := Hz.out
          have hdvd : q * 2 ^ k + z < 4294967296 := by
            have h1 : 2 ^ (32 - k) * 2 ^ k = 4294967296 := by rw [← Nat.pow_add, show 32 - k + k = 32 from by omega]
            have h2 : q < 2 ^ (32 - k) := Nat.lt_of_mul_lt_mul_right (a := 2 ^ k) (by omega)
            have h3 : (q + 1) * 2 ^ k ≤ 2 ^ (32 - k) * 2 ^ k := Nat.mul_le_mul (by omega) (Nat.le_refl _)
            rw [Nat.add_mul] at h3
            omega
          have hor : bits .or .u32 (z : Int) ((q : Int) * 2 ^ k % 4294967296) = ((q * 2 ^ k + z : Nat) : Int) := by
            rw [hqi, show ((q * 2 ^ k : Nat) : Int) % 4294967296 = ((q * 2 ^ k : Nat) : Int) from by omega, u32_or_nat _ _ (by omega) (by omega), Nat.or_comm]
            congr 1
            have h2 := Nat.two_pow_add_eq_or_of_lt (i := k) (b := z) hz q
            rw [Nat.mul_comm] at h2
            exact h2.symm
          obtain ⟨zz, hzz0⟩ : ∃ zz, zz = q * 2 ^ k + z := ⟨_, rfl⟩
          rw [← hzz0] at hor hdvd HF
          have hzz := hdvd
          clear hf hqi hqk hpk hz hdvd hzz0
          go_enter Try.func41, Try.ntmps41
          go_wp2_with (first | (go_at_call 44; refine (rkX H.out hc).mono ?_; rw [← HK.out]; rintro e w1 ⟨rfl, h1, b1⟩; have H1 := Aside0.mk h1; have B1 := Aside0.mk b1; clear h1 b1) | (go_at_call 45; refine (rones H1.out hp hl hb8).mono ?_; rw [HO.out]; rintro e w2 ⟨⟨rfl, h2⟩, b2⟩; have H2 := Aside0.mk h2; have B2 := Aside0.mk (B1.out.trans b2); clear h2 b2) | (go_at_call 46; refine (rlow k H2.out hp1 hl hb8 (by omega)).mono ?_; rw [HL.out]; rintro e w3 ⟨⟨rfl, h3⟩, b3⟩; have H3 := Aside0.mk h3; have B3 := Aside0.mk (B2.out.trans b3); clear h3 b3) | (go_at_call 47; refine (rlearnX zz H3.out hs hc hzz).mono ?_; rintro e w4 ⟨rfl, h4, b4⟩; have H4 := Aside0.mk h4; have B4 := Aside0.mk (B3.out.trans b4); clear h4 b4))
          go_ret2
          rw [HR.out, HF.out]
          exact ⟨⟨rfl, H4.out⟩, B4.out⟩
end Go.Proofs.Ytpmmnjpimnapfaa.A
