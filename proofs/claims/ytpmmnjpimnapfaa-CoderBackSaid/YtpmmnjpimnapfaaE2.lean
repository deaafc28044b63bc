import Derived.Test.YtpmmnjpimnapfaaE1
set_option linter.unusedVariables false
set_option linter.unusedSimpArgs false
namespace Go.Proofs.Ytpmmnjpimnapfaa.A
open Go.RowKit Go.Proofs.YtpmmnjpimnapfaaW.PrintWords Go.Proofs.YtpmmnjpimnapfaaW.PrintLast Go.Proofs.YtpmmnjpimnapfaaW.PrintMore

theorem decA_err {b : List Nat} : ∀ {n p s c : Nat} {acc : List Nat} {e : Nat}, decA b n p s c acc = .err e → e = 170 ∨ e = 171 := by
  intro n
  induction n with
  | zero => intro p s c acc e h; cases h
  | succ n ih =>
    intro p s c acc e h
    rw [decA] at h
    rcases hN : numR b p (kOf s c) with ⟨z, p1⟩ | e1
    · rw [hN] at h; exact ih h
    · rw [hN] at h
      injection h with h; subst h
      exact numR_err hN
theorem dec_err {b : List Nat} {n e : Nat} (h : dec b n = .err e) : e = 170 ∨ e = 171 := by
  unfold dec at h
  rcases hA : decA b n 0 16 1 [] with ⟨l, p⟩ | e1
  · rw [hA] at h
    simp only [decE] at h
    split at h
    · cases h
    · injection h with h; omega
  · rw [hA] at h
    injection h with h; subst h
    exact decA_err hA
set_option maxHeartbeats 4000000 in
theorem coderOne (A : Option Addr) (cap : Nat) (b : List Nat) (n : Int) (w : World) (hC : (nat .u8).C w A b.length b) (hcap : b.length ≤ cap) (hb8 : ∀ i, gt b i < 256) (hl : b.length < 1152921504606846976) (hn : -9223372036854775808 ≤ n ∧ n < 9223372036854775808) :
    Calls Try.prog 8 #[.slice A b.length cap, .int .i64 n] w fun e w' => e = .returned (.bool true) ∧ Below w.heap.size w w' := by
  have HC := Aside0.mk hC
  clear hC
  by_cases hm : n < 0 ∨ 65536 < n
  · go_enter Try.func8, Try.ntmps8
    go_wp2_with (first | (go_at_call 10; refine (known_calls _).mono ?_; rintro e w1 ⟨rfl, b1⟩; have B1 := Aside0.mk b1; clear b1) | (go_at_call 27; refine (Decode_many _ _ b n _ hm).mono ?_; rintro e w2 ⟨rfl, rfl⟩) | (go_at_call 20; refine (num_calls _ _).mono ?_; rintro e w2 ⟨rfl, rfl⟩))
    go_ret
    exact ⟨rfl, B1.out⟩
  · obtain ⟨m, rfl⟩ : ∃ m : Nat, n = m := ⟨n.toNat, by omega⟩
    have hm6 : m ≤ 65536 := by omega
    clear hm hn
    rcases hd : dec b m with l | k
    · obtain ⟨h1, h2, h3⟩ := dec_one hb8 hd
      have HD := Aside0.mk hd
      have H3 := Aside0.mk h3
      have t1 : ((l.length : Int) == (m : Int)) = true := by rw [beq_iff_eq]; omega
      have hl6 : l.length ≤ 65536 := by omega
      have HL := Aside0.mk h1
      clear hd h3 h1
      go_enter Try.func8, Try.ntmps8
      go_wp2_with (first | (go_at_call 10; refine (known_calls _).mono ?_; rintro e w1 ⟨rfl, b1⟩; have B1 := Aside0.mk b1; clear b1) | (go_at_call 27; refine (Decode_ok _ _ b m _ l HD.out (Kd.C_below HC.out B1.out) hcap hl hb8 hm6).mono ?_; rintro e w2 ⟨v2, rfl, r2, b2⟩; obtain ⟨A2, c2, rfl, hc2, hC2⟩ := Kd.R_reads r2; have C2 := Aside0.mk hC2; have B2 := Aside0.mk (below_then B1.out B1.out.size b2); clear r2 b2 hC2) | (go_at_call 20; refine (num_calls _ _).mono ?_; rintro e w2 ⟨rfl, rfl⟩) | (go_at_call 18; refine (Encode_calls _ _ l _ C2.out hc2 h2 hl6).mono ?_; rw [H3.out]; rintro e w3 ⟨v3, rfl, r3, b3⟩; obtain ⟨A3, c3, rfl, hc3, hC3⟩ := r3.C; have C3 := Aside0.mk hC3; have B3 := Aside0.mk (below_then B2.out B2.out.size b3); clear r3 b3 hC3) | (go_at_call 21; refine (bytes_calls _ _ _ _ b b _ (Kd.C_below HC.out B3.out) C3.out hcap hc3 (by omega)).mono ?_; rw [decide_eq_true rfl]; rintro e w4 ⟨rfl, b4⟩; have B4 := Aside0.mk (below_then B3.out B3.out.size b4); clear b4))
      go_ret
      exact ⟨rfl, B4.out⟩
    · have he := dec_err hd
      have t1 : ((k : Int) != 0) = true := by rw [bne_iff_ne]; omega
      have HD := Aside0.mk hd
      clear hd he
      go_enter Try.func8, Try.ntmps8
      go_wp2_with (first | (go_at_call 10; refine (known_calls _).mono ?_; rintro e w1 ⟨rfl, b1⟩; have B1 := Aside0.mk b1; clear b1) | (go_at_call 27; refine (Decode_err _ _ b m _ k HD.out (Kd.C_below HC.out B1.out) hcap hl hb8 hm6).mono ?_; rintro e w2 ⟨rfl, b2⟩; have B2 := Aside0.mk (below_then B1.out B1.out.size b2); clear b2) | (go_at_call 20; refine (num_calls _ _).mono ?_; rintro e w2 ⟨rfl, rfl⟩))
      go_ret
      exact ⟨rfl, B2.out⟩
end Go.Proofs.Ytpmmnjpimnapfaa.A
