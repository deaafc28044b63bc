import Derived.Test.YtpmmnjpimnapfaaE2
set_option linter.unusedVariables false
set_option linter.unusedSimpArgs false
namespace Go.Proofs.Ytpmmnjpimnapfaa.A
open Go.RowKit Go.Proofs.YtpmmnjpimnapfaaW.PrintWords Go.Proofs.YtpmmnjpimnapfaaW.PrintLast Go.Proofs.YtpmmnjpimnapfaaW.PrintMore

theorem gt_snoc_at {l : List Nat} {x m : Nat} (h : ∀ i, gt l i < m) (hx : x < m) : ∀ i, gt (l ++ [x]) i < m := gt_snoc h hx
set_option maxHeartbeats 8000000 in
theorem coderBack (A : Option Addr) (cap : Nat) (l : List Nat) (x : Nat) (w : World) (hC : (nat .u32).C w A l.length l) (hcap : l.length ≤ cap) (hl : ∀ i, gt l i < 4294967296) (hlen : l.length < 1152921504606846976) (hx : x < 4294967296) :
    Calls Try.prog 7 #[.slice A l.length cap, .int .u32 x] w fun e w' => e = .returned (.bool true) ∧ Below w.heap.size w w' := by
  have HC := Aside0.mk hC
  clear hC
  by_cases hm : 65536 < l.length
  · have t0 : decide (65536 < (l.length : Int)) = true := decide_eq_true (by omega)
    go_enter Try.func7, Try.ntmps7
    go_wp2_with (first | (go_at_call 10; refine (known_calls _).mono ?_; rintro e w1 ⟨rfl, b1⟩; have B1 := Aside0.mk b1; clear b1) | (go_at_call 18; refine (Encode_many _ _ l _ hm).mono ?_; rintro e w2 ⟨rfl, rfl⟩) | (go_at_call 19; refine (Cost_many _ _ l _ hm).mono ?_; rintro e w2 ⟨rfl, rfl⟩) | (go_at_call 20; refine (num_calls _ _).mono ?_; rintro e w2 ⟨rfl, rfl⟩))
    go_ret
    exact ⟨rfl, B1.out⟩
  · have hm6 : l.length ≤ 65536 := by omega
    clear hm
    obtain ⟨hG, hT, hB⟩ := packed_bits l
    have hs := stepsBits_length l 16 1
    obtain ⟨n, hn⟩ : ∃ n, n = (bitsL l).length := ⟨_, rfl⟩
    obtain ⟨b, hb⟩ : ∃ b, b = packed l := ⟨_, rfl⟩
    have hbl : b.length = (n + 7) / 8 := by rw [hb, hn]; exact hG.1
    have hb8 : ∀ i, gt b i < 256 := by rw [hb]; exact hG.2
    have hn56 : n ≤ 56 * l.length := by rw [hn]; exact hs
    have hD : dec b l.length = .ok l := by rw [hb]; exact dec_packed hl
    have HD := Aside0.mk hD
    have HN := Aside0.mk hn
    have HB := Aside0.mk hb
    clear hG hT hB hs hn hb hD
    have HBL := Aside0.mk hbl
    have t1 : decide (65536 < (l.length : Int)) = false := decide_eq_false (by omega)
    have t2 : ((b.length : Int) != ((n : Int) + 7) / 8) = false := by rw [bne_eq_false_iff_eq]; omega
    have t3 : decide (56 * (l.length : Int) < (n : Int)) = false := decide_eq_false (by omega)
    have hw1 : IntKind.i64.wrap ((n : Int) + 7) = (n : Int) + 7 := by simp only [IntKind.wrap_i64]; omega
    have hw2 : ((n : Int) + 7).tdiv 8 = ((n : Int) + 7) / 8 := Int.tdiv_eq_ediv_of_nonneg (by omega)
    by_cases h64 : l.length = 65536
    · have t4 : ((l.length : Int) == 65536) = true := by rw [beq_iff_eq]; omega
      have hbl2 : b.length < 1152921504606846976 := by omega
      clear hbl h64
      go_enter Try.func7, Try.ntmps7
      go_wp2_with (first | (go_at_call 10; refine (known_calls _).mono ?_; rintro e w1 ⟨rfl, b1⟩; have B1 := Aside0.mk b1; clear b1) | (go_at_call 18; refine (Encode_calls _ _ l _ (Kd.C_below HC.out B1.out) hcap hl hm6).mono ?_; rw [← HB.out]; rintro e w2 ⟨v2, rfl, r2, b2⟩; obtain ⟨A2, c2, rfl, hc2, hC2⟩ := r2.C; have C2 := Aside0.mk hC2; have B2 := Aside0.mk (below_then B1.out B1.out.size b2); clear r2 b2 hC2) | (go_at_call 19; refine (Cost_calls _ _ l _ (Kd.C_below HC.out B2.out) hcap hl hm6).mono ?_; rw [← HN.out]; rintro e w3 ⟨rfl, b3⟩; have B3 := Aside0.mk (below_then B2.out B2.out.size b3); have C2 := Aside0.mk (Kd.C_below C2.out b3); clear b3) | (go_at_call 27; refine (Decode_ok _ _ b l.length _ l HD.out C2.out hc2 hbl2 hb8 hm6).mono ?_; rintro e w4 ⟨v4, rfl, r4, b4⟩; obtain ⟨A4, c4, rfl, hc4, hC4⟩ := Kd.R_reads r4; have C4 := Aside0.mk hC4; have B4 := Aside0.mk (below_then B3.out B3.out.size b4); have C2 := Aside0.mk (Kd.C_below C2.out b4); clear r4 b4 hC4) | (go_at_call 28; refine (words_calls _ _ _ _ l l _ C4.out (Kd.C_below HC.out B4.out) hc4 hcap (by omega)).mono ?_; rw [decide_eq_true rfl]; rintro e w5 ⟨rfl, b5⟩; have B5 := Aside0.mk (below_then B4.out B4.out.size b5); have C2 := Aside0.mk (Kd.C_below C2.out b5); clear b5) | (go_at_call 20; refine (num_calls _ _).mono ?_; rintro e w2 ⟨rfl, rfl⟩))
      go_ret
      exact ⟨rfl, B5.out⟩
    · have t4 : ((l.length : Int) == 65536) = false := by rw [beq_eq_false_iff_ne]; omega
      have hm5 : (l ++ [x]).length ≤ 65536 := by simp; omega
      obtain ⟨P1, P2, P3⟩ := packed_more l x
      have hl5 := gt_snoc_at hl hx
      obtain ⟨L, hL⟩ : ∃ L, L = l ++ [x] := ⟨_, rfl⟩
      rw [← hL] at P1 P2 P3 hl5 hm5
      have HL := Aside0.mk hL
      clear hL
      obtain ⟨m, hm⟩ : ∃ m, m = (bitsL L).length := ⟨_, rfl⟩
      obtain ⟨c, hc⟩ : ∃ c, c = packed L := ⟨_, rfl⟩
      have hc8 : ∀ i, gt c i < 256 := by rw [hc]; exact (packed_bits L).1.2
      rw [← hm, ← HN.out] at P1
      rw [← hc, ← HB.out] at P2
      rw [← hc, ← HB.out, ← HN.out] at P3
      have HM := Aside0.mk hm
      have HCC := Aside0.mk hc
      have HP3 := Aside0.mk P3
      have HP2 := Aside0.mk P2
      clear hm hc P3
      have t5 : decide ((m : Int) ≤ (n : Int)) = false := decide_eq_false (by omega)
      have t6 : decide ((c.length : Int) < (b.length : Int)) = false := decide_eq_false (by omega)
      have t5' : decide (m ≤ n) = false := decide_eq_false (by omega)
      have t6' : decide (c.length < b.length) = false := decide_eq_false (by omega)
      clear P2
      have hbl2 : b.length < 1152921504606846976 := by omega
      clear hbl h64
      go_enter Try.func7, Try.ntmps7
      go_wp2_with (first | (go_at_call 19; have hn := B10; clear hn; refine (Cost_calls _ _ L _ C10.out hc10 hl5 hm5).mono ?_; rw [← HM.out]; rintro e w11 ⟨rfl, b11⟩; have B11 := Aside0.mk (below_then B8.out B8.out.size (B10.out.trans (b11.mono B10.out.size))); have C2 := Aside0.mk (Kd.C_below C2.out b11); have C8 := Aside0.mk (Kd.C_below C8.out b11); clear b11) | ((with_reducible refine gate_builtin (b := .append) (xs := #[.tmp 95, .tmp 97]) rfl ?_); at_builtin; have hn := B9; clear hn; refine Kd.R_append_row (fun x : Nat => Value.int .u32 x) (0 : Nat) (h1 := fun _ => rfl) (w0 := w8) w8.heap.size rfl (.tmp 95) (.tmp 97) 26 23 (.int .u32 0) 4 rfl Try.underlying26 info23 rfl (by omega) v9 ([] ++ l) [x] (some ⟨w9.heap.size, 0, none⟩) 1 1 (fun _ => True) rfl rfl (fun _ _ => trivial) (Kd.R_below R9.out ((Below.refl _ _).alloc (Nat.le_refl _) _)) (C_new [x] (blk_new _ _) rfl (by simp)) (B9.out.alloc B9.out.size _) (B9.out.alloc B9.out.size _).size ?aL ?_; (case aL => (simp; omega)); intro v10 w10 hR1 hB1 hg1 hat1; have R10 := Aside0.mk hR1; have B10 := Aside0.mk hB1; clear hR1 hB1 hat1 hg1; have R10 := (show Aside0 _ from ⟨by have h := R10.out; rw [List.nil_append, ← HL.out] at h; exact h⟩); obtain ⟨A10, c10, rfl, hc10, hC10⟩ := Kd.R_reads R10.out; have C10 := Aside0.mk hC10; clear hC10; have C2 := Aside0.mk (Kd.C_below C2.out B10.out); have C8 := Aside0.mk (Kd.C_below C8.out B10.out)) | ((with_reducible refine gate_builtin (b := .append) (xs := #[.const (.slice none 0 0), .tmp 94]) rfl ?_); at_builtin; have hn := B8; clear hn; refine Kd.R_append_row (fun x : Nat => Value.int .u32 x) (0 : Nat) (h1 := fun _ => rfl) (w0 := w8) w8.heap.size rfl (.const (.slice none 0 0)) (.tmp 94) 26 23 (.int .u32 0) 4 rfl Try.underlying26 info23 rfl (by omega) (.slice none 0 0) [] l A l.length cap (fun _ => True) rfl rfl (fun _ _ => trivial) (Kd.R_nil _ _ _ _ _) (Kd.C_below HC.out B8.out) (Below.refl _ _) (Nat.le_refl _) ?aL ?_; (case aL => (simp; omega)); intro v9 w9 hR1 hB1 hg1 hat1; have R9 := Aside0.mk hR1; have B9 := Aside0.mk hB1; clear hR1 hB1 hat1 hg1) | (go_at_call 18; have hn := B7; clear hn; refine (Encode_calls _ _ L _ C7.out hc7 hl5 hm5).mono ?_; rw [← HCC.out]; rintro e w8 ⟨v8, rfl, r8, b8⟩; obtain ⟨A8, c8, rfl, hc8x, hC8⟩ := r8.C; have C8 := Aside0.mk hC8; have B8 := Aside0.mk (below_then B5.out B5.out.size (B7.out.trans (b8.mono B7.out.size))); have C2 := Aside0.mk (Kd.C_below C2.out b8); clear r8 b8 hC8) | ((with_reducible refine gate_builtin (b := .append) (xs := #[.tmp 86, .tmp 88]) rfl ?_); at_builtin; have hn := B6; clear hn; refine Kd.R_append_row (fun x : Nat => Value.int .u32 x) (0 : Nat) (h1 := fun _ => rfl) (w0 := w5) w5.heap.size rfl (.tmp 86) (.tmp 88) 26 23 (.int .u32 0) 4 rfl Try.underlying26 info23 rfl (by omega) v6 ([] ++ l) [x] (some ⟨w6.heap.size, 0, none⟩) 1 1 (fun _ => True) rfl rfl (fun _ _ => trivial) (Kd.R_below R6.out ((Below.refl _ _).alloc (Nat.le_refl _) _)) (C_new [x] (blk_new _ _) rfl (by simp)) (B6.out.alloc B6.out.size _) (B6.out.alloc B6.out.size _).size ?aL ?_; (case aL => (simp; omega)); intro v7 w7 hR1 hB1 hg1 hat1; have R7 := Aside0.mk hR1; have B7 := Aside0.mk hB1; clear hR1 hB1 hat1 hg1; have R7 := (show Aside0 _ from ⟨by have h := R7.out; rw [List.nil_append, ← HL.out] at h; exact h⟩); obtain ⟨A7, c7, rfl, hc7, hC7⟩ := Kd.R_reads R7.out; have C7 := Aside0.mk hC7; clear hC7; have C2 := Aside0.mk (Kd.C_below C2.out B7.out)) | ((with_reducible refine gate_builtin (b := .append) (xs := #[.const (.slice none 0 0), .tmp 85]) rfl ?_); at_builtin; have hn := B5; clear hn; refine Kd.R_append_row (fun x : Nat => Value.int .u32 x) (0 : Nat) (h1 := fun _ => rfl) (w0 := w5) w5.heap.size rfl (.const (.slice none 0 0)) (.tmp 85) 26 23 (.int .u32 0) 4 rfl Try.underlying26 info23 rfl (by omega) (.slice none 0 0) [] l A l.length cap (fun _ => True) rfl rfl (fun _ _ => trivial) (Kd.R_nil _ _ _ _ _) (Kd.C_below HC.out B5.out) (Below.refl _ _) (Nat.le_refl _) ?aL ?_; (case aL => (simp; omega)); intro v6 w6 hR1 hB1 hg1 hat1; have R6 := Aside0.mk hR1; have B6 := Aside0.mk hB1; clear hR1 hB1 hat1 hg1) | (go_at_call 10; refine (known_calls _).mono ?_; rintro e w1 ⟨rfl, b1⟩; have B1 := Aside0.mk b1; clear b1) | (go_at_call 18; refine (Encode_calls _ _ l _ (Kd.C_below HC.out B1.out) hcap hl hm6).mono ?_; rw [← HB.out]; rintro e w2 ⟨v2, rfl, r2, b2⟩; obtain ⟨A2, c2, rfl, hc2, hC2⟩ := r2.C; have C2 := Aside0.mk hC2; have B2 := Aside0.mk (below_then B1.out B1.out.size b2); clear r2 b2 hC2) | (go_at_call 19; refine (Cost_calls _ _ l _ (Kd.C_below HC.out B2.out) hcap hl hm6).mono ?_; rw [← HN.out]; rintro e w3 ⟨rfl, b3⟩; have B3 := Aside0.mk (below_then B2.out B2.out.size b3); have C2 := Aside0.mk (Kd.C_below C2.out b3); clear b3) | (go_at_call 27; refine (Decode_ok _ _ b l.length _ l HD.out C2.out hc2 hbl2 hb8 hm6).mono ?_; rintro e w4 ⟨v4, rfl, r4, b4⟩; obtain ⟨A4, c4, rfl, hc4, hC4⟩ := Kd.R_reads r4; have C4 := Aside0.mk hC4; have B4 := Aside0.mk (below_then B3.out B3.out.size b4); have C2 := Aside0.mk (Kd.C_below C2.out b4); clear r4 b4 hC4) | (go_at_call 28; refine (words_calls _ _ _ _ l l _ C4.out (Kd.C_below HC.out B4.out) hc4 hcap (by omega)).mono ?_; rw [decide_eq_true rfl]; rintro e w5 ⟨rfl, b5⟩; have B5 := Aside0.mk (below_then B4.out B4.out.size b5); have C2 := Aside0.mk (Kd.C_below C2.out b5); clear b5) | (go_at_call 20; refine (num_calls _ _).mono ?_; rintro e w2 ⟨rfl, rfl⟩))
      have X2 := Aside0.mk (CB.of_C C2.out)
      have X8 := Aside0.mk (CB.of_C C8.out)
      have hcl : c.length < 1152921504606846976 := by have h := HCC.out; rw [h, (packed_bits L).1.1, ← HM.out]; have := stepsBits_length L 16 1; have h2 := HM.out; unfold bitsL at h2; omega
      go_loopw [15] (fun v wr => ∃ (j : Nat), j ≤ n ∧ v = .int .i64 j ∧ Aside0 (Below w11.heap.size w11 wr)) (fun v _ => n - (intOf v).toNat)
      case atStart => exact ⟨0, by omega, rfl, ⟨Below.refl _ _⟩⟩
      case round =>
        obtain ⟨j, hj, rfl, HD2⟩ := hrel
        by_cases hlt : j < n
        · have hq2 : j / 8 < b.length := by have := HBL.out; omega
          have hq8 : j / 8 < c.length := by have := HP2.out; omega
          obtain ⟨ad2, rfl, hx2⟩ := (X2.out.below HD2.out).at_ (j / 8) hq2
          obtain ⟨ad8, rfl, hx8⟩ := (X8.out.below HD2.out).at_ (j / 8) hq8
          have hbit := HP3.out j hlt
          unfold bitAt at hbit
          have hb1 := hb8 (j / 8)
          have hc1 := hc8 (j / 8)
          obtain ⟨y2, hy2⟩ : ∃ y, y = gt b (j / 8) := ⟨_, rfl⟩
          obtain ⟨y8, hy8⟩ : ∃ y, y = gt c (j / 8) := ⟨_, rfl⟩
          rw [← hy2] at hx2 hbit hb1
          rw [← hy8] at hx8 hbit hc1
          clear hy2 hy8
          obtain ⟨q, hq⟩ : ∃ q, q = j / 8 := ⟨_, rfl⟩
          obtain ⟨s, hs⟩ : ∃ s, s = 7 - j % 8 := ⟨_, rfl⟩
          have hs7 : s ≤ 7 := by omega
          have e1 : (j : Int) / 8 = (q : Int) := by omega
          have e1' : (j : Int).tdiv 8 = (q : Int) := by rw [Int.tdiv_eq_ediv_of_nonneg (by omega)]; omega
          have e2 : (j : Int).tmod 8 = 7 - (s : Int) := by rw [Int.tmod_eq_emod_of_nonneg (by omega)]; omega
          have e2' : (j : Int) % 8 = 7 - (s : Int) := by omega
          have e3 : IntKind.i64.wrap (7 - (7 - (s : Int))) = (s : Int) := by simp only [IntKind.wrap_i64]; omega
          have e4 : (7 : Int) - (7 - (s : Int)) = (s : Int) := by omega
          rw [← hq] at hx2 hx8 hq2 hq8
          rw [← hs] at hbit
          have tb : (((y8 : Int) / 2 ^ s).tmod 2 != ((y2 : Int) / 2 ^ s).tmod 2) = false := by
            rw [bne_eq_false_iff_eq, show ((y8 : Int) / 2 ^ s) = ((y8 / 2 ^ s : Nat) : Int) from by simp, show ((y2 : Int) / 2 ^ s) = ((y2 / 2 ^ s : Nat) : Int) from by simp, Int.tmod_eq_emod_of_nonneg (Int.natCast_nonneg _), Int.tmod_eq_emod_of_nonneg (Int.natCast_nonneg _)]
            omega
          clear hbit
          have hlt2 : decide ((j : Int) < (n : Int)) = true := decide_eq_true (by omega)
          have HQ := Aside0.mk hq
          have HS := Aside0.mk hs
          clear hq hs
          go_wp2
          repeat (go_quiet (fail); try go_wp2)
          go_roundw
          case measure => simp [intOf]; omega
          case rel => exact ⟨j + 1, by omega, by go_num, ⟨pw_below_drewN HD2.out _⟩⟩
        · obtain rfl : j = n := by omega
          go_wp2
          repeat (go_quiet (fail); try go_wp2)
          go_ret
          exact ⟨rfl, B11.out.trans (HD2.out.mono B11.out.size)⟩
end Go.Proofs.Ytpmmnjpimnapfaa.A
