import Derived.Test.YtpmmnjpimnapfaaD0
set_option linter.unusedVariables false
set_option linter.unusedSimpArgs false
namespace Go.Proofs.Ytpmmnjpimnapfaa.A
open Go.RowKit Go.Proofs.YtpmmnjpimnapfaaW.PrintWords Go.Proofs.YtpmmnjpimnapfaaW.PrintLast Go.Proofs.YtpmmnjpimnapfaaW.PrintMore

set_option maxHeartbeats 16000000 in
set_option maxRecDepth 100000 in
theorem rDecode_calls (A : Option Addr) (cap : Nat) (b : List Nat) (n : Nat) (w : World) (hC : (nat .u8).C w A b.length b) (hcap : b.length ≤ cap) (hl : b.length < 1152921504606846976) (hb8 : ∀ i, gt b i < 256) (hn : n ≤ 65536) :
    Calls Try.prog 26 #[.slice A b.length cap, .int .i64 n] w (DecPost (dec b n) w) := by
  have HC := Aside0.mk (CB.of_C hC)
  clear hC
  obtain ⟨R, hR⟩ : ∃ R, R = decA b n 0 16 1 [] := ⟨_, rfl⟩
  have HR := Aside0.mk hR
  clear hR
  have t1 : decide ((n : Int) < 0) = false := decide_eq_false (by omega)
  have t2 : decide (65536 < (n : Int)) = false := decide_eq_false (by omega)
  go_enter Try.func26, Try.ntmps26
  go_wp2_with (go_at_call 32; refine (rbegin_calls _).mono ?_; rintro e w0 ⟨rfl, b1⟩; have B0 := Aside0.mk b1; clear b1)
  go_loopw [7, 9] (fun u v wr => ∃ (uo : Value) (j s c p : Nat) (acc : List Nat), uo = u ∧ j ≤ n ∧ v = .int .i64 j ∧ acc.length = j ∧ s ≤ 16 + j * 4294967296 ∧ c < 64 ∧ p ≤ 8 * b.length ∧ Aside0 (DX wr w.heap.size w0.heap.size w.heap.size b p false s c uo acc) ∧ Aside0 (decA b (n - j) p s c acc = R) ∧ Aside0 (Below w.heap.size w wr)) (fun _ v _ => n - (intOf v).toNat)
  case atStart =>
    have hB1 : Below w.heap.size w (w.alloc (.cells #[.slice A b.length cap, .int .i64 0, .bool false] 85)) := (Below.refl _ _).alloc (Nat.le_refl _) _
    have hB2 := hB1.trans (B0.out.mono hB1.size)
    have hB3 := hB2.alloc hB2.size (.cells #[.int .i64 16, .int .i64 1] 66)
    exact ⟨_, 0, 16, 1, 0, [], rfl, by omega, rfl, rfl, by omega, by omega, by omega, ⟨⟨⟨Nat.le_refl _, A, cap, blk_below (blk_below (blk_new w _) B0.out) ((Below.refl _ _).alloc (Nat.le_refl _) _), HC.out.below hB3⟩, hB2.size, blk_new w0 _, Kd.R_nil _ _ _ _ _⟩⟩, ⟨HR.out.symm⟩, ⟨hB3⟩⟩
  case round =>
    obtain ⟨uo, j, s, c, p, acc, rfl, hj, rfl, hacc, hs, hc, hp, HX, HR1, HB⟩ := hrel
    have HAl := Aside0.mk hacc
    clear hacc
    by_cases hjn : j < n
    · have hst : decA b (n - j) p s c acc = match numR b p (kOf s c) with
        | .err e => .err e
        | .ok (z, p') => decA b (n - (j + 1)) p' (nextS s c z) (nextC c) (acc ++ [unfold_ z]) := by rw [show n - j = (n - (j + 1)) + 1 from by omega]; rfl
      obtain ⟨k, hk⟩ : ∃ k, k = kOf s c := ⟨_, rfl⟩
      have hkl := kOf_le s c
      rw [← hk] at hkl hst
      have HK := Aside0.mk hk
      have hsb : s < 1152921504606846976 := by omega
      clear hk
      obtain ⟨O, hO⟩ : ∃ O, O = onesR b 24 p 0 := ⟨_, rfl⟩
      have HO0 := Aside0.mk hO
      clear hO
      have hs0 := DX.s0 HX.out
      have hs1 := DX.s1 HX.out
      go_wp2_with (go_at_call 34; refine (rk_calls s c _ (by omega)).mono ?_; rw [← HK.out]; rintro e w3 ⟨rfl, b3⟩; have X3 := Aside0.mk (HX.out.below b3); have B3 := Aside0.mk (below_then HB.out HB.out.size b3); clear b3)
      go_loopw [11] (fun v wr => ∃ (q p' : Nat), q ≤ 24 ∧ v = .int .i64 q ∧ p' ≤ 8 * b.length ∧ Aside0 (DX wr w.heap.size w0.heap.size w.heap.size b p' false s c uo acc) ∧ Aside0 (Below w.heap.size w wr) ∧ Aside0 (onesR b (24 - q) p' q = O)) (fun v _ => 24 - (intOf v).toNat)
      case atStart => exact ⟨0, p, by omega, rfl, hp, X3, B3, ⟨HO0.out.symm⟩⟩
      case round =>
        obtain ⟨q, p', hq, rfl, hp', HX1, HB1, HO1⟩ := hrel
        by_cases h24 : q < 24
        · have t3 : decide ((q : Int) < 24) = true := decide_eq_true (by omega)
          by_cases hend : p' = 8 * b.length
          · have HO : Aside0 (onesR b 24 p 0 = none) := ⟨by rw [← HO0.out, ← HO1.out, show 24 - q = (24 - (q + 1)) + 1 from by omega, onesR, if_pos hend]⟩
            have tq : ((q : Int) == 24) = false := by rw [beq_eq_false_iff_ne]; omega
            have HP1 := Aside0.mk hend
            clear hend
            go_wp2_with (go_at_call 39; refine (DX.short HX1.out HP1.out hl).mono ?_; rintro e w2 ⟨rfl, h2, b2⟩; have X1 := Aside0.mk h2; have B1 := Aside0.mk (HB1.out.trans b2); clear h2 b2)
            obtain ⟨p1, hpe⟩ : ∃ p1, p1 = p' := ⟨_, rfl⟩
            subst hpe
            have hp1 := hp'
            obtain ⟨L, hL⟩ : ∃ L : Option (Nat × Nat), L = none := ⟨_, rfl⟩
            have HL := Aside0.mk hL
            clear hL
            go_loopw [13, 14] (fun u v wr => ∃ (i z p' : Nat) (sh' : Bool), i ≤ k ∧ u = .int .i64 z ∧ v = .int .i64 i ∧ p' ≤ 8 * b.length ∧ z < 25 * 2 ^ i ∧ Aside0 (DX wr w.heap.size w0.heap.size w.heap.size b p' sh' s c uo acc) ∧ Aside0 (Below w.heap.size w wr) ∧ Aside0 ((sh' = false ∧ lowR b (k - i) p' z = L) ∨ (sh' = true ∧ p' = 8 * b.length ∧ L = none))) (fun _ v _ => k - (intOf v).toNat)
            case atStart =>
              refine ⟨0, q, p1, true, by omega, rfl, rfl, hp1, by omega, X1, B1, ⟨?_⟩⟩
              exact .inr ⟨rfl, HP1.out, HL.out⟩
            case round =>
              obtain ⟨i, z, p', sh', hi, rfl, rfl, hp', hz, HX, HB, HA⟩ := hrel
              have hpw : (2 : Nat) ^ i ≤ 4294967296 := Nat.le_trans (Nat.pow_le_pow_right (by omega) (show i ≤ 32 by omega)) (by decide)
              by_cases hlt : i < k
              · have hz64 : z < 107374182400 := Nat.lt_of_lt_of_le hz (by omega)
                have hpw1 : (2 : Nat) ^ (i + 1) = 2 ^ i * 2 := Nat.pow_succ 2 i
                have t1 : decide ((i : Int) < (k : Int)) = true := decide_eq_true (by omega)
                by_cases hend : p' = 8 * b.length
                · have hnext : Aside0 (L = none) := ⟨by
                    rcases HA.out with ⟨h1, h2⟩ | ⟨_, _, h3⟩
                    · rw [← h2, show k - i = (k - (i + 1)) + 1 from by omega, lowR, if_pos hend]
                    · exact h3⟩
                  have HPE := Aside0.mk hend
                  clear hend
                  go_wp2_with (go_at_call 39; refine (DX.short HX.out HPE.out hl).mono ?_; rintro e w2 ⟨rfl, h2, b2⟩; have X2 := Aside0.mk h2; have B2 := Aside0.mk (HB.out.trans b2); clear h2 b2)
                  go_roundw
                  case measure => simp [intOf]; omega
                  case rel => first | exact ⟨i + 1, 2 * z, p', true, by omega, by go_num, by go_num, hp', by omega, X2, B2, ⟨.inr ⟨rfl, HPE.out, hnext.out⟩⟩⟩ | ((repeat apply Exists.intro); exact ⟨⟨i + 1, 2 * z, p', true, by omega, by go_num, by go_num, hp', by omega, X2, B2, ⟨.inr ⟨rfl, HPE.out, hnext.out⟩⟩⟩, rfl⟩)
                · have hp2 : p' < 8 * b.length := by omega
                  have hsh : sh' = false := by
                    rcases HA.out with ⟨h1, h2⟩ | ⟨_, h3, _⟩
                    · exact h1
                    · exact absurd h3 hend
                  subst hsh
                  have hA2 : Aside0 (lowR b (k - (i + 1)) (p' + 1) (2 * z + bitAt b p') = L) := ⟨by
                    rcases HA.out with ⟨h1, h2⟩ | ⟨h1, _, _⟩
                    · rw [← h2, show k - i = (k - (i + 1)) + 1 from by omega, lowR, if_neg hend]
                    · cases h1⟩
                  have hbl := bitAt_lt b p'
                  obtain ⟨y, hy⟩ : ∃ y, y = bitAt b p' := ⟨_, rfl⟩
                  rw [← hy] at hA2 hbl
                  have HY := Aside0.mk hy
                  clear hy hend
                  go_wp2_with (go_at_call 39; refine (DX.bit HX.out hp2 hl hb8).mono ?_; rw [← HY.out]; rintro e w2 ⟨rfl, h2, b2⟩; have X2 := Aside0.mk h2; have B2 := Aside0.mk (HB.out.trans b2); clear h2 b2)
                  go_roundw
                  case measure => simp [intOf]; omega
                  case rel => first | exact ⟨i + 1, 2 * z + y, p' + 1, false, by omega, by go_num, by go_num, by omega, by omega, X2, B2, ⟨.inl ⟨rfl, hA2.out⟩⟩⟩ | ((repeat apply Exists.intro); exact ⟨⟨i + 1, 2 * z + y, p' + 1, false, by omega, by go_num, by go_num, by omega, by omega, X2, B2, ⟨.inl ⟨rfl, hA2.out⟩⟩⟩, rfl⟩)
              · obtain rfl : k = i := by omega
                have t1 : decide ((k : Int) < (k : Int)) = false := decide_eq_false (by omega)
                cases sh'
                · have hLz : Aside0 (L = some (z, p')) := ⟨by
                    rcases HA.out with ⟨_, h2⟩ | ⟨h1, _, _⟩
                    · rw [← h2, Nat.sub_self]; rfl
                    · cases h1⟩
                  have := hLz.out
                  rw [HL.out] at this
                  cases this
                · have hLz : Aside0 (L = none) := ⟨by
                    rcases HA.out with ⟨h1, _⟩ | ⟨_, _, h3⟩
                    · cases h1
                    · exact h3⟩
                  have hN : numR b p k = .err 171 := numR_none HO.out
                  have hRe : Aside0 (R = .err 171) := ⟨by rw [← HR1.out, hst, hN]⟩
                  have hsh := (DX.sh_ HX.out)
                  clear hst hz hpw
                  go_wp2
                  repeat (go_quiet (fail); try go_wp2)
                  go_ret2
                  have hd : dec b n = .err 171 := by unfold dec; rw [← HR.out, hRe.out]; rfl
                  rw [hd]
                  exact ⟨rfl, by first | exact HB.out | exact pw_below_drewN HB.out _⟩
          · have hpl : p' < 8 * b.length := by omega
            by_cases hb0 : bitAt b p' = 0
            · have HO : Aside0 (onesR b 24 p 0 = some (q, p' + 1)) := ⟨by rw [← HO0.out, ← HO1.out, show 24 - q = (24 - (q + 1)) + 1 from by omega, onesR, if_neg hend, if_pos hb0]⟩
              have tq : ((q : Int) == 24) = false := by rw [beq_eq_false_iff_ne]; omega
              have hq24 : Aside0 (¬ q = 24) := ⟨by omega⟩
              have HB0 := Aside0.mk hb0
              clear hend hb0
              go_wp2_with (go_at_call 39; refine (DX.bit HX1.out hpl hl hb8).mono ?_; rw [HB0.out]; rintro e w2 ⟨rfl, h2, b2⟩; have X1 := Aside0.mk h2; have B1 := Aside0.mk (HB1.out.trans b2); clear h2 b2)
              obtain ⟨p1, hpe⟩ : ∃ p1, p1 = p' + 1 := ⟨_, rfl⟩
              rw [← hpe] at X1 HO
              have hp1 : p1 ≤ 8 * b.length := by omega
              obtain ⟨L, hL⟩ : ∃ L : Option (Nat × Nat), L = lowR b k p1 q := ⟨_, rfl⟩
              have HL := Aside0.mk hL
              clear hL
              go_loopw [13, 14] (fun u v wr => ∃ (i z p' : Nat) (sh' : Bool), i ≤ k ∧ u = .int .i64 z ∧ v = .int .i64 i ∧ p' ≤ 8 * b.length ∧ z < 25 * 2 ^ i ∧ Aside0 (DX wr w.heap.size w0.heap.size w.heap.size b p' sh' s c uo acc) ∧ Aside0 (Below w.heap.size w wr) ∧ Aside0 ((sh' = false ∧ lowR b (k - i) p' z = L) ∨ (sh' = true ∧ p' = 8 * b.length ∧ L = none))) (fun _ v _ => k - (intOf v).toNat)
              case atStart =>
                refine ⟨0, q, p1, false, by omega, rfl, rfl, hp1, by omega, X1, B1, ⟨?_⟩⟩
                exact .inl ⟨rfl, HL.out.symm⟩
              case round =>
                obtain ⟨i, z, p', sh', hi, rfl, rfl, hp', hz, HX, HB, HA⟩ := hrel
                have hpw : (2 : Nat) ^ i ≤ 4294967296 := Nat.le_trans (Nat.pow_le_pow_right (by omega) (show i ≤ 32 by omega)) (by decide)
                by_cases hlt : i < k
                · have hz64 : z < 107374182400 := Nat.lt_of_lt_of_le hz (by omega)
                  have hpw1 : (2 : Nat) ^ (i + 1) = 2 ^ i * 2 := Nat.pow_succ 2 i
                  have t1 : decide ((i : Int) < (k : Int)) = true := decide_eq_true (by omega)
                  by_cases hend : p' = 8 * b.length
                  · have hnext : Aside0 (L = none) := ⟨by
                      rcases HA.out with ⟨h1, h2⟩ | ⟨_, _, h3⟩
                      · rw [← h2, show k - i = (k - (i + 1)) + 1 from by omega, lowR, if_pos hend]
                      · exact h3⟩
                    have HPE := Aside0.mk hend
                    clear hend
                    go_wp2_with (go_at_call 39; refine (DX.short HX.out HPE.out hl).mono ?_; rintro e w2 ⟨rfl, h2, b2⟩; have X2 := Aside0.mk h2; have B2 := Aside0.mk (HB.out.trans b2); clear h2 b2)
                    go_roundw
                    case measure => simp [intOf]; omega
                    case rel => first | exact ⟨i + 1, 2 * z, p', true, by omega, by go_num, by go_num, hp', by omega, X2, B2, ⟨.inr ⟨rfl, HPE.out, hnext.out⟩⟩⟩ | ((repeat apply Exists.intro); exact ⟨⟨i + 1, 2 * z, p', true, by omega, by go_num, by go_num, hp', by omega, X2, B2, ⟨.inr ⟨rfl, HPE.out, hnext.out⟩⟩⟩, rfl⟩)
                  · have hp2 : p' < 8 * b.length := by omega
                    have hsh : sh' = false := by
                      rcases HA.out with ⟨h1, h2⟩ | ⟨_, h3, _⟩
                      · exact h1
                      · exact absurd h3 hend
                    subst hsh
                    have hA2 : Aside0 (lowR b (k - (i + 1)) (p' + 1) (2 * z + bitAt b p') = L) := ⟨by
                      rcases HA.out with ⟨h1, h2⟩ | ⟨h1, _, _⟩
                      · rw [← h2, show k - i = (k - (i + 1)) + 1 from by omega, lowR, if_neg hend]
                      · cases h1⟩
                    have hbl := bitAt_lt b p'
                    obtain ⟨y, hy⟩ : ∃ y, y = bitAt b p' := ⟨_, rfl⟩
                    rw [← hy] at hA2 hbl
                    have HY := Aside0.mk hy
                    clear hy hend
                    go_wp2_with (go_at_call 39; refine (DX.bit HX.out hp2 hl hb8).mono ?_; rw [← HY.out]; rintro e w2 ⟨rfl, h2, b2⟩; have X2 := Aside0.mk h2; have B2 := Aside0.mk (HB.out.trans b2); clear h2 b2)
                    go_roundw
                    case measure => simp [intOf]; omega
                    case rel => first | exact ⟨i + 1, 2 * z + y, p' + 1, false, by omega, by go_num, by go_num, by omega, by omega, X2, B2, ⟨.inl ⟨rfl, hA2.out⟩⟩⟩ | ((repeat apply Exists.intro); exact ⟨⟨i + 1, 2 * z + y, p' + 1, false, by omega, by go_num, by go_num, by omega, by omega, X2, B2, ⟨.inl ⟨rfl, hA2.out⟩⟩⟩, rfl⟩)
                · obtain rfl : k = i := by omega
                  have t1 : decide ((k : Int) < (k : Int)) = false := decide_eq_false (by omega)
                  cases sh'
                  · have hLz : Aside0 (L = some (z, p')) := ⟨by
                      rcases HA.out with ⟨_, h2⟩ | ⟨h1, _, _⟩
                      · rw [← h2, Nat.sub_self]; rfl
                      · cases h1⟩
                    have hN := numR_tail (k := k) hkl hp HO.out (by rw [if_neg hq24.out, if_neg hq24.out, ← HL.out]; exact hLz.out)
                    have hz64 : z < 107374182400 := Nat.lt_of_lt_of_le hz (by omega)
                    have hsh := (DX.sh_ HX.out)
                    unfold tailR at hN
                    have tq : ((q : Int) == 24) = false := by rw [beq_eq_false_iff_ne]; have := hq24.out; omega
                    by_cases h32 : 4294967296 ≤ z
                    · rw [if_pos (.inr h32)] at hN
                      have t4 : decide (4294967296 ≤ (z : Int)) = true := decide_eq_true (by omega)
                      have t4' : decide (4294967296 ≤ z) = true := decide_eq_true (by omega)
                      have hN := Aside0.mk hN
                      have hRe : Aside0 (R = .err 170) := ⟨by rw [← HR1.out, hst, hN.out]⟩
                      clear hst
                      clear hz hpw
                      go_wp2
                      repeat (go_quiet (fail); try go_wp2)
                      go_ret2
                      have hd : dec b n = .err 170 := by unfold dec; rw [← HR.out, hRe.out]; rfl
                      rw [hd]
                      exact ⟨rfl, by first | exact HB.out | exact pw_below_drewN HB.out _⟩
                    · rw [if_neg (by have := hq24.out; omega)] at hN
                      have hN := Aside0.mk hN
                      have hst2 := hst
                      rw [hN.out] at hst2
                      have HST := Aside0.mk hst2
                      clear hst hst2
                      have hzl : z < 4294967296 := by omega
                      have t4 : decide (4294967296 ≤ (z : Int)) = false := decide_eq_false (by omega)
                      have t4' : decide (4294967296 ≤ z) = false := decide_eq_false (by omega)
                      have hzw : IntKind.u32.wrap (z : Int) = (z : Int) := by simp only [IntKind.wrap_u32]; omega
                      have hs0 := DX.s0 HX.out
                      have hs1 := DX.s1 HX.out
                      clear hz hpw
                      go_wp2_with (first | (go_at_call 14; refine (rUnfold_calls z _ hzl).mono ?_; rintro e w3 ⟨rfl, rfl⟩) | ((with_reducible refine gate_builtin (b := .append) (xs := #[.tmp 71, .tmp 75]) rfl ?_); at_builtin; refine Kd.R_append_row (fun x : Nat => Value.int .u32 x) (0 : Nat) (h1 := fun _ => rfl) (w0 := _) w.heap.size rfl (.tmp 71) (.tmp 75) 26 23 (.int .u32 0) 4 rfl Try.underlying26 info23 rfl (by omega) uo acc [unfold_ z] _ 1 1 (fun _ => True) rfl rfl (fun _ _ => trivial) (Kd.R_below HX.out.2.2.2 ((Below.refl _ _).alloc (Nat.le_refl _) _)) (C_new [unfold_ z] (blk_new _ _) rfl (by simp)) (Below.refl _ _) (HB.out.alloc HB.out.size _).size ?aL ?_; (case aL => (have := HAl.out; omega)); intro v4 w4 hR1 hB1 hg1 hat1; have B4 := Aside0.mk ((HB.out.alloc HB.out.size _).trans hB1); have X4 := Aside0.mk ((HX.out.alloc _).outs hg1 hB1 hR1); clear hR1 hB1 hg1 hat1; have hs0 := DX.s0 X4.out; have hs1 := DX.s1 X4.out) | (go_at_call 35; refine (rnext_calls s c z _ hsb hc hzl).mono ?_; rintro e w5 ⟨rfl, b5⟩; have X5 := Aside0.mk (X4.out.below b5); have B5 := Aside0.mk (below_then B4.out B4.out.size b5); clear b5; have hs5 := DX.s0 X5.out; have hs5' := DX.s1 X5.out; have f50 := DX.f X5.out 0; have f51 := DX.f X5.out 1))
                      go_roundw
                      case measure => simp [intOf]; omega
                      case rel => first | exact ⟨_, j + 1, _, _, p', acc ++ [unfold_ z], rfl, by omega, by go_num, by have := HAl.out; simp; omega, nextS_le (by omega), nextC_lt hc, hp', ⟨X5.out.set _ _⟩, ⟨by rw [← HR1.out, HST.out]⟩, ⟨(B5.out.setCell (p := ⟨_, 0, none⟩) (DX.gle X5.out) _).setCell (p := ⟨_, 1, none⟩) (DX.gle X5.out) _⟩⟩ | skip
                  · have hLz : Aside0 (L = none) := ⟨by
                      rcases HA.out with ⟨h1, _⟩ | ⟨_, _, h3⟩
                      · cases h1
                      · exact h3⟩
                    have hN : numR b p k = .err 171 := numR_low HO.out (by rw [if_neg hq24.out, if_neg hq24.out, ← HL.out]; exact hLz.out)
                    have hRe : Aside0 (R = .err 171) := ⟨by rw [← HR1.out, hst, hN]⟩
                    have hsh := (DX.sh_ HX.out)
                    clear hst hz hpw
                    go_wp2
                    repeat (go_quiet (fail); try go_wp2)
                    go_ret2
                    have hd : dec b n = .err 171 := by unfold dec; rw [← HR.out, hRe.out]; rfl
                    rw [hd]
                    exact ⟨rfl, by first | exact HB.out | exact pw_below_drewN HB.out _⟩
            · have hb1 : bitAt b p' = 1 := by have := bitAt_lt b p'; omega
              have HO2 : Aside0 (onesR b (24 - (q + 1)) (p' + 1) (q + 1) = O) := ⟨by rw [← HO1.out, show 24 - q = (24 - (q + 1)) + 1 from by omega, onesR, if_neg hend, if_neg hb0]⟩
              have HB0 := Aside0.mk hb1
              clear hend hb0 hb1
              go_wp2_with (go_at_call 39; refine (DX.bit HX1.out hpl hl hb8).mono ?_; rw [HB0.out]; rintro e w2 ⟨rfl, h2, b2⟩; have X1 := Aside0.mk h2; have B1 := Aside0.mk (HB1.out.trans b2); clear h2 b2)
              go_roundw
              case measure => simp [intOf]; omega
              case rel => exact ⟨q + 1, p' + 1, by omega, by go_num, by omega, X1, B1, HO2⟩
        · obtain rfl : q = 24 := by omega
          have HO : Aside0 (onesR b 24 p 0 = some (24, p')) := ⟨by rw [← HO0.out, ← HO1.out]; rfl⟩
          go_wp2
          obtain ⟨p1, hpe⟩ : ∃ p1, p1 = p' := ⟨_, rfl⟩
          subst hpe
          have hp1 := hp'
          have X1 := HX1
          have B1 := HB1
          obtain ⟨L, hL⟩ : ∃ L : Option (Nat × Nat), L = lowR b 32 p1 0 := ⟨_, rfl⟩
          have HL := Aside0.mk hL
          clear hL
          go_loopw [13, 14] (fun u v wr => ∃ (i z p' : Nat) (sh' : Bool), i ≤ 32 ∧ u = .int .i64 z ∧ v = .int .i64 i ∧ p' ≤ 8 * b.length ∧ z < 25 * 2 ^ i ∧ Aside0 (DX wr w.heap.size w0.heap.size w.heap.size b p' sh' s c uo acc) ∧ Aside0 (Below w.heap.size w wr) ∧ Aside0 ((sh' = false ∧ lowR b (32 - i) p' z = L) ∨ (sh' = true ∧ p' = 8 * b.length ∧ L = none))) (fun _ v _ => 32 - (intOf v).toNat)
          case atStart =>
            refine ⟨0, 0, p1, false, by omega, rfl, rfl, hp1, by omega, X1, B1, ⟨?_⟩⟩
            exact .inl ⟨rfl, HL.out.symm⟩
          case round =>
            obtain ⟨i, z, p', sh', hi, rfl, rfl, hp', hz, HX, HB, HA⟩ := hrel
            have hpw : (2 : Nat) ^ i ≤ 4294967296 := Nat.le_trans (Nat.pow_le_pow_right (by omega) (show i ≤ 32 by omega)) (by decide)
            by_cases hlt : i < 32
            · have hz64 : z < 107374182400 := Nat.lt_of_lt_of_le hz (by omega)
              have hpw1 : (2 : Nat) ^ (i + 1) = 2 ^ i * 2 := Nat.pow_succ 2 i
              have t1 : decide ((i : Int) < 32) = true := decide_eq_true (by omega)
              by_cases hend : p' = 8 * b.length
              · have hnext : Aside0 (L = none) := ⟨by
                  rcases HA.out with ⟨h1, h2⟩ | ⟨_, _, h3⟩
                  · rw [← h2, show 32 - i = (32 - (i + 1)) + 1 from by omega, lowR, if_pos hend]
                  · exact h3⟩
                have HPE := Aside0.mk hend
                clear hend
                go_wp2_with (go_at_call 39; refine (DX.short HX.out HPE.out hl).mono ?_; rintro e w2 ⟨rfl, h2, b2⟩; have X2 := Aside0.mk h2; have B2 := Aside0.mk (HB.out.trans b2); clear h2 b2)
                go_roundw
                case measure => simp [intOf]; omega
                case rel => first | exact ⟨i + 1, 2 * z, p', true, by omega, by go_num, by go_num, hp', by omega, X2, B2, ⟨.inr ⟨rfl, HPE.out, hnext.out⟩⟩⟩ | ((repeat apply Exists.intro); exact ⟨⟨i + 1, 2 * z, p', true, by omega, by go_num, by go_num, hp', by omega, X2, B2, ⟨.inr ⟨rfl, HPE.out, hnext.out⟩⟩⟩, rfl⟩)
              · have hp2 : p' < 8 * b.length := by omega
                have hsh : sh' = false := by
                  rcases HA.out with ⟨h1, h2⟩ | ⟨_, h3, _⟩
                  · exact h1
                  · exact absurd h3 hend
                subst hsh
                have hA2 : Aside0 (lowR b (32 - (i + 1)) (p' + 1) (2 * z + bitAt b p') = L) := ⟨by
                  rcases HA.out with ⟨h1, h2⟩ | ⟨h1, _, _⟩
                  · rw [← h2, show 32 - i = (32 - (i + 1)) + 1 from by omega, lowR, if_neg hend]
                  · cases h1⟩
                have hbl := bitAt_lt b p'
                obtain ⟨y, hy⟩ : ∃ y, y = bitAt b p' := ⟨_, rfl⟩
                rw [← hy] at hA2 hbl
                have HY := Aside0.mk hy
                clear hy hend
                go_wp2_with (go_at_call 39; refine (DX.bit HX.out hp2 hl hb8).mono ?_; rw [← HY.out]; rintro e w2 ⟨rfl, h2, b2⟩; have X2 := Aside0.mk h2; have B2 := Aside0.mk (HB.out.trans b2); clear h2 b2)
                go_roundw
                case measure => simp [intOf]; omega
                case rel => first | exact ⟨i + 1, 2 * z + y, p' + 1, false, by omega, by go_num, by go_num, by omega, by omega, X2, B2, ⟨.inl ⟨rfl, hA2.out⟩⟩⟩ | ((repeat apply Exists.intro); exact ⟨⟨i + 1, 2 * z + y, p' + 1, false, by omega, by go_num, by go_num, by omega, by omega, X2, B2, ⟨.inl ⟨rfl, hA2.out⟩⟩⟩, rfl⟩)
            · obtain rfl : 32 = i := by omega
              have t1 : decide ((32 : Int) < 32) = false := decide_eq_false (by omega)
              cases sh'
              · have hLz : Aside0 (L = some (z, p')) := ⟨by
                  rcases HA.out with ⟨_, h2⟩ | ⟨h1, _, _⟩
                  · rw [← h2, Nat.sub_self]; rfl
                  · cases h1⟩
                have hN := numR_tail (k := k) hkl hp HO.out (by rw [if_pos rfl, if_pos rfl, ← HL.out]; exact hLz.out)
                have hz64 : z < 107374182400 := Nat.lt_of_lt_of_le hz (by omega)
                have hsh := (DX.sh_ HX.out)
                unfold tailR at hN
                have hzz := (lowR_at (z := 0) (by rw [HL.out] at hLz; exact hLz.out) hp1).2.2
                have hz32 : z < 4294967296 := by omega
                have tq : ((24 : Int) == 24) = true := rfl
                by_cases h24 : z / 2 ^ k < 24
                · rw [if_pos (.inl ⟨rfl, h24⟩)] at hN
                  have t3 : decide ((z : Int) / 2 ^ k < 24) = true := decide_eq_true (by rw [show ((z : Int) / 2 ^ k) = ((z / 2 ^ k : Nat) : Int) from by simp]; omega)
                  have hN := Aside0.mk hN
                  have hRe : Aside0 (R = .err 170) := ⟨by rw [← HR1.out, hst, hN.out]⟩
                  clear hst
                  clear hz hpw
                  go_wp2
                  repeat (go_quiet (fail); try go_wp2)
                  go_ret2
                  have hd : dec b n = .err 170 := by unfold dec; rw [← HR.out, hRe.out]; rfl
                  rw [hd]
                  exact ⟨rfl, by first | exact HB.out | exact pw_below_drewN HB.out _⟩
                · rw [if_neg (by omega)] at hN
                  have t3 : decide ((z : Int) / 2 ^ k < 24) = false := decide_eq_false (by rw [show ((z : Int) / 2 ^ k) = ((z / 2 ^ k : Nat) : Int) from by simp]; omega)
                  have hN := Aside0.mk hN
                  have hst2 := hst
                  rw [hN.out] at hst2
                  have HST := Aside0.mk hst2
                  clear hst hst2
                  have hzl : z < 4294967296 := by omega
                  have t4 : decide (4294967296 ≤ (z : Int)) = false := decide_eq_false (by omega)
                  have t4' : decide (4294967296 ≤ z) = false := decide_eq_false (by omega)
                  have hzw : IntKind.u32.wrap (z : Int) = (z : Int) := by simp only [IntKind.wrap_u32]; omega
                  have hs0 := DX.s0 HX.out
                  have hs1 := DX.s1 HX.out
                  clear hz hpw
                  go_wp2_with (first | (go_at_call 14; refine (rUnfold_calls z _ hzl).mono ?_; rintro e w3 ⟨rfl, rfl⟩) | ((with_reducible refine gate_builtin (b := .append) (xs := #[.tmp 71, .tmp 75]) rfl ?_); at_builtin; refine Kd.R_append_row (fun x : Nat => Value.int .u32 x) (0 : Nat) (h1 := fun _ => rfl) (w0 := _) w.heap.size rfl (.tmp 71) (.tmp 75) 26 23 (.int .u32 0) 4 rfl Try.underlying26 info23 rfl (by omega) uo acc [unfold_ z] _ 1 1 (fun _ => True) rfl rfl (fun _ _ => trivial) (Kd.R_below HX.out.2.2.2 ((Below.refl _ _).alloc (Nat.le_refl _) _)) (C_new [unfold_ z] (blk_new _ _) rfl (by simp)) (Below.refl _ _) (HB.out.alloc HB.out.size _).size ?aL ?_; (case aL => (have := HAl.out; omega)); intro v4 w4 hR1 hB1 hg1 hat1; have B4 := Aside0.mk ((HB.out.alloc HB.out.size _).trans hB1); have X4 := Aside0.mk ((HX.out.alloc _).outs hg1 hB1 hR1); clear hR1 hB1 hg1 hat1; have hs0 := DX.s0 X4.out; have hs1 := DX.s1 X4.out) | (go_at_call 35; refine (rnext_calls s c z _ hsb hc hzl).mono ?_; rintro e w5 ⟨rfl, b5⟩; have X5 := Aside0.mk (X4.out.below b5); have B5 := Aside0.mk (below_then B4.out B4.out.size b5); clear b5; have hs5 := DX.s0 X5.out; have hs5' := DX.s1 X5.out; have f50 := DX.f X5.out 0; have f51 := DX.f X5.out 1))
                  go_roundw
                  case measure => simp [intOf]; omega
                  case rel => first | exact ⟨_, j + 1, _, _, p', acc ++ [unfold_ z], rfl, by omega, by go_num, by have := HAl.out; simp; omega, nextS_le (by omega), nextC_lt hc, hp', ⟨X5.out.set _ _⟩, ⟨by rw [← HR1.out, HST.out]⟩, ⟨(B5.out.setCell (p := ⟨_, 0, none⟩) (DX.gle X5.out) _).setCell (p := ⟨_, 1, none⟩) (DX.gle X5.out) _⟩⟩ | skip
              · have hLz : Aside0 (L = none) := ⟨by
                  rcases HA.out with ⟨h1, _⟩ | ⟨_, _, h3⟩
                  · cases h1
                  · exact h3⟩
                have hN : numR b p k = .err 171 := numR_low HO.out (by rw [if_pos rfl, if_pos rfl, ← HL.out]; exact hLz.out)
                have hRe : Aside0 (R = .err 171) := ⟨by rw [← HR1.out, hst, hN]⟩
                have hsh := (DX.sh_ HX.out)
                clear hst hz hpw
                go_wp2
                repeat (go_quiet (fail); try go_wp2)
                go_ret2
                have hd : dec b n = .err 171 := by unfold dec; rw [← HR.out, hRe.out]; rfl
                rw [hd]
                exact ⟨rfl, by first | exact HB.out | exact pw_below_drewN HB.out _⟩
    · obtain rfl : n = j := by omega
      have hRo : Aside0 (R = .ok (acc, p)) := ⟨by rw [← HR1.out, Nat.sub_self]; rfl⟩
      obtain ⟨P, hP⟩ : ∃ P, P = padR b 8 p := ⟨_, rfl⟩
      have HE : Aside0 (endsR b p = endsOf b.length P) := ⟨by rw [hP]; rfl⟩
      have HP := Aside0.mk hP
      clear hP
      have hwm : IntKind.i64.wrap (8 * (b.length : Int)) = 8 * (b.length : Int) := by simp only [IntKind.wrap_i64]; omega
      have hat := DX.at_ HX.out
      go_wp2
      go_loopg [] 8 (fun kq wr => ∃ p' : Nat, p' ≤ 8 * b.length ∧ Aside0 (p' % 8 ≠ 0 → 8 - p' % 8 ≤ kq) ∧ Aside0 (DX wr w.heap.size w0.heap.size w.heap.size b p' false s c uo acc) ∧ Aside0 (padR b kq p' = P) ∧ Aside0 (Below w.heap.size w wr))
      case atStart => exact ⟨p, hp, ⟨fun _ => by omega⟩, HX, ⟨HP.out.symm⟩, HB⟩
      case round =>
        obtain ⟨p', hp', HK, HX1, HL, HB1⟩ := hrel
        have hat := DX.at_ HX1.out
        by_cases h8 : p' % 8 = 0
        · have hPs : Aside0 (P = some p') := ⟨by rw [← HL.out]; cases gk with
            | zero => rfl
            | succ k => unfold padR; rw [if_pos h8]⟩
          have t3 : ((p' : Int) % 8 != 0) = false := by rw [bne_eq_false_iff_eq]; omega
          have t3' : ((p' : Int).tmod 8 != 0) = false := by rw [Int.tmod_eq_emod_of_nonneg (by omega)]; exact t3
          clear h8
          by_cases he : p' = 8 * b.length
          · have t4 : ((p' : Int) != 8 * (b.length : Int)) = false := by rw [bne_eq_false_iff_eq]; omega
            have HEE := Aside0.mk he
            clear he
            go_wp2
            repeat (go_quiet (fail); try go_wp2)
            go_ret2
            have hd : dec b n = .ok acc := by unfold dec; rw [← HR.out, hRo.out]; simp [decE, HE.out, hPs.out, endsOf, HEE.out]
            rw [hd]
            exact ⟨⟨_, rfl, by first | exact HX1.out.2.2.2 | exact (HX1.out.drewN _).2.2.2⟩, by first | exact HB1.out | exact pw_below_drewN HB1.out _⟩
          · have t4 : ((p' : Int) != 8 * (b.length : Int)) = true := by rw [bne_iff_ne]; omega
            have HEE := Aside0.mk he
            clear he
            go_wp2
            repeat (go_quiet (fail); try go_wp2)
            go_ret2
            have hd : dec b n = .err 170 := by unfold dec; rw [← HR.out, hRo.out]; simp [decE, HE.out, hPs.out, endsOf, HEE.out]
            rw [hd]
            exact ⟨rfl, by first | exact HB1.out | exact pw_below_drewN HB1.out _⟩
        · obtain ⟨k, rfl⟩ : ∃ k, gk = k + 1 := ⟨gk - 1, by have := HK.out h8; omega⟩
          have hps : p' < 8 * b.length := by omega
          have t3 : ((p' : Int) % 8 != 0) = true := by rw [bne_iff_ne]; omega
          have t3' : ((p' : Int).tmod 8 != 0) = true := by rw [Int.tmod_eq_emod_of_nonneg (by omega)]; exact t3
          have hx := bitAt_lt b p'
          have hst : padR b (k + 1) p' = if bitAt b p' = 0 then padR b k (p' + 1) else none := by conv => lhs; unfold padR; rw [if_neg h8]
          have HK2 : Aside0 ((p' + 1) % 8 ≠ 0 → 8 - (p' + 1) % 8 ≤ k) := ⟨fun h => by have := HK.out h8; omega⟩
          clear h8
          by_cases hx0 : bitAt b p' = 0
          · have hPs : Aside0 (padR b k (p' + 1) = P) := ⟨by rw [← HL.out, hst, if_pos hx0]⟩
            have Hx0 := Aside0.mk hx0
            clear hst hx0 hx
            go_wp2_with (go_at_call 39; refine (DX.bit HX1.out hps hl hb8).mono ?_; rw [Hx0.out]; rintro e w2 ⟨rfl, h2, b2⟩; have X2 := Aside0.mk h2; have B2 := Aside0.mk (HB1.out.trans b2); clear h2 b2)
            go_roundg k
            case measure => omega
            case rel => first | exact ⟨p' + 1, by omega, HK2, X2, hPs, B2⟩ | ((repeat apply Exists.intro); exact ⟨⟨p' + 1, by omega, HK2, X2, hPs, B2⟩, rfl⟩)
          · have hPs : Aside0 (P = none) := ⟨by rw [← HL.out, hst, if_neg hx0]⟩
            have Hx0 := Aside0.mk (show bitAt b p' = 1 by omega)
            clear hst hx0 hx
            go_wp2_with (go_at_call 39; refine (DX.bit HX1.out hps hl hb8).mono ?_; rw [Hx0.out]; rintro e w2 ⟨rfl, h2, b2⟩; have X2 := Aside0.mk h2; have B2 := Aside0.mk (HB1.out.trans b2); clear h2 b2)
            go_ret2
            have hd : dec b n = .err 170 := by unfold dec; rw [← HR.out, hRo.out]; simp [decE, HE.out, hPs.out, endsOf]
            rw [hd]
            exact ⟨rfl, B2.out⟩
end Go.Proofs.Ytpmmnjpimnapfaa.A
