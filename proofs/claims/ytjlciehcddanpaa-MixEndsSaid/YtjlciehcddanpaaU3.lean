import Derived.Test.YtjlciehcddanpaaU2
section
set_option linter.unusedVariables false
set_option linter.unusedSimpArgs false
set_option linter.unusedSectionVars false
namespace Go.Proofs.Ytjlciehcddanpaa.A
open Go.RowKit Go.Shelf Go.Proofs.YtjlciehcddanpaaW.PrintWords Go.Proofs.YtjlciehcddanpaaW.PrintLast Go.Proofs.YtjlciehcddanpaaW.PrintMore Go.Proofs.Ytjlciehcddanpaa.PMixNames

set_option maxRecDepth 100000
theorem u32_and31 {x : Int} (h₀ : 0 ≤ x) (h₁ : x < 4294967296) : bits .and .u32 x 2147483647 = x % 2147483648 := bits_mask .u32 32 (by decide) wraps_u32 31 (by decide) x h₀ h₁
theorem isnan_low (s : Nat) (hs : s < 4294967296) : isnan s = decide (2139095040 < s % 2147483648) := by
 unfold isnan
 have h23 : (2 : Nat) ^ 23 = 8388608 := by decide
 rw [h23]
 rw [Bool.eq_iff_iff]
 simp only [Bool.and_eq_true, decide_eq_true_eq]
 omega
theorem isNaN_calls (s : Nat) (hs : s < 4294967296) (w : World) : Calls Try.prog 51 #[.int .u32 (s : Int)] w fun e w' => e = .returned (.bool (isnan s)) ∧ w' = w := by
 obtain ⟨x, hx⟩ : ∃ x, s % 2147483648 = x := ⟨_, rfl⟩
 rw [isnan_low s hs, hx]
 have hb : bits .and .u32 (s : Int) 2147483647 = (x : Int) := by rw [u32_and31 (by omega) (by omega)]; omega
 by_cases h : 2139095040 < x
 ·have t1 : decide ((x : Int) > 2139095040) = true := decide_eq_true (by omega)
  have t2 : (2139095040 < x) = True := eq_true h
  rw [decide_eq_true h]
  clear hx h hs
  go_enter Try.func51, Try.ntmps51
  go_wp2
  go_ret
  exact ⟨rfl, rfl⟩
 ·have t1 : decide ((x : Int) > 2139095040) = false := decide_eq_false (by omega)
  have t2 : (2139095040 < x) = False := eq_false h
  rw [decide_eq_false h]
  clear hx h hs
  go_enter Try.func51, Try.ntmps51
  go_wp2
  go_ret
  exact ⟨rfl, rfl⟩
def fin (s : Nat) : Bool := decide (s % 2147483648 < 2139095040)
theorem finite_calls (s : Nat) (hs : s < 4294967296) (w : World) : Calls Try.prog 21 #[.int .u32 (s : Int)] w fun e w' => e = .returned (.bool (fin s)) ∧ w' = w := by
 unfold fin
 obtain ⟨x, hx⟩ : ∃ x, s % 2147483648 = x := ⟨_, rfl⟩
 rw [hx]
 have hb : bits .and .u32 (s : Int) 2147483647 = (x : Int) := by rw [u32_and31 (by omega) (by omega)]; omega
 by_cases h : x < 2139095040
 ·have t1 : decide ((x : Int) < 2139095040) = true := decide_eq_true (by omega)
  have t2 : (x < 2139095040) = True := eq_true h
  rw [decide_eq_true h]
  clear hx h hs
  go_enter Try.func21, Try.ntmps21
  go_wp2
  go_ret
  exact ⟨rfl, rfl⟩
 ·have t1 : decide ((x : Int) < 2139095040) = false := decide_eq_false (by omega)
  have t2 : (x < 2139095040) = False := eq_false h
  rw [decide_eq_false h]
  clear hx h hs
  go_enter Try.func21, Try.ntmps21
  go_wp2
  go_ret
  exact ⟨rfl, rfl⟩
theorem key_calls (s : Nat) (hs : s < 4294967296) (w : World) : Calls Try.prog 26 #[.int .u32 (s : Int)] w fun e w' => e = .returned (.int .i64 (pz s)) ∧ w' = w := by
 unfold pz
 by_cases h : s < 2147483648
 ·rw [if_pos h]
  have k1 : (s : Int) / 2147483648 = 0 := by omega
  have k2 : wrap64 (s : Int) = (s : Int) := w64 (by omega) (by omega)
  clear h hs
  go_enter Try.func26, Try.ntmps26
  go_wp2
  go_ret
  exact ⟨rfl, rfl⟩
 ·rw [if_neg h]
  obtain ⟨x, hx⟩ : ∃ x, s % 2147483648 = x := ⟨_, rfl⟩
  have hb : bits .and .u32 (s : Int) 2147483647 = (x : Int) := by rw [u32_and31 (by omega) (by omega)]; omega
  have k1 : (s : Int) / 2147483648 = 1 := by omega
  have k2 : wrap64 (x : Int) = (x : Int) := w64 (by omega) (by omega)
  have k3 : wrap64 (-(x : Int)) = 2147483648 - (s : Int) := by rw [w64 (by omega) (by omega)]; omega
  clear h hs hx
  go_enter Try.func26, Try.ntmps26
  go_wp2
  go_ret
  exact ⟨by show Ending.returned (.int .i64 (wrap64 (-(x : Int)))) = _; rw [k3], rfl⟩
theorem val_calls (a s : Nat) (ha : a < 4294967296) (hs : s < 4294967296) (h1 : isnan s = true → a = made) (h2 : isnan s = false → isnan a = false ∧ pz a = pz s) (w : World) : Calls Try.prog 22 #[.int .u32 (a : Int), .int .u32 (s : Int)] w fun e w' => e = .returned (.bool true) ∧ w' = w := by
 have HA := Aside0.mk ha
 have HS := Aside0.mk hs
 cases hn : isnan s with
 | true =>
  obtain rfl := h1 hn
  have HN : Aside0 (∀ W, Calls Try.prog 51 #[.int .u32 (s : Int)] W fun e w' => e = .returned (.bool true) ∧ w' = W) := ⟨fun W => by rw [← hn]; exact isNaN_calls s HS.out W⟩
  have HM : Aside0 (∀ W, Calls Try.prog 51 #[.int .u32 ((made : Nat) : Int)] W fun e w' => e = .returned (.bool true) ∧ w' = W) := ⟨fun W => by rw [show true = isnan made by decide]; exact isNaN_calls made HA.out W⟩
  have em : ((made : Nat) : Int) = 2143289344 := by decide
  rw [em] at HM ⊢
  clear h1 h2 hn ha hs em
  go_enter Try.func22, Try.ntmps22
  go_wp2_with (first | (go_at_call 51; (with_reducible refine (HM.out _).mono ?_); rintro e _ ⟨rfl, rfl⟩) | (go_at_call 51; (with_reducible refine (HN.out _).mono ?_); rintro e _ ⟨rfl, rfl⟩))
  go_ret
  exact ⟨rfl, rfl⟩
 | false =>
  obtain ⟨i1, i2⟩ := h2 hn
  have HN : Aside0 (∀ W, Calls Try.prog 51 #[.int .u32 (s : Int)] W fun e w' => e = .returned (.bool false) ∧ w' = W) := ⟨fun W => by rw [← hn]; exact isNaN_calls s HS.out W⟩
  have HM : Aside0 (∀ W, Calls Try.prog 51 #[.int .u32 (a : Int)] W fun e w' => e = .returned (.bool false) ∧ w' = W) := ⟨fun W => by rw [← i1]; exact isNaN_calls a HA.out W⟩
  obtain ⟨z, hz⟩ : ∃ z, pz s = z := ⟨_, rfl⟩
  have HK : Aside0 (∀ W, Calls Try.prog 26 #[.int .u32 (s : Int)] W fun e w' => e = .returned (.int .i64 z) ∧ w' = W) := ⟨fun W => by rw [← hz]; exact key_calls s HS.out W⟩
  have HL : Aside0 (∀ W, Calls Try.prog 26 #[.int .u32 (a : Int)] W fun e w' => e = .returned (.int .i64 z) ∧ w' = W) := ⟨fun W => by rw [← hz, ← i2]; exact key_calls a HA.out W⟩
  clear h1 h2 hn ha hs i1 i2 hz
  go_enter Try.func22, Try.ntmps22
  go_wp2_with (first | (go_at_call 51; (with_reducible refine (HM.out _).mono ?_); rintro e _ ⟨rfl, rfl⟩) | (go_at_call 51; (with_reducible refine (HN.out _).mono ?_); rintro e _ ⟨rfl, rfl⟩) | (go_at_call 26; (with_reducible refine (HL.out _).mono ?_); rintro e _ ⟨rfl, rfl⟩) | (go_at_call 26; (with_reducible refine (HK.out _).mono ?_); rintro e _ ⟨rfl, rfl⟩))
  go_ret
  exact ⟨by simp, rfl⟩
theorem way_1 (s sa d da : Nat) (hs : s < 4294967296) (hsa : sa < 4294967296) (hd : d < 4294967296) (hda : da < 4294967296) (hn : Nov (wy1 (wv s) (wv sa) (wv d) (wv da))) (w : World) : Calls Try.prog 23 #[.int .i64 1, .int .u32 (s : Int), .int .u32 (sa : Int), .int .u32 (d : Int), .int .u32 (da : Int)] w fun e w' => e = .returned (.int .u32 ((tl (wy1 (wv s) (wv sa) (wv d) (wv da)) : Nat) : Int)) ∧ Below w.heap.size w w' := by
 have HO : Aside0 (∀ W, Calls Try.prog 11 #[.int .i64 1, .int .u32 (s : Int), .int .u32 (sa : Int), .int .u32 (d : Int), .int .u32 (da : Int)] W fun e w' => e = .returned (.tuple #[.int .u32 ((tl (wy1 (wv s) (wv sa) (wv d) (wv da)) : Nat) : Int), .int .i64 0]) ∧ Below W.heap.size W w') := ⟨fun W => One_1 s sa d da hs hsa hd hda hn W⟩
 obtain ⟨x, hx⟩ : ∃ x, tl (wy1 (wv s) (wv sa) (wv d) (wv da)) = x := ⟨_, rfl⟩
 rw [hx] at HO ⊢
 clear hs hsa hd hda hn hx
 go_enter Try.func23, Try.ntmps23
 go_wp2_with (go_at_call 11; (with_reducible refine (HO.out _).mono ?_); rintro e w1 ⟨rfl, hb⟩; have B1 := Aside0.mk hb; clear hb)
 go_ret
 exact ⟨rfl, B1.out⟩
theorem way_2 (s sa d da : Nat) (hs : s < 4294967296) (hsa : sa < 4294967296) (hd : d < 4294967296) (hda : da < 4294967296) (hn : Nov (wy2 (wv s) (wv sa) (wv d) (wv da))) (w : World) : Calls Try.prog 23 #[.int .i64 2, .int .u32 (s : Int), .int .u32 (sa : Int), .int .u32 (d : Int), .int .u32 (da : Int)] w fun e w' => e = .returned (.int .u32 ((tl (wy2 (wv s) (wv sa) (wv d) (wv da)) : Nat) : Int)) ∧ Below w.heap.size w w' := by
 have HO : Aside0 (∀ W, Calls Try.prog 11 #[.int .i64 2, .int .u32 (s : Int), .int .u32 (sa : Int), .int .u32 (d : Int), .int .u32 (da : Int)] W fun e w' => e = .returned (.tuple #[.int .u32 ((tl (wy2 (wv s) (wv sa) (wv d) (wv da)) : Nat) : Int), .int .i64 0]) ∧ Below W.heap.size W w') := ⟨fun W => One_2 s sa d da hs hsa hd hda hn W⟩
 obtain ⟨x, hx⟩ : ∃ x, tl (wy2 (wv s) (wv sa) (wv d) (wv da)) = x := ⟨_, rfl⟩
 rw [hx] at HO ⊢
 clear hs hsa hd hda hn hx
 go_enter Try.func23, Try.ntmps23
 go_wp2_with (go_at_call 11; (with_reducible refine (HO.out _).mono ?_); rintro e w1 ⟨rfl, hb⟩; have B1 := Aside0.mk hb; clear hb)
 go_ret
 exact ⟨rfl, B1.out⟩
theorem way_3 (s sa d da : Nat) (hs : s < 4294967296) (hsa : sa < 4294967296) (hd : d < 4294967296) (hda : da < 4294967296) (hn : Nov (wy3 (wv s) (wv sa) (wv d) (wv da))) (w : World) : Calls Try.prog 23 #[.int .i64 3, .int .u32 (s : Int), .int .u32 (sa : Int), .int .u32 (d : Int), .int .u32 (da : Int)] w fun e w' => e = .returned (.int .u32 ((tl (wy3 (wv s) (wv sa) (wv d) (wv da)) : Nat) : Int)) ∧ Below w.heap.size w w' := by
 have HO : Aside0 (∀ W, Calls Try.prog 11 #[.int .i64 3, .int .u32 (s : Int), .int .u32 (sa : Int), .int .u32 (d : Int), .int .u32 (da : Int)] W fun e w' => e = .returned (.tuple #[.int .u32 ((tl (wy3 (wv s) (wv sa) (wv d) (wv da)) : Nat) : Int), .int .i64 0]) ∧ Below W.heap.size W w') := ⟨fun W => One_3 s sa d da hs hsa hd hda hn W⟩
 obtain ⟨x, hx⟩ : ∃ x, tl (wy3 (wv s) (wv sa) (wv d) (wv da)) = x := ⟨_, rfl⟩
 rw [hx] at HO ⊢
 clear hs hsa hd hda hn hx
 go_enter Try.func23, Try.ntmps23
 go_wp2_with (go_at_call 11; (with_reducible refine (HO.out _).mono ?_); rintro e w1 ⟨rfl, hb⟩; have B1 := Aside0.mk hb; clear hb)
 go_ret
 exact ⟨rfl, B1.out⟩
set_option maxHeartbeats 4000000 in
theorem ends_tt (s sa d : Nat) (hs : s < 4294967296) (hsa : sa < 4294967296) (hd : d < 4294967296) (hfd : fin d = true) (hfs : fin s = true) (w : World) : Calls Try.prog 6 #[.int .u32 (s : Int), .int .u32 (sa : Int), .int .u32 (d : Int)] w fun e w' => e = .returned (.bool true) ∧ Below w.heap.size w w' := by
 have S0 : Sm s (wy1 (wv s) (wv 1065353216) (wv d) (wv sa)) := by unfold wy1; rw [sub_11]; exact ends_add hs hd (of_decide_eq_true hfd)
 obtain ⟨x0, hx0⟩ : ∃ x, tl (wy1 (wv s) (wv 1065353216) (wv d) (wv sa)) = x := ⟨_, rfl⟩
 have HW0 : Aside0 (∀ W, Calls Try.prog 23 #[.int .i64 1, .int .u32 (s : Int), .int .u32 1065353216, .int .u32 (d : Int), .int .u32 (sa : Int)] W fun e w' => e = .returned (.int .u32 (x0 : Int)) ∧ Below W.heap.size W w') := ⟨fun W => by rw [← hx0]; exact way_1 s 1065353216 d sa hs (by decide) hd hsa S0.1 W⟩
 have HV0 : Aside0 (∀ W, Calls Try.prog 22 #[.int .u32 (x0 : Int), .int .u32 (s : Int)] W fun e w' => e = .returned (.bool true) ∧ w' = W) := ⟨fun W => by rw [← hx0]; exact val_calls _ s S0.2.1 hs S0.2.2.1 S0.2.2.2 W⟩
 clear S0 hx0
 have S1 : Sm d (wy1 (wv 0) (wv 0) (wv d) (wv sa)) := by unfold wy1; rw [sub_10]; exact ends_under hd
 obtain ⟨x1, hx1⟩ : ∃ x, tl (wy1 (wv 0) (wv 0) (wv d) (wv sa)) = x := ⟨_, rfl⟩
 have HW1 : Aside0 (∀ W, Calls Try.prog 23 #[.int .i64 1, .int .u32 0, .int .u32 0, .int .u32 (d : Int), .int .u32 (sa : Int)] W fun e w' => e = .returned (.int .u32 (x1 : Int)) ∧ Below W.heap.size W w') := ⟨fun W => by rw [← hx1]; exact way_1 0 0 d sa (by decide) (by decide) hd hsa S1.1 W⟩
 have HV1 : Aside0 (∀ W, Calls Try.prog 22 #[.int .u32 (x1 : Int), .int .u32 (d : Int)] W fun e w' => e = .returned (.bool true) ∧ w' = W) := ⟨fun W => by rw [← hx1]; exact val_calls _ d S1.2.1 hd S1.2.2.1 S1.2.2.2 W⟩
 clear S1 hx1
 have S2 : Sm s (wy2 (wv s) (wv sa) (wv d) (wv 1065353216)) := by unfold wy2; rw [wv_one]; exact ends_one hs
 obtain ⟨x2, hx2⟩ : ∃ x, tl (wy2 (wv s) (wv sa) (wv d) (wv 1065353216)) = x := ⟨_, rfl⟩
 have HW2 : Aside0 (∀ W, Calls Try.prog 23 #[.int .i64 2, .int .u32 (s : Int), .int .u32 (sa : Int), .int .u32 (d : Int), .int .u32 1065353216] W fun e w' => e = .returned (.int .u32 (x2 : Int)) ∧ Below W.heap.size W w') := ⟨fun W => by rw [← hx2]; exact way_2 s sa d 1065353216 hs hsa hd (by decide) S2.1 W⟩
 have HV2 : Aside0 (∀ W, Calls Try.prog 22 #[.int .u32 (x2 : Int), .int .u32 (s : Int)] W fun e w' => e = .returned (.bool true) ∧ w' = W) := ⟨fun W => by rw [← hx2]; exact val_calls _ s S2.2.1 hs S2.2.2.1 S2.2.2.2 W⟩
 clear S2 hx2
 have S3 : Sm s (wy3 (wv s) (wv sa) (wv d) (wv 0)) := by unfold wy3; rw [sub_10]; exact ends_one hs
 obtain ⟨x3, hx3⟩ : ∃ x, tl (wy3 (wv s) (wv sa) (wv d) (wv 0)) = x := ⟨_, rfl⟩
 have HW3 : Aside0 (∀ W, Calls Try.prog 23 #[.int .i64 3, .int .u32 (s : Int), .int .u32 (sa : Int), .int .u32 (d : Int), .int .u32 0] W fun e w' => e = .returned (.int .u32 (x3 : Int)) ∧ Below W.heap.size W w') := ⟨fun W => by rw [← hx3]; exact way_3 s sa d 0 hs hsa hd (by decide) S3.1 W⟩
 have HV3 : Aside0 (∀ W, Calls Try.prog 22 #[.int .u32 (x3 : Int), .int .u32 (s : Int)] W fun e w' => e = .returned (.bool true) ∧ w' = W) := ⟨fun W => by rw [← hx3]; exact val_calls _ s S3.2.1 hs S3.2.2.1 S3.2.2.2 W⟩
 clear S3 hx3
 have S4 : Sm 0 (wy3 (wv s) (wv sa) (wv d) (wv 1065353216)) := by unfold wy3; rw [sub_11]; exact ends_zero hs (of_decide_eq_true hfs)
 obtain ⟨x4, hx4⟩ : ∃ x, tl (wy3 (wv s) (wv sa) (wv d) (wv 1065353216)) = x := ⟨_, rfl⟩
 have HW4 : Aside0 (∀ W, Calls Try.prog 23 #[.int .i64 3, .int .u32 (s : Int), .int .u32 (sa : Int), .int .u32 (d : Int), .int .u32 1065353216] W fun e w' => e = .returned (.int .u32 (x4 : Int)) ∧ Below W.heap.size W w') := ⟨fun W => by rw [← hx4]; exact way_3 s sa d 1065353216 hs hsa hd (by decide) S4.1 W⟩
 have HV4 : Aside0 (∀ W, Calls Try.prog 22 #[.int .u32 (x4 : Int), .int .u32 0] W fun e w' => e = .returned (.bool true) ∧ w' = W) := ⟨fun W => by rw [← hx4]; exact val_calls _ 0 S4.2.1 (by decide) S4.2.2.1 S4.2.2.2 W⟩
 clear S4 hx4
 have S5 : Sm 0 (wy2 (wv s) (wv sa) (wv d) (wv 0)) := by unfold wy2; rw [wv_zero]; exact ends_zero hs (of_decide_eq_true hfs)
 obtain ⟨x5, hx5⟩ : ∃ x, tl (wy2 (wv s) (wv sa) (wv d) (wv 0)) = x := ⟨_, rfl⟩
 have HW5 : Aside0 (∀ W, Calls Try.prog 23 #[.int .i64 2, .int .u32 (s : Int), .int .u32 (sa : Int), .int .u32 (d : Int), .int .u32 0] W fun e w' => e = .returned (.int .u32 (x5 : Int)) ∧ Below W.heap.size W w') := ⟨fun W => by rw [← hx5]; exact way_2 s sa d 0 hs hsa hd (by decide) S5.1 W⟩
 have HV5 : Aside0 (∀ W, Calls Try.prog 22 #[.int .u32 (x5 : Int), .int .u32 0] W fun e w' => e = .returned (.bool true) ∧ w' = W) := ⟨fun W => by rw [← hx5]; exact val_calls _ 0 S5.2.1 (by decide) S5.2.2.1 S5.2.2.2 W⟩
 clear S5 hx5
 have HFD : Aside0 (∀ W, Calls Try.prog 21 #[.int .u32 (d : Int)] W fun e w' => e = .returned (.bool true) ∧ w' = W) := ⟨fun W => by rw [← hfd]; exact finite_calls d hd W⟩
 have HFS : Aside0 (∀ W, Calls Try.prog 21 #[.int .u32 (s : Int)] W fun e w' => e = .returned (.bool true) ∧ w' = W) := ⟨fun W => by rw [← hfs]; exact finite_calls s hs W⟩
 have B_0 : Aside0 (Below w.heap.size w w) := ⟨Below.refl _ _⟩
 clear hs hsa hd hfd hfs
 go_enter Try.func6, Try.ntmps6
 go_wp2_with (first | (go_at_call 10; (with_reducible refine (known_calls _).mono ?_); rintro e w1 ⟨rfl, hb⟩; have B_1 := Aside0.mk (below_step B_0.out hb); clear hb) | (go_at_call 23; (with_reducible refine (HW0.out _).mono ?_); rintro e w2 ⟨rfl, hb⟩; have B_2 := Aside0.mk (below_step B_1.out hb); clear hb) | (go_at_call 23; (with_reducible refine (HW1.out _).mono ?_); rintro e w3 ⟨rfl, hb⟩; have B_3 := Aside0.mk (below_step B_2.out hb); clear hb) | (go_at_call 23; (with_reducible refine (HW2.out _).mono ?_); rintro e w4 ⟨rfl, hb⟩; have B_4 := Aside0.mk (below_step B_3.out hb); clear hb) | (go_at_call 23; (with_reducible refine (HW3.out _).mono ?_); rintro e w5 ⟨rfl, hb⟩; have B_5 := Aside0.mk (below_step B_4.out hb); clear hb) | (go_at_call 23; (with_reducible refine (HW4.out _).mono ?_); rintro e w6 ⟨rfl, hb⟩; have B_6 := Aside0.mk (below_step B_5.out hb); clear hb) | (go_at_call 23; (with_reducible refine (HW5.out _).mono ?_); rintro e w7 ⟨rfl, hb⟩; have B_7 := Aside0.mk (below_step B_6.out hb); clear hb) | (go_at_call 22; (with_reducible refine (HV0.out _).mono ?_); rintro e _ ⟨rfl, rfl⟩) | (go_at_call 22; (with_reducible refine (HV1.out _).mono ?_); rintro e _ ⟨rfl, rfl⟩) | (go_at_call 22; (with_reducible refine (HV2.out _).mono ?_); rintro e _ ⟨rfl, rfl⟩) | (go_at_call 22; (with_reducible refine (HV3.out _).mono ?_); rintro e _ ⟨rfl, rfl⟩) | (go_at_call 22; (with_reducible refine (HV4.out _).mono ?_); rintro e _ ⟨rfl, rfl⟩) | (go_at_call 22; (with_reducible refine (HV5.out _).mono ?_); rintro e _ ⟨rfl, rfl⟩) | (go_at_call 21; (with_reducible refine (HFD.out _).mono ?_); rintro e _ ⟨rfl, rfl⟩) | (go_at_call 21; (with_reducible refine (HFS.out _).mono ?_); rintro e _ ⟨rfl, rfl⟩))
 go_ret
 exact ⟨rfl, B_7.out⟩
set_option maxHeartbeats 4000000 in
theorem ends_tf (s sa d : Nat) (hs : s < 4294967296) (hsa : sa < 4294967296) (hd : d < 4294967296) (hfd : fin d = true) (hfs : fin s = false) (w : World) : Calls Try.prog 6 #[.int .u32 (s : Int), .int .u32 (sa : Int), .int .u32 (d : Int)] w fun e w' => e = .returned (.bool true) ∧ Below w.heap.size w w' := by
 have S0 : Sm s (wy1 (wv s) (wv 1065353216) (wv d) (wv sa)) := by unfold wy1; rw [sub_11]; exact ends_add hs hd (of_decide_eq_true hfd)
 obtain ⟨x0, hx0⟩ : ∃ x, tl (wy1 (wv s) (wv 1065353216) (wv d) (wv sa)) = x := ⟨_, rfl⟩
 have HW0 : Aside0 (∀ W, Calls Try.prog 23 #[.int .i64 1, .int .u32 (s : Int), .int .u32 1065353216, .int .u32 (d : Int), .int .u32 (sa : Int)] W fun e w' => e = .returned (.int .u32 (x0 : Int)) ∧ Below W.heap.size W w') := ⟨fun W => by rw [← hx0]; exact way_1 s 1065353216 d sa hs (by decide) hd hsa S0.1 W⟩
 have HV0 : Aside0 (∀ W, Calls Try.prog 22 #[.int .u32 (x0 : Int), .int .u32 (s : Int)] W fun e w' => e = .returned (.bool true) ∧ w' = W) := ⟨fun W => by rw [← hx0]; exact val_calls _ s S0.2.1 hs S0.2.2.1 S0.2.2.2 W⟩
 clear S0 hx0
 have S1 : Sm d (wy1 (wv 0) (wv 0) (wv d) (wv sa)) := by unfold wy1; rw [sub_10]; exact ends_under hd
 obtain ⟨x1, hx1⟩ : ∃ x, tl (wy1 (wv 0) (wv 0) (wv d) (wv sa)) = x := ⟨_, rfl⟩
 have HW1 : Aside0 (∀ W, Calls Try.prog 23 #[.int .i64 1, .int .u32 0, .int .u32 0, .int .u32 (d : Int), .int .u32 (sa : Int)] W fun e w' => e = .returned (.int .u32 (x1 : Int)) ∧ Below W.heap.size W w') := ⟨fun W => by rw [← hx1]; exact way_1 0 0 d sa (by decide) (by decide) hd hsa S1.1 W⟩
 have HV1 : Aside0 (∀ W, Calls Try.prog 22 #[.int .u32 (x1 : Int), .int .u32 (d : Int)] W fun e w' => e = .returned (.bool true) ∧ w' = W) := ⟨fun W => by rw [← hx1]; exact val_calls _ d S1.2.1 hd S1.2.2.1 S1.2.2.2 W⟩
 clear S1 hx1
 have S2 : Sm s (wy2 (wv s) (wv sa) (wv d) (wv 1065353216)) := by unfold wy2; rw [wv_one]; exact ends_one hs
 obtain ⟨x2, hx2⟩ : ∃ x, tl (wy2 (wv s) (wv sa) (wv d) (wv 1065353216)) = x := ⟨_, rfl⟩
 have HW2 : Aside0 (∀ W, Calls Try.prog 23 #[.int .i64 2, .int .u32 (s : Int), .int .u32 (sa : Int), .int .u32 (d : Int), .int .u32 1065353216] W fun e w' => e = .returned (.int .u32 (x2 : Int)) ∧ Below W.heap.size W w') := ⟨fun W => by rw [← hx2]; exact way_2 s sa d 1065353216 hs hsa hd (by decide) S2.1 W⟩
 have HV2 : Aside0 (∀ W, Calls Try.prog 22 #[.int .u32 (x2 : Int), .int .u32 (s : Int)] W fun e w' => e = .returned (.bool true) ∧ w' = W) := ⟨fun W => by rw [← hx2]; exact val_calls _ s S2.2.1 hs S2.2.2.1 S2.2.2.2 W⟩
 clear S2 hx2
 have S3 : Sm s (wy3 (wv s) (wv sa) (wv d) (wv 0)) := by unfold wy3; rw [sub_10]; exact ends_one hs
 obtain ⟨x3, hx3⟩ : ∃ x, tl (wy3 (wv s) (wv sa) (wv d) (wv 0)) = x := ⟨_, rfl⟩
 have HW3 : Aside0 (∀ W, Calls Try.prog 23 #[.int .i64 3, .int .u32 (s : Int), .int .u32 (sa : Int), .int .u32 (d : Int), .int .u32 0] W fun e w' => e = .returned (.int .u32 (x3 : Int)) ∧ Below W.heap.size W w') := ⟨fun W => by rw [← hx3]; exact way_3 s sa d 0 hs hsa hd (by decide) S3.1 W⟩
 have HV3 : Aside0 (∀ W, Calls Try.prog 22 #[.int .u32 (x3 : Int), .int .u32 (s : Int)] W fun e w' => e = .returned (.bool true) ∧ w' = W) := ⟨fun W => by rw [← hx3]; exact val_calls _ s S3.2.1 hs S3.2.2.1 S3.2.2.2 W⟩
 clear S3 hx3
 have HFD : Aside0 (∀ W, Calls Try.prog 21 #[.int .u32 (d : Int)] W fun e w' => e = .returned (.bool true) ∧ w' = W) := ⟨fun W => by rw [← hfd]; exact finite_calls d hd W⟩
 have HFS : Aside0 (∀ W, Calls Try.prog 21 #[.int .u32 (s : Int)] W fun e w' => e = .returned (.bool false) ∧ w' = W) := ⟨fun W => by rw [← hfs]; exact finite_calls s hs W⟩
 have B_0 : Aside0 (Below w.heap.size w w) := ⟨Below.refl _ _⟩
 clear hs hsa hd hfd hfs
 go_enter Try.func6, Try.ntmps6
 go_wp2_with (first | (go_at_call 10; (with_reducible refine (known_calls _).mono ?_); rintro e w1 ⟨rfl, hb⟩; have B_1 := Aside0.mk (below_step B_0.out hb); clear hb) | (go_at_call 23; (with_reducible refine (HW0.out _).mono ?_); rintro e w2 ⟨rfl, hb⟩; have B_2 := Aside0.mk (below_step B_1.out hb); clear hb) | (go_at_call 23; (with_reducible refine (HW1.out _).mono ?_); rintro e w3 ⟨rfl, hb⟩; have B_3 := Aside0.mk (below_step B_2.out hb); clear hb) | (go_at_call 23; (with_reducible refine (HW2.out _).mono ?_); rintro e w4 ⟨rfl, hb⟩; have B_4 := Aside0.mk (below_step B_3.out hb); clear hb) | (go_at_call 23; (with_reducible refine (HW3.out _).mono ?_); rintro e w5 ⟨rfl, hb⟩; have B_5 := Aside0.mk (below_step B_4.out hb); clear hb) | (go_at_call 22; (with_reducible refine (HV0.out _).mono ?_); rintro e _ ⟨rfl, rfl⟩) | (go_at_call 22; (with_reducible refine (HV1.out _).mono ?_); rintro e _ ⟨rfl, rfl⟩) | (go_at_call 22; (with_reducible refine (HV2.out _).mono ?_); rintro e _ ⟨rfl, rfl⟩) | (go_at_call 22; (with_reducible refine (HV3.out _).mono ?_); rintro e _ ⟨rfl, rfl⟩) | (go_at_call 21; (with_reducible refine (HFD.out _).mono ?_); rintro e _ ⟨rfl, rfl⟩) | (go_at_call 21; (with_reducible refine (HFS.out _).mono ?_); rintro e _ ⟨rfl, rfl⟩))
 go_ret
 exact ⟨rfl, B_5.out⟩
set_option maxHeartbeats 4000000 in
theorem ends_ft (s sa d : Nat) (hs : s < 4294967296) (hsa : sa < 4294967296) (hd : d < 4294967296) (hfd : fin d = false) (hfs : fin s = true) (w : World) : Calls Try.prog 6 #[.int .u32 (s : Int), .int .u32 (sa : Int), .int .u32 (d : Int)] w fun e w' => e = .returned (.bool true) ∧ Below w.heap.size w w' := by
 have S1 : Sm d (wy1 (wv 0) (wv 0) (wv d) (wv sa)) := by unfold wy1; rw [sub_10]; exact ends_under hd
 obtain ⟨x1, hx1⟩ : ∃ x, tl (wy1 (wv 0) (wv 0) (wv d) (wv sa)) = x := ⟨_, rfl⟩
 have HW1 : Aside0 (∀ W, Calls Try.prog 23 #[.int .i64 1, .int .u32 0, .int .u32 0, .int .u32 (d : Int), .int .u32 (sa : Int)] W fun e w' => e = .returned (.int .u32 (x1 : Int)) ∧ Below W.heap.size W w') := ⟨fun W => by rw [← hx1]; exact way_1 0 0 d sa (by decide) (by decide) hd hsa S1.1 W⟩
 have HV1 : Aside0 (∀ W, Calls Try.prog 22 #[.int .u32 (x1 : Int), .int .u32 (d : Int)] W fun e w' => e = .returned (.bool true) ∧ w' = W) := ⟨fun W => by rw [← hx1]; exact val_calls _ d S1.2.1 hd S1.2.2.1 S1.2.2.2 W⟩
 clear S1 hx1
 have S2 : Sm s (wy2 (wv s) (wv sa) (wv d) (wv 1065353216)) := by unfold wy2; rw [wv_one]; exact ends_one hs
 obtain ⟨x2, hx2⟩ : ∃ x, tl (wy2 (wv s) (wv sa) (wv d) (wv 1065353216)) = x := ⟨_, rfl⟩
 have HW2 : Aside0 (∀ W, Calls Try.prog 23 #[.int .i64 2, .int .u32 (s : Int), .int .u32 (sa : Int), .int .u32 (d : Int), .int .u32 1065353216] W fun e w' => e = .returned (.int .u32 (x2 : Int)) ∧ Below W.heap.size W w') := ⟨fun W => by rw [← hx2]; exact way_2 s sa d 1065353216 hs hsa hd (by decide) S2.1 W⟩
 have HV2 : Aside0 (∀ W, Calls Try.prog 22 #[.int .u32 (x2 : Int), .int .u32 (s : Int)] W fun e w' => e = .returned (.bool true) ∧ w' = W) := ⟨fun W => by rw [← hx2]; exact val_calls _ s S2.2.1 hs S2.2.2.1 S2.2.2.2 W⟩
 clear S2 hx2
 have S3 : Sm s (wy3 (wv s) (wv sa) (wv d) (wv 0)) := by unfold wy3; rw [sub_10]; exact ends_one hs
 obtain ⟨x3, hx3⟩ : ∃ x, tl (wy3 (wv s) (wv sa) (wv d) (wv 0)) = x := ⟨_, rfl⟩
 have HW3 : Aside0 (∀ W, Calls Try.prog 23 #[.int .i64 3, .int .u32 (s : Int), .int .u32 (sa : Int), .int .u32 (d : Int), .int .u32 0] W fun e w' => e = .returned (.int .u32 (x3 : Int)) ∧ Below W.heap.size W w') := ⟨fun W => by rw [← hx3]; exact way_3 s sa d 0 hs hsa hd (by decide) S3.1 W⟩
 have HV3 : Aside0 (∀ W, Calls Try.prog 22 #[.int .u32 (x3 : Int), .int .u32 (s : Int)] W fun e w' => e = .returned (.bool true) ∧ w' = W) := ⟨fun W => by rw [← hx3]; exact val_calls _ s S3.2.1 hs S3.2.2.1 S3.2.2.2 W⟩
 clear S3 hx3
 have S4 : Sm 0 (wy3 (wv s) (wv sa) (wv d) (wv 1065353216)) := by unfold wy3; rw [sub_11]; exact ends_zero hs (of_decide_eq_true hfs)
 obtain ⟨x4, hx4⟩ : ∃ x, tl (wy3 (wv s) (wv sa) (wv d) (wv 1065353216)) = x := ⟨_, rfl⟩
 have HW4 : Aside0 (∀ W, Calls Try.prog 23 #[.int .i64 3, .int .u32 (s : Int), .int .u32 (sa : Int), .int .u32 (d : Int), .int .u32 1065353216] W fun e w' => e = .returned (.int .u32 (x4 : Int)) ∧ Below W.heap.size W w') := ⟨fun W => by rw [← hx4]; exact way_3 s sa d 1065353216 hs hsa hd (by decide) S4.1 W⟩
 have HV4 : Aside0 (∀ W, Calls Try.prog 22 #[.int .u32 (x4 : Int), .int .u32 0] W fun e w' => e = .returned (.bool true) ∧ w' = W) := ⟨fun W => by rw [← hx4]; exact val_calls _ 0 S4.2.1 (by decide) S4.2.2.1 S4.2.2.2 W⟩
 clear S4 hx4
 have S5 : Sm 0 (wy2 (wv s) (wv sa) (wv d) (wv 0)) := by unfold wy2; rw [wv_zero]; exact ends_zero hs (of_decide_eq_true hfs)
 obtain ⟨x5, hx5⟩ : ∃ x, tl (wy2 (wv s) (wv sa) (wv d) (wv 0)) = x := ⟨_, rfl⟩
 have HW5 : Aside0 (∀ W, Calls Try.prog 23 #[.int .i64 2, .int .u32 (s : Int), .int .u32 (sa : Int), .int .u32 (d : Int), .int .u32 0] W fun e w' => e = .returned (.int .u32 (x5 : Int)) ∧ Below W.heap.size W w') := ⟨fun W => by rw [← hx5]; exact way_2 s sa d 0 hs hsa hd (by decide) S5.1 W⟩
 have HV5 : Aside0 (∀ W, Calls Try.prog 22 #[.int .u32 (x5 : Int), .int .u32 0] W fun e w' => e = .returned (.bool true) ∧ w' = W) := ⟨fun W => by rw [← hx5]; exact val_calls _ 0 S5.2.1 (by decide) S5.2.2.1 S5.2.2.2 W⟩
 clear S5 hx5
 have HFD : Aside0 (∀ W, Calls Try.prog 21 #[.int .u32 (d : Int)] W fun e w' => e = .returned (.bool false) ∧ w' = W) := ⟨fun W => by rw [← hfd]; exact finite_calls d hd W⟩
 have HFS : Aside0 (∀ W, Calls Try.prog 21 #[.int .u32 (s : Int)] W fun e w' => e = .returned (.bool true) ∧ w' = W) := ⟨fun W => by rw [← hfs]; exact finite_calls s hs W⟩
 have B_0 : Aside0 (Below w.heap.size w w) := ⟨Below.refl _ _⟩
 clear hs hsa hd hfd hfs
 go_enter Try.func6, Try.ntmps6
 go_wp2_with (first | (go_at_call 10; (with_reducible refine (known_calls _).mono ?_); rintro e w1 ⟨rfl, hb⟩; have B_1 := Aside0.mk (below_step B_0.out hb); clear hb) | (go_at_call 23; (with_reducible refine (HW1.out _).mono ?_); rintro e w2 ⟨rfl, hb⟩; have B_2 := Aside0.mk (below_step B_1.out hb); clear hb) | (go_at_call 23; (with_reducible refine (HW2.out _).mono ?_); rintro e w3 ⟨rfl, hb⟩; have B_3 := Aside0.mk (below_step B_2.out hb); clear hb) | (go_at_call 23; (with_reducible refine (HW3.out _).mono ?_); rintro e w4 ⟨rfl, hb⟩; have B_4 := Aside0.mk (below_step B_3.out hb); clear hb) | (go_at_call 23; (with_reducible refine (HW4.out _).mono ?_); rintro e w5 ⟨rfl, hb⟩; have B_5 := Aside0.mk (below_step B_4.out hb); clear hb) | (go_at_call 23; (with_reducible refine (HW5.out _).mono ?_); rintro e w6 ⟨rfl, hb⟩; have B_6 := Aside0.mk (below_step B_5.out hb); clear hb) | (go_at_call 22; (with_reducible refine (HV1.out _).mono ?_); rintro e _ ⟨rfl, rfl⟩) | (go_at_call 22; (with_reducible refine (HV2.out _).mono ?_); rintro e _ ⟨rfl, rfl⟩) | (go_at_call 22; (with_reducible refine (HV3.out _).mono ?_); rintro e _ ⟨rfl, rfl⟩) | (go_at_call 22; (with_reducible refine (HV4.out _).mono ?_); rintro e _ ⟨rfl, rfl⟩) | (go_at_call 22; (with_reducible refine (HV5.out _).mono ?_); rintro e _ ⟨rfl, rfl⟩) | (go_at_call 21; (with_reducible refine (HFD.out _).mono ?_); rintro e _ ⟨rfl, rfl⟩) | (go_at_call 21; (with_reducible refine (HFS.out _).mono ?_); rintro e _ ⟨rfl, rfl⟩))
 go_ret
 exact ⟨rfl, B_6.out⟩
set_option maxHeartbeats 4000000 in
theorem ends_ff (s sa d : Nat) (hs : s < 4294967296) (hsa : sa < 4294967296) (hd : d < 4294967296) (hfd : fin d = false) (hfs : fin s = false) (w : World) : Calls Try.prog 6 #[.int .u32 (s : Int), .int .u32 (sa : Int), .int .u32 (d : Int)] w fun e w' => e = .returned (.bool true) ∧ Below w.heap.size w w' := by
 have S1 : Sm d (wy1 (wv 0) (wv 0) (wv d) (wv sa)) := by unfold wy1; rw [sub_10]; exact ends_under hd
 obtain ⟨x1, hx1⟩ : ∃ x, tl (wy1 (wv 0) (wv 0) (wv d) (wv sa)) = x := ⟨_, rfl⟩
 have HW1 : Aside0 (∀ W, Calls Try.prog 23 #[.int .i64 1, .int .u32 0, .int .u32 0, .int .u32 (d : Int), .int .u32 (sa : Int)] W fun e w' => e = .returned (.int .u32 (x1 : Int)) ∧ Below W.heap.size W w') := ⟨fun W => by rw [← hx1]; exact way_1 0 0 d sa (by decide) (by decide) hd hsa S1.1 W⟩
 have HV1 : Aside0 (∀ W, Calls Try.prog 22 #[.int .u32 (x1 : Int), .int .u32 (d : Int)] W fun e w' => e = .returned (.bool true) ∧ w' = W) := ⟨fun W => by rw [← hx1]; exact val_calls _ d S1.2.1 hd S1.2.2.1 S1.2.2.2 W⟩
 clear S1 hx1
 have S2 : Sm s (wy2 (wv s) (wv sa) (wv d) (wv 1065353216)) := by unfold wy2; rw [wv_one]; exact ends_one hs
 obtain ⟨x2, hx2⟩ : ∃ x, tl (wy2 (wv s) (wv sa) (wv d) (wv 1065353216)) = x := ⟨_, rfl⟩
 have HW2 : Aside0 (∀ W, Calls Try.prog 23 #[.int .i64 2, .int .u32 (s : Int), .int .u32 (sa : Int), .int .u32 (d : Int), .int .u32 1065353216] W fun e w' => e = .returned (.int .u32 (x2 : Int)) ∧ Below W.heap.size W w') := ⟨fun W => by rw [← hx2]; exact way_2 s sa d 1065353216 hs hsa hd (by decide) S2.1 W⟩
 have HV2 : Aside0 (∀ W, Calls Try.prog 22 #[.int .u32 (x2 : Int), .int .u32 (s : Int)] W fun e w' => e = .returned (.bool true) ∧ w' = W) := ⟨fun W => by rw [← hx2]; exact val_calls _ s S2.2.1 hs S2.2.2.1 S2.2.2.2 W⟩
 clear S2 hx2
 have S3 : Sm s (wy3 (wv s) (wv sa) (wv d) (wv 0)) := by unfold wy3; rw [sub_10]; exact ends_one hs
 obtain ⟨x3, hx3⟩ : ∃ x, tl (wy3 (wv s) (wv sa) (wv d) (wv 0)) = x := ⟨_, rfl⟩
 have HW3 : Aside0 (∀ W, Calls Try.prog 23 #[.int .i64 3, .int .u32 (s : Int), .int .u32 (sa : Int), .int .u32 (d : Int), .int .u32 0] W fun e w' => e = .returned (.int .u32 (x3 : Int)) ∧ Below W.heap.size W w') := ⟨fun W => by rw [← hx3]; exact way_3 s sa d 0 hs hsa hd (by decide) S3.1 W⟩
 have HV3 : Aside0 (∀ W, Calls Try.prog 22 #[.int .u32 (x3 : Int), .int .u32 (s : Int)] W fun e w' => e = .returned (.bool true) ∧ w' = W) := ⟨fun W => by rw [← hx3]; exact val_calls _ s S3.2.1 hs S3.2.2.1 S3.2.2.2 W⟩
 clear S3 hx3
 have HFD : Aside0 (∀ W, Calls Try.prog 21 #[.int .u32 (d : Int)] W fun e w' => e = .returned (.bool false) ∧ w' = W) := ⟨fun W => by rw [← hfd]; exact finite_calls d hd W⟩
 have HFS : Aside0 (∀ W, Calls Try.prog 21 #[.int .u32 (s : Int)] W fun e w' => e = .returned (.bool false) ∧ w' = W) := ⟨fun W => by rw [← hfs]; exact finite_calls s hs W⟩
 have B_0 : Aside0 (Below w.heap.size w w) := ⟨Below.refl _ _⟩
 clear hs hsa hd hfd hfs
 go_enter Try.func6, Try.ntmps6
 go_wp2_with (first | (go_at_call 10; (with_reducible refine (known_calls _).mono ?_); rintro e w1 ⟨rfl, hb⟩; have B_1 := Aside0.mk (below_step B_0.out hb); clear hb) | (go_at_call 23; (with_reducible refine (HW1.out _).mono ?_); rintro e w2 ⟨rfl, hb⟩; have B_2 := Aside0.mk (below_step B_1.out hb); clear hb) | (go_at_call 23; (with_reducible refine (HW2.out _).mono ?_); rintro e w3 ⟨rfl, hb⟩; have B_3 := Aside0.mk (below_step B_2.out hb); clear hb) | (go_at_call 23; (with_reducible refine (HW3.out _).mono ?_); rintro e w4 ⟨rfl, hb⟩; have B_4 := Aside0.mk (below_step B_3.out hb); clear hb) | (go_at_call 22; (with_reducible refine (HV1.out _).mono ?_); rintro e _ ⟨rfl, rfl⟩) | (go_at_call 22; (with_reducible refine (HV2.out _).mono ?_); rintro e _ ⟨rfl, rfl⟩) | (go_at_call 22; (with_reducible refine (HV3.out _).mono ?_); rintro e _ ⟨rfl, rfl⟩) | (go_at_call 21; (with_reducible refine (HFD.out _).mono ?_); rintro e _ ⟨rfl, rfl⟩) | (go_at_call 21; (with_reducible refine (HFS.out _).mono ?_); rintro e _ ⟨rfl, rfl⟩))
 go_ret
 exact ⟨rfl, B_4.out⟩
theorem mixEnds (s sa d : Nat) (w : World) (hs : s < 4294967296) (hsa : sa < 4294967296) (hd : d < 4294967296) : Calls Try.prog 6 #[.int .u32 (s : Int), .int .u32 (sa : Int), .int .u32 (d : Int)] w fun e w' => e = .returned (.bool true) ∧ Below w.heap.size w w' := by
 cases h1 : fin d <;> cases h2 : fin s
 ·exact ends_ff s sa d hs hsa hd h1 h2 w
 ·exact ends_ft s sa d hs hsa hd h1 h2 w
 ·exact ends_tf s sa d hs hsa hd h1 h2 w
 ·exact ends_tt s sa d hs hsa hd h1 h2 w
end Go.Proofs.Ytjlciehcddanpaa.A
end
section
set_option linter.unusedVariables false
set_option linter.unusedSimpArgs false
set_option linter.unusedSectionVars false
namespace Go.Proofs.Ytjlciehcddanpaa.A
open Go.RowKit Go.Shelf Go.Proofs.YtjlciehcddanpaaW.PrintWords Go.Proofs.YtjlciehcddanpaaW.PrintLast Go.Proofs.YtjlciehcddanpaaW.PrintMore Go.Proofs.Ytjlciehcddanpaa.PMixNames

theorem wf32 {a : Int} (h : (Lit.int .u32 a).wf = true) : ∃ n : Nat, a = n ∧ n < 4294967296 := by
 have : 0 ≤ a ∧ a < 4294967296 := by
  simp only [Lit.wf, Bool.and_eq_true, decide_eq_true_eq, show IntKind.u32.min = 0 from rfl, show IntKind.u32.max = 4294967295 from rfl] at h
  omega
 exact ⟨a.toNat, by omega, by omega⟩
end Go.Proofs.Ytjlciehcddanpaa.A
end
