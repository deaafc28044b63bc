import Derived.Test.YtpmmnjpimnapfaaB4
set_option linter.unusedVariables false
set_option linter.unusedSimpArgs false
namespace Go.Proofs.Ytpmmnjpimnapfaa.A
open Go.RowKit Go.Proofs.YtpmmnjpimnapfaaW.PrintWords Go.Proofs.YtpmmnjpimnapfaaW.PrintLast Go.Proofs.YtpmmnjpimnapfaaW.PrintMore

theorem num_calls (n : Int) (w : World) : Calls Try.prog 20 #[.int .i64 n] w fun e w' => e = .returned (.int .i64 n) ∧ w = w' := by
  go_enter Try.func20, Try.ntmps20
  go_wp2
  go_ret
  exact ⟨rfl, rfl⟩
theorem eq_of_gt {a b : List Nat} (h : a.length = b.length) (he : ∀ i, i < a.length → gt a i = gt b i) : a = b := by
  apply List.ext_getElem h
  intro i h1 h2
  have := he i h1
  unfold gt at this
  rw [List.getD_eq_getElem?_getD, List.getD_eq_getElem?_getD, List.getElem?_eq_getElem h1, List.getElem?_eq_getElem h2] at this
  exact this
set_option maxHeartbeats 2000000 in
theorem bytes_calls (A B : Option Addr) (c d : Nat) (a b : List Nat) (w : World) (hA : (nat .u8).C w A a.length a) (hB : (nat .u8).C w B b.length b) (hc : a.length ≤ c) (hd : b.length ≤ d) (hl : a.length < 4611686018427387904) :
    Calls Try.prog 21 #[.slice A a.length c, .slice B b.length d] w fun e w' => e = .returned (.bool (decide (a = b))) ∧ Below w.heap.size w w' := by
  by_cases hn : a.length = b.length
  · have HA := Aside0.mk (CB.of_C hA)
    have HB := Aside0.mk (CB.of_C hB)
    have HN := Aside0.mk hn
    have t1 : ((a.length : Int) != (b.length : Int)) = false := by rw [bne_eq_false_iff_eq]; omega
    clear hA hB hn
    go_enter Try.func21, Try.ntmps21
    go_wp2
    go_loopw [5] (fun v wr => ∃ (j : Nat), j ≤ a.length ∧ v = .int .i64 j ∧ Aside0 (∀ i, i < j → gt a i = gt b i) ∧ Aside0 (Below w.heap.size w wr)) (fun v _ => a.length - (intOf v).toNat)
    case atStart => exact ⟨0, by omega, rfl, ⟨by intro i hi; omega⟩, ⟨Below.refl _ _⟩⟩
    case round =>
      obtain ⟨j, hj, rfl, HE, HD⟩ := hrel
      by_cases hlt : j < a.length
      · obtain ⟨ad, rfl, hx⟩ := (HA.out.below HD.out).at_ j hlt
        obtain ⟨ad2, rfl, hy⟩ := (HB.out.below HD.out).at_ j (by have := HN.out; omega)
        have hlt2 : j < b.length := by have := HN.out; omega
        by_cases he : gt a j = gt b j
        · have t2 : ((gt a j : Int) != (gt b j : Int)) = false := by rw [bne_eq_false_iff_eq, he]
          have HE2 := Aside0.mk he
          clear he
          go_wp2
          repeat (go_quiet (fail); try go_wp2)
          go_roundw
          case measure => simp [intOf]; omega
          case rel =>
            refine ⟨j + 1, by omega, by go_num, ⟨?_⟩, ⟨pw_below_drewN HD.out _⟩⟩
            intro i hi
            by_cases h : i < j
            · exact HE.out i h
            · obtain rfl : i = j := by omega
              exact HE2.out
        · have t2 : ((gt a j : Int) != (gt b j : Int)) = true := by rw [bne_iff_ne]; omega
          have hne : Aside0 (a ≠ b) := ⟨fun h => he (by rw [h])⟩
          clear he
          go_wp2
          repeat (go_quiet (fail); try go_wp2)
          go_ret
          exact ⟨by simp [hne.out], pw_below_drewN HD.out _⟩
      · obtain rfl : j = a.length := by omega
        have hae : Aside0 (a = b) := ⟨eq_of_gt HN.out HE.out⟩
        go_wp2
        repeat (go_quiet (fail); try go_wp2)
        go_ret
        exact ⟨by simp [hae.out], HD.out⟩
  · have hne : Aside0 (a ≠ b) := ⟨fun h => hn (by rw [h])⟩
    have t1 : ((a.length : Int) != (b.length : Int)) = true := by rw [bne_iff_ne]; omega
    clear hn
    go_enter Try.func21, Try.ntmps21
    go_wp2
    repeat (go_quiet (fail); try go_wp2)
    go_ret
    exact ⟨by simp [hne.out], Below.refl _ _⟩
set_option maxHeartbeats 2000000 in
theorem words_calls (A B : Option Addr) (c d : Nat) (a b : List Nat) (w : World) (hA : (nat .u32).C w A a.length a) (hB : (nat .u32).C w B b.length b) (hc : a.length ≤ c) (hd : b.length ≤ d) (hl : a.length < 4611686018427387904) :
    Calls Try.prog 28 #[.slice A a.length c, .slice B b.length d] w fun e w' => e = .returned (.bool (decide (a = b))) ∧ Below w.heap.size w w' := by
  by_cases hn : a.length = b.length
  · have HA := Aside0.mk (CB.of_C hA)
    have HB := Aside0.mk (CB.of_C hB)
    have HN := Aside0.mk hn
    have t1 : ((a.length : Int) != (b.length : Int)) = false := by rw [bne_eq_false_iff_eq]; omega
    clear hA hB hn
    go_enter Try.func28, Try.ntmps28
    go_wp2
    go_loopw [5] (fun v wr => ∃ (j : Nat), j ≤ a.length ∧ v = .int .i64 j ∧ Aside0 (∀ i, i < j → gt a i = gt b i) ∧ Aside0 (Below w.heap.size w wr)) (fun v _ => a.length - (intOf v).toNat)
    case atStart => exact ⟨0, by omega, rfl, ⟨by intro i hi; omega⟩, ⟨Below.refl _ _⟩⟩
    case round =>
      obtain ⟨j, hj, rfl, HE, HD⟩ := hrel
      by_cases hlt : j < a.length
      · obtain ⟨ad, rfl, hx⟩ := (HA.out.below HD.out).at_ j hlt
        obtain ⟨ad2, rfl, hy⟩ := (HB.out.below HD.out).at_ j (by have := HN.out; omega)
        have hlt2 : j < b.length := by have := HN.out; omega
        by_cases he : gt a j = gt b j
        · have t2 : ((gt a j : Int) != (gt b j : Int)) = false := by rw [bne_eq_false_iff_eq, he]
          have HE2 := Aside0.mk he
          clear he
          go_wp2
          repeat (go_quiet (fail); try go_wp2)
          go_roundw
          case measure => simp [intOf]; omega
          case rel =>
            refine ⟨j + 1, by omega, by go_num, ⟨?_⟩, ⟨pw_below_drewN HD.out _⟩⟩
            intro i hi
            by_cases h : i < j
            · exact HE.out i h
            · obtain rfl : i = j := by omega
              exact HE2.out
        · have t2 : ((gt a j : Int) != (gt b j : Int)) = true := by rw [bne_iff_ne]; omega
          have hne : Aside0 (a ≠ b) := ⟨fun h => he (by rw [h])⟩
          clear he
          go_wp2
          repeat (go_quiet (fail); try go_wp2)
          go_ret
          exact ⟨by simp [hne.out], pw_below_drewN HD.out _⟩
      · obtain rfl : j = a.length := by omega
        have hae : Aside0 (a = b) := ⟨eq_of_gt HN.out HE.out⟩
        go_wp2
        repeat (go_quiet (fail); try go_wp2)
        go_ret
        exact ⟨by simp [hae.out], HD.out⟩
  · have hne : Aside0 (a ≠ b) := ⟨fun h => hn (by rw [h])⟩
    have t1 : ((a.length : Int) != (b.length : Int)) = true := by rw [bne_iff_ne]; omega
    clear hn
    go_enter Try.func28, Try.ntmps28
    go_wp2
    repeat (go_quiet (fail); try go_wp2)
    go_ret
    exact ⟨by simp [hne.out], Below.refl _ _⟩
theorem C_new {k : IntKind} {w : World} {g : Nat} {cells : Array Value} {e : TypeId} (xs : List Nat) (hb : w.heap[g]? = some (.cells cells e (0, 0))) (hc : cells = (xs.map (fun x : Nat => Value.int k x)).toArray) (hl : xs.length ≤ 9223372036854775807) : (nat k).C w (some ⟨g, 0, none⟩) xs.length xs := by
  refine Kd.C_of_reads (d := 0) ⟨rfl, hl, fun hp => ⟨_, rfl, fun j hj => ?_⟩⟩
  rw [add_plain, blk_cell hb j, hc]
  simp [List.getElem?_eq_getElem hj]
theorem below_new {w w' : World} (blk : Obj) (h : Below (w.alloc blk).heap.size (w.alloc blk) w') : Below w.heap.size w w' := by
  have h0 : Below w.heap.size w (w.alloc blk) := (Below.refl _ _).alloc (Nat.le_refl _) _
  exact h0.trans (h.mono h0.size)
theorem gt_lt_all {l : List Nat} {m : Nat} (hm : 0 < m) (h : l.all (· < m) = true) : ∀ i, gt l i < m := by
  intro i
  unfold gt
  rw [List.getD_eq_getElem?_getD]
  by_cases hi : i < l.length
  · rw [List.getElem?_eq_getElem hi]
    have := (List.all_eq_true.mp h) _ (List.getElem_mem hi)
    simpa using this
  · rw [List.getElem?_eq_none (by omega)]; exact hm
theorem Decode_err (A : Option Addr) (cap : Nat) (b : List Nat) (n : Nat) (w : World) (k : Nat) (hd : dec b n = .err k) (hC : (nat .u8).C w A b.length b) (hcap : b.length ≤ cap) (hl : b.length < 1152921504606846976) (hb8 : ∀ i, gt b i < 256) (hn : n ≤ 65536) :
    Calls Try.prog 27 #[.slice A b.length cap, .int .i64 n] w fun e w' => e = .returned (.tuple #[.slice none 0 0, .int .i64 k]) ∧ Below w.heap.size w w' := by
  refine (Decode_calls A cap b n w hC hcap hl hb8 hn).mono ?_
  intro e w' h
  rw [hd] at h
  exact h
theorem Decode_ok (A : Option Addr) (cap : Nat) (b : List Nat) (n : Nat) (w : World) (l : List Nat) (hd : dec b n = .ok l) (hC : (nat .u8).C w A b.length b) (hcap : b.length ≤ cap) (hl : b.length < 1152921504606846976) (hb8 : ∀ i, gt b i < 256) (hn : n ≤ 65536) :
    Calls Try.prog 27 #[.slice A b.length cap, .int .i64 n] w fun e w' => ∃ v, e = .returned (.tuple #[v, .int .i64 0]) ∧ Kd.R (nat .u32) 23 w' w.heap.size (fun _ => True) v l ∧ Below w.heap.size w w' := by
  refine (Decode_calls A cap b n w hC hcap hl hb8 hn).mono ?_
  intro e w' h
  rw [hd] at h
  obtain ⟨⟨v, h1, h2⟩, h3⟩ := h
  exact ⟨v, h1, h2, h3⟩
theorem ex0 : packed [0] = [0] := by decide +kernel
theorem ex1 : packed [1] = [16] := by decide +kernel
theorem ex2 : packed [2147483648] = [255, 255, 255, 255, 255, 255, 255] := by decide +kernel
theorem ex3 : packed [0, 0] = [0, 0] := by decide +kernel
theorem ex4 : (bitsL [0]).length = 5 := by decide +kernel
theorem ex5 : (bitsL [0, 0]).length = 9 := by decide +kernel
theorem ex6 : dec [1] 1 = .err 170 := by kernel_rfl
theorem ex7 : dec [0] 2 = .err 171 := by kernel_rfl
theorem ex8 : dec [0, 0] 1 = .err 170 := by kernel_rfl
set_option maxHeartbeats 4000000 in
set_option maxRecDepth 100000 in
theorem known_calls (w : World) : Calls Try.prog 10 #[] w fun e w' => e = .returned (.bool true) ∧ Below w.heap.size w w' := by
  go_enter Try.func10, Try.ntmps10
  go_wp2_with (first | (go_at_call 27; have hneed := B8; clear hneed; refine (Decode_err _ _ [0, 0] 1 _ 170 ex8 (C_new [0, 0] (blk_new _ _) rfl (by simp)) (by simp) (by simp) (gt_lt_all (m := 256) (by omega) (by decide)) (by omega)).mono ?_; rintro e w9 ⟨rfl, b9⟩; have O1 := Aside0.mk (O1.out.mono (below_new _ b9) (Nat.le_refl _)); have O2 := Aside0.mk (O2.out.mono (below_new _ b9) (Nat.le_refl _)); have O3 := Aside0.mk (O3.out.mono (below_new _ b9) (Nat.le_refl _)); have O4 := Aside0.mk (O4.out.mono (below_new _ b9) (Nat.le_refl _)); have B9 := Aside0.mk (B8.out.trans ((below_new _ b9).mono B8.out.size)); clear b9) | (go_at_call 27; have hneed := B7; clear hneed; refine (Decode_err _ _ [0] 2 _ 171 ex7 (C_new [0] (blk_new _ _) rfl (by simp)) (by simp) (by simp) (gt_lt_all (m := 256) (by omega) (by decide)) (by omega)).mono ?_; rintro e w8 ⟨rfl, b8⟩; have O1 := Aside0.mk (O1.out.mono (below_new _ b8) (Nat.le_refl _)); have O2 := Aside0.mk (O2.out.mono (below_new _ b8) (Nat.le_refl _)); have O3 := Aside0.mk (O3.out.mono (below_new _ b8) (Nat.le_refl _)); have O4 := Aside0.mk (O4.out.mono (below_new _ b8) (Nat.le_refl _)); have B8 := Aside0.mk (B7.out.trans ((below_new _ b8).mono B7.out.size)); clear b8) | (go_at_call 27; have hneed := B6; clear hneed; refine (Decode_err _ _ [1] 1 _ 170 ex6 (C_new [1] (blk_new _ _) rfl (by simp)) (by simp) (by simp) (gt_lt_all (m := 256) (by omega) (by decide)) (by omega)).mono ?_; rintro e w7 ⟨rfl, b7⟩; have O1 := Aside0.mk (O1.out.mono (below_new _ b7) (Nat.le_refl _)); have O2 := Aside0.mk (O2.out.mono (below_new _ b7) (Nat.le_refl _)); have O3 := Aside0.mk (O3.out.mono (below_new _ b7) (Nat.le_refl _)); have O4 := Aside0.mk (O4.out.mono (below_new _ b7) (Nat.le_refl _)); have B7 := Aside0.mk (B6.out.trans ((below_new _ b7).mono B6.out.size)); clear b7) | (go_at_call 19; have hneed := B5; clear hneed; refine (Cost_calls _ _ [0, 0] _ (C_new [0, 0] (blk_new _ _) rfl (by simp)) (by simp) (gt_lt_all (m := 4294967296) (by omega) (by decide)) (by simp)).mono ?_; rw [ex5]; rintro e w6 ⟨rfl, b6⟩; have O1 := Aside0.mk (O1.out.mono (below_new _ b6) (Nat.le_refl _)); have O2 := Aside0.mk (O2.out.mono (below_new _ b6) (Nat.le_refl _)); have O3 := Aside0.mk (O3.out.mono (below_new _ b6) (Nat.le_refl _)); have O4 := Aside0.mk (O4.out.mono (below_new _ b6) (Nat.le_refl _)); have B6 := Aside0.mk (B5.out.trans ((below_new _ b6).mono B5.out.size)); clear b6) | (go_at_call 19; have hneed := B4; clear hneed; refine (Cost_calls _ _ [0] _ (C_new [0] (blk_new _ _) rfl (by simp)) (by simp) (gt_lt_all (m := 4294967296) (by omega) (by decide)) (by simp)).mono ?_; rw [ex4]; rintro e w5 ⟨rfl, b5⟩; have O1 := Aside0.mk (O1.out.mono (below_new _ b5) (Nat.le_refl _)); have O2 := Aside0.mk (O2.out.mono (below_new _ b5) (Nat.le_refl _)); have O3 := Aside0.mk (O3.out.mono (below_new _ b5) (Nat.le_refl _)); have O4 := Aside0.mk (O4.out.mono (below_new _ b5) (Nat.le_refl _)); have B5 := Aside0.mk (B4.out.trans ((below_new _ b5).mono B4.out.size)); clear b5) | (go_at_call 18; have hneed := B3; clear hneed; refine (Encode_calls _ _ [0, 0] _ (C_new [0, 0] (blk_new _ _) rfl (by simp)) (by simp) (gt_lt_all (m := 4294967296) (by omega) (by decide)) (by simp)).mono ?_; rw [ex3]; rintro e w4 ⟨v4, rfl, h4, b4⟩; have O1 := Aside0.mk (O1.out.mono (below_new _ b4) (Nat.le_refl _)); have O2 := Aside0.mk (O2.out.mono (below_new _ b4) (Nat.le_refl _)); have O3 := Aside0.mk (O3.out.mono (below_new _ b4) (Nat.le_refl _)); have O4 := Aside0.mk h4; have B4 := Aside0.mk (B3.out.trans ((below_new _ b4).mono B3.out.size)); clear h4 b4) | (go_at_call 18; have hneed := B2; clear hneed; refine (Encode_calls _ _ [2147483648] _ (C_new [2147483648] (blk_new _ _) rfl (by simp)) (by simp) (gt_lt_all (m := 4294967296) (by omega) (by decide)) (by simp)).mono ?_; rw [ex2]; rintro e w3 ⟨v3, rfl, h3, b3⟩; have O1 := Aside0.mk (O1.out.mono (below_new _ b3) (Nat.le_refl _)); have O2 := Aside0.mk (O2.out.mono (below_new _ b3) (Nat.le_refl _)); have O3 := Aside0.mk h3; have B3 := Aside0.mk (B2.out.trans ((below_new _ b3).mono B2.out.size)); clear h3 b3) | (go_at_call 18; have hneed := B1; clear hneed; refine (Encode_calls _ _ [1] _ (C_new [1] (blk_new _ _) rfl (by simp)) (by simp) (gt_lt_all (m := 4294967296) (by omega) (by decide)) (by simp)).mono ?_; rw [ex1]; rintro e w2 ⟨v2, rfl, h2, b2⟩; have O1 := Aside0.mk (O1.out.mono (below_new _ b2) (Nat.le_refl _)); have O2 := Aside0.mk h2; have B2 := Aside0.mk (B1.out.trans ((below_new _ b2).mono B1.out.size)); clear h2 b2) | (go_at_call 18; refine (Encode_calls _ _ [0] _ (C_new [0] (blk_new _ _) rfl (by simp)) (by simp) (gt_lt_all (m := 4294967296) (by omega) (by decide)) (by simp)).mono ?_; rw [ex0]; rintro e w1 ⟨v1, rfl, h1, b1⟩; have O1 := Aside0.mk h1; have B1 := Aside0.mk (below_new _ b1); clear h1 b1) | (go_at_call 20; refine (num_calls _ _).mono ?_; rintro e wn ⟨rfl, rfl⟩))
  obtain ⟨A1, c1, rfl, k1, C1⟩ := O1.out.C
  obtain ⟨A2, c2, rfl, k2, C2⟩ := O2.out.C
  obtain ⟨A3, c3, rfl, k3, C3⟩ := O3.out.C
  obtain ⟨A4, c4, rfl, k4, C4⟩ := O4.out.C
  have C1 := Aside0.mk C1
  have C2 := Aside0.mk C2
  have C3 := Aside0.mk C3
  have C4 := Aside0.mk C4
  clear O1 O2 O3 O4
  refine (bytes_calls _ _ _ _ [0] [0] _ (Kd.C_below C1.out ((Below.refl _ _).alloc (Nat.le_refl _) _)) (C_new [0] (blk_new _ _) rfl (by simp)) (by simpa using k1) (by simp) (by simp)).mono ?_; rw [decide_eq_true rfl]; rintro e w10 ⟨rfl, b10⟩; have C2 := Aside0.mk (Kd.C_below C2.out (below_new _ b10)); have C3 := Aside0.mk (Kd.C_below C3.out (below_new _ b10)); have C4 := Aside0.mk (Kd.C_below C4.out (below_new _ b10)); have B10 := Aside0.mk (B9.out.trans ((below_new _ b10).mono B9.out.size)); clear b10
  go_wp2_with (first | (go_at_call 21; have hneed := B12; clear hneed; refine (bytes_calls _ _ _ _ [0, 0] [0, 0] _ (Kd.C_below C4.out ((Below.refl _ _).alloc (Nat.le_refl _) _)) (C_new [0, 0] (blk_new _ _) rfl (by simp)) (by simpa using k4) (by simp) (by simp)).mono ?_; rw [decide_eq_true rfl]; rintro e w13 ⟨rfl, b13⟩; have B13 := Aside0.mk (B12.out.trans ((below_new _ b13).mono B12.out.size)); clear b13) | (go_at_call 21; have hneed := B11; clear hneed; refine (bytes_calls _ _ _ _ [255, 255, 255, 255, 255, 255, 255] [255, 255, 255, 255, 255, 255, 255] _ (Kd.C_below C3.out ((Below.refl _ _).alloc (Nat.le_refl _) _)) (C_new [255, 255, 255, 255, 255, 255, 255] (blk_new _ _) rfl (by simp)) (by simpa using k3) (by simp) (by simp)).mono ?_; rw [decide_eq_true rfl]; rintro e w12 ⟨rfl, b12⟩; have C4 := Aside0.mk (Kd.C_below C4.out (below_new _ b12)); have B12 := Aside0.mk (B11.out.trans ((below_new _ b12).mono B11.out.size)); clear b12) | (go_at_call 21; have hneed := B10; clear hneed; refine (bytes_calls _ _ _ _ [16] [16] _ (Kd.C_below C2.out ((Below.refl _ _).alloc (Nat.le_refl _) _)) (C_new [16] (blk_new _ _) rfl (by simp)) (by simpa using k2) (by simp) (by simp)).mono ?_; rw [decide_eq_true rfl]; rintro e w11 ⟨rfl, b11⟩; have C3 := Aside0.mk (Kd.C_below C3.out (below_new _ b11)); have C4 := Aside0.mk (Kd.C_below C4.out (below_new _ b11)); have B11 := Aside0.mk (B10.out.trans ((below_new _ b11).mono B10.out.size)); clear b11))
  go_ret
  exact ⟨rfl, B13.out⟩
end Go.Proofs.Ytpmmnjpimnapfaa.A
