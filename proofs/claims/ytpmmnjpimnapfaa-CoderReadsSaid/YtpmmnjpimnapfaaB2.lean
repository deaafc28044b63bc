import Derived.Test.YtpmmnjpimnapfaaB1
set_option linter.unusedVariables false
set_option linter.unusedSimpArgs false
namespace Go.Proofs.Ytpmmnjpimnapfaa.A
open Go.RowKit Go.Proofs.YtpmmnjpimnapfaaW.PrintWords Go.Proofs.YtpmmnjpimnapfaaW.PrintLast Go.Proofs.YtpmmnjpimnapfaaW.PrintMore

theorem par_lt (l : List Nat) : ∀ i, gt (par l) i < 256 := by
  intro i
  unfold gt par
  rw [List.getD_eq_getElem?_getD, List.getElem?_map]
  cases l[i]? with
  | none => simp
  | some x => simp; omega
theorem stepsBits_length (l : List Nat) : ∀ s c, (stepsBits l s c).length ≤ 56 * l.length := by
  induction l with
  | nil => intro s c; simp [stepsBits]
  | cons d l ih =>
    intro s c
    have h1 := codeBits_length (fold d) (kOf s c) (kOf_le s c)
    have h2 := ih (nextS s c (fold d)) (nextC c)
    simp only [stepsBits, List.length_append, List.length_cons]
    omega
set_option maxHeartbeats 4000000 in
set_option maxRecDepth 100000 in
theorem rbits_calls (A : Option Addr) (cap : Nat) (l : List Nat) (w : World) (hC : (nat .u32).C w A l.length l) (hcap : l.length ≤ cap) (hl : ∀ i, gt l i < 4294967296) (hn : l.length ≤ 65536) :
    Calls Try.prog 31 #[.slice A l.length cap] w fun e w' => ∃ v, e = .returned v ∧ Kd.R (nat .u8) 5 w' w.heap.size (fun _ => True) v (par (bitsL l)) ∧ Below w.heap.size w w' := by
  have HC := Aside0.mk hC
  clear hC
  go_enter Try.func31, Try.ntmps31
  go_wp2_with (go_at_call 32; refine (rbegin_calls _).mono ?_; rintro e w1 ⟨rfl, b1⟩; have B1 := Aside0.mk b1; clear b1)
  go_loopw [3, 5] (fun u v wr => ∃ (j s c : Nat) (bs : List Nat), j ≤ l.length ∧ v = .int .i64 j ∧ s ≤ 16 + j * 4294967296 ∧ c < 64 ∧ bs.length ≤ 56 * j ∧ Aside0 (wr.heap[w1.heap.size]? = some (.cells #[.int .i64 s, .int .i64 c] 66 (0, 0))) ∧ Aside0 (Kd.R (nat .u8) 5 wr w.heap.size (fun _ => True) u bs) ∧ Aside0 (bs ++ par (stepsBits (l.drop j) s c) = par (bitsL l)) ∧ Aside0 (Below w.heap.size w wr)) (fun _ v _ => l.length - (intOf v).toNat)
  case atStart => exact ⟨0, 16, 1, [], by omega, rfl, by omega, by omega, by simp, ⟨blk_new w1 _⟩, ⟨Kd.R_nil _ _ _ _ _⟩, ⟨rfl⟩, ⟨B1.out.alloc B1.out.size _⟩⟩
  case round =>
    obtain ⟨j, s, c, bs, hj, rfl, hs, hc, hbl, HE, HA, HP, HB⟩ := hrel
    by_cases hlt : j < l.length
    · obtain ⟨ad, rfl, hx⟩ := C_nat (Kd.C_below HC.out HB.out) j hlt
      have hd := hl j
      have hf := fold_lt hd
      obtain ⟨z, hz⟩ : ∃ z, z = fold (gt l j) := ⟨_, rfl⟩
      have HZ := Aside0.mk hz
      rw [← hz] at hf
      obtain ⟨k, hk⟩ : ∃ k, k = kOf s c := ⟨_, rfl⟩
      have hkl := kOf_le s c
      rw [← hk] at hkl
      have HK := Aside0.mk hk
      have hsb : s < 1152921504606846976 := by omega
      clear hz hk
      have hs' : wr.cell? ⟨w1.heap.size, 0, none⟩ = some (.int .i64 s) := (blk_cell HE.out 0).trans rfl
      have hc' : wr.cell? ⟨w1.heap.size, 1, none⟩ = some (.int .i64 c) := (blk_cell HE.out 1).trans rfl
      go_wp2_with (first | (go_at_call 12; refine (rFold_calls _ _ hd).mono ?_; rw [← HZ.out]; rintro e w2 ⟨rfl, rfl⟩) | (go_at_call 34; refine (rk_calls s c _ (by omega)).mono ?_; rw [← HK.out]; rintro e w3 ⟨rfl, b3⟩; have B3 := Aside0.mk b3; clear b3) | (go_at_call 33; refine (rcode_calls z k _ hf hkl).mono ?_; rintro e w4 ⟨v4, rfl, r4, b4⟩; obtain ⟨A4, c4, rfl, hc4, hC4⟩ := Kd.R_reads r4; have C4 := Aside0.mk hC4; have hl4 : (par (codeBits z k)).length ≤ 56 := (by rw [par_length]; exact (codeBits_length z k hkl).1); have B4 := Aside0.mk (below_then (HB.out.trans (B3.out.mono HB.out.size)) (Nat.le_trans HB.out.size B3.out.size) b4); have R4 := Aside0.mk (Kd.R_below (Kd.R_below HA.out B3.out) b4); have E4 := Aside0.mk (blk_below (blk_below HE.out B3.out) b4); clear r4 b4 hC4) | ((with_reducible refine gate_builtin (b := .append) (xs := #[.tmp 20, .tmp 24]) rfl ?_); at_builtin; refine Kd.R_append_row (fun x : Nat => Value.int .u8 x) (0 : Nat) (h1 := fun _ => rfl) (w0 := w) w.heap.size rfl (.tmp 20) (.tmp 24) 40 5 (.int .u8 0) 1 rfl Try.underlying40 info5 rfl (by omega) u3 bs (par (codeBits z k)) A4 _ c4 (fun _ => True) rfl rfl (fun _ _ => trivial) R4.out C4.out B4.out B4.out.size ?aL ?_; (case aL => omega); intro v5 w5 hR1 hB1 hg1 hat1; have R5 := Aside0.mk hR1; have B5 := Aside0.mk hB1; clear hR1 hB1 hat1; have E5 := Aside0.mk (blk_grown E4.out hg1 (Kd.R_ne R4.out E4.out (by decide))); clear hg1; have hs5 : w5.cell? ⟨_, 0, none⟩ = some (.int .i64 s) := (blk_cell E5.out 0).trans rfl; have hc5 : w5.cell? ⟨_, 1, none⟩ = some (.int .i64 c) := (blk_cell E5.out 1).trans rfl; have f50 := blk_frozen E5.out 0; have f51 := blk_frozen E5.out 1) | (go_at_call 35; refine (rnext_calls s c z _ hsb hc hf).mono ?_; rintro e w6 ⟨rfl, b6⟩; have E6 := Aside0.mk (blk_below E5.out b6); have R6 := Aside0.mk (Kd.R_below R5.out b6); have B6 := Aside0.mk (below_then B5.out B5.out.size b6); clear b6; have hs6 : w6.cell? ⟨_, 0, none⟩ = some (.int .i64 s) := (blk_cell E6.out 0).trans rfl; have hc6 : w6.cell? ⟨_, 1, none⟩ = some (.int .i64 c) := (blk_cell E6.out 1).trans rfl; have f60 := blk_frozen E6.out 0; have f61 := blk_frozen E6.out 1))
      have hst : par (stepsBits (l.drop j) s c) = par (codeBits z k) ++ par (stepsBits (l.drop (j + 1)) (nextS s c z) (nextC c)) := by rw [drop_gt hlt, stepsBits, par_append, HZ.out, HK.out]
      refine ⟨⟨j + 1, nextS s c z, nextC c, _, by omega, by go_num, nextS_le (by omega), nextC_lt hc, ?_, ⟨(blk_set (blk_set E6.out 0 _) 1 _).trans rfl⟩, ⟨Kd.R_set (Kd.R_set R6.out E6.out (by decide) 0 _) (blk_set E6.out 0 _) (by decide) 1 _⟩, ⟨?_⟩, ⟨(B6.out.setCell (p := ⟨_, 0, none⟩) B1.out.size _).setCell (p := ⟨_, 1, none⟩) B1.out.size _⟩⟩, by simp [intOf]; omega⟩
      · rw [List.length_append]; omega
      · rw [← HP.out, hst]; simp
    · obtain rfl : j = l.length := by omega
      have hP := HP.out
      rw [List.drop_length] at hP
      have HP := Aside0.mk hP
      clear hP
      go_wp2
      go_ret
      refine ⟨_, rfl, ?_, HB.out⟩
      rw [← HP.out]
      simpa [stepsBits, par] using HA.out
set_option maxHeartbeats 4000000 in
set_option maxRecDepth 100000 in
theorem rCost_calls (A : Option Addr) (cap : Nat) (l : List Nat) (w : World) (hC : (nat .u32).C w A l.length l) (hcap : l.length ≤ cap) (hl : ∀ i, gt l i < 4294967296) (hn : l.length ≤ 65536) :
    Calls Try.prog 17 #[.slice A l.length cap] w fun e w' => e = .returned (.tuple #[.int .i64 (bitsL l).length, .int .i64 0]) ∧ Below w.heap.size w w' := by
  have HC := Aside0.mk hC
  clear hC
  have t1 : decide (65536 < l.length) = false := decide_eq_false (by omega)
  go_enter Try.func17, Try.ntmps17
  go_wp2_with (go_at_call 32; refine (rbegin_calls _).mono ?_; rintro e w1 ⟨rfl, b1⟩; have B1 := Aside0.mk b1; clear b1)
  go_loopw [4, 6] (fun u v wr => ∃ (j s c n : Nat), j ≤ l.length ∧ v = .int .i64 j ∧ u = .int .i64 n ∧ s ≤ 16 + j * 4294967296 ∧ c < 64 ∧ n ≤ 56 * j ∧ Aside0 (wr.heap[w1.heap.size]? = some (.cells #[.int .i64 s, .int .i64 c] 66 (0, 0))) ∧ Aside0 (n + (stepsBits (l.drop j) s c).length = (bitsL l).length) ∧ Aside0 (Below w.heap.size w wr)) (fun _ v _ => l.length - (intOf v).toNat)
  case atStart => exact ⟨0, 16, 1, 0, by omega, rfl, rfl, by omega, by omega, by simp, ⟨blk_new w1 _⟩, ⟨by simp [bitsL]⟩, ⟨B1.out.alloc B1.out.size _⟩⟩
  case round =>
    obtain ⟨j, s, c, n, hj, rfl, rfl, hs, hc, hbl, HE, HP, HB⟩ := hrel
    by_cases hlt : j < l.length
    · obtain ⟨ad, rfl, hx⟩ := C_nat (Kd.C_below HC.out HB.out) j hlt
      have hd := hl j
      have hf := fold_lt hd
      obtain ⟨z, hz⟩ : ∃ z, z = fold (gt l j) := ⟨_, rfl⟩
      have HZ := Aside0.mk hz
      rw [← hz] at hf
      obtain ⟨k, hk⟩ : ∃ k, k = kOf s c := ⟨_, rfl⟩
      have hkl := kOf_le s c
      rw [← hk] at hkl
      have HK := Aside0.mk hk
      have hsb : s < 1152921504606846976 := by omega
      have hcl := codeBits_length z k hkl
      obtain ⟨m, hm⟩ : ∃ m, m = (codeBits z k).length := ⟨_, rfl⟩
      rw [← hm] at hcl
      have HM := Aside0.mk hm
      clear hz hk hm
      have hs' : wr.cell? ⟨w1.heap.size, 0, none⟩ = some (.int .i64 s) := (blk_cell HE.out 0).trans rfl
      have hc' : wr.cell? ⟨w1.heap.size, 1, none⟩ = some (.int .i64 c) := (blk_cell HE.out 1).trans rfl
      go_wp2_with (first | (go_at_call 12; refine (rFold_calls _ _ hd).mono ?_; rw [← HZ.out]; rintro e w2 ⟨rfl, rfl⟩) | (go_at_call 34; refine (rk_calls s c _ (by omega)).mono ?_; rw [← HK.out]; rintro e w3 ⟨rfl, b3⟩; have B3 := Aside0.mk b3; clear b3) | (go_at_call 33; refine (rcode_calls z k _ hf hkl).mono ?_; rintro e w4 ⟨v4, rfl, r4, b4⟩; obtain ⟨A4, c4, rfl, hc4, hC4⟩ := Kd.R_reads r4; rw [par_length, ← HM.out]; have B4 := Aside0.mk (below_then (HB.out.trans (B3.out.mono HB.out.size)) (Nat.le_trans HB.out.size B3.out.size) b4); have E4 := Aside0.mk (blk_below (blk_below HE.out B3.out) b4); clear r4 b4 hC4; have hs5 : w4.cell? ⟨_, 0, none⟩ = some (.int .i64 s) := (blk_cell E4.out 0).trans rfl; have hc5 : w4.cell? ⟨_, 1, none⟩ = some (.int .i64 c) := (blk_cell E4.out 1).trans rfl; have f50 := blk_frozen E4.out 0; have f51 := blk_frozen E4.out 1) | (go_at_call 35; refine (rnext_calls s c z _ hsb hc hf).mono ?_; rintro e w6 ⟨rfl, b6⟩; have E6 := Aside0.mk (blk_below E4.out b6); have B6 := Aside0.mk (below_then B4.out B4.out.size b6); clear b6; have hs6 : w6.cell? ⟨_, 0, none⟩ = some (.int .i64 s) := (blk_cell E6.out 0).trans rfl; have hc6 : w6.cell? ⟨_, 1, none⟩ = some (.int .i64 c) := (blk_cell E6.out 1).trans rfl; have f60 := blk_frozen E6.out 0; have f61 := blk_frozen E6.out 1))
      have hst : (stepsBits (l.drop j) s c).length = m + (stepsBits (l.drop (j + 1)) (nextS s c z) (nextC c)).length := by rw [drop_gt hlt, stepsBits, List.length_append, HM.out, HZ.out, HK.out]
      refine ⟨⟨j + 1, nextS s c z, nextC c, n + m, by omega, by go_num, by go_num, nextS_le (by omega), nextC_lt hc, by omega, ⟨(blk_set (blk_set E6.out 0 _) 1 _).trans rfl⟩, ⟨by rw [← HP.out, hst]; omega⟩, ⟨(B6.out.setCell (p := ⟨_, 0, none⟩) B1.out.size _).setCell (p := ⟨_, 1, none⟩) B1.out.size _⟩⟩, by simp [intOf]; omega⟩
    · obtain rfl : j = l.length := by omega
      have hP := HP.out
      rw [List.drop_length] at hP
      have HP := Aside0.mk hP
      clear hP
      go_wp2
      go_ret2
      refine ⟨?_, HB.out⟩
      rw [← HP.out]
      simp [stepsBits]
theorem rCost_many (A : Option Addr) (cap : Nat) (l : List Nat) (w : World) (hn : 65536 < l.length) :
    Calls Try.prog 17 #[.slice A l.length cap] w fun e w' => e = .returned (.tuple #[.int .i64 0, .int .i64 172]) ∧ w = w' := by
  have t1 : decide (65536 < l.length) = true := decide_eq_true hn
  go_enter Try.func17, Try.ntmps17
  go_wp2
  go_ret2
  exact ⟨rfl, rfl⟩
theorem rEncode_many (A : Option Addr) (cap : Nat) (l : List Nat) (w : World) (hn : 65536 < l.length) :
    Calls Try.prog 16 #[.slice A l.length cap] w fun e w' => e = .returned (.tuple #[.slice none 0 0, .int .i64 172]) ∧ w = w' := by
  have t1 : decide (65536 < l.length) = true := decide_eq_true hn
  go_enter Try.func16, Try.ntmps16
  go_wp2
  go_ret2
  exact ⟨rfl, rfl⟩
end Go.Proofs.Ytpmmnjpimnapfaa.A
