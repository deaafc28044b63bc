import Derived.Test.YtpmmnjpimnapfaaA2
set_option linter.unusedVariables false
set_option linter.unusedSimpArgs false
namespace Go.Proofs.Ytpmmnjpimnapfaa.A
open Go.RowKit Go.Proofs.YtpmmnjpimnapfaaW.PrintWords Go.Proofs.YtpmmnjpimnapfaaW.PrintLast Go.Proofs.YtpmmnjpimnapfaaW.PrintMore

theorem kFrom_le (s c : Nat) : ∀ d k, kFrom s c d k ≤ k + d := by
  intro d
  induction d with
  | zero => intro k; exact Nat.le_refl _
  | succ d ih => intro k; unfold kFrom; split
                 · have := ih (k + 1); omega
                 · omega
theorem kOf_le (s c : Nat) : kOf s c ≤ 31 := by have := kFrom_le s c 31 0; simpa [kOf] using this
theorem codeBits_length (z k : Nat) (hk : k ≤ 31) : (codeBits z k).length ≤ 56 ∧ 1 ≤ (codeBits z k).length := by
  unfold codeBits
  split
  · rename_i h
    generalize z / 2 ^ k = q at *
    simp [lowBits_length]; omega
  · simp [lowBits_length]
theorem WX.learn {w w1 : World} {g B s c s' c' : Nat} {bs : List Nat} {n : Nat} {v : Value} (h : WX w g B s c bs n) (hb : w.heap[g]? = some (.cells #[.int .u64 s, .int .u64 c, v, .int .i64 n] 78 (0, 0)))
    (hb1 : w1.heap[g]? = some (.cells #[.int .u64 s', .int .u64 c', v, .int .i64 n] 78 (0, 0))) (hg : w.grownBy w1 (some g)) (hR : Kd.R (nat .u8) 5 w B (fun _ => True) v bs) : WX w1 g B s' c' bs n :=
  ⟨⟨h.1.1, v, hb1, Kd.R_mono (Kd.R_grown (Kd.R_types hR hb (by decide)) hg (fun k hk he => hk.2 (by injection he))) (fun _ _ => trivial)⟩, h.2⟩
theorem below_of_grown {w w1 : World} {B g : Nat} (hg : w.grownBy w1 (some g)) (hB : B ≤ g) (hs : B ≤ w.heap.size) : Below B w w1 :=
  ⟨hg.os, hg.tape, hg.output, hg.size, fun k hk => hg.block k (by omega) (by intro e; injection e; omega)⟩
theorem WX.lt {w : World} {g B s c : Nat} {bs : List Nat} {n : Nat} (h : WX w g B s c bs n) : g < w.heap.size := by obtain ⟨⟨_, v, hb, _⟩, _⟩ := h; exact blk_lt hb

/-- learning, for the writer -/
theorem wlearnX {g B s c : Nat} {bs : List Nat} {n : Nat} (z : Nat) {w : World} (h : WX w g B s c bs n) (hs : s < 1152921504606846976) (hc : c < 64) (hz : z < 4294967296) :
    Calls Try.prog 47 #[.pointer (some ⟨g, 0, none⟩), .int .u32 z] w fun e w' => e = .returned (.tuple #[]) ∧ WX w' g B (nextS s c z) (nextC c) bs n ∧ Below B w w' := by
  obtain ⟨⟨hg, v, hb, hR⟩, hG⟩ := h
  exact (wlearn g s c z 78 [v, .int .i64 n] w hb hs hc hz).mono fun e w' ⟨h1, h2, h3⟩ => ⟨h1, WX.learn ⟨⟨hg, v, hb, hR⟩, hG⟩ hb h2 h3 hR, below_of_grown h3 hg (by have := blk_lt hb; omega)⟩
theorem wkX {g B s c : Nat} {bs : List Nat} {n : Nat} {w : World} (h : WX w g B s c bs n) (hc : c < 64) :
    Calls Try.prog 44 #[.pointer (some ⟨g, 0, none⟩)] w fun e w' => e = .returned (.int .i64 (kOf s c)) ∧ WX w' g B s c bs n ∧ Below B w w' := by
  obtain ⟨⟨hg, v, hb, hR⟩, hG⟩ := h
  refine (k_calls g s c w ((blk_cell hb 0).trans rfl) ((blk_cell hb 1).trans rfl) (by omega)).mono fun e w' ⟨h1, h2⟩ => ⟨h1, ?_⟩
  obtain ⟨m, rfl⟩ := h2.out
  exact ⟨⟨⟨hg, v, hb, hR⟩, hG⟩, pw_below_drewN (Below.refl B w) m⟩

set_option maxHeartbeats 2000000 in
theorem wnumber {g B s c : Nat} {bs : List Nat} {n : Nat} (z : Nat) {w : World} (h : WX w g B s c bs n) (hs : s < 1152921504606846976) (hc : c < 64) (hz : z < 4294967296) (hn : n < 1099000000000) :
    Calls Try.prog 43 #[.pointer (some ⟨g, 0, none⟩), .int .u32 z] w fun e w' => e = .returned (.tuple #[]) ∧ WX w' g B (nextS s c z) (nextC c) (putAll bs n (codeBits z (kOf s c))) (n + (codeBits z (kOf s c)).length) ∧ Below B w w' := by
  have H := Aside0.mk h
  clear h
  have hk := kOf_le s c
  obtain ⟨k, hkk⟩ : ∃ k, k = kOf s c := ⟨_, rfl⟩
  have HK := Aside0.mk hkk
  rw [← hkk] at hk
  clear hkk
  obtain ⟨q, hqe⟩ : ∃ q, q = z / 2 ^ k := ⟨_, rfl⟩
  have hq : q < 4294967296 := by rw [hqe]; exact Nat.lt_of_le_of_lt (Nat.div_le_self _ _) hz
  have hw : wrap64 ((z : Int) / 2 ^ k) = (q : Int) := by
    have h1 : ((z : Int) / 2 ^ k) = (q : Int) := by rw [hqe]; simp
    rw [h1]; unfold wrap64; omega
  have HQ := Aside0.mk hqe
  clear hqe
  by_cases h24 : q < 24
  · have HC : Aside0 (codeBits z k = List.replicate q 1 ++ (0 :: lowBits z k)) := ⟨by unfold codeBits; rw [← HQ.out, if_pos h24]⟩
    have t1 : decide ((q : Int) < 24) = true := decide_eq_true (by omega)
    go_enter Try.func43, Try.ntmps43
    go_wp2_with (first | (go_at_call 44; refine (wkX H.out hc).mono ?_; rw [← HK.out]; rintro e w1 ⟨rfl, h1, b1⟩; have H1 := Aside0.mk h1; have B1 := Aside0.mk b1; clear h1 b1) | (go_at_call 49; refine (wones q H1.out (by omega) (by omega)).mono ?_; rintro e w2 ⟨rfl, h2, b2⟩; have H2 := Aside0.mk h2; have B2 := Aside0.mk (B1.out.trans b2); clear h2 b2) | (go_at_call 50; refine (wbitX 0 H2.out (by omega) (by omega)).mono ?_; rintro e w3 ⟨rfl, h3, b3⟩; have H3 := Aside0.mk h3; have B3 := Aside0.mk (B2.out.trans b3); clear h3 b3) | (go_at_call 51; refine (wlow z k H3.out hz (by omega) (by omega)).mono ?_; rintro e w4 ⟨rfl, h4, b4⟩; have H4 := Aside0.mk h4; have B4 := Aside0.mk (B3.out.trans b4); clear h4 b4) | (go_at_call 47; refine (wlearnX z H4.out hs hc hz).mono ?_; rintro e w5 ⟨rfl, h5, b5⟩; have H5 := Aside0.mk h5; have B5 := Aside0.mk (B4.out.trans b5); clear h5 b5))
  
    go_end0
    refine ⟨rfl, ?_, B5.out⟩
    rw [← HK.out, HC.out, putAll_append]
    have h6 := H5.out
    simp only [List.length_append, List.length_replicate, List.length_cons, lowBits_length, putAll]
    rwa [show n + (q + (k + 1)) = n + q + 1 + k from by omega]
  · have HC : Aside0 (codeBits z k = List.replicate 24 1 ++ lowBits z 32) := ⟨by unfold codeBits; rw [← HQ.out, if_neg h24]⟩
    have t1 : decide ((q : Int) < 24) = false := decide_eq_false (by omega)
    go_enter Try.func43, Try.ntmps43
    go_wp2_with (first | (go_at_call 44; refine (wkX H.out hc).mono ?_; rw [← HK.out]; rintro e w1 ⟨rfl, h1, b1⟩; have H1 := Aside0.mk h1; have B1 := Aside0.mk b1; clear h1 b1) | (go_at_call 49; refine (wones 24 H1.out (by omega) (by omega)).mono ?_; rintro e w2 ⟨rfl, h2, b2⟩; have H2 := Aside0.mk h2; have B2 := Aside0.mk (B1.out.trans b2); clear h2 b2) | (go_at_call 51; refine (wlow z 32 H2.out hz (by omega) (by omega)).mono ?_; rintro e w4 ⟨rfl, h4, b4⟩; have H4 := Aside0.mk h4; have B4 := Aside0.mk (B2.out.trans b4); clear h4 b4) | (go_at_call 47; refine (wlearnX z H4.out hs hc hz).mono ?_; rintro e w5 ⟨rfl, h5, b5⟩; have H5 := Aside0.mk h5; have B5 := Aside0.mk (B4.out.trans b5); clear h5 b5))
  
    go_end0
    refine ⟨rfl, ?_, B5.out⟩
    rw [← HK.out, HC.out, putAll_append]
    have h6 := H5.out
    simp only [List.length_append, List.length_replicate, lowBits_length]
    rwa [show n + (24 + 32) = n + 24 + 32 from by omega]
end Go.Proofs.Ytpmmnjpimnapfaa.A
