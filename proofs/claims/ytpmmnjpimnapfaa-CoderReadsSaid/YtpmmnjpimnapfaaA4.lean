import Derived.Test.YtpmmnjpimnapfaaA3
set_option linter.unusedVariables false
set_option linter.unusedSimpArgs false
namespace Go.Proofs.Ytpmmnjpimnapfaa.A
open Go.RowKit Go.Proofs.YtpmmnjpimnapfaaW.PrintWords Go.Proofs.YtpmmnjpimnapfaaW.PrintLast Go.Proofs.YtpmmnjpimnapfaaW.PrintMore

def fold (d : Nat) : Nat := if d < 2147483648 then 2 * d else 2 * (4294967296 - d) - 1
theorem fold_lt {d : Nat} (h : d < 4294967296) : fold d < 4294967296 := by unfold fold; split <;> omega
def stepsBits : List Nat → Nat → Nat → List Nat
  | [], _, _ => []
  | d :: l, s, c => codeBits (fold d) (kOf s c) ++ stepsBits l (nextS s c (fold d)) (nextC c)
def bitsL (l : List Nat) : List Nat := stepsBits l 16 1

theorem drop_gt {l : List Nat} {j : Nat} (h : j < l.length) : l.drop j = gt l j :: l.drop (j + 1) := by
  rw [List.drop_eq_getElem_cons h]; simp [gt, List.getElem?_eq_getElem h]
theorem nextS_le {s c z m : Nat} (h : s + z ≤ m) : nextS s c z ≤ m := by unfold nextS; split <;> omega
theorem nextC_lt {c : Nat} (h : c < 64) : nextC c < 64 := by unfold nextC; split <;> omega
theorem C_nat {k : IntKind} {w : World} {A : Option Addr} {n : Nat} {xs : List Nat} (h : (nat k).C w A n xs) (i : Nat) (hi : i < n) : ∃ ad, A = some ad ∧ w.cell? (ad.add i) = some (.int k (gt xs i)) := by
  obtain ⟨ad, c, hA, hl, hK, hc⟩ := Kd.C_get h 0 i (by omega) (by omega)
  refine ⟨ad, hA, ?_⟩
  have hK' : c = [.int k (gt xs i)] := hK
  have := hc 0 _ (by rw [hK']; rfl)
  simpa [nat, Kd.scalar] using this

theorem xor_ones (x : Nat) (h : x < 4294967296) : x ^^^ 4294967295 = 4294967295 - x := by
  have h1 : (BitVec.ofNat 32 x ^^^ BitVec.allOnes 32).toNat = x ^^^ 4294967295 := by
    rw [BitVec.toNat_xor, BitVec.toNat_ofNat, Nat.mod_eq_of_lt (by omega)]; rfl
  rw [← h1, BitVec.xor_allOnes, BitVec.toNat_not, BitVec.toNat_ofNat, Nat.mod_eq_of_lt (by omega)]
theorem ret_nat {k : IntKind} {a b : Nat} (h : a = b) : Ending.returned (.int k (a : Int)) = .returned (.int k (b : Int)) := by rw [h]
theorem ret_int {k : IntKind} {a b : Int} (h : a = b) : Ending.returned (.int k a) = .returned (.int k b) := by rw [h]
theorem fold_calls (d : Nat) (w : World) (h : d < 4294967296) : Calls Try.prog 11 #[.int .u32 d] w fun e w' => e = .returned (.int .u32 (fold d)) ∧ w = w' := by
  by_cases h1 : d < 2147483648
  · have e : wrap32 (d : Int) = (d : Int) := by unfold wrap32; omega
    go_enter Try.func11, Try.ntmps11
    go_wp2
    go_ret
    refine ⟨ret_int ?_, rfl⟩
    have h3 := u32_xor_nat (d * 2) 0 (by omega) (by omega)
    rw [show ((d : Int) / 2147483648) = ((0 : Nat) : Int) from by omega, show ((d : Int) * 2) = ((d * 2 : Nat) : Int) from by omega, h3]
    unfold fold; rw [if_pos h1]; simp; omega
  · have e : wrap32 (d : Int) = (d : Int) - 4294967296 := by unfold wrap32; omega
    go_enter Try.func11, Try.ntmps11
    go_wp2
    go_ret
    refine ⟨ret_int ?_, rfl⟩
    have h3 := u32_xor_nat (2 * d - 4294967296) 4294967295 (by omega) (by omega)
    rw [show (((d : Int) - 4294967296) / 2147483648 % 4294967296) = ((4294967295 : Nat) : Int) from by omega, show ((d : Int) * 2 % 4294967296) = ((2 * d - 4294967296 : Nat) : Int) from by omega, h3, xor_ones _ (by omega)]
    unfold fold; rw [if_neg h1]; omega
theorem begins_calls (w : World) : Calls Try.prog 40 #[] w fun e w' => e = .returned (.agg #[.int .u64 16, .int .u64 1]) ∧ Below w.heap.size w w' := by
  go_enter Try.func40, Try.ntmps40
  go_wp2
  exact bodyPost_ret (v := .agg #[.int .u64 16, .int .u64 1]) (by simp [results, Try.results40, go_sem]) rfl ⟨rfl, (Below.refl _ _).alloc (Nat.le_refl _) _⟩
set_option maxHeartbeats 2000000 in
theorem writes_calls (A : Option Addr) (cap : Nat) (l : List Nat) (w : World) (hC : (nat .u32).C w A l.length l) (hcap : l.length ≤ cap) (hl : ∀ i, gt l i < 4294967296) (hn : l.length ≤ 65536) :
    Calls Try.prog 36 #[.slice A l.length cap] w fun e w' => ∃ g s c, e = .returned (.tuple #[.pointer (some ⟨g, 0, none⟩), .int .i64 0]) ∧ WX w' g w.heap.size s c (putAll [] 0 (bitsL l)) (bitsL l).length ∧ Below w.heap.size w w' := by
  have HC := Aside0.mk hC
  clear hC
  have t1 : decide (65536 < l.length) = false := decide_eq_false (by omega)
  go_enter Try.func36, Try.ntmps36
  go_wp2_with (go_at_call 40; refine (begins_calls _).mono ?_; rintro e w1 ⟨rfl, b1⟩; have B1 := Aside0.mk b1; clear b1)
  go_loopw [18] (fun v wr => ∃ (j s c : Nat) (bs : List Nat) (n : Nat), j ≤ l.length ∧ v = .int .i64 j ∧ s ≤ 16 + j * 4294967296 ∧ c < 64 ∧ n ≤ 56 * j ∧ Aside0 (WX wr w1.heap.size w.heap.size s c bs n) ∧ Aside0 (putAll bs n (stepsBits (l.drop j) s c) = putAll [] 0 (bitsL l)) ∧ Aside0 (n + (stepsBits (l.drop j) s c).length = (bitsL l).length) ∧ Aside0 (Below w.heap.size w wr)) (fun v _ => l.length - (intOf v).toNat)
  case atStart =>
    refine ⟨0, 16, 1, [], 0, by omega, rfl, by omega, by omega, by omega, ⟨⟨⟨B1.out.size, _, blk_new w1 _, Kd.R_nil _ _ _ _ _⟩, ⟨rfl, fun i => by simp [gt]⟩⟩⟩, ⟨rfl⟩, ⟨by simp [bitsL]⟩, ⟨B1.out.alloc B1.out.size _⟩⟩
  case round =>
    obtain ⟨j, s, c, bs, n, hj, rfl, hs, hc, hn', HW, HP, HN, HB⟩ := hrel
    by_cases hlt : j < l.length
    · obtain ⟨ad, rfl, hx⟩ := C_nat (Kd.C_below HC.out HB.out) j hlt
      have hd := hl j
      have hf := fold_lt hd
      obtain ⟨z, hz⟩ : ∃ z, z = fold (gt l j) := ⟨_, rfl⟩
      have HZ := Aside0.mk hz
      rw [← hz] at hf
      clear hz
      go_wp2_with (first | (go_at_call 11; refine (fold_calls _ _ hd).mono ?_; rw [← HZ.out]; rintro e w2 ⟨rfl, rfl⟩) | (go_at_call 43; refine (wnumber z HW.out (by omega) hc hf (by omega)).mono ?_; rintro e w3 ⟨rfl, h3, b3⟩; have H3 := Aside0.mk h3; have B3 := Aside0.mk b3; clear h3 b3))
      have hst : stepsBits (l.drop j) s c = codeBits z (kOf s c) ++ stepsBits (l.drop (j + 1)) (nextS s c z) (nextC c) := by rw [drop_gt hlt, stepsBits, HZ.out]
      have hcl := codeBits_length z (kOf s c) (kOf_le s c)
      refine ⟨⟨j + 1, nextS s c z, nextC c, _, _, by omega, by go_num, nextS_le (by omega), nextC_lt hc, by omega, H3, ⟨?_⟩, ⟨?_⟩, ⟨HB.out.trans B3.out⟩⟩, by simp [intOf]; omega⟩
      · rw [← HP.out, hst, putAll_append]
      · rw [← HN.out, hst, List.length_append]; omega
    · obtain rfl : j = l.length := by omega
      have hP := HP.out
      have hN := HN.out
      rw [List.drop_length] at hP hN
      have HP := Aside0.mk hP
      have HN := Aside0.mk hN
      clear hP hN
      go_wp2
      go_ret2
      refine ⟨w1.heap.size, s, c, rfl, ?_, HB.out⟩
      rw [← HP.out, ← HN.out]
      simpa [stepsBits, putAll] using HW.out

theorem writes_many (A : Option Addr) (cap : Nat) (l : List Nat) (w : World) (hn : 65536 < l.length) :
    Calls Try.prog 36 #[.slice A l.length cap] w fun e w' => e = .returned (.tuple #[.pointer none, .int .i64 172]) ∧ w = w' := by
  have t1 : decide (65536 < l.length) = true := decide_eq_true hn
  go_enter Try.func36, Try.ntmps36
  go_wp2
  go_ret2
  exact ⟨rfl, rfl⟩
end Go.Proofs.Ytpmmnjpimnapfaa.A
