import Derived.Test.YtpmmnjpimnapfaaA1
set_option linter.unusedVariables false
set_option linter.unusedSimpArgs false
namespace Go.Proofs.Ytpmmnjpimnapfaa.A
open Go.RowKit Go.Proofs.YtpmmnjpimnapfaaW.PrintWords Go.Proofs.YtpmmnjpimnapfaaW.PrintLast Go.Proofs.YtpmmnjpimnapfaaW.PrintMore

/-! plain -/
def putAll : List Nat → Nat → List Nat → List Nat
  | bs, _, [] => bs
  | bs, n, x :: l => putAll (putBit bs n x) (n + 1) l
theorem putAll_append (l m : List Nat) : ∀ (bs : List Nat) (n : Nat), putAll bs n (l ++ m) = putAll (putAll bs n l) (n + l.length) m := by
  induction l with
  | nil => intro bs n; simp [putAll]
  | cons x l ih => intro bs n; simp only [List.cons_append, putAll, ih, List.length_cons]; congr 1; omega
def lowBits (z : Nat) : Nat → List Nat
  | 0 => []
  | m + 1 => z / 2 ^ m :: lowBits z m
theorem lowBits_length (z m : Nat) : (lowBits z m).length = m := by
  induction m with
  | zero => rfl
  | succ m ih => simp [lowBits, ih]
def nextS (s c z : Nat) : Nat := if c + 1 = 64 then (s + z) / 2 else s + z
def nextC (c : Nat) : Nat := if c + 1 = 64 then 32 else c + 1
def codeBits (z k : Nat) : List Nat := if z / 2 ^ k < 24 then List.replicate (z / 2 ^ k) 1 ++ (0 :: lowBits z k) else List.replicate 24 1 ++ lowBits z 32
def Good (bs : List Nat) (n : Nat) : Prop := bs.length = (n + 7) / 8 ∧ ∀ i, gt bs i < 256
theorem gt_set {bs : List Nat} {m y j : Nat} (h : ∀ i, gt bs i < m) (hy : y < m) : ∀ i, gt (bs.set j y) i < m := by
  intro i
  have := h i
  unfold gt at *
  rw [List.getD_eq_getElem?_getD] at *
  rw [List.getElem?_set]
  split
  · split
    · simpa using hy
    · simp; omega
  · exact this
theorem good_putBit {bs : List Nat} {n x : Nat} (h : Good bs n) : Good (putBit bs n x) (n + 1) := by
  obtain ⟨h1, h2⟩ := h
  have hp : x % 2 * 2 ^ (7 - n % 8) < 2 ^ 8 := by
    have h3 : x % 2 * 2 ^ (7 - n % 8) ≤ 1 * 2 ^ 7 := Nat.mul_le_mul (by omega) (Nat.pow_le_pow_right (by omega) (by omega))
    omega
  unfold putBit lastOr
  split
  · exact ⟨by simp; omega, gt_set (gt_snoc h2 (by omega)) (Nat.or_lt_two_pow (gt_snoc h2 (by omega) _ : _ < 2 ^ 8) hp)⟩
  · exact ⟨by simp; omega, gt_set h2 (Nat.or_lt_two_pow (h2 _ : _ < 2 ^ 8) hp)⟩
theorem good_putAll (l : List Nat) : ∀ {bs : List Nat} {n : Nat}, Good bs n → Good (putAll bs n l) (n + l.length) := by
  induction l with
  | nil => intro bs n h; exact h
  | cons x l ih =>
    intro bs n h
    have := ih (good_putBit (x := x) h)
    simp only [putAll, List.length_cons]
    rwa [show n + (l.length + 1) = n + 1 + l.length from by omega]

theorem gset {a w : World} {g : Nat} (h : a.grownBy w (some g)) (i : Nat) (u : Value) : a.grownBy (w.setCell ⟨g, i, none⟩ u) (some g) :=
  ⟨h.os, h.tape, h.output, by simpa [World.setCell] using h.size, fun k hk hne => (Below.heap_setCell w ⟨g, i, none⟩ u k (by rintro rfl; exact hne rfl)).trans (h.block k hk hne)⟩
/-! the writer -/
def WX (w : World) (g B s c : Nat) (bs : List Nat) (n : Nat) : Prop := WS w g B s c bs n ∧ Good bs n
theorem wbitX {g B s c : Nat} {bs : List Nat} {n : Nat} (x : Nat) {w : World} (h : WX w g B s c bs n) (hx : x < 4294967296) (hn : n < 1099511627776) :
    Calls Try.prog 50 #[.pointer (some ⟨g, 0, none⟩), .int .u32 x] w fun e w' => e = .returned (.tuple #[]) ∧ WX w' g B s c (putBit bs n x) (n + 1) ∧ Below B w w' :=
  (wbit g B s c bs n x w h.1 hx hn h.2.2 h.2.1).mono fun e w' ⟨h1, h2, h3⟩ => ⟨h1, ⟨h2, good_putBit h.2⟩, h3⟩

set_option maxHeartbeats 1000000 in
theorem wlow {g B s c : Nat} {bs : List Nat} {n : Nat} (z m : Nat) {w : World} (h : WX w g B s c bs n) (hz : z < 4294967296) (hm : m ≤ 32) (hn : n < 1099511000000) :
    Calls Try.prog 51 #[.pointer (some ⟨g, 0, none⟩), .int .u32 z, .int .i64 m] w fun e w' => e = .returned (.tuple #[]) ∧ WX w' g B s c (putAll bs n (lowBits z m)) (n + m) ∧ Below B w w' := by
  have H := Aside0.mk h
  clear h
  go_enter Try.func51, Try.ntmps51
  go_wp2
  go_loopw [6] (fun v w' => ∃ (i : Int) (j : Nat) (bs' : List Nat) (n' : Nat), i + 1 = j ∧ j ≤ m ∧ v = .int .i64 i ∧ n' + j = n + m ∧ Aside0 (WX w' g B s c bs' n') ∧ Aside0 (putAll bs' n' (lowBits z j) = putAll bs n (lowBits z m)) ∧ Aside0 (Below B w w')) (fun v _ => (intOf v + 1).toNat)
  case atStart => exact ⟨(m : Int) - 1, m, bs, n, by omega, by omega, rfl, rfl, H, ⟨rfl⟩, ⟨Below.refl B w⟩⟩
  case round =>
    obtain ⟨i, j, bs', n', hij, hjm, rfl, hn', HW, HP, HB⟩ := hrel
    by_cases hi : 0 ≤ i
    · obtain ⟨j', rfl⟩ := Int.eq_ofNat_of_zero_le hi
      obtain rfl : j = j' + 1 := by omega
      have hn2 : n' < 1099511627776 := by omega
      have HN := Aside0.mk hn'
      clear hn' hij
      have hd : z / 2 ^ j' < 4294967296 := Nat.lt_of_le_of_lt (Nat.div_le_self _ _) hz
      go_wp2_with (go_at_call 50; refine (wbitX (z / 2 ^ j') HW.out hd hn2).mono ?_; rintro e w1 ⟨rfl, hw1, hb1⟩; have HW1 := Aside0.mk hw1; have HB1 := Aside0.mk hb1; clear hw1 hb1)
      refine ⟨⟨(j' : Int) - 1, j', _, _, by omega, by omega, rfl, by have := HN.out; omega, HW1, ⟨by rw [← HP.out]; rfl⟩, ⟨HB.out.trans HB1.out⟩⟩, by simp [intOf]⟩
    · obtain rfl : j = 0 := by omega
      have HN := Aside0.mk hn'
      clear hn' hij
      go_wp2
      go_end0
      exact ⟨rfl, by rw [← HP.out, ← HN.out]; simpa [lowBits, putAll] using HW.out, HB.out⟩
set_option maxHeartbeats 1000000 in
theorem wones {g B s c : Nat} {bs : List Nat} {n : Nat} (m : Nat) {w : World} (h : WX w g B s c bs n) (hm : m ≤ 32) (hn : n < 1099511000000) :
    Calls Try.prog 49 #[.pointer (some ⟨g, 0, none⟩), .int .i64 m] w fun e w' => e = .returned (.tuple #[]) ∧ WX w' g B s c (putAll bs n (List.replicate m 1)) (n + m) ∧ Below B w w' := by
  have H := Aside0.mk h
  clear h
  go_enter Try.func49, Try.ntmps49
  go_wp2
  go_loopw [5] (fun v w' => ∃ (j : Nat) (bs' : List Nat) (n' : Nat), j ≤ m ∧ v = .int .i64 j ∧ n' = n + j ∧ Aside0 (WX w' g B s c bs' n') ∧ Aside0 (putAll bs' n' (List.replicate (m - j) 1) = putAll bs n (List.replicate m 1)) ∧ Aside0 (Below B w w')) (fun v _ => m - (intOf v).toNat)
  case atStart => exact ⟨0, bs, n, by omega, rfl, rfl, H, ⟨rfl⟩, ⟨Below.refl B w⟩⟩
  case round =>
    obtain ⟨j, bs', n', hjm, rfl, hn', HW, HP, HB⟩ := hrel
    have hn2 : n' < 1099511627776 := by omega
    have HN := Aside0.mk hn'
    clear hn'
    by_cases hj : j < m
    · go_wp2_with (go_at_call 50; refine (wbitX 1 HW.out (by omega) hn2).mono ?_; rintro e w1 ⟨rfl, hw1, hb1⟩; have HW1 := Aside0.mk hw1; have HB1 := Aside0.mk hb1; clear hw1 hb1)
      go_roundw
      case measure => simp [intOf]; omega
      case rel => exact ⟨j + 1, _, _, by omega, by go_num, by have := HN.out; omega, HW1, ⟨by rw [← HP.out, show m - j = (m - (j + 1)) + 1 from by omega]; rfl⟩, ⟨HB.out.trans HB1.out⟩⟩
    · obtain rfl : j = m := by omega
      go_wp2
      go_end0
      exact ⟨rfl, by rw [← HP.out, ← HN.out]; simpa [putAll] using HW.out, HB.out⟩
set_option maxHeartbeats 1000000 in
theorem wlearn (g s c z : Nat) (t : TypeId) (A : List Value) (w : World) (h : w.heap[g]? = some (.cells (.int .u64 s :: .int .u64 c :: A).toArray t (0, 0))) (hs : s < 1152921504606846976) (hc : c < 64) (hz : z < 4294967296) :
    Calls Try.prog 47 #[.pointer (some ⟨g, 0, none⟩), .int .u32 z] w fun e w' => e = .returned (.tuple #[]) ∧ w'.heap[g]? = some (.cells (.int .u64 (nextS s c z) :: .int .u64 (nextC c) :: A).toArray t (0, 0)) ∧ w.grownBy w' (some g) := by
  have c0 := (blk_cell h 0).trans rfl
  have c1 := (blk_cell h 1).trans rfl
  have f0 := blk_frozen h 0
  have f1 := blk_frozen h 1
  have H := Aside0.mk h
  clear h
  go_enter Try.func47, Try.ntmps47
  by_cases h64 : c + 1 = 64
  · have t1 : ((c : Int) + 1 == 64) = true := by rw [beq_iff_eq]; omega
    go_wp2
    go_end0
    refine ⟨rfl, ?_, gset (gset (gset (gset (World.grownBy.refl w _) _ _) _ _) _ _) _ _⟩
    have h1 := blk_set (blk_set (blk_set (blk_set H.out 0 (.int .u64 ((s : Int) + z))) 1 (.int .u64 ((c : Int) + 1))) 0 (.int .u64 (((s : Int) + z) / 2))) 1 (.int .u64 32)
    simp only [nextS, nextC, if_pos h64]
    exact h1
  · have t1 : ((c : Int) + 1 == 64) = false := by rw [beq_eq_false_iff_ne]; omega
    go_wp2
    go_end0
    refine ⟨rfl, ?_, ?_⟩
    · have h1 := (blk_set (blk_set H.out 0 (.int .u64 ((s : Int) + z))) 1 (.int .u64 ((c : Int) + 1)))
      simp only [nextS, nextC, if_neg h64]
      exact h1
    · exact gset (gset (World.grownBy.refl w _) _ _) _ _
end Go.Proofs.Ytpmmnjpimnapfaa.A
