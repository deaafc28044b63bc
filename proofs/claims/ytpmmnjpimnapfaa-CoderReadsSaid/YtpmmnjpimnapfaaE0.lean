import Derived.Test.YtpmmnjpimnapfaaC2
set_option linter.unusedVariables false
set_option linter.unusedSimpArgs false
namespace Go.Proofs.Ytpmmnjpimnapfaa.A

theorem testBit_of (x i : Nat) : x / 2 ^ i % 2 = (x.testBit i).toNat := by
  rw [Nat.testBit_eq_decide_div_mod_eq]
  rcases Nat.mod_two_eq_zero_or_one (x / 2 ^ i) with h | h <;> simp [h]
theorem bitAt_tb (b : List Nat) (p : Nat) : bitAt b p = ((gt b (p / 8)).testBit (7 - p % 8)).toNat := testBit_of _ _
theorem gt_snoc0 (bs : List Nat) (i : Nat) : gt (bs ++ [0]) i = gt bs i := by
  unfold gt
  rw [List.getD_eq_getElem?_getD, List.getD_eq_getElem?_getD]
  rcases Nat.lt_trichotomy i bs.length with h | h | h
  · rw [List.getElem?_append_left h]
  · subst h; simp
  · rw [List.getElem?_eq_none (by simp; omega), List.getElem?_eq_none (by omega)]
theorem gt_set_eq (bs : List Nat) (j y i : Nat) (h : j < bs.length) : gt (bs.set j y) i = if i = j then y else gt bs i := by
  unfold gt
  rw [List.getD_eq_getElem?_getD, List.getD_eq_getElem?_getD, List.getElem?_set]
  by_cases hij : i = j
  · subst hij; simp [h]
  · rw [if_neg (fun h => hij h.symm), if_neg hij]
theorem bit_place (x j i : Nat) : (x % 2 * 2 ^ j).testBit i = (decide (i = j) && decide (x % 2 = 1)) := by
  rcases Nat.mod_two_eq_zero_or_one x with h | h
  · simp [h]
  · rw [h, Nat.one_mul, Nat.testBit_two_pow]
    by_cases hij : i = j
    · subst hij; simp
    · have : ¬ j = i := fun h => hij h.symm
      simp [hij, this]
/-- no bit behind the n-th -/
def Tail (bs : List Nat) (n : Nat) : Prop := ∀ p, n ≤ p → bitAt bs p = 0
theorem bit_put {bs : List Nat} {n : Nat} (x : Nat) (hG : Good bs n) (hT : Tail bs n) (p : Nat) : bitAt (putBit bs n x) p = if p = n then x % 2 else bitAt bs p := by
  obtain ⟨bs', hbs'⟩ : ∃ bs', bs' = if n % 8 = 0 then bs ++ [0] else bs := ⟨_, rfl⟩
  have hl : bs'.length = n / 8 + 1 := by
    rw [hbs']; split
    · rw [List.length_append, hG.1]; simp; omega
    · rw [hG.1]; omega
  have hg : ∀ i, gt bs' i = gt bs i := by
    intro i; rw [hbs']; split
    · exact gt_snoc0 bs i
    · rfl
  have hp : putBit bs n x = bs'.set (n / 8) (gt bs (n / 8) ||| (x % 2 * 2 ^ (7 - n % 8))) := by
    unfold putBit lastOr
    rw [← hbs', hl, show n / 8 + 1 - 1 = n / 8 from rfl, hg]
  rw [bitAt_tb, hp, gt_set_eq _ _ _ _ (by omega)]
  by_cases h8 : p / 8 = n / 8
  · rw [if_pos h8, Nat.testBit_or, bit_place]
    by_cases hpn : p = n
    · subst hpn
      have h0 := hT p (Nat.le_refl _)
      rw [bitAt_tb] at h0
      have h1 : (gt bs (p / 8)).testBit (7 - p % 8) = false := by
        revert h0; cases (gt bs (p / 8)).testBit (7 - p % 8) <;> simp
      rw [h1, if_pos rfl]
      rcases Nat.mod_two_eq_zero_or_one x with h | h <;> simp [h]
    · rw [if_neg hpn, bitAt_tb, h8, decide_eq_false (show ¬ 7 - p % 8 = 7 - n % 8 by omega)]
      simp
  · rw [if_neg h8, hg, if_neg (fun h => h8 (by rw [h])), bitAt_tb]
theorem bits_put (l : List Nat) : ∀ {bs : List Nat} {n : Nat}, Good bs n → Tail bs n → Good (putAll bs n l) (n + l.length) ∧ Tail (putAll bs n l) (n + l.length) ∧ (∀ p, p < n → bitAt (putAll bs n l) p = bitAt bs p) ∧ ∀ i, i < l.length → bitAt (putAll bs n l) (n + i) = gt l i % 2 := by
  induction l with
  | nil => intro bs n hG hT; exact ⟨hG, hT, fun _ _ => rfl, fun i hi => by simp at hi⟩
  | cons x l ih =>
    intro bs n hG hT
    have hT1 : Tail (putBit bs n x) (n + 1) := by
      intro p hp
      rw [bit_put x hG hT, if_neg (by omega)]
      exact hT p (by omega)
    obtain ⟨h1, h2, h3, h4⟩ := ih (good_putBit (x := x) hG) hT1
    have hlen : n + (x :: l).length = n + 1 + l.length := by simp; omega
    rw [hlen]
    refine ⟨h1, h2, ?_, ?_⟩
    · intro p hp
      show bitAt (putAll (putBit bs n x) (n + 1) l) p = _
      rw [h3 p (by omega), bit_put x hG hT, if_neg (by omega)]
    · intro i hi
      show bitAt (putAll (putBit bs n x) (n + 1) l) (n + i) = _
      cases i with
      | zero => rw [h3 _ (by omega), bit_put x hG hT, if_pos (by omega)]; rfl
      | succ i =>
        have := h4 i (by simpa using hi)
        rw [show n + (i + 1) = n + 1 + i from by omega, this]; simp [gt]
theorem tail_nil : Tail [] 0 := fun p _ => by simp [bitAt, gt]
theorem packed_bits (l : List Nat) : Good (packed l) (bitsL l).length ∧ Tail (packed l) (bitsL l).length ∧ ∀ i, i < (bitsL l).length → bitAt (packed l) i = gt (bitsL l) i % 2 := by
  have h := bits_put (bitsL l) good_nil tail_nil
  simp only [Nat.zero_add] at h
  exact ⟨h.1, h.2.1, h.2.2.2⟩

/-- the bits xs stand at p -/
def Has (b : List Nat) (p : Nat) (xs : List Nat) : Prop := p + xs.length ≤ 8 * b.length ∧ ∀ i, i < xs.length → bitAt b (p + i) = gt xs i % 2
theorem Has.cons {b : List Nat} {p x : Nat} {xs : List Nat} : Has b p (x :: xs) ↔ p < 8 * b.length ∧ bitAt b p = x % 2 ∧ Has b (p + 1) xs := by
  unfold Has
  constructor
  · rintro ⟨h1, h2⟩
    simp only [List.length_cons] at h1
    refine ⟨by omega, by have := h2 0 (by simp); simpa [gt] using this, by omega, ?_⟩
    intro i hi
    have := h2 (i + 1) (by simpa using hi)
    rw [show p + 1 + i = p + (i + 1) from by omega, this]; simp [gt]
  · rintro ⟨h0, h1, h2, h3⟩
    refine ⟨by simp only [List.length_cons]; omega, ?_⟩
    intro i hi
    cases i with
    | zero => simpa [gt] using h1
    | succ i =>
      have := h3 i (by simpa using hi)
      rw [show p + (i + 1) = p + 1 + i from by omega, this]; simp [gt]
theorem Has.nil {b : List Nat} {p : Nat} : Has b p [] ↔ p ≤ 8 * b.length := by simp [Has]
theorem Has.append {b : List Nat} {xs ys : List Nat} : ∀ {p : Nat}, Has b p (xs ++ ys) ↔ Has b p xs ∧ Has b (p + xs.length) ys := by
  induction xs with
  | nil => intro p; simp only [List.nil_append, List.length_nil, Nat.add_zero]; exact ⟨fun h => ⟨Has.nil.mpr (by have := h.1; omega), h⟩, fun h => h.2⟩
  | cons x xs ih =>
    intro p
    rw [List.cons_append, Has.cons, Has.cons, ih, List.length_cons, show p + (xs.length + 1) = p + 1 + xs.length from by omega]
    constructor
    · rintro ⟨h1, h2, h3, h4⟩; exact ⟨⟨h1, h2, h3⟩, h4⟩
    · rintro ⟨⟨h1, h2, h3⟩, h4⟩; exact ⟨h1, h2, h3, h4⟩

theorem lowR_has {b : List Nat} {y : Nat} : ∀ {m p z : Nat}, Has b p (lowBits y m) → lowR b m p z = some (z * 2 ^ m + y % 2 ^ m, p + m) := by
  intro m
  induction m with
  | zero => intro p z h; simp [lowR, Nat.mod_one]
  | succ m ih =>
    intro p z h
    rw [lowBits, Has.cons] at h
    obtain ⟨h1, h2, h3⟩ := h
    rw [lowR, if_neg (by omega), ih h3, h2]
    congr 2
    · rw [Nat.mod_pow_succ, Nat.pow_succ, Nat.add_mul]
      generalize 2 ^ m = e
      generalize y / e % 2 = t
      generalize y % e = u
      rw [Nat.mul_comm t e, Nat.mul_comm e 2, Nat.mul_comm 2 z, Nat.mul_assoc]
      omega
    · omega
theorem onesR_has {b : List Nat} : ∀ {j d p q : Nat}, j < d → Has b p (List.replicate j 1 ++ [0]) → onesR b d p q = some (q + j, p + (j + 1)) := by
  intro j
  induction j with
  | zero =>
    intro d p q hd h
    obtain ⟨d, rfl⟩ : ∃ d', d = d' + 1 := ⟨d - 1, by omega⟩
    rw [List.replicate_zero, List.nil_append, Has.cons] at h
    rw [onesR, if_neg (by omega), if_pos (by omega)]; rfl
  | succ j ih =>
    intro d p q hd h
    obtain ⟨d, rfl⟩ : ∃ d', d = d' + 1 := ⟨d - 1, by omega⟩
    rw [List.replicate_succ, List.cons_append, Has.cons] at h
    rw [onesR, if_neg (by omega), if_neg (by omega), ih (by omega) h.2.2]
    congr 2 <;> omega
theorem onesR_all {b : List Nat} : ∀ {d p q : Nat}, Has b p (List.replicate d 1) → onesR b d p q = some (q + d, p + d) := by
  intro d
  induction d with
  | zero => intro p q h; rfl
  | succ d ih =>
    intro p q h
    rw [List.replicate_succ, Has.cons] at h
    rw [onesR, if_neg (by omega), if_neg (by omega), ih h.2.2]
    congr 2 <;> omega
theorem numR_has {b : List Nat} {p z k : Nat} (hz : z < 4294967296) (h : Has b p (codeBits z k)) : numR b p k = .ok (z, p + (codeBits z k).length) := by
  unfold codeBits at *
  by_cases h24 : z / 2 ^ k < 24
  · rw [if_pos h24] at *
    have h' : Has b p ((List.replicate (z / 2 ^ k) 1 ++ [0]) ++ lowBits z k) := by rw [List.append_assoc]; exact h
    obtain ⟨h1, h2⟩ := Has.append.mp h'
    simp only [List.length_append, List.length_replicate, List.length_cons, List.length_nil] at h2
    unfold numR
    rw [onesR_has h24 h1]
    simp only [Nat.zero_add]
    rw [if_neg (by omega), lowR_has h2]
    simp only [Nat.zero_mul, Nat.zero_add]
    have hd := Nat.div_add_mod z (2 ^ k)
    rw [Nat.mul_comm] at hd
    unfold formR
    rw [if_neg (by omega), if_neg (by omega), hd]
    simp only [List.length_append, List.length_replicate, List.length_cons, lowBits_length]
    congr 2
    omega
  · rw [if_neg h24] at *
    obtain ⟨h1, h2⟩ := Has.append.mp h
    rw [List.length_replicate] at h2
    unfold numR
    rw [onesR_all h1]
    simp only [Nat.zero_add]
    rw [if_pos trivial, lowR_has h2]
    simp only [Nat.zero_mul, Nat.zero_add]
    rw [Nat.mod_eq_of_lt (show z < 2 ^ 32 from hz)]
    unfold formR
    rw [if_pos rfl, if_neg h24]
    simp only [List.length_append, List.length_replicate, lowBits_length]

theorem decA_has {b : List Nat} (l : List Nat) : ∀ {p s c : Nat} {acc : List Nat}, (∀ i, gt l i < 4294967296) → Has b p (stepsBits l s c) → decA b l.length p s c acc = .ok (acc ++ l, p + (stepsBits l s c).length) := by
  induction l with
  | nil => intro p s c acc _ h; simp [decA, stepsBits]
  | cons d l ih =>
    intro p s c acc hl h
    have hd : d < 4294967296 := by have := hl 0; simpa [gt] using this
    have hl' : ∀ i, gt l i < 4294967296 := fun i => by have := hl (i + 1); simpa [gt] using this
    rw [stepsBits] at *
    obtain ⟨h1, h2⟩ := Has.append.mp h
    rw [List.length_cons, decA, numR_has (fold_lt hd) h1]
    simp only
    rw [ih hl' h2, unfold_fold hd, List.length_append]
    congr 2
    · simp
    · omega
theorem padR_zero {b : List Nat} : ∀ {d p : Nat}, (∀ i, p ≤ i → bitAt b i = 0) → (8 - p % 8) % 8 ≤ d → padR b d p = some (8 * ((p + 7) / 8)) := by
  intro d
  induction d with
  | zero => intro p h hd; simp only [padR]; congr 1; omega
  | succ d ih =>
    intro p h hd
    rw [padR]
    by_cases h8 : p % 8 = 0
    · rw [if_pos h8]; congr 1; omega
    · rw [if_neg h8, if_pos (h p (Nat.le_refl _)), ih (fun i hi => h i (by omega)) (by omega)]
      congr 1; omega
theorem dec_packed {l : List Nat} (hl : ∀ i, gt l i < 4294967296) : dec (packed l) l.length = .ok l := by
  obtain ⟨hG, hT, hB⟩ := packed_bits l
  have hH : Has (packed l) 0 (stepsBits l 16 1) := ⟨by rw [hG.1]; unfold bitsL; omega, fun i hi => by rw [Nat.zero_add]; exact hB i hi⟩
  unfold dec
  rw [decA_has l hl hH, Nat.zero_add, List.nil_append]
  simp only [decE]
  have he : endsR (packed l) (stepsBits l 16 1).length = true := by
    show endsR (packed l) (bitsL l).length = true
    unfold endsR
    rw [padR_zero hT (by omega)]
    simp only [endsOf, decide_eq_true_eq]
    rw [hG.1]
  rw [if_pos he]
end Go.Proofs.Ytpmmnjpimnapfaa.A
