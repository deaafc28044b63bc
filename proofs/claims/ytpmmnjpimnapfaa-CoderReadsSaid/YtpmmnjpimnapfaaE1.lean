import Derived.Test.YtpmmnjpimnapfaaE0
set_option linter.unusedVariables false
set_option linter.unusedSimpArgs false
namespace Go.Proofs.Ytpmmnjpimnapfaa.A

theorem lowR_conv {b : List Nat} : ∀ {m p z z' p' : Nat}, p ≤ 8 * b.length → lowR b m p z = some (z', p') → ∃ y, y < 2 ^ m ∧ z' = z * 2 ^ m + y ∧ p' = p + m ∧ ∀ Y, Y % 2 ^ m = y → Has b p (lowBits Y m) := by
  intro m
  induction m with
  | zero => intro p z z' p' hp h; simp [lowR] at h; exact ⟨0, by simp, by omega, by omega, fun Y _ => Has.nil.mpr hp⟩
  | succ m ih =>
    intro p z z' p' hp h
    rw [lowR] at h
    split at h
    · cases h
    · obtain ⟨y, hy, rfl, rfl, hH⟩ := ih (by omega) h
      have hb := bitAt_lt b p
      have he : 2 ^ m > 0 := Nat.two_pow_pos m
      refine ⟨bitAt b p * 2 ^ m + y, ?_, ?_, by omega, ?_⟩
      · rw [Nat.pow_succ]
        have : bitAt b p * 2 ^ m ≤ 1 * 2 ^ m := Nat.mul_le_mul_right _ (by omega)
        omega
      · rw [Nat.pow_succ, Nat.add_mul, Nat.mul_assoc, Nat.mul_comm 2, Nat.mul_assoc, Nat.mul_comm (2 ^ m) 2, Nat.mul_left_comm]; omega
      · intro Y hY
        rw [Nat.mod_pow_succ, Nat.mul_comm] at hY
        have h1 : Y % 2 ^ m < 2 ^ m := Nat.mod_lt _ he
        have h2 : Y / 2 ^ m % 2 = bitAt b p := by
          rcases Nat.mod_two_eq_zero_or_one (Y / 2 ^ m) with h3 | h3 <;> rw [h3] at hY ⊢ <;> (rcases (by omega : bitAt b p = 0 ∨ bitAt b p = 1) with h4 | h4 <;> rw [h4] at hY ⊢ <;> simp only [Nat.zero_mul, Nat.one_mul] at hY <;> omega)
        rw [h2] at hY
        rw [lowBits, Has.cons]
        exact ⟨by omega, h2.symm, hH Y (by omega)⟩
theorem onesR_conv {b : List Nat} : ∀ {d p q q' p' : Nat}, p ≤ 8 * b.length → onesR b d p q = some (q', p') → (∃ j, j < d ∧ q' = q + j ∧ p' = p + (j + 1) ∧ Has b p (List.replicate j 1 ++ [0])) ∨ (q' = q + d ∧ p' = p + d ∧ Has b p (List.replicate d 1)) := by
  intro d
  induction d with
  | zero => intro p q q' p' hp h; simp [onesR] at h; exact .inr ⟨by omega, by omega, Has.nil.mpr hp⟩
  | succ d ih =>
    intro p q q' p' hp h
    rw [onesR] at h
    split at h
    · cases h
    · split at h
      · rename_i h1 h2
        injection h with h; injection h with ha hb
        exact .inl ⟨0, by omega, by omega, by omega, by rw [List.replicate_zero, List.nil_append, Has.cons]; exact ⟨by omega, by omega, Has.nil.mpr (by omega)⟩⟩
      · rename_i h1 h2
        have hbl := bitAt_lt b p
        rcases ih (by omega) h with ⟨j, hj, h3, h4, h5⟩ | ⟨h3, h4, h5⟩
        · exact .inl ⟨j + 1, by omega, by omega, by omega, by rw [List.replicate_succ, List.cons_append, Has.cons]; exact ⟨by omega, by omega, h5⟩⟩
        · exact .inr ⟨by omega, by omega, by rw [List.replicate_succ, Has.cons]; exact ⟨by omega, by omega, h5⟩⟩
theorem numR_conv {b : List Nat} {p k z p' : Nat} (hp : p ≤ 8 * b.length) (h : numR b p k = .ok (z, p')) : Has b p (codeBits z k) ∧ p' = p + (codeBits z k).length := by
  unfold numR at h
  rcases hO : onesR b 24 p 0 with _ | ⟨q, p1⟩
  · rw [hO] at h; cases h
  · rw [hO] at h
    simp only at h
    have hc := onesR_conv hp hO
    have hp1 : p1 ≤ 8 * b.length := (onesR_at hO hp).2
    rcases hL : lowR b (if q = 24 then 32 else k) p1 0 with _ | ⟨y, p2⟩
    · rw [hL] at h; cases h
    · rw [hL] at h
      simp only at h
      obtain ⟨y', hy', hyy, hp2, hH⟩ := lowR_conv hp1 hL
      rw [Nat.zero_mul, Nat.zero_add] at hyy
      subst hyy
      have he : 2 ^ k > 0 := Nat.two_pow_pos k
      unfold formR at h
      rcases hc with ⟨j, hj, h3, h4, h5⟩ | ⟨h3, h4, h5⟩
      · have hq : ¬ q = 24 := by omega
        rw [if_neg hq] at h hp2 hH hy'
        split at h
        · cases h
        · injection h with h; injection h with ha hb
          obtain rfl : q = j := by omega
          have hd : z / 2 ^ k = q := by rw [← ha, Nat.add_comm, Nat.add_mul_div_right _ _ he, Nat.div_eq_of_lt hy', Nat.zero_add]
          have hm : z % 2 ^ k = y := by rw [← ha, Nat.add_comm, Nat.add_mul_mod_self_right, Nat.mod_eq_of_lt hy']
          unfold codeBits
          rw [hd, if_pos (by omega)]
          constructor
          · have : Has b p ((List.replicate q 1 ++ [0]) ++ lowBits z k) := Has.append.mpr ⟨h5, by simp only [List.length_append, List.length_replicate, List.length_cons, List.length_nil]; rw [show p + (q + (0 + 1)) = p1 from by omega]; exact hH z hm⟩
            rw [List.append_assoc] at this; exact this
          · simp only [List.length_append, List.length_replicate, List.length_cons, lowBits_length]; omega
      · have hq : q = 24 := by omega
        rw [if_pos hq] at h hp2 hH hy'
        split at h
        · cases h
        · rename_i h24
          injection h with h; injection h with ha hb
          subst ha
          unfold codeBits
          rw [if_neg h24]
          constructor
          · exact Has.append.mpr ⟨h5, by rw [List.length_replicate, ← h4]; exact hH y (Nat.mod_eq_of_lt hy')⟩
          · simp only [List.length_append, List.length_replicate, lowBits_length]; omega
theorem gt_append_left {xs ys : List Nat} {i : Nat} (h : i < xs.length) : gt (xs ++ ys) i = gt xs i := by
  unfold gt; rw [List.getD_eq_getElem?_getD, List.getD_eq_getElem?_getD, List.getElem?_append_left h]
theorem decA_conv {b : List Nat} : ∀ {n p s c : Nat} {acc l : List Nat} {p' : Nat}, p ≤ 8 * b.length → (∀ s c, kOf s c ≤ 31) → decA b n p s c acc = .ok (l, p') → ∃ m, l = acc ++ m ∧ m.length = n ∧ (∀ x ∈ m, x < 4294967296) ∧ Has b p (stepsBits m s c) ∧ p' = p + (stepsBits m s c).length := by
  intro n
  induction n with
  | zero => intro p s c acc l p' hp hk h; simp only [decA] at h; injection h with h; injection h with h1 h2; exact ⟨[], by simp [h1], rfl, by simp, Has.nil.mpr hp, by simp [stepsBits, h2]⟩
  | succ n ih =>
    intro p s c acc l p' hp hk h
    rw [decA] at h
    rcases hN : numR b p (kOf s c) with ⟨z, p1⟩ | e
    · rw [hN] at h
      simp only at h
      obtain ⟨hp1, hz⟩ := numR_at hN hp (hk s c)
      obtain ⟨hH, hp'⟩ := numR_conv hp hN
      obtain ⟨m, rfl, hl, hx, hM, rfl⟩ := ih hp1 hk h
      refine ⟨unfold_ z :: m, by simp, by simp [hl], ?_, ?_, ?_⟩
      · intro x hx'
        rcases List.mem_cons.mp hx' with rfl | hx'
        · exact unfold_lt hz
        · exact hx x hx'
      · rw [stepsBits, fold_unfold hz, Has.append]; exact ⟨hH, by rw [← hp']; exact hM⟩
      · rw [stepsBits, fold_unfold hz, List.length_append]; omega
    · rw [hN] at h; cases h
theorem padR_conv {b : List Nat} : ∀ {d p p' : Nat}, padR b d p = some p' → (8 - p % 8) % 8 ≤ d → p' = 8 * ((p + 7) / 8) ∧ ∀ i, p ≤ i → i < p' → bitAt b i = 0 := by
  intro d
  induction d with
  | zero => intro p p' h hd; simp only [padR] at h; injection h with h; exact ⟨by omega, fun i h1 h2 => by omega⟩
  | succ d ih =>
    intro p p' h hd
    rw [padR] at h
    split at h
    · injection h with h; exact ⟨by omega, fun i h1 h2 => by omega⟩
    · split at h
      · rename_i h8 h0
        obtain ⟨h1, h2⟩ := ih h (by omega)
        refine ⟨by omega, fun i h3 h4 => ?_⟩
        by_cases hi : i = p
        · rw [hi]; exact h0
        · exact h2 i (by omega) h4
      · cases h
theorem byte_ext {x y : Nat} (hx : x < 256) (hy : y < 256) (h : ∀ i, i < 8 → x.testBit (7 - i) = y.testBit (7 - i)) : x = y := by
  apply Nat.eq_of_testBit_eq
  intro i
  by_cases hi : i < 8
  · have := h (7 - i) (by omega)
    rwa [show 7 - (7 - i) = i from by omega] at this
  · have h256 : (256 : Nat) ≤ 2 ^ i := Nat.le_trans (show (256 : Nat) ≤ 2 ^ 8 by decide) (Nat.pow_le_pow_right (by omega) (by omega))
    rw [Nat.testBit_lt_two_pow (by omega), Nat.testBit_lt_two_pow (by omega)]
theorem bits_ext {a b : List Nat} (hl : a.length = b.length) (ha : ∀ i, gt a i < 256) (hb : ∀ i, gt b i < 256) (h : ∀ p, p < 8 * a.length → bitAt a p = bitAt b p) : a = b := by
  refine eq_of_gt hl fun i hi => byte_ext (ha i) (hb i) fun j hj => ?_
  have := h (8 * i + j) (by omega)
  rw [bitAt_tb, bitAt_tb, show (8 * i + j) / 8 = i from by omega, show (8 * i + j) % 8 = j from by omega] at this
  revert this
  cases (gt a i).testBit (7 - j) <;> cases (gt b i).testBit (7 - j) <;> simp
theorem dec_one {b l : List Nat} {n : Nat} (hb : ∀ i, gt b i < 256) (h : dec b n = .ok l) : l.length = n ∧ (∀ i, gt l i < 4294967296) ∧ packed l = b := by
  unfold dec at h
  rcases hA : decA b n 0 16 1 [] with ⟨l', p⟩ | e
  · rw [hA] at h
    simp only [decE] at h
    split at h
    · rename_i hE
      injection h with h; subst h
      obtain ⟨m, hm0, hm, hx, hH, rfl⟩ := decA_conv (Nat.zero_le _) kOf_le hA
      rw [List.nil_append] at hm0
      subst hm0
      refine ⟨hm, gt_lt_all (by omega) (by simpa using hx), ?_⟩
      rw [Nat.zero_add] at hE
      obtain ⟨hG, hT, hB⟩ := packed_bits l'
      change endsR b (bitsL l').length = true at hE
      unfold endsR at hE
      rcases hP : padR b 8 (bitsL l').length with _ | p'
      · rw [hP] at hE; cases hE
      · rw [hP] at hE
        simp only [endsOf, decide_eq_true_eq] at hE
        obtain ⟨h1, h2⟩ := padR_conv hP (by omega)
        have hlen : (packed l').length = b.length := by rw [hG.1]; omega
        refine bits_ext hlen hG.2 hb fun p hp => ?_
        by_cases hpn : p < (bitsL l').length
        · rw [hB p hpn]
          have := hH.2 p hpn
          rw [Nat.zero_add] at this
          exact this.symm
        · rw [hT p (by omega), h2 p (by omega) (by rw [hlen] at hp; omega)]
    · cases h
  · rw [hA] at h; cases h
theorem dec_len {b l : List Nat} {n : Nat} (hb : ∀ i, gt b i < 256) (h : dec b n = .ok l) : l.length = n := (dec_one hb h).1
theorem stepsBits_snoc (l : List Nat) (x : Nat) : ∀ s c, ∃ s' c', stepsBits (l ++ [x]) s c = stepsBits l s c ++ codeBits (fold x) (kOf s' c') := by
  induction l with
  | nil => intro s c; exact ⟨s, c, by simp [stepsBits]⟩
  | cons d l ih =>
    intro s c
    obtain ⟨s', c', h⟩ := ih (nextS s c (fold d)) (nextC c)
    exact ⟨s', c', by rw [List.cons_append, stepsBits, stepsBits, h, List.append_assoc]⟩
theorem codeBits_pos (z k : Nat) : 0 < (codeBits z k).length := by
  unfold codeBits; split <;> rw [List.length_append] <;> exact Nat.add_pos_right _ (by simp [lowBits_length])
theorem packed_more (l : List Nat) (x : Nat) : (bitsL l).length < (bitsL (l ++ [x])).length ∧ (packed l).length ≤ (packed (l ++ [x])).length ∧ ∀ p, p < (bitsL l).length → bitAt (packed (l ++ [x])) p = bitAt (packed l) p := by
  obtain ⟨s', c', h⟩ := stepsBits_snoc l x 16 1
  have h' : bitsL (l ++ [x]) = bitsL l ++ codeBits (fold x) (kOf s' c') := h
  obtain ⟨hG, hT, hB⟩ := packed_bits l
  obtain ⟨hG2, hT2, hB2⟩ := packed_bits (l ++ [x])
  have hc := codeBits_pos (fold x) (kOf s' c')
  have hlen : (bitsL (l ++ [x])).length = (bitsL l).length + (codeBits (fold x) (kOf s' c')).length := by rw [h', List.length_append]
  refine ⟨by omega, by rw [hG.1, hG2.1]; omega, fun p hp => ?_⟩
  rw [hB2 p (by omega), hB p hp, h', gt_append_left hp]
end Go.Proofs.Ytpmmnjpimnapfaa.A
