import Derived.Test.YtpmmnjpimnapfaaC2
set_option linter.unusedVariables false
set_option linter.unusedSimpArgs false
namespace Go.Proofs.Ytpmmnjpimnapfaa.A
open Go.RowKit Go.Proofs.YtpmmnjpimnapfaaW.PrintWords Go.Proofs.YtpmmnjpimnapfaaW.PrintLast Go.Proofs.YtpmmnjpimnapfaaW.PrintMore

theorem lowR_base {b : List Nat} : ∀ {m p z : Nat}, lowR b m p z = (lowR b m p 0).map (fun r => (z * 2 ^ m + r.1, r.2)) := by
  intro m
  induction m with
  | zero => intro p z; simp [lowR]
  | succ m ih =>
    intro p z
    rw [lowR, lowR]
    by_cases h : p = 8 * b.length
    · rw [if_pos h, if_pos h]; rfl
    · rw [if_neg h, if_neg h, ih (z := 2 * z + bitAt b p), ih (z := 2 * 0 + bitAt b p), Option.map_map]
      congr 1
      funext r
      simp only [Function.comp_apply]
      congr 1
      rw [Nat.pow_succ, Nat.add_mul, Nat.mul_zero, Nat.zero_add, Nat.mul_comm 2 z, Nat.mul_assoc, Nat.mul_comm 2 (2 ^ m)]
      omega
def tailR (q z k p : Nat) : Got (Nat × Nat) := if q = 24 ∧ z / 2 ^ k < 24 ∨ 4294967296 ≤ z then .err 170 else .ok (z, p)
theorem numR_none {b : List Nat} {p k : Nat} (h : onesR b 24 p 0 = none) : numR b p k = .err 171 := by unfold numR; rw [h]
theorem numR_low {b : List Nat} {p k q p1 : Nat} (h : onesR b 24 p 0 = some (q, p1)) (hL : lowR b (if q = 24 then 32 else k) p1 (if q = 24 then 0 else q) = none) : numR b p k = .err 171 := by
  unfold numR; rw [h]; simp only
  by_cases hq : q = 24
  · rw [if_pos hq, if_pos hq] at hL; rw [if_pos hq, hL]
  · rw [if_neg hq, if_neg hq, lowR_base] at hL
    rw [if_neg hq]
    cases h2 : lowR b k p1 0 with
    | none => rfl
    | some r => rw [h2] at hL; cases hL
theorem numR_tail {b : List Nat} {p k q p1 z p2 : Nat} (hk : k ≤ 31) (hp : p ≤ 8 * b.length) (h : onesR b 24 p 0 = some (q, p1)) (hL : lowR b (if q = 24 then 32 else k) p1 (if q = 24 then 0 else q) = some (z, p2)) : numR b p k = tailR q z k p2 := by
  have hp1 := (onesR_at h hp).2
  unfold numR; rw [h]; simp only
  by_cases hq : q = 24
  · rw [if_pos hq, if_pos hq] at hL; rw [if_pos hq, hL]
    have hz := (lowR_at hL hp1).2.2
    simp only
    unfold formR tailR
    rw [if_pos hq]
    by_cases h24 : z / 2 ^ k < 24
    · rw [if_pos h24, if_pos (.inl ⟨hq, h24⟩)]
    · rw [if_neg h24, if_neg (by omega)]
  · rw [if_neg hq, if_neg hq, lowR_base] at hL
    rw [if_neg hq]
    cases h2 : lowR b k p1 0 with
    | none => rw [h2] at hL; cases hL
    | some r =>
      obtain ⟨y, p3⟩ := r
      rw [h2] at hL
      simp only [Option.map_some] at hL
      injection hL with hL; injection hL with ha hb
      obtain ⟨h3, h4, h5⟩ := lowR_at h2 hp1
      rw [Nat.zero_add, Nat.one_mul] at h5
      simp only
      unfold formR tailR
      rw [if_neg hq, ← ha, ← hb]
      by_cases hf : 4294967295 < q * 2 ^ k
      · rw [if_pos hf, if_pos (by omega)]
      · have h6 : 2 ^ (32 - k) * 2 ^ k = 4294967296 := by rw [← Nat.pow_add, show 32 - k + k = 32 from by omega]
        have h7 : q < 2 ^ (32 - k) := Nat.lt_of_mul_lt_mul_right (a := 2 ^ k) (by omega)
        have h8 : (q + 1) * 2 ^ k ≤ 2 ^ (32 - k) * 2 ^ k := Nat.mul_le_mul (by omega) (Nat.le_refl _)
        rw [Nat.add_mul] at h8
        rw [if_neg hf, if_neg (by omega)]

def DX (w : World) (g1 g2 B : Nat) (b : List Nat) (p : Nat) (sh : Bool) (s c : Nat) (v : Value) (acc : List Nat) : Prop :=
  QX w g1 B b p sh ∧ B ≤ g2 ∧ w.heap[g2]? = some (.cells #[.int .i64 s, .int .i64 c] 66 (0, 0)) ∧ Kd.R (nat .u32) 23 w B (fun _ => True) v acc
section
variable {w w1 : World} {g1 g2 B p s c : Nat} {b acc : List Nat} {sh : Bool} {v : Value}
theorem DX.ne (h : DX w g1 g2 B b p sh s c v acc) : g2 ≠ g1 := by
  obtain ⟨⟨_, A, cap, h1, _⟩, _, h2, _⟩ := h
  rintro rfl
  rw [h1] at h2
  injection h2 with h2; injection h2 with _ h2
  exact absurd h2 (by decide)
theorem DX.step (h : DX w g1 g2 B b p sh s c v acc) (hg : w.grownBy w1 (some g1)) {p1 : Nat} {sh1 : Bool} (hq : QX w1 g1 B b p1 sh1) : DX w1 g1 g2 B b p1 sh1 s c v acc := by
  have hne := h.ne
  obtain ⟨⟨h0, A, cap, hb, hC⟩, h1, h2, h3⟩ := h
  refine ⟨hq, h1, blk_grown h2 hg (fun e => hne (by injection e)), ?_⟩
  exact Kd.R_mono (Kd.R_grown (Kd.R_types h3 hb (by decide)) hg (fun k hk he => hk.2 (by injection he))) (fun _ _ => trivial)
theorem DX.bit (h : DX w g1 g2 B b p sh s c v acc) (hp : p < 8 * b.length) (hl : b.length < 1152921504606846976) (hb8 : ∀ i, gt b i < 256) :
    Calls Try.prog 39 #[.pointer (some ⟨g1, 0, none⟩)] w fun e w' => e = .returned (.int .i64 (bitAt b p)) ∧ DX w' g1 g2 B b (p + 1) sh s c v acc ∧ Below B w w' :=
  (qbit h.1 hp hl hb8).mono fun e w' ⟨h1, h2, h3⟩ => ⟨h1, h.step h3 h2, h.1.belowB h3⟩
theorem DX.short (h : DX w g1 g2 B b p sh s c v acc) (hp : p = 8 * b.length) (hl : b.length < 1152921504606846976) :
    Calls Try.prog 39 #[.pointer (some ⟨g1, 0, none⟩)] w fun e w' => e = .returned (.int .i64 0) ∧ DX w' g1 g2 B b p true s c v acc ∧ Below B w w' :=
  (qbit_short h.1 hp hl).mono fun e w' ⟨h1, h2, h3⟩ => ⟨h1, h.step h3 h2, h.1.belowB h3⟩
theorem QX.below (h : QX w g1 B b p sh) (hb : Below w.heap.size w w1) : QX w1 g1 B b p sh := by
  obtain ⟨h0, A, cap, h1, hC⟩ := h
  exact ⟨h0, A, cap, blk_below h1 hb, hC.below (hb.mono (by have := blk_lt h1; omega))⟩
theorem DX.below (h : DX w g1 g2 B b p sh s c v acc) (hb : Below w.heap.size w w1) : DX w1 g1 g2 B b p sh s c v acc :=
  ⟨h.1.below hb, h.2.1, blk_below h.2.2.1 hb, Kd.R_below h.2.2.2 hb⟩
theorem DX.set (h : DX w g1 g2 B b p sh s c v acc) (s' c' : Nat) : DX ((w.setCell ⟨g2, 0, none⟩ (.int .i64 s')).setCell ⟨g2, 1, none⟩ (.int .i64 c')) g1 g2 B b p sh s' c' v acc := by
  have hne := h.ne
  obtain ⟨⟨h0, A, cap, h1, hC⟩, h2, h3, h4⟩ := h
  have hh : ∀ (W : World) i u, (W.setCell ⟨g2, i, none⟩ u).heap[g1]? = W.heap[g1]? := fun W i u => Below.heap_setCell W _ u g1 (fun e => hne e.symm)
  have hE := blk_set h3 0 (.int .i64 s')
  refine ⟨⟨h0, A, cap, by rw [hh, hh]; exact h1, hC.below (((Below.refl _ _).setCell (p := ⟨g2, 0, none⟩) h2 _).setCell (p := ⟨g2, 1, none⟩) h2 _)⟩, h2, (blk_set hE 1 _).trans rfl, ?_⟩
  exact Kd.R_set (Kd.R_set h4 h3 (by decide) 0 _) hE (by decide) 1 _
theorem DX.outs (h : DX w g1 g2 B b p sh s c v acc) (hg : w.grownBy w1 v.ownBlock) (hB : Below B w w1) {v1 : Value} {acc1 : List Nat} (hR : Kd.R (nat .u32) 23 w1 B (fun _ => True) v1 acc1) : DX w1 g1 g2 B b p sh s c v1 acc1 := by
  obtain ⟨⟨h0, A, cap, h1, hC⟩, h2, h3, h4⟩ := h
  exact ⟨⟨h0, A, cap, blk_grown h1 hg (Kd.R_ne h4 h1 (by decide)), hC.below hB⟩, h2, blk_grown h3 hg (Kd.R_ne h4 h3 (by decide)), hR⟩
theorem DX.drewN (h : DX w g1 g2 B b p sh s c v acc) (n : Nat) : DX (w.drewN n) g1 g2 B b p sh s c v acc := h.below (pw_below_drewN (Below.refl _ _) n)
theorem DX.alloc (h : DX w g1 g2 B b p sh s c v acc) (o : Obj) : DX (w.alloc o) g1 g2 B b p sh s c v acc := h.below ((Below.refl _ _).alloc (Nat.le_refl _) o)
theorem DX.s0 (h : DX w g1 g2 B b p sh s c v acc) : w.cell? ⟨g2, 0, none⟩ = some (.int .i64 s) := (blk_cell h.2.2.1 0).trans rfl
theorem DX.s1 (h : DX w g1 g2 B b p sh s c v acc) : w.cell? ⟨g2, 1, none⟩ = some (.int .i64 c) := (blk_cell h.2.2.1 1).trans rfl
theorem DX.at_ (h : DX w g1 g2 B b p sh s c v acc) : w.cell? ⟨g1, 1, none⟩ = some (.int .i64 p) := by obtain ⟨⟨_, A, cap, h1, _⟩, _⟩ := h; exact (blk_cell h1 1).trans rfl
theorem DX.sh_ (h : DX w g1 g2 B b p sh s c v acc) : w.cell? ⟨g1, 2, none⟩ = some (.bool sh) := by obtain ⟨⟨_, A, cap, h1, _⟩, _⟩ := h; exact (blk_cell h1 2).trans rfl
theorem DX.gle (h : DX w g1 g2 B b p sh s c v acc) : B ≤ g2 := h.2.1
theorem DX.f (h : DX w g1 g2 B b p sh s c v acc) (i : Nat) : w.frozen? ⟨g2, i, none⟩ = false := blk_frozen h.2.2.1 i
end
theorem rDecode_many (A : Option Addr) (cap : Nat) (b : List Nat) (n : Int) (w : World) (hn : n < 0 ∨ 65536 < n) :
    Calls Try.prog 26 #[.slice A b.length cap, .int .i64 n] w fun e w' => e = .returned (.tuple #[.slice none 0 0, .int .i64 172]) ∧ w = w' := by
  by_cases h : n < 0
  · have t1 : decide (n < 0) = true := decide_eq_true h
    go_enter Try.func26, Try.ntmps26
    go_wp2
    repeat (go_quiet (fail); try go_wp2)
    go_ret2
    exact ⟨rfl, rfl⟩
  · have t1 : decide (n < 0) = false := decide_eq_false h
    have t2 : decide (65536 < n) = true := decide_eq_true (by omega)
    go_enter Try.func26, Try.ntmps26
    go_wp2
    repeat (go_quiet (fail); try go_wp2)
    go_ret2
    exact ⟨rfl, rfl⟩
end Go.Proofs.Ytpmmnjpimnapfaa.A
