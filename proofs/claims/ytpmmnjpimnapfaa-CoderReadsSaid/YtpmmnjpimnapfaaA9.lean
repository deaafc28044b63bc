import Derived.Test.YtpmmnjpimnapfaaA8
set_option linter.unusedVariables false
set_option linter.unusedSimpArgs false
namespace Go.Proofs.Ytpmmnjpimnapfaa.A
open Go.RowKit Go.Proofs.YtpmmnjpimnapfaaW.PrintWords Go.Proofs.YtpmmnjpimnapfaaW.PrintLast Go.Proofs.YtpmmnjpimnapfaaW.PrintMore

def decA (b : List Nat) : Nat → Nat → Nat → Nat → List Nat → Got (List Nat × Nat)
  | 0, p, _, _, acc => .ok (acc, p)
  | n + 1, p, s, c, acc => match numR b p (kOf s c) with
    | .err e => .err e
    | .ok (z, p') => decA b n p' (nextS s c z) (nextC c) (acc ++ [unfold_ z])
def decE (b : List Nat) : Got (List Nat × Nat) → Got (List Nat)
  | .err e => .err e
  | .ok (l, p) => if endsR b p then .ok l else .err 170
def dec (b : List Nat) (n : Nat) : Got (List Nat) := decE b (decA b n 0 16 1 [])
theorem numR_at {b : List Nat} {p k z p' : Nat} (h : numR b p k = .ok (z, p')) (hp : p ≤ 8 * b.length) (hk : k ≤ 31) : p' ≤ 8 * b.length ∧ z < 4294967296 := by
  unfold numR at h
  rcases hO : onesR b 24 p 0 with _ | ⟨q, p1⟩
  · rw [hO] at h; cases h
  · rw [hO] at h
    obtain ⟨hq, hp1⟩ := onesR_at hO hp
    rcases hL : lowR b (if q = 24 then 32 else k) p1 0 with _ | ⟨y, p2⟩
    · simp only [hL] at h; cases h
    · simp only [hL] at h
      obtain ⟨h1, h2, h3⟩ := lowR_at hL hp1
      unfold formR at h
      split at h
      · rename_i h24
        split at h
        · cases h
        · injection h with h; injection h with ha hb; subst ha; subst hb
          rw [if_pos h24] at h3
          exact ⟨h2, by omega⟩
      · rename_i h24
        rw [if_neg h24] at h3
        split at h
        · cases h
        · rename_i hf
          injection h with h; injection h with ha hb; subst ha; subst hb
          refine ⟨h2, ?_⟩
          have h4 : 2 ^ (32 - k) * 2 ^ k = 4294967296 := by rw [← Nat.pow_add, show 32 - k + k = 32 from by omega]
          have h5 : q < 2 ^ (32 - k) := Nat.lt_of_mul_lt_mul_right (a := 2 ^ k) (by omega)
          have h6 : (q + 1) * 2 ^ k ≤ 2 ^ (32 - k) * 2 ^ k := Nat.mul_le_mul (by omega) (Nat.le_refl _)
          rw [Nat.add_mul] at h6
          omega
theorem numR_err {b : List Nat} {p k e : Nat} (h : numR b p k = .err e) : e = 170 ∨ e = 171 := by
  unfold numR at h
  rcases hO : onesR b 24 p 0 with _ | ⟨q, p1⟩
  · rw [hO] at h; injection h with h; omega
  · rw [hO] at h
    rcases hL : lowR b (if q = 24 then 32 else k) p1 0 with _ | ⟨y, p2⟩
    · simp only [hL] at h; injection h with h; omega
    · simp only [hL] at h
      unfold formR at h
      split at h <;> split at h <;> first | (injection h with h; omega) | cases h

theorem info23 : (Try.prog.info? 23).map (fun i => (i.zero, i.size, i.bytes)) = some (some (.int .u32 0), 1, 4) := by kernel_rfl
def DecPost (R : Got (List Nat)) (w : World) (e : Ending) (w' : World) : Prop :=
  (match R with
    | .ok l => ∃ v, e = .returned (.tuple #[v, .int .i64 0]) ∧ Kd.R (nat .u32) 23 w' w.heap.size (fun _ => True) v l
    | .err n => e = .returned (.tuple #[.slice none 0 0, .int .i64 n])) ∧ Below w.heap.size w w'
theorem RX.keepR {w w' : World} {g B s c B' : Nat} {b : List Nat} {p : Nat} {v : Value} {xs : List Nat} (h : RX w g B s c b p) (hg : w.grownBy w' (some g)) (hR : Kd.R (nat .u32) 23 w B' (fun _ => True) v xs) : Kd.R (nat .u32) 23 w' B' (fun _ => True) v xs := by
  obtain ⟨_, A, cap, hb, _⟩ := h
  exact Kd.R_mono (Kd.R_grown (Kd.R_types hR hb (by decide)) hg (fun k hk he => hk.2 (by injection he))) (fun _ _ => trivial)
theorem RX.keepX {w w' : World} {g B s c : Nat} {b : List Nat} {p : Nat} {v : Value} {xs : List Nat} (h : RX w g B s c b p) (hg : w.grownBy w' v.ownBlock) (hR : Kd.R (nat .u32) 23 w B (fun _ => True) v xs) (hB : Below B w w') : RX w' g B s c b p := by
  obtain ⟨h1, A, cap, hb, hC⟩ := h
  exact ⟨h1, A, cap, blk_grown hb hg (Kd.R_ne hR hb (by decide)), hC.below hB⟩
theorem RX.belowB {w w' : World} {g B s c : Nat} {b : List Nat} {p : Nat} (h : RX w g B s c b p) (hg : w.grownBy w' (some g)) : Below B w w' := below_of_grown hg h.1 (by have := h.lt; have := h.1; omega)
theorem Decode_many (A : Option Addr) (cap : Nat) (b : List Nat) (n : Int) (w : World) (hn : n < 0 ∨ 65536 < n) :
    Calls Try.prog 27 #[.slice A b.length cap, .int .i64 n] w fun e w' => e = .returned (.tuple #[.slice none 0 0, .int .i64 172]) ∧ w = w' := by
  by_cases h : n < 0
  · have t1 : decide (n < 0) = true := decide_eq_true h
    go_enter Try.func27, Try.ntmps27
    go_wp2
    repeat (go_quiet (fail); try go_wp2)
    go_ret2
    exact ⟨rfl, rfl⟩
  · have t1 : decide (n < 0) = false := decide_eq_false h
    have t2 : decide (65536 < n) = true := decide_eq_true (by omega)
    go_enter Try.func27, Try.ntmps27
    go_wp2
    repeat (go_quiet (fail); try go_wp2)
    go_ret2
    exact ⟨rfl, rfl⟩
set_option maxHeartbeats 4000000 in
theorem Decode_calls (A : Option Addr) (cap : Nat) (b : List Nat) (n : Nat) (w : World) (hC : (nat .u8).C w A b.length b) (hcap : b.length ≤ cap) (hl : b.length < 1152921504606846976) (hb8 : ∀ i, gt b i < 256) (hn : n ≤ 65536) :
    Calls Try.prog 27 #[.slice A b.length cap, .int .i64 n] w (DecPost (dec b n) w) := by
  have HC := Aside0.mk (CB.of_C hC)
  clear hC
  obtain ⟨R, hR⟩ : ∃ R, R = decA b n 0 16 1 [] := ⟨_, rfl⟩
  have HR := Aside0.mk hR
  clear hR
  have t1 : decide ((n : Int) < 0) = false := decide_eq_false (by omega)
  have t2 : decide (65536 < (n : Int)) = false := decide_eq_false (by omega)
  go_enter Try.func27, Try.ntmps27
  go_wp2_with (go_at_call 40; refine (begins_calls _).mono ?_; rintro e w1 ⟨rfl, b1⟩; have B1 := Aside0.mk b1; clear b1)
  go_loopw [8, 24] (fun u v wr => ∃ (j s c p : Nat) (acc : List Nat), j ≤ n ∧ v = .int .i64 j ∧ acc.length = j ∧ s ≤ 16 + j * 4294967296 ∧ c < 64 ∧ p ≤ 8 * b.length ∧ Aside0 (RX wr w1.heap.size w.heap.size s c b p) ∧ Aside0 (Kd.R (nat .u32) 23 wr w.heap.size (fun _ => True) u acc) ∧ Aside0 (decA b (n - j) p s c acc = R) ∧ Aside0 (Below w.heap.size w wr)) (fun _ v _ => n - (intOf v).toNat)
  case atStart =>
    have hB2 := B1.out.alloc B1.out.size (.cells #[.int .u64 16, .int .u64 1, .slice A b.length cap, .int .i64 0] 88)
    exact ⟨0, 16, 1, 0, [], by omega, rfl, rfl, by omega, by omega, by omega, ⟨⟨B1.out.size, A, cap, blk_new w1 _, HC.out.below hB2⟩⟩, ⟨Kd.R_nil _ _ _ _ _⟩, ⟨HR.out.symm⟩, ⟨hB2⟩⟩
  case round =>
    obtain ⟨j, s, c, p, acc, hj, rfl, hacc, hs, hc, hp, HX, HA, HL, HB⟩ := hrel
    by_cases hjn : j < n
    · have hst : decA b (n - j) p s c acc = match numR b p (kOf s c) with
        | .err e => .err e
        | .ok (z, p') => decA b (n - (j + 1)) p' (nextS s c z) (nextC c) (acc ++ [unfold_ z]) := by rw [show n - j = (n - (j + 1)) + 1 from by omega]; rfl
      have hsb : s < 1152921504606846976 := by omega
      have HAl := Aside0.mk hacc
      clear hacc
      rcases hN : numR b p (kOf s c) with ⟨z, p'⟩ | e
      · have hz := numR_at hN hp (kOf_le s c)
        rw [hN] at hst
        have HN := Aside0.mk hN
        have HST := Aside0.mk hst
        obtain ⟨hp', hz⟩ := hz
        clear hN hst
        go_wp2_with (first | (go_at_call 41; refine (rnumber HX.out hp hl hb8 hsb hc).mono ?_; rw [HN.out]; rintro e w2 ⟨⟨rfl, h2⟩, b2⟩; have B2 := Aside0.mk (HB.out.trans (HX.out.belowB b2)); have A2 := Aside0.mk (HX.out.keepR b2 HA.out); have X2 := Aside0.mk h2; clear h2 b2) | (go_at_call 13; refine (unfold_calls z _ hz).mono ?_; rintro e w3 ⟨rfl, rfl⟩) | ((with_reducible refine gate_builtin (b := .append) (xs := #[.tmp 34, .tmp 37]) rfl ?_); at_builtin; refine Kd.R_append (nat .u32) (w0 := w) w.heap.size rfl (.tmp 34) (.tmp 37) 26 23 (.int .u32 0) 4 rfl Try.underlying26 info23 rfl (by decide) (by omega) u8 acc (unfold_ z) [.int .u32 (unfold_ z)] (fun _ => True) (fun _ => False) rfl rfl rfl (fun _ hk => hk.elim) (fun _ _ => trivial) A2.out B2.out B2.out.size ?aL ?_; (case aL => have := HAl.out; omega); intro v1 w4 hR1 hB1 hg1 hat1; have X3 := Aside0.mk (X2.out.keepX hg1 A2.out (hB1.trans (Below.refl _ _) |> fun h => ⟨hg1.os, hg1.tape, hg1.output, hg1.size, fun k hk => hg1.block k (Nat.lt_of_lt_of_le hk B2.out.size) (fun he => by have := Kd.R_base A2.out k he.symm; omega)⟩)); have A3 := Aside0.mk hR1; have B3 := Aside0.mk hB1; clear hR1 hB1 hg1 hat1))
        go_roundw
        case measure => simp [intOf]; omega
        case rel => exact ⟨j + 1, _, _, _, _, by omega, by go_num, by have := HAl.out; simp; omega, nextS_le (by omega), nextC_lt hc, hp', X3, A3, ⟨by rw [← HL.out, HST.out]⟩, B3⟩
      · have hRe : Aside0 (R = .err e) := ⟨by rw [← HL.out, hst, hN]⟩
        have he : Aside0 (e = 170 ∨ e = 171) := ⟨numR_err hN⟩
        have hne : ((e : Int) != 0) = true := by rw [bne_iff_ne]; rcases he.out with h | h <;> omega
        have HN := Aside0.mk hN
        clear hN hst
        go_wp2_with (go_at_call 41; refine (rnumber HX.out hp hl hb8 hsb hc).mono ?_; rw [HN.out]; rintro e w2 ⟨⟨rfl, h2⟩, b2⟩; have B2 := Aside0.mk (HB.out.trans (HX.out.belowB b2)); clear h2 b2)
        go_ret2
        have hd : dec b n = .err e := by unfold dec; rw [← HR.out, hRe.out]; rfl
        rw [hd]
        exact ⟨rfl, B2.out⟩
    · obtain rfl : j = n := by omega
      have hRo : Aside0 (R = .ok (acc, p)) := ⟨by rw [← HL.out, Nat.sub_self]; rfl⟩
      cases hE : endsR b p
      · have HE := Aside0.mk hE
        clear hE
        go_wp2_with (go_at_call 42; refine (rends HX.out hp hl hb8).mono ?_; rw [HE.out]; rintro e w2 ⟨rfl, b2⟩; have B2 := Aside0.mk (HB.out.trans (HX.out.belowB b2)); clear b2)
        go_ret2
        have hd : dec b j = .err 170 := by unfold dec; rw [← HR.out, hRo.out]; simp [decE, HE.out]
        rw [hd]
        exact ⟨rfl, B2.out⟩
      · have HE := Aside0.mk hE
        clear hE
        go_wp2_with (go_at_call 42; refine (rends HX.out hp hl hb8).mono ?_; rw [HE.out]; rintro e w2 ⟨rfl, b2⟩; have B2 := Aside0.mk (HB.out.trans (HX.out.belowB b2)); have A2 := Aside0.mk (HX.out.keepR b2 HA.out); clear b2)
        go_ret2
        have hd : dec b j = .ok acc := by unfold dec; rw [← HR.out, hRo.out]; simp [decE, HE.out]
        rw [hd]
        exact ⟨⟨_, rfl, A2.out⟩, B2.out⟩
end Go.Proofs.Ytpmmnjpimnapfaa.A
