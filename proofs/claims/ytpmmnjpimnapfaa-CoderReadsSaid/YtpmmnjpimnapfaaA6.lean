import Derived.Test.YtpmmnjpimnapfaaA5
set_option linter.unusedVariables false
set_option linter.unusedSimpArgs false
namespace Go.Proofs.Ytpmmnjpimnapfaa.A
open Go.RowKit Go.Proofs.YtpmmnjpimnapfaaW.PrintWords Go.Proofs.YtpmmnjpimnapfaaW.PrintLast Go.Proofs.YtpmmnjpimnapfaaW.PrintMore

/-- A slice of numbers that is read; its block lies below B. -/
def CB (k : IntKind) (w : World) (B : Nat) (A : Option Addr) (xs : List Nat) : Prop := (nat k).C w A xs.length xs ∧ ∀ ad, A = some ad → 0 < xs.length → ad.block < B
section
variable {k : IntKind} {w w1 : World} {B : Nat} {A : Option Addr} {xs : List Nat}
theorem block_add (a : Addr) (n : Nat) : (a.add n).block = a.block := by unfold Addr.add; split <;> rfl
theorem CB.of_C (h : (nat k).C w A xs.length xs) : CB k w w.heap.size A xs := ⟨h, fun ad hA hp => by
  obtain ⟨ad', e, hc⟩ := C_nat h 0 hp
  rw [hA] at e; injection e with e; subst e
  have := World.block_lt_of_cell? w _ hc
  rwa [block_add] at this⟩
theorem CB.below (h : CB k w B A xs) (hb : Below B w w1) : CB k w1 B A xs := by
  refine ⟨Kd.C_of_reads (d := 0) ⟨rfl, h.1.2.1, fun hp => ?_⟩, h.2⟩
  obtain ⟨ad, e, _⟩ := C_nat h.1 0 hp
  refine ⟨ad, e, fun j hj => ?_⟩
  obtain ⟨ad', e', hc⟩ := C_nat h.1 j hj
  rw [e] at e'; injection e' with e'; subst e'
  rw [hb.cell (by rw [block_add]; exact h.2 ad e hp)]
  exact hc
theorem CB.at_ (h : CB k w B A xs) (i : Nat) (hi : i < xs.length) : ∃ ad, A = some ad ∧ w.cell? (ad.add i) = some (.int k (gt xs i)) := C_nat h.1 i hi
end
/-- the reader at block g -/
def RX (w : World) (g B s c : Nat) (b : List Nat) (p : Nat) : Prop :=
  B ≤ g ∧ ∃ A cap, w.heap[g]? = some (.cells #[.int .u64 s, .int .u64 c, .slice A b.length cap, .int .i64 p] 88 (0, 0)) ∧ CB .u8 w B A b
theorem gdrewN {a w : World} {row : Option Nat} (h : a.grownBy w row) (n : Nat) : a.grownBy (w.drewN n) row := ⟨h.os, h.tape, h.output, h.size, h.block⟩
def bitAt (b : List Nat) (p : Nat) : Nat := gt b (p / 8) / 2 ^ (7 - p % 8) % 2
theorem RX.drewN {w : World} {g B s c : Nat} {b : List Nat} {p : Nat} (h : RX w g B s c b p) (m : Nat) : RX (w.drewN m) g B s c b p := h

set_option maxHeartbeats 2000000 in
theorem rbit_short {g B s c : Nat} {b : List Nat} {p : Nat} {w : World} (h : RX w g B s c b p) (hp : p = 8 * b.length) (hl : b.length < 1152921504606846976) :
    Calls Try.prog 48 #[.pointer (some ⟨g, 0, none⟩)] w fun e w' => e = .returned (.tuple #[.int .u32 0, .int .i64 171]) ∧ RX w' g B s c b p ∧ w.grownBy w' (some g) := by
  have H := Aside0.mk h
  obtain ⟨hg, A, cap, hb, hC⟩ := h
  have c2 := (blk_cell hb 2).trans rfl
  have c3 := (blk_cell hb 3).trans rfl
  have hw : IntKind.i64.wrap (8 * (b.length : Int)) = 8 * (b.length : Int) := by simp only [IntKind.wrap_i64]; omega
  have t1 : ((p : Int) == 8 * (b.length : Int)) = true := by rw [beq_iff_eq]; omega
  have HP := Aside0.mk hp
  clear hp hb hC
  go_enter Try.func48, Try.ntmps48
  go_wp2
  repeat (go_quiet (fail); try go_wp2)
  go_ret2
  exact ⟨rfl, H.out.drewN _, gdrewN (World.grownBy.refl w _) _⟩
set_option maxHeartbeats 2000000 in
theorem rbit {g B s c : Nat} {b : List Nat} {p : Nat} {w : World} (h : RX w g B s c b p) (hp : p < 8 * b.length) (hl : b.length < 1152921504606846976) (hb8 : ∀ i, gt b i < 256) :
    Calls Try.prog 48 #[.pointer (some ⟨g, 0, none⟩)] w fun e w' => e = .returned (.tuple #[.int .u32 (bitAt b p), .int .i64 0]) ∧ RX w' g B s c b (p + 1) ∧ w.grownBy w' (some g) := by
  obtain ⟨hg, A, cap, hb, hC⟩ := h
  obtain ⟨ad, rfl, hx⟩ := hC.at_ (p / 8) (by omega)
  have c2 := (blk_cell hb 2).trans rfl
  have c3 := (blk_cell hb 3).trans rfl
  have f3 := blk_frozen hb 3
  have hw : IntKind.i64.wrap (8 * (b.length : Int)) = 8 * (b.length : Int) := by simp only [IntKind.wrap_i64]; omega
  have t1 : ((p : Int) == 8 * (b.length : Int)) = false := by rw [beq_eq_false_iff_ne]; omega
  have HB := Aside0.mk hb
  have HC := Aside0.mk hC
  clear hb hC
  go_enter Try.func48, Try.ntmps48
  go_wp2
  repeat (go_quiet (fail); try go_wp2)
  go_ret2
  have hv : bits .and .u8 ((gt b (p / 8) : Int) / 2 ^ (7 - p % 8)) 1 % 4294967296 = (bitAt b p : Int) := by
    have h1 : ((gt b (p / 8) : Int) / 2 ^ (7 - p % 8)) = ((gt b (p / 8) / 2 ^ (7 - p % 8) : Nat) : Int) := by simp
    have h2 : gt b (p / 8) / 2 ^ (7 - p % 8) < 256 := Nat.lt_of_le_of_lt (Nat.div_le_self _ _) (hb8 _)
    have h3 := u8_and_nat _ 1 h2 (by omega)
    rw [Nat.and_one_is_mod] at h3
    rw [h1]
    unfold bitAt
    generalize gt b (p / 8) / 2 ^ (7 - p % 8) = y at *
    have h4 : bits .and .u8 (y : Int) 1 = ((y % 2 : Nat) : Int) := h3
    rw [h4]; omega
  have hr : #[Value.int .u32 (bits .and .u8 ((gt b (p / 8) : Int) / 2 ^ (7 - p % 8)) 1 % 4294967296), Value.int .i64 0] = #[Value.int .u32 (bitAt b p : Int), Value.int .i64 0] := by rw [hv]
  refine ⟨congrArg (fun a => Ending.returned (.tuple a)) hr, ⟨hg, some ad, cap, ?_, HC.out.below ?_⟩, ?_⟩
  · refine (blk_set (cs := #[.int .u64 s, .int .u64 c, .slice (some ad) b.length cap, .int .i64 p]) ?_ 3 (.int .i64 ((p : Int) + 1))).trans rfl
    exact HB.out
  · exact (pw_below_drewN (Below.refl B w) _).setCell (p := ⟨g, 3, none⟩) hg _
  · exact gset (gdrewN (World.grownBy.refl w _) _) 3 _

/-! what is read -/
/-- n bits, the highest first; none: they end -/
def lowR (b : List Nat) : Nat → Nat → Nat → Option (Nat × Nat)
  | 0, p, z => some (z, p)
  | n + 1, p, z => if p = 8 * b.length then none else lowR b n (p + 1) (2 * z + bitAt b p)
/-- bits 1, d at most, and the bit 0 behind fewer; none: they end -/
def onesR (b : List Nat) : Nat → Nat → Nat → Option (Nat × Nat)
  | 0, p, q => some (q, p)
  | d + 1, p, q => if p = 8 * b.length then none else if bitAt b p = 0 then some (q, p + 1) else onesR b d (p + 1) (q + 1)
theorem bitAt_lt (b : List Nat) (p : Nat) : bitAt b p < 2 := Nat.mod_lt _ (by omega)
theorem lowR_at {b : List Nat} : ∀ {n p z z' p' : Nat}, lowR b n p z = some (z', p') → p ≤ 8 * b.length → p' = p + n ∧ p' ≤ 8 * b.length ∧ z' < (z + 1) * 2 ^ n := by
  intro n
  induction n with
  | zero => intro p z z' p' h hp; simp [lowR] at h; omega
  | succ n ih =>
    intro p z z' p' h hp
    unfold lowR at h
    split at h
    · cases h
    · have h1 := ih h (by omega)
      have h2 := bitAt_lt b p
      refine ⟨by omega, by omega, Nat.lt_of_lt_of_le h1.2.2 ?_⟩
      rw [Nat.pow_succ, Nat.mul_comm _ 2, ← Nat.mul_assoc]
      exact Nat.mul_le_mul (by omega) (Nat.le_refl _)
theorem onesR_at {b : List Nat} : ∀ {d p q q' p' : Nat}, onesR b d p q = some (q', p') → p ≤ 8 * b.length → q' ≤ q + d ∧ p' ≤ 8 * b.length := by
  intro d
  induction d with
  | zero => intro p q q' p' h hp; simp [onesR] at h; omega
  | succ d ih =>
    intro p q q' p' h hp
    unfold onesR at h
    split at h
    · cases h
    · split at h
      · simp at h; omega
      · have := ih h (by omega); omega

def LowPost (R : Option (Nat × Nat)) (g B s c : Nat) (b : List Nat) (w : World) (e : Ending) (w' : World) : Prop :=
  (match R with
    | some (z, p') => e = .returned (.tuple #[.int .u32 z, .int .i64 0]) ∧ RX w' g B s c b p'
    | none => e = .returned (.tuple #[.int .u32 0, .int .i64 171]) ∧ ∃ p', RX w' g B s c b p') ∧ w.grownBy w' (some g)
def OnesPost (R : Option (Nat × Nat)) (g B s c : Nat) (b : List Nat) (w : World) (e : Ending) (w' : World) : Prop :=
  (match R with
    | some (q, p') => e = .returned (.tuple #[.int .i64 q, .int .i64 0]) ∧ RX w' g B s c b p'
    | none => (∃ q : Nat, e = .returned (.tuple #[.int .i64 q, .int .i64 171])) ∧ ∃ p', RX w' g B s c b p') ∧ w.grownBy w' (some g)
set_option maxHeartbeats 2000000 in
theorem rlow {g B s c : Nat} {b : List Nat} {p : Nat} (n : Nat) {w : World} (h : RX w g B s c b p) (hp : p ≤ 8 * b.length) (hl : b.length < 1152921504606846976) (hb8 : ∀ i, gt b i < 256) (hn : n ≤ 32) :
    Calls Try.prog 46 #[.pointer (some ⟨g, 0, none⟩), .int .i64 n] w (LowPost (lowR b n p 0) g B s c b w) := by
  have H := Aside0.mk h
  clear h
  obtain ⟨R, hR⟩ : ∃ R, R = lowR b n p 0 := ⟨_, rfl⟩
  rw [← hR]
  have HR := Aside0.mk hR
  clear hR
  go_enter Try.func46, Try.ntmps46
  go_wp2
  go_loopw [6, 10] (fun u v wr => ∃ (z j p' : Nat), j ≤ n ∧ u = .int .u32 z ∧ v = .int .i64 j ∧ z < 2 ^ j ∧ p' ≤ 8 * b.length ∧ Aside0 (RX wr g B s c b p') ∧ Aside0 (lowR b (n - j) p' z = R) ∧ Aside0 (w.grownBy wr (some g))) (fun _ v _ => n - (intOf v).toNat)
  case atStart => exact ⟨0, 0, p, by omega, rfl, rfl, by omega, hp, H, ⟨HR.out.symm⟩, ⟨World.grownBy.refl w _⟩⟩
  case round =>
    obtain ⟨z, j, p', hj, rfl, rfl, hz, hp', HX, HL, HB⟩ := hrel
    have Hz := Aside0.mk hz
    clear hz
    by_cases hjn : j < n
    · have hz31 : z < 2147483648 := Nat.lt_of_lt_of_le Hz.out (Nat.pow_le_pow_right (by omega) (by omega) : 2 ^ j ≤ 2 ^ 31)
      by_cases hps : p' = 8 * b.length
      · have hRn : Aside0 (R = none) := ⟨by rw [← HL.out, show n - j = (n - (j + 1)) + 1 from by omega]; unfold lowR; rw [if_pos hps]⟩
        have hps' := Aside0.mk hps
        clear hps
        go_wp2_with (go_at_call 48; refine (rbit_short HX.out hps'.out hl).mono ?_; rintro e w1 ⟨rfl, h1, b1⟩; have H1 := Aside0.mk h1; have B1 := Aside0.mk b1; clear h1 b1)
        go_ret2
        rw [hRn.out]
        exact ⟨⟨rfl, _, H1.out⟩, HB.out.trans B1.out⟩
      · have hRs : Aside0 (lowR b (n - (j + 1)) (p' + 1) (2 * z + bitAt b p') = R) := ⟨by rw [← HL.out, show n - j = (n - (j + 1)) + 1 from by omega]; conv => rhs; unfold lowR; rw [if_neg hps]⟩
        have hps' : p' < 8 * b.length := by omega
        clear hps
        have hx := bitAt_lt b p'
        obtain ⟨x, hxe⟩ : ∃ x, x = bitAt b p' := ⟨_, rfl⟩
        rw [← hxe] at hx hRs
        have Hxe := Aside0.mk hxe
        clear hxe
        have hor : bits .or .u32 ((z : Int) * 2) (x : Int) = 2 * (z : Int) + x := by
          have h1 := u32_or_nat (2 * z) x (by omega) (by omega)
          rw [show ((z : Int) * 2) = ((2 * z : Nat) : Int) from by omega, h1]
          have h2 := Nat.two_pow_add_eq_or_of_lt (i := 1) (b := x) (by omega) z
          simp only [Nat.pow_one] at h2
          rw [← h2]; omega
        go_wp2_with (go_at_call 48; refine (rbit HX.out hps' hl hb8).mono ?_; rw [← Hxe.out]; rintro e w1 ⟨rfl, h1, b1⟩; have H1 := Aside0.mk h1; have B1 := Aside0.mk b1; clear h1 b1)
        go_roundw
        case measure => simp [intOf]; omega
        case rel => exact ⟨2 * z + x, j + 1, p' + 1, by omega, by go_num, by go_num, by have := Hz.out; rw [Nat.pow_succ]; omega, by omega, H1, hRs, ⟨HB.out.trans B1.out⟩⟩
    · obtain rfl : j = n := by omega
      go_wp2
      go_ret2
      have h2 := HL.out
      rw [Nat.sub_self] at h2
      rw [← h2]
      exact ⟨⟨rfl, HX.out⟩, HB.out⟩
set_option maxHeartbeats 2000000 in
theorem rones {g B s c : Nat} {b : List Nat} {p : Nat} {w : World} (h : RX w g B s c b p) (hp : p ≤ 8 * b.length) (hl : b.length < 1152921504606846976) (hb8 : ∀ i, gt b i < 256) :
    Calls Try.prog 45 #[.pointer (some ⟨g, 0, none⟩)] w (OnesPost (onesR b 24 p 0) g B s c b w) := by
  have H := Aside0.mk h
  clear h
  obtain ⟨R, hR⟩ : ∃ R, R = onesR b 24 p 0 := ⟨_, rfl⟩
  rw [← hR]
  have HR := Aside0.mk hR
  clear hR
  go_enter Try.func45, Try.ntmps45
  go_wp2
  go_loopw [7] (fun v wr => ∃ (j p' : Nat), j ≤ 24 ∧ v = .int .i64 j ∧ p' ≤ 8 * b.length ∧ Aside0 (RX wr g B s c b p') ∧ Aside0 (onesR b (24 - j) p' j = R) ∧ Aside0 (w.grownBy wr (some g))) (fun v _ => 24 - (intOf v).toNat)
  case atStart => exact ⟨0, p, by omega, rfl, hp, H, ⟨HR.out.symm⟩, ⟨World.grownBy.refl w _⟩⟩
  case round =>
    obtain ⟨j, p', hj, rfl, hp', HX, HL, HB⟩ := hrel
    by_cases hjn : j < 24
    · by_cases hps : p' = 8 * b.length
      · have hRn : Aside0 (R = none) := ⟨by rw [← HL.out, show 24 - j = (24 - (j + 1)) + 1 from by omega]; unfold onesR; rw [if_pos hps]⟩
        have hps' := Aside0.mk hps
        clear hps
        go_wp2_with (go_at_call 48; refine (rbit_short HX.out hps'.out hl).mono ?_; rintro e w1 ⟨rfl, h1, b1⟩; have H1 := Aside0.mk h1; have B1 := Aside0.mk b1; clear h1 b1)
        go_ret2
        rw [hRn.out]
        exact ⟨⟨⟨_, rfl⟩, _, H1.out⟩, HB.out.trans B1.out⟩
      · have hps' : p' < 8 * b.length := by omega
        have hx := bitAt_lt b p'
        obtain ⟨x, hxe⟩ : ∃ x, x = bitAt b p' := ⟨_, rfl⟩
        have hst : onesR b (24 - j) p' j = if x = 0 then some (j, p' + 1) else onesR b (24 - (j + 1)) (p' + 1) (j + 1) := by
          rw [show 24 - j = (24 - (j + 1)) + 1 from by omega]; conv => lhs; unfold onesR; rw [if_neg hps, ← hxe]
        rw [← hxe] at hx
        have Hxe := Aside0.mk hxe
        clear hxe hps
        by_cases hx0 : x = 0
        · have hRn : Aside0 (R = some (j, p' + 1)) := ⟨by rw [← HL.out, hst, if_pos hx0]⟩
          have t1 : ((x : Int) == 0) = true := by rw [beq_iff_eq]; omega
          clear hst hx0
          go_wp2_with (go_at_call 48; refine (rbit HX.out hps' hl hb8).mono ?_; rw [← Hxe.out]; rintro e w1 ⟨rfl, h1, b1⟩; have H1 := Aside0.mk h1; have B1 := Aside0.mk b1; clear h1 b1)
          repeat (go_quiet (fail); try go_wp2)
          go_ret2
          rw [hRn.out]
          exact ⟨⟨rfl, H1.out⟩, HB.out.trans B1.out⟩
        · have hRs : Aside0 (onesR b (24 - (j + 1)) (p' + 1) (j + 1) = R) := ⟨by rw [← HL.out, hst, if_neg hx0]⟩
          have t1 : ((x : Int) == 0) = false := by rw [beq_eq_false_iff_ne]; omega
          clear hst hx0
          go_wp2_with (go_at_call 48; refine (rbit HX.out hps' hl hb8).mono ?_; rw [← Hxe.out]; rintro e w1 ⟨rfl, h1, b1⟩; have H1 := Aside0.mk h1; have B1 := Aside0.mk b1; clear h1 b1)
          repeat (go_quiet (fail); try go_wp2)
          go_roundw
          case measure => simp [intOf]; omega
          case rel => exact ⟨j + 1, p' + 1, by omega, by go_num, by omega, H1, hRs, ⟨HB.out.trans B1.out⟩⟩
    · obtain rfl : j = 24 := by omega
      go_wp2
      go_ret2
      have h2 := HL.out
      rw [Nat.sub_self] at h2
      rw [← h2]
      exact ⟨⟨rfl, HX.out⟩, HB.out⟩
end Go.Proofs.Ytpmmnjpimnapfaa.A
