import Derived.Test.YtpmmnjpimnapfaaB2
import Derived.StillTailTactics
set_option linter.unusedVariables false
set_option linter.unusedSimpArgs false
namespace Go.Proofs.Ytpmmnjpimnapfaa.A
open Go.RowKit Go.Proofs.YtpmmnjpimnapfaaW.PrintWords Go.Proofs.YtpmmnjpimnapfaaW.PrintLast Go.Proofs.YtpmmnjpimnapfaaW.PrintMore

def ptake (l : List Nat) (i : Nat) : List Nat := putAll [] 0 (l.take i)
def pk (l : List Nat) (i : Nat) : List Nat := ptake l i ++ List.replicate ((l.length + 7) / 8 - (i + 7) / 8) 0
theorem good_nil : Good [] 0 := ⟨rfl, fun i => by simp [gt]⟩
theorem ptake_good (l : List Nat) (i : Nat) (h : i ≤ l.length) : Good (ptake l i) i := by
  have := good_putAll (l.take i) good_nil
  rwa [List.length_take, Nat.min_eq_left h, Nat.zero_add] at this
theorem take_gt {l : List Nat} {i : Nat} (h : i < l.length) : l.take (i + 1) = l.take i ++ [gt l i] := by
  rw [List.take_succ_eq_append_getElem h]; simp [gt, List.getElem?_eq_getElem h]
theorem ptake_succ {l : List Nat} {i : Nat} (h : i < l.length) : ptake l (i + 1) = putBit (ptake l i) i (gt l i) := by
  unfold ptake
  rw [take_gt h, putAll_append, List.length_take, Nat.min_eq_left (by omega), Nat.zero_add]
  rfl
theorem or_add {e y m : Nat} (he : e % 2 ^ m = 0) (hy : y < 2 ^ m) : e ||| y = e + y := by
  have h := Nat.two_pow_add_eq_or_of_lt hy (e / 2 ^ m)
  have h2 : 2 ^ m * (e / 2 ^ m) = e := by have := Nat.div_add_mod e (2 ^ m); omega
  rw [h2] at h
  exact h.symm
theorem gt_snoc_last (bs : List Nat) (y : Nat) : gt (bs ++ [y]) bs.length = y := by simp [gt]
theorem gt_set_same {bs : List Nat} {j y : Nat} (h : j < bs.length) : gt (bs.set j y) j = y := by simp [gt, h]
theorem gt_app_left {bs cs : List Nat} {j : Nat} (h : j < bs.length) : gt (bs ++ cs) j = gt bs j := by simp [gt, List.getElem?_append_left h]
theorem pow_dvd_mul {x a b : Nat} (h : b ≤ a) : x * 2 ^ a % 2 ^ b = 0 := by
  obtain ⟨c, rfl⟩ : ∃ c, a = c + b := ⟨a - b, by omega⟩
  rw [Nat.pow_add, ← Nat.mul_assoc]; exact Nat.mul_mod_left _ _
theorem mod_of_mod {e a b : Nat} (h : e % 2 ^ a = 0) (hb : b ≤ a) : e % 2 ^ b = 0 := by
  have h2 : e = e / 2 ^ a * 2 ^ a := by have := Nat.div_add_mod e (2 ^ a); rw [Nat.mul_comm] at this; omega
  rw [h2]; exact pow_dvd_mul hb
theorem y_lt {x r : Nat} (hr : r ≤ 7) : x % 2 * 2 ^ (7 - r) < 2 ^ (8 - r) := by
  rw [show 8 - r = (7 - r) + 1 from by omega, Nat.pow_succ, Nat.mul_comm _ 2]
  have : 0 < 2 ^ (7 - r) := Nat.two_pow_pos _
  exact (Nat.mul_lt_mul_right this).2 (Nat.mod_lt _ (by omega))
theorem aligned {l : List Nat} : ∀ {i : Nat}, i ≤ l.length → i % 8 ≠ 0 → gt (ptake l i) (i / 8) % 2 ^ (8 - i % 8) = 0 := by
  intro i
  induction i with
  | zero => intro _ h; exact absurd rfl h
  | succ i ih =>
    intro h h8
    have hG := ptake_good l i (by omega)
    have hlen := hG.1
    rw [ptake_succ (by omega)]
    unfold putBit lastOr
    by_cases h0 : i % 8 = 0
    · rw [if_pos h0, show (i + 1) / 8 = (ptake l i ++ [0]).length - 1 from by simp; omega, gt_set_same (by simp)]
      have h1 : gt (ptake l i ++ [0]) ((ptake l i ++ [0]).length - 1) = 0 := by
        rw [List.length_append, List.length_singleton, Nat.add_sub_cancel]; exact gt_snoc_last _ _
      rw [h1, Nat.zero_or]
      exact pow_dvd_mul (by omega)
    · rw [if_neg h0, show (i + 1) / 8 = (ptake l i).length - 1 from by omega, gt_set_same (by omega)]
      have h1 := ih (by omega) h0
      rw [show i / 8 = (ptake l i).length - 1 from by omega] at h1
      rw [or_add h1 (y_lt (by omega)), Nat.add_mod, mod_of_mod h1 (by omega), pow_dvd_mul (by omega)]
      simp
theorem pk_step {l : List Nat} {i : Nat} (h : i < l.length) (hb : gt l i < 2) :
    gt (pk l i) (i / 8) + gt l i * 2 ^ (7 - i % 8) < 256 ∧ (pk l i).set (i / 8) (gt (pk l i) (i / 8) + gt l i * 2 ^ (7 - i % 8)) = pk l (i + 1) ∧ i / 8 < (pk l i).length := by
  have hG := ptake_good l i (by omega)
  have hlen := hG.1
  have hm : gt l i % 2 = gt l i := Nat.mod_eq_of_lt hb
  unfold pk
  rw [ptake_succ h]
  unfold putBit lastOr
  rw [hm]
  by_cases h0 : i % 8 = 0
  · have hl : (ptake l i).length = i / 8 := by omega
    obtain ⟨m, hm2⟩ : ∃ m, (l.length + 7) / 8 - (i + 7) / 8 = m + 1 := ⟨(l.length + 7) / 8 - (i + 7) / 8 - 1, by omega⟩
    have hm3 : (l.length + 7) / 8 - (i + 1 + 7) / 8 = m := by omega
    rw [if_pos h0, hm2, hm3, h0]
    have h1 : gt (ptake l i ++ List.replicate (m + 1) 0) (i / 8) = 0 := by rw [← hl, List.replicate_succ]; simp [gt]
    have h2 : gt (ptake l i ++ [0]) ((ptake l i ++ [0]).length - 1) = 0 := by
      rw [List.length_append, List.length_singleton, Nat.add_sub_cancel]; exact gt_snoc_last _ _
    rw [h1, h2, Nat.zero_or, Nat.zero_add]
    refine ⟨?_, ?_, by simp; omega⟩
    · have : gt l i * 2 ^ 7 ≤ 1 * 2 ^ 7 := Nat.mul_le_mul (by omega) (Nat.le_refl _)
      simp only [Nat.sub_zero]; omega
    · rw [List.length_append, List.length_singleton, Nat.add_sub_cancel, ← hl, List.replicate_succ]
      simp [List.set_append]
  · have hl : (ptake l i).length - 1 = i / 8 := by omega
    rw [if_neg h0, show (i + 1 + 7) / 8 = (i + 7) / 8 from by omega, gt_app_left (by omega), hl]
    have h1 := aligned (l := l) (i := i) (by omega) h0
    have h2 := y_lt (x := gt l i) (r := i % 8) (by omega)
    rw [hm] at h2
    rw [or_add h1 h2]
    refine ⟨?_, ?_, by simp; omega⟩
    · have h3 := (good_putBit (x := gt l i) hG).2 (i / 8)
      unfold putBit lastOr at h3
      rw [if_neg h0, hm, hl, gt_set_same (by omega), or_add h1 h2] at h3
      exact h3
    · rw [List.set_append_left _ _ (by omega)]

set_option maxHeartbeats 4000000 in
set_option maxRecDepth 100000 in
theorem rpacked_calls (A : Option Addr) (cap : Nat) (l : List Nat) (w : World) (hC : (nat .u8).C w A l.length l) (hcap : l.length ≤ cap) (hl : ∀ i, gt l i < 2) (hn : l.length ≤ 4194304) :
    Calls Try.prog 30 #[.slice A l.length cap] w fun e w' => ∃ v, e = .returned v ∧ Kd.R (nat .u8) 5 w' w.heap.size (fun _ => True) v (putAll [] 0 l) ∧ Below w.heap.size w w' := by
  have HC := Aside0.mk hC
  clear hC
  go_enter Try.func30, Try.ntmps30
  go_wp2_with ((with_reducible refine gate_dst (N := 9) rfl ?_); refine Kd.R_make (nat .u8) (w0 := w) w.heap.size 5 rfl (N := 9) rfl 40 (.tmp 8) (.tmp 8) rfl (((l.length : Int) + 7) / 8) rfl rfl Try.underlying40 (.int .u8 0) 1 info5 rfl (by decide) (by omega) 0 (ok := fun _ => True) (okp := fun _ => False) rfl (fun _ h => h.elim) trivial (by omega) (by omega) (Below.refl _ _) (Nat.le_refl _) ?_; intro v1 w1 hR1 hB1 hg1 hat1; have R1 := Aside0.mk hR1; have B1 := Aside0.mk hB1; clear hR1 hB1 hg1 hat1)
  go_loopw [4] (fun v wr => ∃ (i : Nat), i ≤ l.length ∧ v = .int .i64 i ∧ Aside0 (Kd.R (nat .u8) 5 wr w.heap.size (fun _ => True) v1 (pk l i)) ∧ Aside0 (Below w.heap.size w wr)) (fun v _ => l.length - (intOf v).toNat)
  case atStart =>
    refine ⟨0, by omega, rfl, ⟨?_⟩, B1⟩
    have h := R1.out
    rw [show (((l.length : Int) + 7) / 8).toNat = (l.length + 7) / 8 from by omega] at h
    simpa [pk, ptake, putAll] using h
  case round =>
    obtain ⟨i, hi, rfl, HA, HB⟩ := hrel
    by_cases hlt : i < l.length
    · obtain ⟨ad, rfl, hx⟩ := C_nat (Kd.C_below HC.out HB.out) i hlt
      obtain ⟨hsum, hset, hpl⟩ := pk_step hlt (hl i)
      obtain ⟨r, cap2, rfl, hrB, hrl, cells, hrb⟩ := Kd.R_form HA.out (by omega)
      obtain ⟨x, hxe⟩ : ∃ x, x = gt l i := ⟨_, rfl⟩
      rw [← hxe] at hx hsum hset
      have hx2 : x < 2 := by rw [hxe]; exact hl i
      obtain ⟨y, hye⟩ : ∃ y, y = gt (pk l i) (i / 8) := ⟨_, rfl⟩
      have y0 := (Kd.R_cell (d := 0) HA.out ((i / 8 : Nat) : Int) (by omega) (by omega)).1
      have y0' : wr.cell? ⟨r, i / 8, none⟩ = some (.int .u8 (y : Int)) := by rw [hye]; exact y0
      have fr := blk_frozen hrb (i / 8)
      rw [← hye] at hsum hset
      have HX := Aside0.mk hxe
      have HY := Aside0.mk hye
      have HS := Aside0.mk hset
      have Hrb := Aside0.mk hrb
      obtain ⟨q, hq⟩ : ∃ q, q = i / 8 := ⟨_, rfl⟩
      obtain ⟨s, hs⟩ : ∃ s, s = 7 - i % 8 := ⟨_, rfl⟩
      obtain ⟨m, hm⟩ : ∃ m, m = i % 8 := ⟨_, rfl⟩
      rw [← hq] at y0' fr HS hpl
      rw [← hs] at HS hsum
      have hd : (i : Int).tdiv 8 = (q : Int) := by rw [Int.tdiv_eq_ediv_of_nonneg (by omega)]; omega
      have hmm : (i : Int).tmod 8 = (m : Int) := by rw [Int.tmod_eq_emod_of_nonneg (by omega)]; omega
      have hw1 : IntKind.i64.wrap (q : Int) = (q : Int) := by simp only [IntKind.wrap_i64]; omega
      have hw2 : IntKind.i64.wrap (7 - (m : Int)) = (s : Int) := by simp only [IntKind.wrap_i64]; omega
      have hd2 : (i : Int) / 8 = (q : Int) := by omega
      have hm2 : (i : Int) % 8 = (m : Int) := by omega
      have hs7 : s ≤ 7 := by omega
      obtain ⟨z, hz⟩ : ∃ z, z = x * 2 ^ s := ⟨_, rfl⟩
      rw [← hz] at hsum HS
      obtain ⟨t, ht⟩ : ∃ t, t = y + z := ⟨_, rfl⟩
      have hsh : IntKind.u8.wrap ((x : Int) * 2 ^ s) = (z : Int) := by
        rw [show ((x : Int) * 2 ^ s) = (z : Int) from by rw [hz]; simp]; simp only [IntKind.wrap_u8]; omega
      have hadd : IntKind.u8.wrap ((y : Int) + (z : Int)) = (t : Int) := by simp only [IntKind.wrap_u8]; omega
      rw [← ht] at HS
      clear hxe hye hset y0 hrb hq hs hm hz ht
      go_wp2
      go_still_tail 17, (by kernel_rfl)
      change wpList _ _ _ _ _ wr.drew
      go_wp2
      go_roundw
      case measure => simp [intOf]; omega
      case rel => exact ⟨i + 1, by omega, by go_num, ⟨by rw [← HS.out]; exact (Kd.R_put HA.out (q : Int) t).1⟩, ⟨(HB.out.setCell (p := ⟨r, q, none⟩) hrB _).drew⟩⟩
    · obtain rfl : i = l.length := by omega
      go_wp2
      go_ret
      exact ⟨_, rfl, by simpa [pk, ptake] using HA.out, HB.out⟩
end Go.Proofs.Ytpmmnjpimnapfaa.A
