import Derived.Test.YtpmmnjpimnapfaaA0
import Derived.StillTailTactics
set_option linter.unusedVariables false
set_option linter.unusedSimpArgs false
namespace Go.Proofs.Ytpmmnjpimnapfaa.A
open Go.RowKit Go.Proofs.YtpmmnjpimnapfaaW.PrintWords Go.Proofs.YtpmmnjpimnapfaaW.PrintLast Go.Proofs.YtpmmnjpimnapfaaW.PrintMore

def nat (k : IntKind) : Kd Nat := Kd.scalar (fun x : Nat => Value.int k x) (fun _ => rfl)
theorem info5 : (Try.prog.info? 5).map (fun i => (i.zero, i.size, i.bytes)) = some (some (.int .u8 0), 1, 1) := by kernel_rfl

/-- the writer at block g -/
def WS (w : World) (g B s c : Nat) (bs : List Nat) (n : Nat) : Prop :=
  B ≤ g ∧ ∃ v, w.heap[g]? = some (.cells #[.int .u64 s, .int .u64 c, v, .int .i64 n] 78 (0, 0)) ∧ Kd.R (nat .u8) 5 w B (fun _ => True) v bs

/-- the element at a place (the walk's simp leaves it alone) -/
def gt (xs : List Nat) (i : Nat) : Nat := xs.getD i 0
def lastOr (bs : List Nat) (y : Nat) : List Nat := bs.set (bs.length - 1) (gt bs (bs.length - 1) ||| y)
def putBit (bs : List Nat) (n x : Nat) : List Nat := lastOr (if n % 8 = 0 then bs ++ [0] else bs) (x % 2 * 2 ^ (7 - n % 8))

theorem gt_snoc {bs : List Nat} {m y : Nat} (h : ∀ i, gt bs i < m) (hy : y < m) : ∀ i, gt (bs ++ [y]) i < m := by
  intro i
  unfold gt at *
  rw [List.getD_eq_getElem?_getD]
  rcases Nat.lt_trichotomy i bs.length with h1 | h1 | h1
  · rw [List.getElem?_append_left h1]; have := h i; rwa [List.getD_eq_getElem?_getD] at this
  · subst h1; simp [hy]
  · rw [List.getElem?_eq_none (by simp; omega)]; simp; omega

set_option maxHeartbeats 1000000 in
set_option maxRecDepth 100000 in
theorem wbit2 (g B s c : Nat) (bs : List Nat) (n x : Nat) (w : World) (h : WS w g B s c bs n) (hx : x < 4294967296) (hn : n < 1099511627776) (hb8 : ∀ i, gt bs i < 256) (hl : 0 < bs.length) (h8 : ¬ n % 8 = 0) :
    Calls Try.prog 50 #[.pointer (some ⟨g, 0, none⟩), .int .u32 x] w fun e w' => e = .returned (.tuple #[]) ∧ WS w' g B s c (putBit bs n x) (n + 1) ∧ Below B w w' := by
  obtain ⟨hg, v, hb, hR⟩ := h
  obtain ⟨r, cap, rfl, hrB, hrl, cells, hrb⟩ := Kd.R_form hR hl
  have hlm : bs.length ≤ 9223372036854775807 := by have := (Kd.R_reads' hR).2.2.2.1; omega
  have x0 := (Kd.R_cell (d := 0) hR ((bs.length : Int) - 1) (by omega) (by omega)).1
  have x1 := blk_frozen hrb (bs.length - 1)
  have x0' : w.cell? ⟨r, bs.length - 1, none⟩ = some (.int .u8 ((gt bs (bs.length - 1) : Nat) : Int)) := by
    rw [show ((bs.length : Int) - 1).toNat = bs.length - 1 from by omega] at x0
    rw [x0]; simp [rdOf, gt]
  clear x0
  have c2 := (blk_cell hb 2).trans rfl
  have c3 := (blk_cell hb 3).trans rfl
  have f0 := blk_frozen hb 2
  have f1 := blk_frozen hb 3
  have Hb := Aside0.mk hb
  have HR := Aside0.mk hR
  have Hrb := Aside0.mk hrb
  clear hb hR hrb
  have t1 : ((n : Int) % 8 == 0) = false := by rw [beq_eq_false_iff_ne]; omega
  have hw1 : IntKind.i64.wrap ((bs.length : Int) - 1) = (bs.length : Int) - 1 := by simp only [IntKind.wrap_i64]; omega
  have hm : (n : Int).tmod 8 = (n : Int) % 8 := Int.tmod_eq_emod_of_nonneg (by omega)
  have hw2 : IntKind.i64.wrap (7 - (n : Int) % 8) = 7 - (n : Int) % 8 := by simp only [IntKind.wrap_i64]; omega
  have hp3 : 0 ≤ 7 - (n : Int) % 8 := by omega
  have hp4 : (n : Int) % 8 ≤ 7 := by omega
  have hx1 : bits .and .u32 (x : Int) 1 = (x : Int) % 2 := by
    have h := u32_and_nat x 1 hx (by omega)
    rw [Nat.and_one_is_mod] at h
    exact h.trans (by simp)
  have hx2 : IntKind.u8.wrap ((x : Int) % 2) = (x : Int) % 2 := by simp only [IntKind.wrap_u8]; omega
  have hp1 : (1 : Int) ≤ (bs.length : Int) := by omega
  have hp2 : (bs.length : Int) - 1 < (bs.length : Int) := by omega
  go_enter Try.func50, Try.ntmps50
  go_wp2
  go_still_tail 23, (by kernel_rfl)
  change wpList _ _ _ _ _ w.drew
  have hne : g ≠ r := blk_ne Hb.out Hrb.out (by decide)
  go_wp2
  go_end0
  have hgl : gt bs (bs.length - 1) < 256 := hb8 _
  have e1 : bits .or .u8 ((gt bs (bs.length - 1) : Nat) : Int) ((x : Int) % 2 * 2 ^ (7 - n % 8) % 256) = ((gt bs (bs.length - 1) ||| x % 2 * 2 ^ (7 - n % 8) : Nat) : Int) := by
    have hp : x % 2 * 2 ^ (7 - n % 8) < 256 := by
      calc x % 2 * 2 ^ (7 - n % 8) ≤ 1 * 2 ^ 7 := Nat.mul_le_mul (by omega) (Nat.pow_le_pow_right (by omega) (by omega))
        _ < 256 := by omega
    have h3 : ((x : Int) % 2 * 2 ^ (7 - n % 8) % 256) = ((x % 2 * 2 ^ (7 - n % 8) : Nat) : Int) := by
      have h4 : (x : Int) % 2 * 2 ^ (7 - n % 8) = ((x % 2 * 2 ^ (7 - n % 8) : Nat) : Int) := by simp
      rw [h4]; omega
    rw [h3]
    exact u8_or_nat _ _ hgl hp
  rw [e1]
  refine ⟨rfl, ⟨hg, _, (blk_set (blk_far (p := ⟨r, bs.length - 1, none⟩) Hb.out hne _) 3 (.int .i64 ((n : Int) + 1))).trans rfl, ?_⟩, ?_⟩
  · have h1 := Kd.R_put HR.out (bs.length - 1 : Nat) (gt bs (bs.length - 1) ||| x % 2 * 2 ^ (7 - n % 8))
    have h2 := Kd.R_set h1.1 (e := 5) (blk_far (p := ⟨r, bs.length - 1, none⟩) Hb.out hne _) (by decide) 3 (.int .i64 ((n : Int) + 1))
    simp only [Int.toNat_natCast] at h2
    simp only [putBit, lastOr, if_neg h8]
    exact h2
  · exact ((Below.setCell (Below.setCell (Below.refl B w) (p := ⟨r, bs.length - 1, none⟩) hrB _) (p := ⟨g, 3, none⟩) hg _)).drew
set_option maxHeartbeats 1000000 in
set_option maxRecDepth 100000 in
theorem wbit1 (g B s c : Nat) (bs : List Nat) (n x : Nat) (w : World) (h : WS w g B s c bs n) (hx : x < 4294967296) (hn : n < 1099511627776) (hb8 : ∀ i, gt bs i < 256) (hl : bs.length < 1099511627776) (h8 : n % 8 = 0) :
    Calls Try.prog 50 #[.pointer (some ⟨g, 0, none⟩), .int .u32 x] w fun e w' => e = .returned (.tuple #[]) ∧ WS w' g B s c (putBit bs n x) (n + 1) ∧ Below B w w' := by
  obtain ⟨hg, v, hb, hR⟩ := h
  have t1 : ((n : Int) % 8 == 0) = true := by rw [beq_iff_eq]; omega
  obtain ⟨v0, hv0⟩ : ∃ v0, v0 = v := ⟨_, rfl⟩
  have c2 : w.cell? ⟨g, 2, none⟩ = some v0 := by rw [hv0]; exact (blk_cell hb 2).trans rfl
  have c3 : w.cell? ⟨g, 3, none⟩ = some (.int .i64 n) := (blk_cell hb 3).trans rfl
  have f0 := blk_frozen hb 2
  have H8 := Aside0.mk h8
  clear h8
  have Hb := Aside0.mk hb
  have HR := Aside0.mk hR
  have Hv := Aside0.mk hv0
  have hlt := blk_lt hb
  clear hb hR hv0
  go_enter Try.func50, Try.ntmps50
  go_wp2_with ((with_reducible refine gate_builtin (b := .append) (xs := #[.tmp 14, .tmp 15]) rfl ?_); at_builtin; refine Kd.R_append (nat .u8) (w0 := w) B rfl (.tmp 14) (.tmp 15) 40 5 (.int .u8 0) 1 rfl Try.underlying40 info5 rfl (by decide) (by omega) v0 bs 0 [.int .u8 0] (fun _ => True) (fun _ => False) rfl rfl rfl (fun _ hk => hk.elim) (fun _ _ => trivial) ?aO ?aB ?aS ?aL ?_; (case aO => rw [Hv.out]; exact HR.out); (case aB => exact Below.refl _ _); (case aS => omega); (case aL => omega); intro v1 w1 hR1 hB1 hg1 hat1; obtain ⟨ys, hys⟩ : ∃ ys, ys = bs ++ [0] := ⟨_, rfl⟩; rw [← hys] at hR1; have Hys := Aside0.mk hys; have hyl : 0 < ys.length := (by rw [hys]; simp); clear hys; obtain ⟨r, cap, rfl, hrB, hrl, cells, hrb⟩ := Kd.R_form hR1 hyl; have Hrb := Aside0.mk hrb; clear hrb; have Hb1 := Aside0.mk (blk_grown Hb.out hg1 (by rw [Hv.out]; exact Kd.R_ne HR.out Hb.out (by decide))); have HR1 := Aside0.mk hR1; have HB1 := Aside0.mk hB1; clear hR1 hB1 hg1 hat1; have d2 : w1.cell? ⟨g, 2, none⟩ = some v := (blk_cell Hb1.out 2).trans rfl; have d0 := blk_frozen Hb1.out 2)
  obtain ⟨W, hW⟩ : ∃ W, W = w1.setCell ⟨g, 2, none⟩ (.slice (some ⟨r, 0, none⟩) ys.length cap) := ⟨_, rfl⟩
  rw [← hW]
  have hb : W.heap[g]? = some (.cells #[.int .u64 s, .int .u64 c, .slice (some ⟨r, 0, none⟩) ys.length cap, .int .i64 n] 78 (0, 0)) := by rw [hW]; exact (blk_set Hb1.out 2 _).trans rfl
  have hR : Kd.R (nat .u8) 5 W B (fun _ => True) (.slice (some ⟨r, 0, none⟩) ys.length cap) ys := by rw [hW]; exact Kd.R_set HR1.out Hb1.out (by decide) 2 _
  have hrb : W.heap[r]? = some (.cells cells 5 (0, 0)) := by rw [hW]; exact blk_far Hrb.out (blk_ne Hrb.out Hb1.out (by decide)) _
  have HBW : Aside0 (Below B w W) := ⟨by rw [hW]; exact HB1.out.setCell hg _⟩
  have hb8 : ∀ i, gt ys i < 256 := by rw [Hys.out]; exact gt_snoc hb8 (by omega)
  clear hW c2 c3 f0 d0 d2 Hb HR Hrb Hb1 HR1 HB1 Hv t1 
  have hlm : ys.length ≤ 9223372036854775807 := by have := (Kd.R_reads' hR).2.2.2.1; omega
  have x0 := (Kd.R_cell (d := 0) hR ((ys.length : Int) - 1) (by omega) (by omega)).1
  have x1 := blk_frozen hrb (ys.length - 1)
  have x0' : W.cell? ⟨r, ys.length - 1, none⟩ = some (.int .u8 ((gt ys (ys.length - 1) : Nat) : Int)) := by
    rw [show ((ys.length : Int) - 1).toNat = ys.length - 1 from by omega] at x0
    rw [x0]; simp [rdOf, gt]
  clear x0
  have c2 := (blk_cell hb 2).trans rfl
  have c3 := (blk_cell hb 3).trans rfl
  have f0 := blk_frozen hb 2
  have f1 := blk_frozen hb 3
  have Hb := Aside0.mk hb
  have HR := Aside0.mk hR
  have Hrb := Aside0.mk hrb
  clear hb hR hrb
  have hw1 : IntKind.i64.wrap ((ys.length : Int) - 1) = (ys.length : Int) - 1 := by simp only [IntKind.wrap_i64]; omega
  have hm : (n : Int).tmod 8 = (n : Int) % 8 := Int.tmod_eq_emod_of_nonneg (by omega)
  have hw2 : IntKind.i64.wrap (7 - (n : Int) % 8) = 7 - (n : Int) % 8 := by simp only [IntKind.wrap_i64]; omega
  have hp3 : 0 ≤ 7 - (n : Int) % 8 := by omega
  have hp4 : (n : Int) % 8 ≤ 7 := by omega
  have hx1 : bits .and .u32 (x : Int) 1 = (x : Int) % 2 := by
    have h := u32_and_nat x 1 hx (by omega)
    rw [Nat.and_one_is_mod] at h
    exact h.trans (by simp)
  have hx2 : IntKind.u8.wrap ((x : Int) % 2) = (x : Int) % 2 := by simp only [IntKind.wrap_u8]; omega
  have hp1 : (1 : Int) ≤ (ys.length : Int) := by omega
  have hp2 : (ys.length : Int) - 1 < (ys.length : Int) := by omega
  go_still_tail 23, (by kernel_rfl)
  change wpList _ _ _ _ _ W.drew
  have hne : g ≠ r := blk_ne Hb.out Hrb.out (by decide)
  go_wp2
  go_end0
  have hgl : gt ys (ys.length - 1) < 256 := hb8 _
  have e1 : bits .or .u8 ((gt ys (ys.length - 1) : Nat) : Int) ((x : Int) % 2 * 2 ^ (7 - n % 8) % 256) = ((gt ys (ys.length - 1) ||| x % 2 * 2 ^ (7 - n % 8) : Nat) : Int) := by
    have hp : x % 2 * 2 ^ (7 - n % 8) < 256 := by
      calc x % 2 * 2 ^ (7 - n % 8) ≤ 1 * 2 ^ 7 := Nat.mul_le_mul (by omega) (Nat.pow_le_pow_right (by omega) (by omega))
        _ < 256 := by omega
    have h3 : ((x : Int) % 2 * 2 ^ (7 - n % 8) % 256) = ((x % 2 * 2 ^ (7 - n % 8) : Nat) : Int) := by
      have h4 : (x : Int) % 2 * 2 ^ (7 - n % 8) = ((x % 2 * 2 ^ (7 - n % 8) : Nat) : Int) := by simp
      rw [h4]; omega
    rw [h3]
    exact u8_or_nat _ _ hgl hp
  rw [e1]
  refine ⟨rfl, ⟨hg, _, (blk_set (blk_far (p := ⟨r, ys.length - 1, none⟩) Hb.out hne _) 3 (.int .i64 ((n : Int) + 1))).trans rfl, ?_⟩, ?_⟩
  · have h1 := Kd.R_put HR.out (ys.length - 1 : Nat) (gt ys (ys.length - 1) ||| x % 2 * 2 ^ (7 - n % 8))
    have h2 := Kd.R_set h1.1 (e := 5) (blk_far (p := ⟨r, ys.length - 1, none⟩) Hb.out hne _) (by decide) 3 (.int .i64 ((n : Int) + 1))
    simp only [Int.toNat_natCast] at h2
    simp only [putBit, lastOr, if_pos H8.out]
    rw [← Hys.out]
    exact h2
  · exact ((Below.setCell (Below.setCell HBW.out (p := ⟨r, ys.length - 1, none⟩) hrB _) (p := ⟨g, 3, none⟩) hg _)).drew

theorem wbit (g B s c : Nat) (bs : List Nat) (n x : Nat) (w : World) (h : WS w g B s c bs n) (hx : x < 4294967296) (hn : n < 1099511627776) (hb8 : ∀ i, gt bs i < 256) (hl : bs.length = (n + 7) / 8) :
    Calls Try.prog 50 #[.pointer (some ⟨g, 0, none⟩), .int .u32 x] w fun e w' => e = .returned (.tuple #[]) ∧ WS w' g B s c (putBit bs n x) (n + 1) ∧ Below B w w' := by
  by_cases h8 : n % 8 = 0
  · exact wbit1 g B s c bs n x w h hx hn hb8 (by omega) h8
  · exact wbit2 g B s c bs n x w h hx hn hb8 (by omega) h8
end Go.Proofs.Ytpmmnjpimnapfaa.A
